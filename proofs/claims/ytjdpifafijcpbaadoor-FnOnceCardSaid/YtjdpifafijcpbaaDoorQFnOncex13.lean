-- Printed by the session's own program wip/prx.py.
import Derived.Test.YtjdpifafijcpbaaDoorSqFnOnce
import Derived.Test.YtjdpifafijcpbaaDoorQFnOncex0
import Derived.Test.YtjdpifafijcpbaaDoorQFnOncex6
import Derived.Test.YtjdpifafijcpbaaDoorQFnOncex11
import Derived.Test.YtjdpifafijcpbaaDoorQFnOncex12
namespace Go.Proofs.YtjdpifafijcpbaaDoor.QFnOnce
open Go.RowKit Go.Proofs.YtjdpifafijcpbaaDoorW.PrintWords Go.Proofs.YtjdpifafijcpbaaDoorW.PrintLast Go.Proofs.YtjdpifafijcpbaaDoorW.PrintMore Go.Proofs.YtjdpifafijcpbaaDoor.SqFnOnce
attribute [local go_sem] max2_int min2_int max_two min_two max_three min_three max_four min_four Go.Proofs.YtjdpifafijcpbaaDoor.Set.isSome_setCell
set_option linter.unusedVariables false
set_option linter.unusedSimpArgs false

-- squeezed
theorem u13_1 {P : Prop} (h : P := by (with_reducible repeat (first | refine blk_drewN ?_ _ | refine blk_drew ?_ | refine blk_alloc ?_ _)); exact BK445.out) : P := h
theorem u13_2 {P : Prop} (h : P := by (with_reducible repeat (first | refine blk_drewN ?_ _ | refine blk_drew ?_ | refine blk_alloc ?_ _)); exact BK455.out) : P := h
theorem u13_3 {P : Prop} (h : P := by (with_reducible repeat (first | refine blk_drewN ?_ _ | refine blk_drew ?_ | refine blk_alloc ?_ _)); exact BK466.out) : P := h
theorem u13_4 {P : Prop} (h : P := by (with_reducible repeat (first | apply Kd.R_alloc | apply Kd.R_drewN | apply Kd.R_drew)); exact HO_446002.out) : P := h
theorem u13_5 {P : Prop} (h : P := by (with_reducible repeat (first | apply Kd.R_alloc | apply Kd.R_drewN | apply Kd.R_drew)); exact HO_456002.out) : P := h
theorem u13_6 {P : Prop} (h : P := by (with_reducible repeat (first | refine blk_drewN ?_ _ | refine blk_drew ?_ | refine blk_alloc ?_ _)); exact BK481.out) : P := h
theorem u13_8 {P : Prop} (h : P := by (with_reducible repeat (first | apply Kd.R_alloc | apply Kd.R_drewN | apply Kd.R_drew)); exact HO_4.out) : P := h
theorem u13_10 {P : Prop} (h : P := by (with_reducible repeat (first | refine blk_drewN ?_ _ | refine blk_drew ?_ | refine blk_alloc ?_ _)); exact BK494.out) : P := h
theorem u13_13 {P : Prop} (h : P := by (with_reducible repeat (first | apply Kd.R_alloc | apply Kd.R_drewN | apply Kd.R_drew)); exact HO477.out) : P := h
theorem u13_14 {P : Prop} (h : P := by (with_reducible repeat (first | apply Kd.R_alloc | apply Kd.R_drewN | apply Kd.R_drew)); exact HO480.out) : P := h
theorem u13_17 {P : Prop} (h : P := by (with_reducible repeat (first | apply Kd.R_alloc | apply Kd.R_drewN | apply Kd.R_drew)); exact HO490.out) : P := h
theorem u13_18 {P : Prop} (h : P := by (with_reducible repeat (first | apply Kd.R_alloc | apply Kd.R_drewN | apply Kd.R_drew)); exact HO493.out) : P := h
theorem u13_19 {P : Prop} (h : P := by repeat (first | exact (Kd.R_reads' HO477.out).2.2 | (with_reducible refine Kd.C_alloc ?_ _) | (with_reducible refine Kd.C_drewN ?_ _) | (with_reducible refine Kd.C_drew ?_))) : P := h
theorem u13_21 {P : Prop} (h : P := by repeat (first | (with_reducible exact HR472.out) | (with_reducible refine Kd.C_alloc ?_ _) | (with_reducible refine Kd.C_drewN ?_ _) | (with_reducible refine Kd.C_drew ?_) | exact HR472.out)) : P := h
theorem u13_22 {P : Prop} (h : P := by repeat (first | (with_reducible exact HR485.out) | (with_reducible refine Kd.C_alloc ?_ _) | (with_reducible refine Kd.C_drewN ?_ _) | (with_reducible refine Kd.C_drew ?_) | exact HR485.out)) : P := h
theorem u13_23 {P : Prop} (h : P := by (with_reducible repeat (first | apply Kd.R_alloc | apply Kd.R_drewN | apply Kd.R_drew)); exact Kd.R_mono HO_12.out (fun _ hk => hk.1)) : P := h
theorem u13_25 {P : Prop} (h : P := by (with_reducible repeat (first | apply Kd.R_alloc | apply Kd.R_drewN | apply Kd.R_drew)); exact Kd.R_mono HO_6.out (fun _ hk => hk.1)) : P := h
theorem u13_26 {P : Prop} (h : P := by (with_reducible repeat (first | refine blk_drewN ?_ _ | refine blk_drew ?_ | refine blk_alloc ?_ _)); refine blk_put (cs := #[.int .i64 t473, .int .i64 t474, .slice Ao40 x446002_1.length co40]) ?_ 2 _ rfl; (with_reducible repeat (first | refine blk_drewN ?_ _ | refine blk_drew ?_ | refine blk_alloc ?_ _)); refine blk_put (cs := #[.int .i64 t473, .int .i64 x446001_1, .slice Ao40 x446002_1.length co40]) ?_ 1 _ rfl; (with_reducible repeat (first | refine blk_drewN ?_ _ | refine blk_drew ?_ | refine blk_alloc ?_ _)); refine blk_put (cs := #[.int .i64 x446000_1, .int .i64 x446001_1, .slice Ao40 x446002_1.length co40]) ?_ 0 _ rfl; (with_reducible repeat (first | refine blk_drewN ?_ _ | refine blk_drew ?_ | refine blk_alloc ?_ _)); exact BK445.out) : P := h
theorem u13_27 {P : Prop} (h : P := by (with_reducible repeat (first | apply Kd.R_alloc | apply Kd.R_drewN | apply Kd.R_drew)); exact HO_482002.out) : P := h
theorem u13_28 {P : Prop} (h : P := by (with_reducible repeat (first | apply Kd.R_alloc | apply Kd.R_drewN | apply Kd.R_drew)); exact HO_495002.out) : P := h
theorem u13_30 {P : Prop} (h : P := by (with_reducible repeat (first | refine blk_drewN ?_ _ | refine blk_drew ?_ | refine blk_alloc ?_ _)); refine blk_far ?_ NB455_445.out _; (with_reducible repeat (first | refine blk_drewN ?_ _ | refine blk_drew ?_ | refine blk_alloc ?_ _)); refine blk_far ?_ NB455_445.out _; (with_reducible repeat (first | refine blk_drewN ?_ _ | refine blk_drew ?_ | refine blk_alloc ?_ _)); refine blk_far ?_ NB455_445.out _; (with_reducible repeat (first | refine blk_drewN ?_ _ | refine blk_drew ?_ | refine blk_alloc ?_ _)); exact BK455.out) : P := h
theorem u13_31 {P : Prop} (h : P := by (with_reducible repeat (first | apply Kd.R_alloc | apply Kd.R_drewN | apply Kd.R_drew)); exact (Kd.R_mono (Kd.R_far (p := ⟨gb466, 2, none⟩) (Kd.R_far (p := ⟨gb466, 1, none⟩) (Kd.R_far (p := ⟨gb466, 0, none⟩) (Kd.R_types HO_446002.out BK466.out (by decide)) (fun _ hk => hk.2) (.int .i64 ((rd_T50 t442 x7_1).f0))) (fun _ hk => hk.2) (.int .i64 ((rd_T50 t442 x7_1).f1))) (fun _ hk => hk.2) (.string ((rd_T50 t442 x7_1).f2))) (fun _ h_ => h_.1))) : P := h
theorem u13_32 {P : Prop} (h : P := by have := HK1.out; have := HJ32.out; first | omega | exact Nat.le_refl _) : P := h
theorem u13_33 {P : Prop} (h : P := by (with_reducible repeat (first | apply Kd.R_alloc | apply Kd.R_drewN | apply Kd.R_drew)); exact Kd.R_mono (Kd.R_far (p := ⟨gb445, 2, none⟩) (Kd.R_far (p := ⟨gb445, 1, none⟩) (Kd.R_far (p := ⟨gb445, 0, none⟩) (Kd.R_types HO_482002.out BK445.out (by decide)) (fun _ hk => hk.2) (.int .i64 t473)) (fun _ hk => hk.2) (.int .i64 t474)) (fun _ hk => hk.2) (.slice Ao49 t475.length co49)) (fun _ hk => hk.1.2.1)) : P := h
theorem u13_34 {P : Prop} (h : P := by (with_reducible repeat (first | apply Kd.R_alloc | apply Kd.R_drewN | apply Kd.R_drew)); exact Kd.R_mono (Kd.R_far (p := ⟨gb445, 2, none⟩) (Kd.R_far (p := ⟨gb445, 1, none⟩) (Kd.R_far (p := ⟨gb445, 0, none⟩) (Kd.R_types HO_456002.out BK445.out (by decide)) (fun _ hk => hk.2) (.int .i64 t473)) (fun _ hk => hk.2) (.int .i64 t474)) (fun _ hk => hk.2) (.slice Ao49 t475.length co49)) (fun _ hk => hk.1.2.1)) : P := h
theorem u13_35 {P : Prop} (h : P := by (with_reducible repeat (first | apply Kd.R_alloc | apply Kd.R_drewN | apply Kd.R_drew)); exact (Kd.R_mono (Kd.R_far (p := ⟨gb445, 2, none⟩) (Kd.R_far (p := ⟨gb445, 1, none⟩) (Kd.R_far (p := ⟨gb445, 0, none⟩) (Kd.R_types HO441.out BK445.out (by decide)) (fun _ hk => hk.2) (.int .i64 t437)) (fun _ hk => hk.2) (.int .i64 t438)) (fun _ hk => hk.2) (.slice Ao12 t439.length co12)) (fun _ h_ => h_.1))) : P := h
theorem u13_36 {P : Prop} (h : P := by (with_reducible repeat (first | apply Kd.R_alloc | apply Kd.R_drewN | apply Kd.R_drew)); exact Kd.R_mono (Kd.R_far (p := ⟨gb445, 2, none⟩) (Kd.R_far (p := ⟨gb445, 1, none⟩) (Kd.R_far (p := ⟨gb445, 0, none⟩) (Kd.R_types HO_4.out BK445.out (by decide)) (fun _ hk => hk.2) (.int .i64 t473)) (fun _ hk => hk.2) (.int .i64 t474)) (fun _ hk => hk.2) (.slice Ao49 t475.length co49)) (fun _ hk => trivial)) : P := h
theorem u13_37 {P : Prop} (h : P := by (with_reducible repeat (first | apply Kd.R_alloc | apply Kd.R_drewN | apply Kd.R_drew)); exact Kd.R_mono (Kd.R_far (p := ⟨gb445, 2, none⟩) (Kd.R_far (p := ⟨gb445, 1, none⟩) (Kd.R_far (p := ⟨gb445, 0, none⟩) (Kd.R_types HO_6.out BK445.out (by decide)) (fun _ hk => hk.2) (.int .i64 t473)) (fun _ hk => hk.2) (.int .i64 t474)) (fun _ hk => hk.2) (.slice Ao49 t475.length co49)) (fun _ hk => trivial)) : P := h
theorem u13_38 {P : Prop} (h : P := by repeat (first | exact (Kd.R_reads' HO_446002.out).2.2 | (with_reducible refine Kd.C_alloc ?_ _) | (with_reducible refine Kd.C_drewN ?_ _) | (with_reducible refine Kd.C_drew ?_))) : P := h
theorem u13_39 {P : Prop} (h : P := by (with_reducible repeat (first | apply Kd.R_alloc | apply Kd.R_drewN | apply Kd.R_drew)); exact HO441.out) : P := h
theorem u13_40 {P : Prop} (h : P := by simp only [putAll, Act.put, la, lb, lc]) : P := h
theorem u13_41 {P : Prop} (h : P := by have := HK1.out; first | omega | exact Nat.le_refl _) : P := h
theorem u13_42 {P : Prop} (h : P := by (with_reducible repeat (first | apply Kd.R_alloc | apply Kd.R_drewN | apply Kd.R_drew)); exact HO444.out) : P := h
theorem u13_43 {P : Prop} (h : P := by (with_reducible repeat (first | apply Kd.R_alloc | apply Kd.R_drewN | apply Kd.R_drew)); exact Kd.R_mono HO_446002.out (fun _ hk => ⟨hk.1.2, ⟨hk.2, hk.1.1⟩⟩)) : P := h
theorem u13_44 {P : Prop} (h : P := by (with_reducible repeat (first | apply Kd.R_alloc | apply Kd.R_drewN | apply Kd.R_drew)); exact Kd.R_mono HO_456002.out (fun _ hk => ⟨hk.1.2, ⟨hk.2, hk.1.1⟩⟩)) : P := h
theorem u13_45 {P : Prop} (h : P := by (with_reducible repeat (first | apply Kd.R_alloc | apply Kd.R_drewN | apply Kd.R_drew)); exact Kd.R_mono HO490.out (fun _ hk => ⟨hk.2, ⟨hk.1.1.2, hk.1.2⟩⟩)) : P := h
theorem u13_46 {P : Prop} (h : P := by (with_reducible repeat (first | apply Kd.R_alloc | apply Kd.R_drewN | apply Kd.R_drew)); exact Kd.R_mono HO477.out (fun _ hk => ⟨hk.2, ⟨hk.1.1, hk.1.2⟩⟩)) : P := h
theorem u13_47 {P : Prop} (h : P := by repeat (first | exact u13_21 | (with_reducible refine Kd.C_alloc ?_ _) | (with_reducible refine Kd.C_drewN ?_ _) | (with_reducible refine Kd.C_drew ?_))) : P := h
theorem u13_48 {P : Prop} (h : P := by repeat (first | exact u13_22 | (with_reducible refine Kd.C_alloc ?_ _) | (with_reducible refine Kd.C_drewN ?_ _) | (with_reducible refine Kd.C_drew ?_))) : P := h
theorem u13_49 {P : Prop} (h : P := by (with_reducible repeat (first | apply Kd.R_alloc | apply Kd.R_drewN | apply Kd.R_drew)); exact Kd.R_mono HO_446002.out (fun _ hk => ⟨hk.2, hk.1⟩)) : P := h
theorem u13_50 {P : Prop} (h : P := by (with_reducible repeat (first | apply Kd.R_alloc | apply Kd.R_drewN | apply Kd.R_drew)); exact Kd.R_mono HO_456002.out (fun _ hk => ⟨hk.2, hk.1⟩)) : P := h
theorem u13_51 {P : Prop} (h : P := by (with_reducible repeat (first | apply Kd.R_alloc | apply Kd.R_drewN | apply Kd.R_drew)); exact Kd.R_mono HO477.out (fun _ hk => ⟨hk.1.2, hk.2⟩)) : P := h
theorem u13_52 {P : Prop} (h : P := by (with_reducible repeat (first | apply Kd.R_alloc | apply Kd.R_drewN | apply Kd.R_drew)); exact Kd.R_mono HO493.out (fun _ hk => ⟨hk.2, hk.1.2⟩)) : P := h
theorem u13_53 {P : Prop} (h : P := by (with_reducible repeat (first | apply Kd.R_alloc | apply Kd.R_drewN | apply Kd.R_drew)); exact Kd.R_mono HO480.out (fun _ hk => ⟨hk.2, hk.1⟩)) : P := h
theorem u13_54 {P : Prop} (h : P := by (with_reducible repeat (first | apply Kd.R_alloc | apply Kd.R_drewN | apply Kd.R_drew)); exact Kd.R_mono HO480.out (fun _ hk => hk.2)) : P := h
theorem u13_55 {P : Prop} (h : P := by (with_reducible repeat (first | apply Kd.R_alloc | apply Kd.R_drewN | apply Kd.R_drew)); exact Kd.R_mono HO_4.out (fun _ hk => hk.2)) : P := h
theorem u13_56 {P : Prop} (h : P := by (with_reducible repeat (first | apply Kd.R_alloc | apply Kd.R_drewN | apply Kd.R_drew)); exact Kd.R_mono HO_6.out (fun _ hk => hk.2)) : P := h
/-! ### laws_FnOnce: function 4 -/
mutual
def laws_FnOnce.l0 : Nat → List (S50) → List ByteArray → Int → Int → Int → List (S54) → Int → Int → List (S54) → Option (Bool)
 | 0, _, _, _, _, _, _, _, _, _ => none
 | k + 1, x4, x6, x7, x446000, x446001, x446002, x456000, x456001, x456002 => if x7 < (x4.length : Int) then (if 0 ≤ x7 then ((impl_Look.f k x446000 x446001 x446002 ((rd_T50 x4 x7).f0) ((rd_T50 x4 x7).f1)).bind fun bt467 => (if x7 ≤ (wrap64 (x7 + 1)) then (if (wrap64 (x7 + 1)) ≤ (x4.length : Int) then ((impl_OnceEach.f k x446000 x446001 x446002 ((x4.take ((wrap64 (x7 + 1)) : Int).toNat).drop (x7 : Int).toNat)).bind fun bt473 => ((impl_OnceEach.f k bt473.1 bt473.2.1 bt473.2.2.1 ((x4.take ((wrap64 (x7 + 1)) : Int).toNat).drop (x7 : Int).toNat)).bind fun bt486 => ((impl_SessionsOk.f k bt473.1 bt473.2.1 bt473.2.2.1).bind fun t495 => (if t495 = true then (if (bt473.2.2.2.length : Int) = 1 then (if (bt486.2.2.2.length : Int) = 1 then (if 0 < (bt473.2.2.2.length : Int) then (if x7 < (x6.length : Int) then (if (rdOf ByteArray.empty bt473.2.2.2 0).toList = (rdOf ByteArray.empty x6 x7).toList then (if bt467.1 = 1 then (laws_FnOnce.j1 k x4 x6 x7 bt467.1 bt473.2.2.2 bt486.2.2.2 ((rdOf ByteArray.empty bt473.2.2.2 0).toList != bt467.2.toList) x456000 x456001 x456002 ((rd_T50 x4 x7).f0) ((rd_T50 x4 x7).f1) ((rd_T50 x4 x7).f2) bt473.1 bt473.2.1 bt473.2.2.1 bt486.1 bt486.2.1 bt486.2.2.1) else (laws_FnOnce.j1 k x4 x6 x7 bt467.1 bt473.2.2.2 bt486.2.2.2 false x456000 x456001 x456002 ((rd_T50 x4 x7).f0) ((rd_T50 x4 x7).f1) ((rd_T50 x4 x7).f2) bt473.1 bt473.2.1 bt473.2.2.1 bt486.1 bt486.2.1 bt486.2.2.1)) else (laws_FnOnce.j1 k x4 x6 x7 bt467.1 bt473.2.2.2 bt486.2.2.2 true x456000 x456001 x456002 ((rd_T50 x4 x7).f0) ((rd_T50 x4 x7).f1) ((rd_T50 x4 x7).f2) bt473.1 bt473.2.1 bt473.2.2.1 bt486.1 bt486.2.1 bt486.2.2.1)) else (none)) else (none)) else (laws_FnOnce.j1 k x4 x6 x7 bt467.1 bt473.2.2.2 bt486.2.2.2 true x456000 x456001 x456002 ((rd_T50 x4 x7).f0) ((rd_T50 x4 x7).f1) ((rd_T50 x4 x7).f2) bt473.1 bt473.2.1 bt473.2.2.1 bt486.1 bt486.2.1 bt486.2.2.1)) else (laws_FnOnce.j1 k x4 x6 x7 bt467.1 bt473.2.2.2 bt486.2.2.2 true x456000 x456001 x456002 ((rd_T50 x4 x7).f0) ((rd_T50 x4 x7).f1) ((rd_T50 x4 x7).f2) bt473.1 bt473.2.1 bt473.2.2.1 bt486.1 bt486.2.1 bt486.2.2.1)) else (laws_FnOnce.j1 k x4 x6 x7 bt467.1 bt473.2.2.2 bt486.2.2.2 true x456000 x456001 x456002 ((rd_T50 x4 x7).f0) ((rd_T50 x4 x7).f1) ((rd_T50 x4 x7).f2) bt473.1 bt473.2.1 bt473.2.2.1 bt486.1 bt486.2.1 bt486.2.2.1))))) else (none)) else (none))) else (none)) else ((spec_OnceEach.f k x446000 x446001 x446002 ([] : List (S50))).bind fun bt456 => (if (x456002.length : Int) = (bt456.2.2.1.length : Int) then (some (x456001 == bt456.2.1)) else (some false)))
def laws_FnOnce.j1 : Nat → List (S50) → List ByteArray → Int → Int → List ByteArray → List ByteArray → Bool → Int → Int → List (S54) → Int → Int → ByteArray → Int → Int → List (S54) → Int → Int → List (S54) → Option (Bool)
 | 0, _, _, _, _, _, _, _, _, _, _, _, _, _, _, _, _, _, _, _ => none
 | k + 1, x4, x6, x7, x9, x12, x14, x112, x456000, x456001, x456002, x467000, x467001, x467002, x482000, x482001, x482002, x495000, x495001, x495002 => if x112 = true then (some false) else (if x9 = 0 then (if 0 < (x12.length : Int) then (if 0 < (x14.length : Int) then (if (rdOf ByteArray.empty x12 0).toList = (rdOf ByteArray.empty x14 0).toList then (if (x495002.length : Int) = (x482002.length : Int) then (laws_FnOnce.j2 k x4 x6 x7 x9 x12 (x495001 != x482001) x456000 x456001 x456002 x467000 x467001 x467002 x482000 x482001 x482002) else (laws_FnOnce.j2 k x4 x6 x7 x9 x12 true x456000 x456001 x456002 x467000 x467001 x467002 x482000 x482001 x482002)) else (laws_FnOnce.j2 k x4 x6 x7 x9 x12 true x456000 x456001 x456002 x467000 x467001 x467002 x482000 x482001 x482002)) else (none)) else (none)) else (if x9 = 1 then (if 0 < (x12.length : Int) then (if 0 < (x14.length : Int) then (if (rdOf ByteArray.empty x12 0).toList = (rdOf ByteArray.empty x14 0).toList then (if (x495002.length : Int) = (x482002.length : Int) then (laws_FnOnce.j2 k x4 x6 x7 x9 x12 (x495001 != x482001) x456000 x456001 x456002 x467000 x467001 x467002 x482000 x482001 x482002) else (laws_FnOnce.j2 k x4 x6 x7 x9 x12 true x456000 x456001 x456002 x467000 x467001 x467002 x482000 x482001 x482002)) else (laws_FnOnce.j2 k x4 x6 x7 x9 x12 true x456000 x456001 x456002 x467000 x467001 x467002 x482000 x482001 x482002)) else (none)) else (none)) else (laws_FnOnce.j2 k x4 x6 x7 x9 x12 false x456000 x456001 x456002 x467000 x467001 x467002 x482000 x482001 x482002)))
def laws_FnOnce.j2 : Nat → List (S50) → List ByteArray → Int → Int → List ByteArray → Bool → Int → Int → List (S54) → Int → Int → ByteArray → Int → Int → List (S54) → Option (Bool)
 | 0, _, _, _, _, _, _, _, _, _, _, _, _, _, _, _ => none
 | k + 1, x4, x6, x7, x9, x12, x143, x456000, x456001, x456002, x467000, x467001, x467002, x482000, x482001, x482002 => if x143 = true then (some false) else (if x9 = 0 then ((impl_Look.f k x482000 x482001 x482002 x467000 x467001).bind fun bt503 => (if bt503.1 = 1 then (if bt503.2.toList = x467002.toList then (if 0 < (x12.length : Int) then (if (rdOf ByteArray.empty x12 0).toList = x467002.toList then (laws_FnOnce.l0 k x4 x6 (wrap64 (x7 + 1)) x482000 x482001 x482002 x456000 x456001 x456002) else (some false)) else (none)) else (some false)) else (some false))) else (laws_FnOnce.l0 k x4 x6 (wrap64 (x7 + 1)) x482000 x482001 x482002 x456000 x456001 x456002))
end
def laws_FnOnce.f (k : Nat) (l0 : List Int) : Option (Bool) := (laws_big.f l0).bind fun t436 => (if t436 = true then (some true) else ((spec_DrawRightSessions.f k l0).bind fun bt437 => ((impl_SessionsOk.f k bt437.1 bt437.2.1 bt437.2.2.1).bind fun t446 => (if t446 = true then ((impl_OnceEach.f k bt437.1 bt437.2.1 bt437.2.2.1 bt437.2.2.2).bind fun bt447 => (if (bt447.2.2.2.length : Int) = (bt437.2.2.2.length : Int) then (laws_FnOnce.l0 k bt437.2.2.2 bt447.2.2.2 0 bt437.1 bt437.2.1 bt437.2.2.1 bt447.1 bt447.2.1 bt447.2.2.1) else (some false))) else (some false)))))
theorem laws_FnOnce.mono_l : ∀ k, (∀ y0 y1 y2 y3 y4 y5 y6 y7 y8, LeO (laws_FnOnce.l0 k y0 y1 y2 y3 y4 y5 y6 y7 y8) (laws_FnOnce.l0 (k + 1) y0 y1 y2 y3 y4 y5 y6 y7 y8)) ∧ (∀ y0 y1 y2 y3 y4 y5 y6 y7 y8 y9 y10 y11 y12 y13 y14 y15 y16 y17 y18, LeO (laws_FnOnce.j1 k y0 y1 y2 y3 y4 y5 y6 y7 y8 y9 y10 y11 y12 y13 y14 y15 y16 y17 y18) (laws_FnOnce.j1 (k + 1) y0 y1 y2 y3 y4 y5 y6 y7 y8 y9 y10 y11 y12 y13 y14 y15 y16 y17 y18)) ∧ (∀ y0 y1 y2 y3 y4 y5 y6 y7 y8 y9 y10 y11 y12 y13 y14, LeO (laws_FnOnce.j2 k y0 y1 y2 y3 y4 y5 y6 y7 y8 y9 y10 y11 y12 y13 y14) (laws_FnOnce.j2 (k + 1) y0 y1 y2 y3 y4 y5 y6 y7 y8 y9 y10 y11 y12 y13 y14))
 | 0 => ⟨fun _ _ _ _ _ _ _ _ _ r h => by simp [laws_FnOnce.l0] at h, fun _ _ _ _ _ _ _ _ _ _ _ _ _ _ _ _ _ _ _ r h => by simp [laws_FnOnce.j1] at h, fun _ _ _ _ _ _ _ _ _ _ _ _ _ _ _ r h => by simp [laws_FnOnce.j2] at h⟩
 | k + 1 => by
   obtain ⟨ih0, ih1, ih2⟩ := laws_FnOnce.mono_l k
   refine ⟨?_, ?_, ?_⟩ <;> intros <;> (first | unfold laws_FnOnce.l0 | unfold laws_FnOnce.j1 | unfold laws_FnOnce.j2) <;> repeat' first
   | (with_reducible exact ih0 _ _ _ _ _ _ _ _ _)
   | (with_reducible exact ih1 _ _ _ _ _ _ _ _ _ _ _ _ _ _ _ _ _ _ _)
   | (with_reducible exact ih2 _ _ _ _ _ _ _ _ _ _ _ _ _ _ _)
   | (with_reducible exact impl_Look.mono _ _ _ _ _ _)
   | (with_reducible exact impl_OnceEach.mono _ _ _ _ _)
   | (with_reducible exact impl_SessionsOk.mono _ _ _ _)
   | (with_reducible exact spec_DrawRightSessions.mono _ _)
   | (with_reducible exact spec_OnceEach.mono _ _ _ _ _)
   | (with_reducible exact LeO.refl _)
   | (with_reducible exact LeO.none _)
   | (with_reducible refine LeO.ite ?_ ?_)
   | (with_reducible refine LeO.bind ?_ (fun _ => ?_))
   | exact ih0 _ _ _ _ _ _ _ _ _
   | exact ih1 _ _ _ _ _ _ _ _ _ _ _ _ _ _ _ _ _ _ _
   | exact ih2 _ _ _ _ _ _ _ _ _ _ _ _ _ _ _
   | exact impl_Look.mono _ _ _ _ _ _
   | exact impl_OnceEach.mono _ _ _ _ _
   | exact impl_SessionsOk.mono _ _ _ _
   | exact spec_DrawRightSessions.mono _ _
   | exact spec_OnceEach.mono _ _ _ _ _
   | exact LeO.none _
   | refine LeO.ite ?_ ?_
   | refine LeO.bind ?_ (fun _ => ?_)
theorem laws_FnOnce.mono : ∀ a0 k, LeO (laws_FnOnce.f k a0) (laws_FnOnce.f (k + 1) a0) := by
 intro a0 k
 obtain ⟨ih0, ih1, ih2⟩ := laws_FnOnce.mono_l k
 unfold laws_FnOnce.f
 repeat' first
     | (with_reducible exact ih0 _ _ _ _ _ _ _ _ _)
     | (with_reducible exact ih1 _ _ _ _ _ _ _ _ _ _ _ _ _ _ _ _ _ _ _)
     | (with_reducible exact ih2 _ _ _ _ _ _ _ _ _ _ _ _ _ _ _)
     | (with_reducible exact impl_Look.mono _ _ _ _ _ _)
     | (with_reducible exact impl_OnceEach.mono _ _ _ _ _)
     | (with_reducible exact impl_SessionsOk.mono _ _ _ _)
     | (with_reducible exact spec_DrawRightSessions.mono _ _)
     | (with_reducible exact spec_OnceEach.mono _ _ _ _ _)
     | (with_reducible exact LeO.refl _)
     | (with_reducible exact LeO.none _)
     | (with_reducible refine LeO.ite ?_ ?_)
     | (with_reducible refine LeO.bind ?_ (fun _ => ?_))
     | exact ih0 _ _ _ _ _ _ _ _ _
     | exact ih1 _ _ _ _ _ _ _ _ _ _ _ _ _ _ _ _ _ _ _
     | exact ih2 _ _ _ _ _ _ _ _ _ _ _ _ _ _ _
     | exact impl_Look.mono _ _ _ _ _ _
     | exact impl_OnceEach.mono _ _ _ _ _
     | exact impl_SessionsOk.mono _ _ _ _
     | exact spec_DrawRightSessions.mono _ _
     | exact spec_OnceEach.mono _ _ _ _ _
     | exact LeO.none _
     | refine LeO.ite ?_ ?_
     | refine LeO.bind ?_ (fun _ => ?_)
def laws_FnOnce.T14 : Bool × List (List Nat × List Nat) := (true, [([], []), ([], []), ([], []), ([], []), ([3], [3]), ([1, 2, 4], [1, 2, 4]), ([0, 5], [0, 5]), ([6], [6]), ([7], [7]), ([7], [7]), ([], []), ([10, 8, 6, 0, 1, 2, 3, 4, 5, 6, 7, 8, 10], [8, 10]), ([9, 11, 0, 1, 2, 3, 4, 5, 6, 7, 8, 9, 10, 11], [9])])
def laws_FnOnce.B14 : List Nat := [0, 0, 0, 0, 8, 30, 63, 127, 255, 255, 0, 1535, 4095]
theorem laws_FnOnce.tab14 : rtab .any (opsOf Tryd.f4 14) = laws_FnOnce.T14 := by kernel_rfl
theorem laws_FnOnce.bits14 : waitsOk laws_FnOnce.T14.2 laws_FnOnce.B14 = true := by kernel_rfl
def laws_FnOnce.T15 : Bool × List (List Nat × List Nat) := (true, [([], []), ([], []), ([], []), ([], []), ([3], [3]), ([1, 2, 4], [1, 2, 4]), ([0, 5], [0, 5]), ([6], [6]), ([7], [7]), ([7], [7]), ([], []), ([10, 8, 6, 0, 1, 2, 3, 4, 5, 6, 7, 8, 10], [8, 10]), ([9, 11, 0, 1, 2, 3, 4, 5, 6, 7, 8, 9, 10, 11], [9])])
def laws_FnOnce.B15 : List Nat := [0, 0, 0, 0, 8, 30, 63, 127, 255, 255, 0, 1535, 4095]
theorem laws_FnOnce.tab15 : rtab .any (opsOf Tryd.f4 15) = laws_FnOnce.T15 := by kernel_rfl
theorem laws_FnOnce.bits15 : waitsOk laws_FnOnce.T15.2 laws_FnOnce.B15 = true := by kernel_rfl
def laws_FnOnce.T16 : Bool × List (List Nat × List Nat) := (true, [([], []), ([0], [0]), ([1], [1]), ([2, 1], [2]), ([3], [3]), ([4, 3], [3, 4]), ([5, 3], [3, 5]), ([3, 6], [3, 6]), ([7, 3], [7]), ([8], [8]), ([9, 8], [8, 9]), ([10, 8], [8, 10]), ([8, 11], [8, 11]), ([12, 8], [12]), ([13], [13]), ([14, 13], [13, 14]), ([15, 13], [13, 15]), ([13], [13]), ([13], [13]), ([17, 18, 13], [13, 17, 18]), ([19, 13], [13, 19]), ([16, 20, 13], [13, 16, 20]), ([13, 21], [13, 21]), ([22, 13], [22]), ([23], [23]), ([24, 23], [23, 24]), ([25, 23, 23], [23, 25]), ([26], [26]), ([27, 26], [26, 27]), ([28, 26], [26, 28]), ([26], [26]), ([29, 30, 26], [26, 29, 30]), ([26, 31, 23], [23, 26, 31]), ([23, 32], [23, 32])])
def laws_FnOnce.B16 : List Nat := [0, 1, 3, 7, 15, 31, 63, 127, 255, 511, 1023, 2047, 4095, 8191, 16383, 32767, 65535, 16383, 16383, 409599, 933887, 2097151, 4194303, 8388607, 16777215, 33554431, 67108863, 134217727, 268435455, 536870911, 134217727, 2147483647, 4294967295, 8589934591]
theorem laws_FnOnce.tab16 : rtab .any (opsOf Tryd.f4 16) = laws_FnOnce.T16 := by kernel_rfl
theorem laws_FnOnce.bits16 : waitsOk laws_FnOnce.T16.2 laws_FnOnce.B16 = true := by kernel_rfl
def laws_FnOnce.T18 : Bool × List (List Nat × List Nat) := (true, [([], []), ([0], [0]), ([1], [1]), ([2], [2]), ([3, 2], [2, 3]), ([2, 4], [2, 4]), ([5, 2], [5]), ([6], [6]), ([7, 6], [6, 7]), ([8, 6], [6, 8]), ([6], [6]), ([10, 6], [6, 10]), ([11, 6], [6, 11]), ([9, 12, 6], [6, 9, 12]), ([13, 6, 6], [6, 13]), ([14], [14]), ([15, 14], [14, 15]), ([16, 14], [14, 16]), ([14], [14]), ([18, 14], [14, 18]), ([19, 14], [14, 19]), ([17, 20, 14], [14, 17, 20]), ([14, 21, 6], [6, 14, 21]), ([22, 14, 6], [6, 22]), ([23], [23]), ([24, 23], [23, 24]), ([23], [23]), ([26, 23], [23, 26]), ([25, 27, 23], [23, 25, 27]), ([23, 28, 6], [6, 23, 28]), ([6, 29], [6, 29])])
def laws_FnOnce.B18 : List Nat := [0, 1, 3, 7, 15, 31, 63, 127, 255, 511, 127, 1151, 3199, 8191, 16383, 32767, 65535, 131071, 32767, 294911, 819199, 2097151, 4194303, 8388607, 16777215, 33554431, 16777215, 83886079, 268435455, 536870911, 1073741823]
theorem laws_FnOnce.tab18 : rtab .any (opsOf Tryd.f4 18) = laws_FnOnce.T18 := by kernel_rfl
theorem laws_FnOnce.bits18 : waitsOk laws_FnOnce.T18.2 laws_FnOnce.B18 = true := by kernel_rfl
def laws_FnOnce.T22 : Bool × List (List Nat × List Nat) := (true, [([], []), ([0], [0]), ([1], [1]), ([2], [2]), ([2], [2]), ([4, 2], [2, 4]), ([3, 5, 2], [2, 3, 5]), ([2, 6], [2, 6]), ([7, 2], [7]), ([8], [8]), ([9, 8], [8, 9]), ([10, 8], [8, 10]), ([8], [8]), ([12, 8], [8, 12]), ([11, 13, 8], [8, 11, 13]), ([8, 14], [8, 14])])
def laws_FnOnce.B22 : List Nat := [0, 1, 3, 7, 7, 23, 63, 127, 255, 511, 1023, 2047, 511, 4607, 16383, 32767]
theorem laws_FnOnce.tab22 : rtab .any (opsOf Tryd.f4 22) = laws_FnOnce.T22 := by kernel_rfl
theorem laws_FnOnce.bits22 : waitsOk laws_FnOnce.T22.2 laws_FnOnce.B22 = true := by kernel_rfl
set_option maxHeartbeats 8000000 in
set_option maxRecDepth 100000 in
theorem laws_FnOnce.calls (k : Nat) (A0 : Option Addr) (c0 : Nat) (l0 : List Int) (r : Bool) (w : World) (hr0 : Kd.C (Kd.int .u8) w A0 l0.length l0) (hc0 : l0.length ≤ c0) (h : laws_FnOnce.f k l0 = some r) (hr_ : Aside0 (r = true)) :
   Calls Tryd.prog 4 #[.slice A0 l0.length c0] w fun e w' => e = .returned (.bool r) ∧ Below w.heap.size w w' := by
 have hu30 := Tryd.underlying30
 have hu50 := Tryd.underlying50
 have HR0 := am hr0
 have HC0 := am hc0
 clear hr0 hc0
 have HB := am (Below.refl w.heap.size w)
 have H : ((laws_big.f l0).bind fun t436 => (if t436 = true then (some true) else ((spec_DrawRightSessions.f k l0).bind fun bt437 => ((impl_SessionsOk.f k bt437.1 bt437.2.1 bt437.2.2.1).bind fun t446 => (if t446 = true then ((impl_OnceEach.f k bt437.1 bt437.2.1 bt437.2.2.1 bt437.2.2.2).bind fun bt447 => (if (bt447.2.2.2.length : Int) = (bt437.2.2.2.length : Int) then (laws_FnOnce.l0 k bt437.2.2.2 bt447.2.2.2 0 bt437.1 bt437.2.1 bt437.2.2.1 bt447.1 bt447.2.1 bt447.2.2.1) else (some false))) else (some false)))))) = some r := h
 clear h
 replace H := Option.bind_eq_some_iff.mp H
 obtain ⟨t436, A20, H⟩ := H
 have A2 := am A20
 clear A20
 have H9 := am H
 clear H
 go_enter Tryd.func4, Tryd.ntmps4
 go_upto_if 20 with (first | ((with_reducible refine gate_callee (f := 20) rfl ?_); refine goesL_ (some 20) rfl rfl Tryd.func20 kr rfl #[.slice A0 l0.length c0] rfl q1 ?_; (with_reducible refine (laws_big.calls _ _ l0 t436 _ ?side1 ?side2 A2.out).mono ?_); (case side1 => exact (by repeat (first | exact HR0.out | (with_reducible refine Kd.C_alloc ?_ _) | (with_reducible refine Kd.C_drewN ?_ _) | (with_reducible refine Kd.C_drew ?_)))); (case side2 => exact HC0.out); rintro e w' ⟨rfl, ⟨nd, rfl⟩⟩; refine ⟨_, rfl, ?_⟩))
 have H := H9.out
 clear H9
 by_cases c3 : t436 = true
 · subst c3
   rw [if_pos rfl] at H
   obtain rfl := sj H
   go_wp2
   go_ret
   exact ⟨er, q0⟩
 replace c3 := Bool.eq_false_iff.mpr c3
 subst c3
 rw [nf] at H
 replace H := Option.bind_eq_some_iff.mp H
 obtain ⟨⟨t437, t438, t439, t442⟩, A40, H⟩ := H
 (try dsimp only at H)
 have A4 := am A40
 clear A40
 replace H := Option.bind_eq_some_iff.mp H
 obtain ⟨t446, A50, H⟩ := H
 have A5 := am A50
 clear A50
 by_cases c6 : t446 = true
 rotate_left
 · replace c6 := Bool.eq_false_iff.mpr c6
   subst c6
   rw [nf] at H
   exact absurd ((Option.some.inj H).trans hr_.out) (by decide)
 subst c6
 rw [if_pos rfl] at H
 replace H := Option.bind_eq_some_iff.mp H
 obtain ⟨⟨t447, t448, t449, t452⟩, A70, H⟩ := H
 (try dsimp only at H)
 have A7 := am A70
 clear A70
 by_cases c8 : (t452.length : Int) = (t442.length : Int)
 rotate_left
 · rw [if_neg c8] at H
   have c8b0 : ((t452.length : Int) == (t442.length : Int)) = false := beq_eq_false_iff_ne.mpr c8
   have c8b1 : ((t452.length : Int) != (t442.length : Int)) = true := bne_iff_ne.mpr c8
   have c8b2 : (t452.length == t442.length) = false := by first | simpa using c8 | (simp at c8 ⊢; omega)
   (first | rw [c8b0] | (simp only [i64_w, i32_w]; rw [c8b0]) | skip)
   exact absurd ((Option.some.inj H).trans hr_.out) (by decide)
 rw [if_pos c8] at H
 have c8b0 : ((t452.length : Int) == (t442.length : Int)) = true := beq_iff_eq.mpr c8
 have c8b1 : ((t452.length : Int) != (t442.length : Int)) = false := bne_eq_false_iff_eq.mpr c8
 have c8b2 : (t452.length == t442.length) = true := by first | simpa using c8 | (simp at c8 ⊢; omega)
 clear c8
 (first | rw [c8b0] | (simp only [i64_w, i32_w]; rw [c8b0]) | skip)
 have H' := am H
 clear H
 go_wp2_with (first | ((with_reducible refine gate_callee (f := 21) rfl ?_); refine goesL_ (some 23) rfl rfl Tryd.func21 kr rfl #[.slice A0 l0.length c0] rfl q1 ?_; (with_reducible refine (spec_DrawRightSessions.calls k _ _ l0 t437 t438 t439 t442 _ ?side1 ?side2 A4.out).mono ?_); (case side1 => exact (by repeat (first | exact (Kd.C_below HR0.out HB.out) | (with_reducible refine Kd.C_alloc ?_ _) | (with_reducible refine Kd.C_drewN ?_ _) | (with_reducible refine Kd.C_drew ?_)))); (case side2 => exact HC0.out); rintro e w9 ⟨v440, v443, rfl, ho0, ho1, hb⟩; refine ⟨_, rfl, ?_⟩; have HO441 := am (Kd.R_lower ho0 (below_size q0)); have HO444 := am (Kd.R_lower ho1 (below_size q0)); replace HB := am (below_step q0 hb); (try clear hb); (try clear hb2); (try clear hk); (try clear hi); (try clear ho0); (try clear ho1)) | ((with_reducible refine gate_dst (N := 3) rfl ?_); (try (refine gate_guard (by rfl) ?_; dsimp only)); refine box_event ?hg (N := 3) ?hd (cs := #[.int .i64 0, .int .i64 0, .slice none 0 0]) (t := 30) ?hr ?_; (case hd => rfl); (case hg => rfl); (case hr => first | (go_simp; done) | (go_simp; rfl)); intro gb445 hg w10 hbox hb; replace HO441 := am (Kd.R_below u13_39 hb); replace HO444 := am (Kd.R_below u13_42 hb); have BK445 := am (hbox); have GW445 := am ((by rw [hg]; exact (below_size q0) : w.heap.size ≤ gb445)); have GE445 := am ((by rw [hg]; exact (below_size q0) : w.heap.size ≤ gb445)); replace HB := am (below_step q0 hb); clear hb hbox hg; obtain ⟨hcz11_0, hcz11_1, hcz11_2, hfz11_0, hfz11_1, hfz11_2⟩ := bc3f w10 BK445.out; obtain ⟨Ao12, co12, eo12⟩ := Kd.R_slice HO441.out; subst eo12) | ((with_reducible refine gate_callee (f := 22) rfl ?_); refine goesL_ (some 27) rfl rfl Tryd.func22 kr rfl #[.agg #[.int .i64 t437, .int .i64 t438, .slice Ao12 t439.length co12]] rfl q1 ?_; (with_reducible refine (impl_SessionsOk.calls k t437 t438 _ _ t439 true _ ?side1 ?side2 A5.out).mono ?_); (case side1 => exact (by refine (Kd.R_reads' (e := 54) (base := w.heap.size) (ok := fun k_ => True) (n := t439.length) (c := co12) ?_).2.2; exact u13_35)); (case side2 => exact (Kd.R_reads' HO441.out).2.1); rintro e w13 ⟨rfl, hb⟩; refine ⟨_, rfl, ?_⟩; replace HO441 := am (Kd.R_below u13_35 hb); replace HO444 := am (Kd.R_below (by (with_reducible repeat (first | apply Kd.R_alloc | apply Kd.R_drewN | apply Kd.R_drew)); exact (Kd.R_mono (Kd.R_far (p := ⟨gb445, 2, none⟩) (Kd.R_far (p := ⟨gb445, 1, none⟩) (Kd.R_far (p := ⟨gb445, 0, none⟩) (Kd.R_types HO444.out BK445.out (by decide)) (fun _ hk => hk.2) (.int .i64 t437)) (fun _ hk => hk.2) (.int .i64 t438)) (fun _ hk => hk.2) (.slice Ao12 t439.length co12)) (fun _ h_ => h_.1))) hb); replace BK445 := am (blk_below (g := gb445) (o := .cells #[.int .i64 t437, .int .i64 t438, .slice Ao12 t439.length co12] 30 (0, 0)) (by (with_reducible repeat (first | refine blk_drewN ?_ _ | refine blk_drew ?_ | refine blk_alloc ?_ _)); refine blk_put (cs := #[.int .i64 t437, .int .i64 t438, .slice none 0 0]) ?_ 2 _ rfl; (with_reducible repeat (first | refine blk_drewN ?_ _ | refine blk_drew ?_ | refine blk_alloc ?_ _)); refine blk_put (cs := #[.int .i64 t437, .int .i64 0, .slice none 0 0]) ?_ 1 _ rfl; (with_reducible repeat (first | refine blk_drewN ?_ _ | refine blk_drew ?_ | refine blk_alloc ?_ _)); refine blk_put (cs := #[.int .i64 0, .int .i64 0, .slice none 0 0]) ?_ 0 _ rfl; (with_reducible repeat (first | refine blk_drewN ?_ _ | refine blk_drew ?_ | refine blk_alloc ?_ _)); exact BK445.out) hb); replace HB := am (below_step q0 hb); (try clear hb); (try clear hb2); (try clear hk); (try clear hi); obtain ⟨hcz14_0, hcz14_1, hcz14_2, hfz14_0, hfz14_1, hfz14_2⟩ := bc3f w13 BK445.out; obtain ⟨Ao15, co15, eo15⟩ := Kd.R_slice HO444.out; subst eo15) | ((with_reducible refine gate_callee (f := 11) rfl ?_); refine goesL_ (some 32) rfl rfl Tryd.func11 kr rfl #[.agg #[.int .i64 t437, .int .i64 t438, .slice Ao12 t439.length co12], .slice Ao15 t442.length co15] rfl q1 ?_; (with_reducible refine (impl_OnceEach.calls k t437 t438 _ _ t439 _ _ t442 t447 t448 t449 t452 _ ?side1 ?side2 ?side3 ?side4 A7.out).mono ?_); (case side1 => exact (by repeat (first | exact (Kd.R_reads' HO441.out).2.2 | (with_reducible refine Kd.C_alloc ?_ _) | (with_reducible refine Kd.C_drewN ?_ _) | (with_reducible refine Kd.C_drew ?_)))); (case side2 => exact (Kd.R_reads' HO441.out).2.1); (case side3 => exact (by repeat (first | exact (Kd.R_reads' HO444.out).2.2 | (with_reducible refine Kd.C_alloc ?_ _) | (with_reducible refine Kd.C_drewN ?_ _) | (with_reducible refine Kd.C_drew ?_)))); (case side4 => exact (Kd.R_reads' HO444.out).2.1); rintro e w16 ⟨v450, v453, rfl, ho0, ho1, hb⟩; refine ⟨_, rfl, ?_⟩; replace HO444 := am (Kd.R_below u13_42 hb); have HO451 := am (Kd.R_lower (Kd.R_new' ho0 (Kd.R_lt u13_39)) (below_size q0)); replace HO441 := am (Kd.R_elder' u13_39 (Kd.R_base ho0) hb); have HO454 := am (Kd.R_lower ho1 (below_size q0)); replace BK445 := am (blk_below (g := gb445) (o := .cells #[.int .i64 t437, .int .i64 t438, .slice Ao12 t439.length co12] 30 (0, 0)) u13_1 hb); replace HB := am (below_step q0 hb); (try clear hb); (try clear hb2); (try clear hk); (try clear hi); (try clear ho0); (try clear ho1)) | ((with_reducible refine gate_dst (N := 5) rfl ?_); (try (refine gate_guard (by rfl) ?_; dsimp only)); refine box_event ?hg (N := 5) ?hd (cs := #[.int .i64 0, .int .i64 0, .slice none 0 0]) (t := 30) ?hr ?_; (case hd => rfl); (case hg => rfl); (case hr => first | (go_simp; done) | (go_simp; rfl)); intro gb455 hg w17 hbox hb; replace HO441 := am (Kd.R_below u13_39 hb); replace HO444 := am (Kd.R_below u13_42 hb); replace HO451 := am (Kd.R_below (by (with_reducible repeat (first | apply Kd.R_alloc | apply Kd.R_drewN | apply Kd.R_drew)); exact HO451.out) hb); replace HO454 := am (Kd.R_below (by (with_reducible repeat (first | apply Kd.R_alloc | apply Kd.R_drewN | apply Kd.R_drew)); exact HO454.out) hb); have BK455 := am (hbox); have GW455 := am ((by rw [hg]; exact (below_size q0) : w.heap.size ≤ gb455)); have GE455 := am ((by rw [hg]; exact (below_size q0) : w.heap.size ≤ gb455)); replace HB := am (below_step q0 hb); have NB445_455 := am ((by rw [hg]; exact Nat.ne_of_lt (blk_lt (g := gb445) (o := .cells #[.int .i64 t437, .int .i64 t438, .slice Ao12 t439.length co12] 30 (0, 0)) u13_1) : gb445 ≠ gb455)); have NB455_445 := am ((by rw [hg]; exact Nat.ne_of_gt (blk_lt (g := gb445) (o := .cells #[.int .i64 t437, .int .i64 t438, .slice Ao12 t439.length co12] 30 (0, 0)) u13_1) : gb455 ≠ gb445)); replace BK445 := am (blk_below (g := gb445) (o := .cells #[.int .i64 t437, .int .i64 t438, .slice Ao12 t439.length co12] 30 (0, 0)) u13_1 hb); clear hb hbox hg; have hnb18 := NB455_445.out; have hnc18 := NB445_455.out; obtain ⟨hcz19_0, hcz19_1, hcz19_2, hfz19_0, hfz19_1, hfz19_2⟩ := bc3f w17 BK455.out; obtain ⟨Ao20, co20, eo20⟩ := Kd.R_slice HO451.out; subst eo20; obtain ⟨Ao21, co21, eo21⟩ := Kd.R_slice HO454.out; subst eo21))
 go_loopg [7] k (fun kq v7 w' => ∃ (x7_1 : Int) (x446000_1 : Int) (x446001_1 : Int) (x446002_1 : List (S54)) (u446002 : Value), v7 = .int .i64 x7_1 ∧ Aside0 (laws_FnOnce.l0 kq t442 t452 x7_1 x446000_1 x446001_1 x446002_1 t447 t448 t449 = some r) ∧ Aside0 (kq ≤ k) ∧ Aside0 (Kd.R k50 50 w' w.heap.size (fun _ => True) (.slice Ao15 t442.length co15) t442) ∧ Aside0 (Kd.R Kd.string 9 w' w.heap.size (fun _ => True) (.slice Ao21 t452.length co21) t452) ∧ Aside0 (Kd.R k54 54 w' w.heap.size (fun k_ => some k_ ≠ ((.slice Ao20 t449.length co20) : Value).ownBlock) u446002 x446002_1) ∧ Aside0 (Kd.R k54 54 w' w.heap.size (fun k_ => some k_ ≠ (u446002 : Value).ownBlock) (.slice Ao20 t449.length co20) t449) ∧ Aside0 (w'.heap[gb445]? = some (.cells #[.int .i64 x446000_1, .int .i64 x446001_1, u446002] 30 (0, 0))) ∧ Aside0 (w'.heap[gb455]? = some (.cells #[.int .i64 t447, .int .i64 t448, (.slice Ao20 t449.length co20)] 30 (0, 0))) ∧ Aside0 (Below w.heap.size w w'))
 case atStart => exact ⟨(0), (t437), (t438), (t439), (.slice Ao12 t439.length co12), q4, H', ⟨Nat.le_refl _⟩, ⟨(by (with_reducible repeat (first | apply Kd.R_alloc | apply Kd.R_drewN | apply Kd.R_drew)); exact Kd.R_mono (Kd.R_far (p := ⟨gb455, 2, none⟩) (Kd.R_far (p := ⟨gb455, 1, none⟩) (Kd.R_far (p := ⟨gb455, 0, none⟩) (Kd.R_types HO444.out BK455.out (by decide)) (fun _ hk => hk.2) (.int .i64 t447)) (fun _ hk => hk.2) (.int .i64 t448)) (fun _ hk => hk.2) (.slice Ao20 t449.length co20)) (fun _ hk => trivial))⟩, ⟨(by (with_reducible repeat (first | apply Kd.R_alloc | apply Kd.R_drewN | apply Kd.R_drew)); exact Kd.R_mono (Kd.R_far (p := ⟨gb455, 2, none⟩) (Kd.R_far (p := ⟨gb455, 1, none⟩) (Kd.R_far (p := ⟨gb455, 0, none⟩) (Kd.R_types HO454.out BK455.out (by decide)) (fun _ hk => hk.2) (.int .i64 t447)) (fun _ hk => hk.2) (.int .i64 t448)) (fun _ hk => hk.2) (.slice Ao20 t449.length co20)) (fun _ hk => trivial))⟩, ⟨(by (with_reducible repeat (first | apply Kd.R_alloc | apply Kd.R_drewN | apply Kd.R_drew)); exact Kd.R_mono (Kd.R_far (p := ⟨gb455, 2, none⟩) (Kd.R_far (p := ⟨gb455, 1, none⟩) (Kd.R_far (p := ⟨gb455, 0, none⟩) (Kd.R_types HO441.out BK455.out (by decide)) (fun _ hk => hk.2) (.int .i64 t447)) (fun _ hk => hk.2) (.int .i64 t448)) (fun _ hk => hk.2) (.slice Ao20 t449.length co20)) (fun _ hk => hk.1.2))⟩, ⟨(by (with_reducible repeat (first | apply Kd.R_alloc | apply Kd.R_drewN | apply Kd.R_drew)); exact Kd.R_mono (Kd.R_far (p := ⟨gb455, 2, none⟩) (Kd.R_far (p := ⟨gb455, 1, none⟩) (Kd.R_far (p := ⟨gb455, 0, none⟩) (Kd.R_types HO451.out BK455.out (by decide)) (fun _ hk => hk.2) (.int .i64 t447)) (fun _ hk => hk.2) (.int .i64 t448)) (fun _ hk => hk.2) (.slice Ao20 t449.length co20)) (fun _ hk => hk.1.2))⟩, ⟨(by (with_reducible repeat (first | refine blk_drewN ?_ _ | refine blk_drew ?_ | refine blk_alloc ?_ _)); refine blk_far ?_ NB445_455.out _; (with_reducible repeat (first | refine blk_drewN ?_ _ | refine blk_drew ?_ | refine blk_alloc ?_ _)); refine blk_far ?_ NB445_455.out _; (with_reducible repeat (first | refine blk_drewN ?_ _ | refine blk_drew ?_ | refine blk_alloc ?_ _)); refine blk_far ?_ NB445_455.out _; (with_reducible repeat (first | refine blk_drewN ?_ _ | refine blk_drew ?_ | refine blk_alloc ?_ _)); exact BK445.out)⟩, ⟨(by (with_reducible repeat (first | refine blk_drewN ?_ _ | refine blk_drew ?_ | refine blk_alloc ?_ _)); refine blk_put (cs := #[.int .i64 t447, .int .i64 t448, .slice none 0 0]) ?_ 2 _ rfl; (with_reducible repeat (first | refine blk_drewN ?_ _ | refine blk_drew ?_ | refine blk_alloc ?_ _)); refine blk_put (cs := #[.int .i64 t447, .int .i64 0, .slice none 0 0]) ?_ 1 _ rfl; (with_reducible repeat (first | refine blk_drewN ?_ _ | refine blk_drew ?_ | refine blk_alloc ?_ _)); refine blk_put (cs := #[.int .i64 0, .int .i64 0, .slice none 0 0]) ?_ 0 _ rfl; (with_reducible repeat (first | refine blk_drewN ?_ _ | refine blk_drew ?_ | refine blk_alloc ?_ _)); exact BK455.out)⟩, ⟨q0⟩⟩
 clear H'
 try clear c3
 try clear c6
 try clear c8
 try clear c8b0
 try clear c8b1
 try clear c8b2
 try clear hcz11_0
 try clear hcz11_1
 try clear hcz11_2
 try clear hcz14_0
 try clear hcz14_1
 try clear hcz14_2
 try clear hcz19_0
 try clear hcz19_1
 try clear hcz19_2
 try clear hfz11_0
 try clear hfz11_1
 try clear hfz11_2
 try clear hfz14_0
 try clear hfz14_1
 try clear hfz14_2
 try clear hfz19_0
 try clear hfz19_1
 try clear hfz19_2
 obtain ⟨x7_1, x446000_1, x446001_1, x446002_1, u446002, rfl, HA, HK1, HO_4, HO_6, HO_446002, HO_456002, BK445, BK455, HB⟩ := hrel
 cases gk with
 | zero => exact absurd HA.out (by simp [laws_FnOnce.l0])
 | succ k1 =>
   have H := HA.out
   clear HA
   simp only [laws_FnOnce.l0] at H
   by_cases c22 : x7_1 < (t442.length : Int)
   rotate_left
   · rw [if_neg c22] at H
     have c22b0 : decide (x7_1 < (t442.length : Int)) = false := decide_eq_false c22
     clear c22
     replace H := Option.bind_eq_some_iff.mp H
     obtain ⟨⟨t456, t457, t458, t461⟩, A1590, H⟩ := H
     replace H : (if (t449.length : Int) = (t458.length : Int) then (some (t448 == t457)) else (some false)) = some r := H
     have A159 := am A1590
     clear A1590
     by_cases c160 : (t449.length : Int) = (t458.length : Int)
     rotate_left
     · rw [if_neg c160] at H
       have c160b0 : ((t449.length : Int) == (t458.length : Int)) = false := beq_eq_false_iff_ne.mpr c160
       have c160b1 : ((t449.length : Int) != (t458.length : Int)) = true := bne_iff_ne.mpr c160
       have c160b2 : (t449.length == t458.length) = false := by first | simpa using c160 | (simp at c160 ⊢; omega)
       exact absurd ((Option.some.inj H).trans hr_.out) (by decide)
     rw [if_pos c160] at H
     have c160b0 : ((t449.length : Int) == (t458.length : Int)) = true := beq_iff_eq.mpr c160
     have c160b1 : ((t449.length : Int) != (t458.length : Int)) = false := bne_eq_false_iff_eq.mpr c160
     have c160b2 : (t449.length == t458.length) = true := by first | simpa using c160 | (simp at c160 ⊢; omega)
     clear c160
     obtain rfl := sj H
     have hnb161 := NB445_455.out
     have hnc161 := NB455_445.out
     obtain ⟨hcz162_0, hcz162_1, hcz162_2, hfz162_0, hfz162_1, hfz162_2⟩ := bc3f wr BK445.out
     obtain ⟨Ao163, co163, eo163⟩ := Kd.R_slice HO_446002.out
     subst eo163
     go_wp2_with (first | ((with_reducible refine gate_callee (f := 8) rfl ?_); refine goesL_ (some 174) rfl rfl Tryd.func8 kr rfl #[.agg #[.int .i64 x446000_1, .int .i64 x446001_1, .slice Ao163 x446002_1.length co163], .slice none 0 0] rfl q1 ?_; (refine (spec_OnceEach.calls k1 x446000_1 x446001_1 _ _ x446002_1 _ _ ([] : List (S50)) t456 t457 t458 t461 _ ?side1 ?side2 ?side3 ?side4 A159.out).mono ?_); (case side1 => exact u13_38); (case side2 => exact (Kd.R_reads' HO_446002.out).2.1); (case side3 => exact Kd.C_nil _ _); (case side4 => exact Nat.le_refl _); rintro e w164 ⟨v459, v462, rfl, ho0, ho1, hb⟩; refine ⟨_, rfl, ?_⟩; replace HO_4 := am (Kd.R_below u13_8 hb); have HO460 := am (Kd.R_lower (Kd.R_new' (Kd.R_new' ho0 (Kd.R_lt u13_4)) (Kd.R_lt u13_5)) (below_size q0)); replace HO_446002 := am (Kd.R_elder' u13_4 (Kd.R_base ho0) hb); replace HO_456002 := am (Kd.R_elder' u13_5 (Kd.R_base ho0) hb); have HO463 := am (Kd.R_lower (Kd.R_new' ho1 (Kd.R_lt q10)) (below_size q0)); replace HO_6 := am (Kd.R_elder' q10 (Kd.R_base ho1) hb); replace BK445 := am (blk_below (g := gb445) (o := .cells #[.int .i64 x446000_1, .int .i64 x446001_1, .slice Ao163 x446002_1.length co163] 30 (0, 0)) u13_1 hb); replace BK455 := am (blk_below (g := gb455) (o := .cells #[.int .i64 t447, .int .i64 t448, .slice Ao20 t449.length co20] 30 (0, 0)) u13_2 hb); replace HB := am (below_step q0 hb); (try clear hb); (try clear hb2); (try clear hk); (try clear hi); (try clear ho0); (try clear ho1)) | ((with_reducible refine gate_dst (N := 17) rfl ?_); (try (refine gate_guard (by rfl) ?_; dsimp only)); refine box_event ?hg (N := 17) ?hd (cs := #[.int .i64 0, .int .i64 0, .slice none 0 0]) (t := 30) ?hr ?_; (case hd => rfl); (case hg => rfl); (case hr => first | (go_simp; done) | (go_simp; rfl)); intro gb464 hg w165 hbox hb; replace HO_4 := am (Kd.R_below u13_8 hb); replace HO_6 := am (Kd.R_below q10 hb); replace HO_446002 := am (Kd.R_below u13_4 hb); replace HO_456002 := am (Kd.R_below u13_5 hb); replace HO460 := am (Kd.R_below (by (with_reducible repeat (first | apply Kd.R_alloc | apply Kd.R_drewN | apply Kd.R_drew)); exact HO460.out) hb); replace HO463 := am (Kd.R_below (by (with_reducible repeat (first | apply Kd.R_alloc | apply Kd.R_drewN | apply Kd.R_drew)); exact HO463.out) hb); have BK464 := am (hbox); have GW464 := am ((by rw [hg]; exact (below_size q0) : w.heap.size ≤ gb464)); have GE464 := am ((by rw [hg]; exact (below_size q0) : w.heap.size ≤ gb464)); replace HB := am (below_step q0 hb); have NB445_464 := am ((by rw [hg]; exact Nat.ne_of_lt (blk_lt (g := gb445) (o := .cells #[.int .i64 x446000_1, .int .i64 x446001_1, .slice Ao163 x446002_1.length co163] 30 (0, 0)) u13_1) : gb445 ≠ gb464)); have NB464_445 := am ((by rw [hg]; exact Nat.ne_of_gt (blk_lt (g := gb445) (o := .cells #[.int .i64 x446000_1, .int .i64 x446001_1, .slice Ao163 x446002_1.length co163] 30 (0, 0)) u13_1) : gb464 ≠ gb445)); replace BK445 := am (blk_below (g := gb445) (o := .cells #[.int .i64 x446000_1, .int .i64 x446001_1, .slice Ao163 x446002_1.length co163] 30 (0, 0)) u13_1 hb); have NB455_464 := am ((by rw [hg]; exact Nat.ne_of_lt (blk_lt (g := gb455) (o := .cells #[.int .i64 t447, .int .i64 t448, .slice Ao20 t449.length co20] 30 (0, 0)) u13_2) : gb455 ≠ gb464)); have NB464_455 := am ((by rw [hg]; exact Nat.ne_of_gt (blk_lt (g := gb455) (o := .cells #[.int .i64 t447, .int .i64 t448, .slice Ao20 t449.length co20] 30 (0, 0)) u13_2) : gb464 ≠ gb455)); replace BK455 := am (blk_below (g := gb455) (o := .cells #[.int .i64 t447, .int .i64 t448, .slice Ao20 t449.length co20] 30 (0, 0)) u13_2 hb); clear hb hbox hg; have hnb166 := NB464_445.out; have hnc166 := NB445_464.out; have hnb167 := NB464_455.out; have hnc167 := NB455_464.out; obtain ⟨hcz168_0, hcz168_1, hcz168_2, hfz168_0, hfz168_1, hfz168_2⟩ := bc3f w165 BK464.out; obtain ⟨Ao169, co169, eo169⟩ := Kd.R_slice HO460.out; subst eo169; obtain ⟨hcz170_0, hcz170_1, hcz170_2, hfz170_0, hfz170_1, hfz170_2⟩ := bc3f w165 BK455.out))
     go_ret
     exact ⟨er, (by repeat (first | (with_reducible first | exact HB.out | apply below_alloc | apply pw_below_drewN | apply below_drew1 | refine below_set ?_ GE445.out | refine below_set ?_ GE455.out | refine below_set ?_ GE464.out) | exact HB.out))⟩
   rw [if_pos c22] at H
   have c22b0 : decide (x7_1 < (t442.length : Int)) = true := decide_eq_true c22
   clear c22
   by_cases c23 : 0 ≤ x7_1
   rotate_left
   · rw [if_neg c23] at H
     exact absurd H (by simp)
   rw [if_pos c23] at H
   have c23b0 : decide (0 ≤ x7_1) = true := decide_eq_true c23
   clear c23
   replace H := Option.bind_eq_some_iff.mp H
   obtain ⟨⟨t467, t468⟩, A240, H⟩ := H
   (try dsimp only at H)
   have A24 := am A240
   clear A240
   have c25b0 := eq_true (of_decide_eq_true q3 : 0 ≤ x7_1)
   by_cases c26 : x7_1 ≤ (wrap64 (x7_1 + 1))
   rotate_left
   · rw [if_neg c26] at H
     exact absurd H (by simp)
   rw [if_pos c26] at H
   have c26b0 := eq_true c26
   have c26b1 : decide (x7_1 ≤ (wrap64 (x7_1 + 1))) = true := decide_eq_true c26
   by_cases c27 : (wrap64 (x7_1 + 1)) ≤ (t442.length : Int)
   rotate_left
   · rw [if_neg c27] at H
     exact absurd H (by simp)
   rw [if_pos c27] at H
   have c27b0 := eq_true c27
   have c27b1 : decide ((wrap64 (x7_1 + 1)) ≤ (t442.length : Int)) = true := decide_eq_true c27
   obtain ⟨y469, hy469⟩ : ∃ y_ : List (S50), y_ = ((t442.take ((wrap64 (x7_1 + 1)) : Int).toNat).drop (x7_1 : Int).toNat) := ⟨_, rfl⟩
   replace H : ((impl_OnceEach.f k1 x446000_1 x446001_1 x446002_1 y469).bind fun bt473 => ((impl_OnceEach.f k1 bt473.1 bt473.2.1 bt473.2.2.1 ((t442.take ((wrap64 (x7_1 + 1)) : Int).toNat).drop (x7_1 : Int).toNat)).bind fun bt486 => ((impl_SessionsOk.f k1 bt473.1 bt473.2.1 bt473.2.2.1).bind fun t495 => (if t495 = true then (if (bt473.2.2.2.length : Int) = 1 then (if (bt486.2.2.2.length : Int) = 1 then (if 0 < (bt473.2.2.2.length : Int) then (if x7_1 < (t452.length : Int) then (if (rdOf ByteArray.empty bt473.2.2.2 0).toList = (rdOf ByteArray.empty t452 x7_1).toList then (if t467 = 1 then (laws_FnOnce.j1 k1 t442 t452 x7_1 t467 bt473.2.2.2 bt486.2.2.2 ((rdOf ByteArray.empty bt473.2.2.2 0).toList != t468.toList) t447 t448 t449 ((rd_T50 t442 x7_1).f0) ((rd_T50 t442 x7_1).f1) ((rd_T50 t442 x7_1).f2) bt473.1 bt473.2.1 bt473.2.2.1 bt486.1 bt486.2.1 bt486.2.2.1) else (laws_FnOnce.j1 k1 t442 t452 x7_1 t467 bt473.2.2.2 bt486.2.2.2 false t447 t448 t449 ((rd_T50 t442 x7_1).f0) ((rd_T50 t442 x7_1).f1) ((rd_T50 t442 x7_1).f2) bt473.1 bt473.2.1 bt473.2.2.1 bt486.1 bt486.2.1 bt486.2.2.1)) else (laws_FnOnce.j1 k1 t442 t452 x7_1 t467 bt473.2.2.2 bt486.2.2.2 true t447 t448 t449 ((rd_T50 t442 x7_1).f0) ((rd_T50 t442 x7_1).f1) ((rd_T50 t442 x7_1).f2) bt473.1 bt473.2.1 bt473.2.2.1 bt486.1 bt486.2.1 bt486.2.2.1)) else (none)) else (none)) else (laws_FnOnce.j1 k1 t442 t452 x7_1 t467 bt473.2.2.2 bt486.2.2.2 true t447 t448 t449 ((rd_T50 t442 x7_1).f0) ((rd_T50 t442 x7_1).f1) ((rd_T50 t442 x7_1).f2) bt473.1 bt473.2.1 bt473.2.2.1 bt486.1 bt486.2.1 bt486.2.2.1)) else (laws_FnOnce.j1 k1 t442 t452 x7_1 t467 bt473.2.2.2 bt486.2.2.2 true t447 t448 t449 ((rd_T50 t442 x7_1).f0) ((rd_T50 t442 x7_1).f1) ((rd_T50 t442 x7_1).f2) bt473.1 bt473.2.1 bt473.2.2.1 bt486.1 bt486.2.1 bt486.2.2.1)) else (laws_FnOnce.j1 k1 t442 t452 x7_1 t467 bt473.2.2.2 bt486.2.2.2 true t447 t448 t449 ((rd_T50 t442 x7_1).f0) ((rd_T50 t442 x7_1).f1) ((rd_T50 t442 x7_1).f2) bt473.1 bt473.2.1 bt473.2.2.1 bt486.1 bt486.2.1 bt486.2.2.1))))) = some r := by first | (rw [hy469]; with_reducible exact H) | (have H2_ := (Option.bind_some _ _).symm.trans H; rw [hy469]; with_reducible exact H2_) | (have H2_ := (Option.bind_some _ _).symm.trans H; with_reducible exact H2_) | with_reducible exact H | (rw [hy469]; exact H) | exact H
   have Ny469 := am hy469
   clear hy469
   replace H := Option.bind_eq_some_iff.mp H
   obtain ⟨⟨t473, t474, t475, t478⟩, A280, H⟩ := H
   (try dsimp only at H)
   have A28 := am A280
   clear A280
   have c29b0 := eq_true (of_decide_eq_true q3 : 0 ≤ x7_1)
   have c30b0 := eq_true (of_decide_eq_true q3 : x7_1 ≤ (wrap64 (x7_1 + 1)))
   have c31b0 := eq_true (of_decide_eq_true q3 : (wrap64 (x7_1 + 1)) ≤ (t442.length : Int))
   obtain ⟨y482, hy482⟩ : ∃ y_ : List (S50), y_ = ((t442.take ((wrap64 (x7_1 + 1)) : Int).toNat).drop (x7_1 : Int).toNat) := ⟨_, rfl⟩
   replace H : ((impl_OnceEach.f k1 t473 t474 t475 y482).bind fun bt486 => ((impl_SessionsOk.f k1 t473 t474 t475).bind fun t495 => (if t495 = true then (if (t478.length : Int) = 1 then (if (bt486.2.2.2.length : Int) = 1 then (if 0 < (t478.length : Int) then (if x7_1 < (t452.length : Int) then (if (rdOf ByteArray.empty t478 0).toList = (rdOf ByteArray.empty t452 x7_1).toList then (if t467 = 1 then (laws_FnOnce.j1 k1 t442 t452 x7_1 t467 t478 bt486.2.2.2 ((rdOf ByteArray.empty t478 0).toList != t468.toList) t447 t448 t449 ((rd_T50 t442 x7_1).f0) ((rd_T50 t442 x7_1).f1) ((rd_T50 t442 x7_1).f2) t473 t474 t475 bt486.1 bt486.2.1 bt486.2.2.1) else (laws_FnOnce.j1 k1 t442 t452 x7_1 t467 t478 bt486.2.2.2 false t447 t448 t449 ((rd_T50 t442 x7_1).f0) ((rd_T50 t442 x7_1).f1) ((rd_T50 t442 x7_1).f2) t473 t474 t475 bt486.1 bt486.2.1 bt486.2.2.1)) else (laws_FnOnce.j1 k1 t442 t452 x7_1 t467 t478 bt486.2.2.2 true t447 t448 t449 ((rd_T50 t442 x7_1).f0) ((rd_T50 t442 x7_1).f1) ((rd_T50 t442 x7_1).f2) t473 t474 t475 bt486.1 bt486.2.1 bt486.2.2.1)) else (none)) else (none)) else (laws_FnOnce.j1 k1 t442 t452 x7_1 t467 t478 bt486.2.2.2 true t447 t448 t449 ((rd_T50 t442 x7_1).f0) ((rd_T50 t442 x7_1).f1) ((rd_T50 t442 x7_1).f2) t473 t474 t475 bt486.1 bt486.2.1 bt486.2.2.1)) else (laws_FnOnce.j1 k1 t442 t452 x7_1 t467 t478 bt486.2.2.2 true t447 t448 t449 ((rd_T50 t442 x7_1).f0) ((rd_T50 t442 x7_1).f1) ((rd_T50 t442 x7_1).f2) t473 t474 t475 bt486.1 bt486.2.1 bt486.2.2.1)) else (laws_FnOnce.j1 k1 t442 t452 x7_1 t467 t478 bt486.2.2.2 true t447 t448 t449 ((rd_T50 t442 x7_1).f0) ((rd_T50 t442 x7_1).f1) ((rd_T50 t442 x7_1).f2) t473 t474 t475 bt486.1 bt486.2.1 bt486.2.2.1)))) = some r := by first | (rw [hy482]; with_reducible exact H) | (have H2_ := (Option.bind_some _ _).symm.trans H; rw [hy482]; with_reducible exact H2_) | (have H2_ := (Option.bind_some _ _).symm.trans H; with_reducible exact H2_) | with_reducible exact H | (rw [hy482]; exact H) | exact H
   have Ny482 := am hy482
   clear hy482
   replace H := Option.bind_eq_some_iff.mp H
   obtain ⟨⟨t486, t487, t488, t491⟩, A320, H⟩ := H
   (try dsimp only at H)
   have A32 := am A320
   clear A320
   have HC33 := am H
   clear H
   have p465 : 0 ≤ (x7_1 : Int) := of_decide_eq_true q3
   have q465 : x7_1 < (t442.length : Int) := of_decide_eq_true q3
   obtain ⟨ad465, e465, hx465_0, hx465_1, hx465_2⟩ := at_T50 (Kd.R_reads' HO_4.out).2.2 x7_1 p465 q465
   cases e465
   replace p465 := eq_true p465
   replace q465 := eq_true q465
   try go_wp2_with (first | ((with_reducible refine gate_dst (N := 8) rfl ?_); (try (refine gate_guard (by rfl) ?_; dsimp only)); refine box_event ?hg (N := 8) ?hd (cs := #[.int .i64 0, .int .i64 0, .string (⟨#[]⟩ : ByteArray)]) (t := 50) ?hr ?_; (case hd => rfl); (case hg => rfl); (case hr => first | (go_simp; done) | (go_simp; rfl)); intro gb466 hg w34 hbox hb; replace HO_4 := am (Kd.R_below (Kd.R_elderB u13_8 gb466 (Nat.le_of_eq hg.symm)) hb); replace HO_6 := am (Kd.R_below q10 hb); replace HO_446002 := am (Kd.R_below u13_4 hb); replace HO_456002 := am (Kd.R_below u13_5 hb); have BK466 := am (hbox); have GW466 := am ((by rw [hg]; exact (below_size q0) : w.heap.size ≤ gb466)); have GE466 := am ((by rw [hg]; exact (below_size q0) : w.heap.size ≤ gb466)); replace HB := am (below_step q0 hb); have NB445_466 := am ((by rw [hg]; exact Nat.ne_of_lt (blk_lt (g := gb445) (o := .cells #[.int .i64 x446000_1, .int .i64 x446001_1, u446002] 30 (0, 0)) u13_1) : gb445 ≠ gb466)); have NB466_445 := am ((by rw [hg]; exact Nat.ne_of_gt (blk_lt (g := gb445) (o := .cells #[.int .i64 x446000_1, .int .i64 x446001_1, u446002] 30 (0, 0)) u13_1) : gb466 ≠ gb445)); replace BK445 := am (blk_below (g := gb445) (o := .cells #[.int .i64 x446000_1, .int .i64 x446001_1, u446002] 30 (0, 0)) u13_1 hb); have NB455_466 := am ((by rw [hg]; exact Nat.ne_of_lt (blk_lt (g := gb455) (o := .cells #[.int .i64 t447, .int .i64 t448, .slice Ao20 t449.length co20] 30 (0, 0)) u13_2) : gb455 ≠ gb466)); have NB466_455 := am ((by rw [hg]; exact Nat.ne_of_gt (blk_lt (g := gb455) (o := .cells #[.int .i64 t447, .int .i64 t448, .slice Ao20 t449.length co20] 30 (0, 0)) u13_2) : gb466 ≠ gb455)); replace BK455 := am (blk_below (g := gb455) (o := .cells #[.int .i64 t447, .int .i64 t448, .slice Ao20 t449.length co20] 30 (0, 0)) u13_2 hb); clear hb hbox hg; have hnb35 := NB466_445.out; have hnc35 := NB445_466.out; have hnb36 := NB466_455.out; have hnc36 := NB455_466.out; obtain ⟨hcz37_0, hcz37_1, hcz37_2, hfz37_0, hfz37_1, hfz37_2⟩ := bc3f w34 BK466.out; have hnb38 := NB445_455.out; have hnc38 := NB455_445.out; obtain ⟨hcz39_0, hcz39_1, hcz39_2, hfz39_0, hfz39_1, hfz39_2⟩ := bc3f w34 BK445.out; obtain ⟨Ao40, co40, eo40⟩ := Kd.R_slice HO_446002.out; subst eo40) | ((with_reducible refine gate_callee (f := 23) rfl ?_); refine goesL_ (some 56) rfl rfl Tryd.func23 kr rfl #[.agg #[.int .i64 x446000_1, .int .i64 x446001_1, .slice Ao40 x446002_1.length co40], .int .i64 ((rd_T50 t442 x7_1).f0), .int .i64 ((rd_T50 t442 x7_1).f1)] rfl q1 ?_; (with_reducible refine (impl_Look.calls k1 x446000_1 x446001_1 _ _ x446002_1 ((rd_T50 t442 x7_1).f0) ((rd_T50 t442 x7_1).f1) t467 t468 _ ?side1 ?side2 A24.out).mono ?_); (case side1 => exact (by refine (Kd.R_reads' (e := 54) (base := w.heap.size) (ok := fun k_ => some k_ ≠ (.slice Ao20 t449.length co20 : Value).ownBlock) (n := x446002_1.length) (c := co40) ?_).2.2; exact u13_31)); (case side2 => exact (Kd.R_reads' HO_446002.out).2.1); rintro e w41 ⟨rfl, hb⟩; refine ⟨_, rfl, ?_⟩; replace HO_4 := am (Kd.R_below (by (with_reducible repeat (first | apply Kd.R_alloc | apply Kd.R_drewN | apply Kd.R_drew)); exact (Kd.R_mono (Kd.R_far (p := ⟨gb466, 2, none⟩) (Kd.R_far (p := ⟨gb466, 1, none⟩) (Kd.R_far (p := ⟨gb466, 0, none⟩) (Kd.R_mono HO_4.out (fun k_ hk => (⟨hk, hk.2⟩ : _ ∧ k_ ≠ gb466))) (fun _ hk => hk.2) (.int .i64 ((rd_T50 t442 x7_1).f0))) (fun _ hk => hk.2) (.int .i64 ((rd_T50 t442 x7_1).f1))) (fun _ hk => hk.2) (.string ((rd_T50 t442 x7_1).f2))) (fun _ h_ => h_.1))) hb); replace HO_6 := am (Kd.R_below (by (with_reducible repeat (first | apply Kd.R_alloc | apply Kd.R_drewN | apply Kd.R_drew)); exact (Kd.R_mono (Kd.R_far (p := ⟨gb466, 2, none⟩) (Kd.R_far (p := ⟨gb466, 1, none⟩) (Kd.R_far (p := ⟨gb466, 0, none⟩) (Kd.R_types HO_6.out BK466.out (by decide)) (fun _ hk => hk.2) (.int .i64 ((rd_T50 t442 x7_1).f0))) (fun _ hk => hk.2) (.int .i64 ((rd_T50 t442 x7_1).f1))) (fun _ hk => hk.2) (.string ((rd_T50 t442 x7_1).f2))) (fun _ h_ => h_.1))) hb); replace HO_446002 := am (Kd.R_below u13_31 hb); replace HO_456002 := am (Kd.R_below (by (with_reducible repeat (first | apply Kd.R_alloc | apply Kd.R_drewN | apply Kd.R_drew)); exact (Kd.R_mono (Kd.R_far (p := ⟨gb466, 2, none⟩) (Kd.R_far (p := ⟨gb466, 1, none⟩) (Kd.R_far (p := ⟨gb466, 0, none⟩) (Kd.R_types HO_456002.out BK466.out (by decide)) (fun _ hk => hk.2) (.int .i64 ((rd_T50 t442 x7_1).f0))) (fun _ hk => hk.2) (.int .i64 ((rd_T50 t442 x7_1).f1))) (fun _ hk => hk.2) (.string ((rd_T50 t442 x7_1).f2))) (fun _ h_ => h_.1))) hb); replace BK445 := am (blk_below (g := gb445) (o := .cells #[.int .i64 x446000_1, .int .i64 x446001_1, .slice Ao40 x446002_1.length co40] 30 (0, 0)) (by (with_reducible repeat (first | refine blk_drewN ?_ _ | refine blk_drew ?_ | refine blk_alloc ?_ _)); refine blk_far ?_ NB445_466.out _; (with_reducible repeat (first | refine blk_drewN ?_ _ | refine blk_drew ?_ | refine blk_alloc ?_ _)); refine blk_far ?_ NB445_466.out _; (with_reducible repeat (first | refine blk_drewN ?_ _ | refine blk_drew ?_ | refine blk_alloc ?_ _)); refine blk_far ?_ NB445_466.out _; (with_reducible repeat (first | refine blk_drewN ?_ _ | refine blk_drew ?_ | refine blk_alloc ?_ _)); exact BK445.out) hb); replace BK455 := am (blk_below (g := gb455) (o := .cells #[.int .i64 t447, .int .i64 t448, .slice Ao20 t449.length co20] 30 (0, 0)) (by (with_reducible repeat (first | refine blk_drewN ?_ _ | refine blk_drew ?_ | refine blk_alloc ?_ _)); refine blk_far ?_ NB455_466.out _; (with_reducible repeat (first | refine blk_drewN ?_ _ | refine blk_drew ?_ | refine blk_alloc ?_ _)); refine blk_far ?_ NB455_466.out _; (with_reducible repeat (first | refine blk_drewN ?_ _ | refine blk_drew ?_ | refine blk_alloc ?_ _)); refine blk_far ?_ NB455_466.out _; (with_reducible repeat (first | refine blk_drewN ?_ _ | refine blk_drew ?_ | refine blk_alloc ?_ _)); exact BK455.out) hb); replace BK466 := am (blk_below (g := gb466) (o := .cells #[.int .i64 ((rd_T50 t442 x7_1).f0), .int .i64 ((rd_T50 t442 x7_1).f1), .string ((rd_T50 t442 x7_1).f2)] 50 (0, 0)) (by (with_reducible repeat (first | refine blk_drewN ?_ _ | refine blk_drew ?_ | refine blk_alloc ?_ _)); refine blk_put (cs := #[.int .i64 ((rd_T50 t442 x7_1).f0), .int .i64 ((rd_T50 t442 x7_1).f1), .string (⟨#[]⟩ : ByteArray)]) ?_ 2 _ rfl; (with_reducible repeat (first | refine blk_drewN ?_ _ | refine blk_drew ?_ | refine blk_alloc ?_ _)); refine blk_put (cs := #[.int .i64 ((rd_T50 t442 x7_1).f0), .int .i64 0, .string (⟨#[]⟩ : ByteArray)]) ?_ 1 _ rfl; (with_reducible repeat (first | refine blk_drewN ?_ _ | refine blk_drew ?_ | refine blk_alloc ?_ _)); refine blk_put (cs := #[.int .i64 0, .int .i64 0, .string (⟨#[]⟩ : ByteArray)]) ?_ 0 _ rfl; (with_reducible repeat (first | refine blk_drewN ?_ _ | refine blk_drew ?_ | refine blk_alloc ?_ _)); exact BK466.out) hb); replace HB := am (below_step q0 hb); (try clear hb); (try clear hb2); (try clear hk); (try clear hi)))
   replace HO_4 := am (Kd.R_drew HO_4.out)
   replace HO_6 := am (Kd.R_drew HO_6.out)
   replace HO_446002 := am (Kd.R_drew HO_446002.out)
   replace HO_456002 := am (Kd.R_drew HO_456002.out)
   replace BK445 := am (blk_drew BK445.out)
   replace BK455 := am (blk_drew BK455.out)
   replace BK466 := am (blk_drew BK466.out)
   replace HB := am (below_drew1 HB.out)
   have q43 : ((wrap64 (x7_1 + 1)) : Int) ≤ ((t442.length : Int) : Int) := of_decide_eq_true q3
   obtain ⟨i043, hi043, _, hsz43, _⟩ := info_parts info50
   have hroom43 : t442.length ≤ co15 := (Kd.R_reads' HO_4.out).2.1
   have hC43 : Kd.C k50 _ (some ad465) t442.length t442 := (Kd.R_reads' HO_4.out).2.2
   have ql43 : (x7_1 : Int) ≤ ((wrap64 (x7_1 + 1)) : Int) := of_decide_eq_true q3
   have q043 : (0 : Int) ≤ (x7_1 : Int) := of_decide_eq_true q3
   have hcut43 := cut_mid (P := Tryd.prog) 35 50 .i64 .i64 Tryd.underlying35 hi043 3 hsz43 (some ad465) t442.length co15 x7_1 (wrap64 (x7_1 + 1)) q043 ql43 q43 hroom43
   have hr43 := Kd.C_mid (lo := (x7_1 : Int).toNat) (hi := ((wrap64 (x7_1 + 1)) : Int).toNat) (c := co15) hC43 (by omega) (by omega) hroom43
   obtain ⟨A43, hA43⟩ : ∃ A1, A1 = (if co15 = (x7_1 : Int).toNat then (some ad465) else ((some ad465) : Option Addr).map (·.add ((x7_1 : Int).toNat * 3))) := ⟨_, rfl⟩
   obtain ⟨c43, hc43⟩ : ∃ c1, c1 = co15 - (x7_1 : Int).toNat := ⟨_, rfl⟩
   have hy43 : y469.length = ((wrap64 (x7_1 + 1)) : Int).toNat - (x7_1 : Int).toNat := (by rw [Ny469.out, List.length_drop, List.length_take] <;> omega)
   rw [show ((t442).take ((wrap64 (x7_1 + 1)) : Int).toNat).drop (x7_1 : Int).toNat = y469 from Ny469.out.symm] at hr43
   replace hr43 : Kd.C k50 _ A43 y469.length y469 := (by rw [hA43]; exact hr43)
   rw [← hy43, ← hA43, ← hc43] at hcut43
   have HR472 := am hr43
   have HC472 := am (show y469.length ≤ c43 from by rw [hy43, hc43]; exact Nat.sub_le_sub_right (Nat.le_trans (by omega) hroom43) _)
   clear hr43 hC43 hroom43 hi043 hsz43 hc43
   have KY43 := am hy43
   have KA43 := am hA43
   clear hy43 hA43
   have KL43 := am (show ((wrap64 (x7_1 + 1)) : Int).toNat ≤ t442.length from by omega)
   have KM43 := am (show (x7_1 : Int).toNat ≤ ((wrap64 (x7_1 + 1)) : Int).toNat from by omega)
   replace q43 := eq_true q43
   refine start_ (n := 13) (S := fun w' => w'.cell? ⟨gb445, 0, none⟩ = some (.int .i64 x446000_1) ∧ w'.cell? ⟨gb445, 1, none⟩ = some (.int .i64 x446001_1) ∧ w'.cell? ⟨gb445, 2, none⟩ = some (.slice Ao40 x446002_1.length co40)) (ds := []) b0_13 kr rfl rfl ⟨(blk_cell BK445.out 0).trans rfl, (blk_cell BK445.out 1).trans rfl, (blk_cell BK445.out 2).trans rfl⟩ (fun hHeld => ?_); refine with_tabW laws_FnOnce.tab14 laws_FnOnce.bits14 (fun HT_ HW_ => ?_)
   generalize w41.drew = w42 at HO_4 HO_6 HO_446002 HO_456002 BK445 BK455 BK466 HB HR472 hHeld ⊢
   refine pV 1 61 #[false, true, false, false, false, false, false, false, false, false, false, false, false] ?_
   refine pV 2 62 #[false, true, true, false, false, false, false, false, false, false, false, false, false] ?_
   refine pV 3 63 #[false, true, true, true, false, false, false, false, false, false, false, false, false] ?_
   refine pV 4 64 #[false, true, true, true, true, false, false, false, false, false, false, false, false] ?_
   refine pV 5 65 #[false, true, true, true, true, true, false, false, false, false, false, false, false] ?_
   refine tV 0 60 (bt 6 13) ?_
   refine join_ (σ := Value × Value × Nat) 2 b11_13 (fun s_ => [(66, .tuple #[.agg #[.int .i64 t473, .int .i64 t474, s_.1], s_.2.1]), (11, .pointer (some ⟨s_.2.2, 0, none⟩)), (59, .tuple #[.agg #[.int .i64 t473, .int .i64 t474, s_.1], s_.2.1]), (67, .agg #[.int .i64 t473, .int .i64 t474, s_.1]), (68, s_.2.1)]) (fun s_ w' => (w'.cell? ⟨gb445, 0, none⟩ = some (.int .i64 x446000_1) ∧ w'.cell? ⟨gb445, 1, none⟩ = some (.int .i64 x446001_1) ∧ w'.cell? ⟨gb445, 2, none⟩ = some (.slice Ao40 x446002_1.length co40)) ∧ (Kd.R k54 54 w' w.heap.size (fun k_ => some k_ ≠ (.slice Ao40 x446002_1.length co40 : Value).ownBlock ∧ some k_ ≠ (.slice Ao20 t449.length co20 : Value).ownBlock) s_.1 t475) ∧ (Kd.R Kd.string 9 w' w.heap.size (fun k_ => some k_ ≠ (.slice Ao21 t452.length co21 : Value).ownBlock) s_.2.1 t478) ∧ (Kd.R k50 50 w' w.heap.size (fun k_ => k_ ≠ gb466) (.slice (some ad465) t442.length co15) t442) ∧ (Kd.R k54 54 w' w.heap.size (fun k_ => some k_ ≠ (s_.1 : Value).ownBlock ∧ some k_ ≠ (.slice Ao20 t449.length co20 : Value).ownBlock) (.slice Ao40 x446002_1.length co40) x446002_1) ∧ (Kd.R k54 54 w' w.heap.size (fun k_ => some k_ ≠ (s_.1 : Value).ownBlock ∧ some k_ ≠ (.slice Ao40 x446002_1.length co40 : Value).ownBlock) (.slice Ao20 t449.length co20) t449) ∧ (Kd.R Kd.string 9 w' w.heap.size (fun k_ => some k_ ≠ (s_.2.1 : Value).ownBlock) (.slice Ao21 t452.length co21) t452) ∧ (w'.heap[gb445]? = some (.cells #[.int .i64 x446000_1, .int .i64 x446001_1, .slice Ao40 x446002_1.length co40] 30 (0, 0))) ∧ (w'.heap[gb455]? = some (.cells #[.int .i64 t447, .int .i64 t448, .slice Ao20 t449.length co20] 30 (0, 0))) ∧ (w'.heap[gb466]? = some (.cells #[.int .i64 ((rd_T50 t442 x7_1).f0), .int .i64 ((rd_T50 t442 x7_1).f1), .string ((rd_T50 t442 x7_1).f2)] 50 (0, 0))) ∧ (w'.heap[s_.2.2]? = some (.cells #[.int .i64 0, .int .i64 0, .slice none 0 0] 30 (0, 0))) ∧ (w.heap.size ≤ s_.2.2) ∧ (w.heap.size ≤ s_.2.2) ∧ (gb445 ≠ s_.2.2) ∧ (s_.2.2 ≠ gb445) ∧ (gb455 ≠ s_.2.2) ∧ (s_.2.2 ≠ gb455) ∧ (gb466 ≠ s_.2.2) ∧ (s_.2.2 ≠ gb466) ∧ (Below w.heap.size w w')) ?_ ?_
   rotate_left
   · intro hCont
     refine two_ (i := 6) (j := 10) (Ni := some 66) (Nj := some 11) b7_13 #[true, true, true, true, true, true, false, false, false, false, true, false, false] rfl rfl rfl rfl (two_of HT_.out kr) (by decide) (by decide) (fun K hK => ?_) (fun K hK => ?_)
     · skip
       refine goes_ Tryd.func11 kr rfl #[.agg #[.int .i64 x446000_1, .int .i64 x446001_1, .slice Ao40 x446002_1.length co40], .slice A43 y469.length c43] (by rfl) rfl rfl q1 ?_
       with_reducible refine (impl_OnceEach.calls k1 x446000_1 x446001_1 _ _ x446002_1 _ _ y469 t473 t474 t475 t478 _ ?side1 ?side2 ?side3 ?side4 A28.out).mono ?_
       (case side1 => exact u13_38)
       (case side2 => exact (Kd.R_reads' HO_446002.out).2.1)
       (case side3 => exact u13_47)
       (case side4 => exact HC472.out)
       rintro e w44 ⟨v476, v479, rfl, ho0, ho1, hb⟩
       refine ⟨_, rfl, ?_⟩
       replace HO_4 := am (Kd.R_below u13_8 hb)
       have HO477 := am (Kd.R_lower (Kd.R_new' (Kd.R_new' ho0 (Kd.R_lt u13_4)) (Kd.R_lt u13_5)) (below_size q0))
       replace HO_446002 := am (Kd.R_elder' u13_4 (Kd.R_base ho0) hb)
       replace HO_456002 := am (Kd.R_elder' u13_5 (Kd.R_base ho0) hb)
       have HO480 := am (Kd.R_lower (Kd.R_new' ho1 (Kd.R_lt q10)) (below_size q0))
       replace HO_6 := am (Kd.R_elder' q10 (Kd.R_base ho1) hb)
       replace BK445 := am (blk_below (g := gb445) (o := .cells #[.int .i64 x446000_1, .int .i64 x446001_1, .slice Ao40 x446002_1.length co40] 30 (0, 0)) u13_1 hb)
       replace BK455 := am (blk_below (g := gb455) (o := .cells #[.int .i64 t447, .int .i64 t448, .slice Ao20 t449.length co20] 30 (0, 0)) u13_2 hb)
       replace BK466 := am (blk_below (g := gb466) (o := .cells #[.int .i64 ((rd_T50 t442 x7_1).f0), .int .i64 ((rd_T50 t442 x7_1).f1), .string ((rd_T50 t442 x7_1).f2)] 50 (0, 0)) u13_3 hb)
       replace HR472 := am (Kd.C_below u13_21 hb)
       replace HB := am (below_step q0 hb)
       (try clear hb)
       (try clear hb2)
       (try clear hk)
       (try clear hi)
       (try clear ho0)
       (try clear ho1)
       refine hK.out _ _ ⟨(blk_cell BK445.out 0).trans rfl, (blk_cell BK445.out 1).trans rfl, (blk_cell BK445.out 2).trans rfl⟩ (fun hHeld => ?_)
       clear hK K
       refine norm_ (a' := ?_) ?_ ?_
       rotate_left
       · show Act.put _ (some 66) _ = _
         simp only [Act.put, la, lb, lc, i64_w, i32_w]
         rfl
       refine pV 7 59 (bt 8 13) ?_
       refine pV 8 67 (bt 9 13) ?_
       refine pV 9 68 (bt 10 13) ?_
       refine one_ (i := 10) (N := some 11) b11_13 rfl rfl (one_of HT_.out kr) (by decide) (fun K hK => ?_)
       refine box_step ?hg (N := 11) ?hd (cs := #[.int .i64 0, .int .i64 0, .slice none 0 0]) (t := 30) ?hr ?_; (case hd => rfl); (case hg => rfl); (case hr => first | (go_simp; done) | (go_simp; rfl))
       intro gb481 hg w45 hbox hb
       replace HO_4 := am (Kd.R_below u13_8 hb)
       replace HO_6 := am (Kd.R_below q10 hb)
       replace HO_446002 := am (Kd.R_below u13_4 hb)
       replace HO_456002 := am (Kd.R_below u13_5 hb)
       replace HO477 := am (Kd.R_below u13_13 hb)
       replace HO480 := am (Kd.R_below u13_14 hb)
       replace HR472 := am (Kd.C_below u13_21 hb)
       have BK481 := am (hbox)
       have GW481 := am ((by rw [hg]; exact (below_size q0) : w.heap.size ≤ gb481))
       have GE481 := am ((by rw [hg]; exact (below_size q0) : w.heap.size ≤ gb481))
       replace HB := am (below_step q0 hb)
       have NB445_481 := am ((by rw [hg]; exact Nat.ne_of_lt (blk_lt (g := gb445) (o := .cells #[.int .i64 x446000_1, .int .i64 x446001_1, .slice Ao40 x446002_1.length co40] 30 (0, 0)) u13_1) : gb445 ≠ gb481))
       have NB481_445 := am ((by rw [hg]; exact Nat.ne_of_gt (blk_lt (g := gb445) (o := .cells #[.int .i64 x446000_1, .int .i64 x446001_1, .slice Ao40 x446002_1.length co40] 30 (0, 0)) u13_1) : gb481 ≠ gb445))
       replace BK445 := am (blk_below (g := gb445) (o := .cells #[.int .i64 x446000_1, .int .i64 x446001_1, .slice Ao40 x446002_1.length co40] 30 (0, 0)) u13_1 hb)
       have NB455_481 := am ((by rw [hg]; exact Nat.ne_of_lt (blk_lt (g := gb455) (o := .cells #[.int .i64 t447, .int .i64 t448, .slice Ao20 t449.length co20] 30 (0, 0)) u13_2) : gb455 ≠ gb481))
       have NB481_455 := am ((by rw [hg]; exact Nat.ne_of_gt (blk_lt (g := gb455) (o := .cells #[.int .i64 t447, .int .i64 t448, .slice Ao20 t449.length co20] 30 (0, 0)) u13_2) : gb481 ≠ gb455))
       replace BK455 := am (blk_below (g := gb455) (o := .cells #[.int .i64 t447, .int .i64 t448, .slice Ao20 t449.length co20] 30 (0, 0)) u13_2 hb)
       have NB466_481 := am ((by rw [hg]; exact Nat.ne_of_lt (blk_lt (g := gb466) (o := .cells #[.int .i64 ((rd_T50 t442 x7_1).f0), .int .i64 ((rd_T50 t442 x7_1).f1), .string ((rd_T50 t442 x7_1).f2)] 50 (0, 0)) u13_3) : gb466 ≠ gb481))
       have NB481_466 := am ((by rw [hg]; exact Nat.ne_of_gt (blk_lt (g := gb466) (o := .cells #[.int .i64 ((rd_T50 t442 x7_1).f0), .int .i64 ((rd_T50 t442 x7_1).f1), .string ((rd_T50 t442 x7_1).f2)] 50 (0, 0)) u13_3) : gb481 ≠ gb466))
       replace BK466 := am (blk_below (g := gb466) (o := .cells #[.int .i64 ((rd_T50 t442 x7_1).f0), .int .i64 ((rd_T50 t442 x7_1).f1), .string ((rd_T50 t442 x7_1).f2)] 50 (0, 0)) u13_3 hb)
       clear hb hbox hg
       refine hK.out _ _ ⟨(blk_cell BK445.out 0).trans rfl, (blk_cell BK445.out 1).trans rfl, (blk_cell BK445.out 2).trans rfl⟩ (fun hHeld => ?_)
       clear hK K
       refine norm_ (a' := ?_) ?_ ?_
       rotate_left
       · show Act.put _ (some 11) _ = _
         simp only [Act.put, la, lb, lc, i64_w, i32_w]
         rfl
       exact norm_ u13_40 (hCont (v476, v479, gb481) _ ⟨hHeld, u13_51, u13_54, u13_55, u13_49, u13_50, u13_56, u13_1, u13_2, u13_3, u13_6, GW481.out, GE481.out, NB445_481.out, NB481_445.out, NB455_481.out, NB481_455.out, NB466_481.out, NB481_466.out, q0⟩)
     skip
     refine box_step ?hg (N := 11) ?hd (cs := #[.int .i64 0, .int .i64 0, .slice none 0 0]) (t := 30) ?hr ?_; (case hd => rfl); (case hg => rfl); (case hr => first | (go_simp; done) | (go_simp; rfl))
     intro gb481 hg w44 hbox hb
     replace HO_4 := am (Kd.R_below u13_8 hb)
     replace HO_6 := am (Kd.R_below q10 hb)
     replace HO_446002 := am (Kd.R_below u13_4 hb)
     replace HO_456002 := am (Kd.R_below u13_5 hb)
     replace HR472 := am (Kd.C_below u13_21 hb)
     have BK481 := am (hbox)
     have GW481 := am ((by rw [hg]; exact (below_size q0) : w.heap.size ≤ gb481))
     have GE481 := am ((by rw [hg]; exact (below_size q0) : w.heap.size ≤ gb481))
     replace HB := am (below_step q0 hb)
     have NB445_481 := am ((by rw [hg]; exact Nat.ne_of_lt (blk_lt (g := gb445) (o := .cells #[.int .i64 x446000_1, .int .i64 x446001_1, .slice Ao40 x446002_1.length co40] 30 (0, 0)) u13_1) : gb445 ≠ gb481))
     have NB481_445 := am ((by rw [hg]; exact Nat.ne_of_gt (blk_lt (g := gb445) (o := .cells #[.int .i64 x446000_1, .int .i64 x446001_1, .slice Ao40 x446002_1.length co40] 30 (0, 0)) u13_1) : gb481 ≠ gb445))
     replace BK445 := am (blk_below (g := gb445) (o := .cells #[.int .i64 x446000_1, .int .i64 x446001_1, .slice Ao40 x446002_1.length co40] 30 (0, 0)) u13_1 hb)
     have NB455_481 := am ((by rw [hg]; exact Nat.ne_of_lt (blk_lt (g := gb455) (o := .cells #[.int .i64 t447, .int .i64 t448, .slice Ao20 t449.length co20] 30 (0, 0)) u13_2) : gb455 ≠ gb481))
     have NB481_455 := am ((by rw [hg]; exact Nat.ne_of_gt (blk_lt (g := gb455) (o := .cells #[.int .i64 t447, .int .i64 t448, .slice Ao20 t449.length co20] 30 (0, 0)) u13_2) : gb481 ≠ gb455))
     replace BK455 := am (blk_below (g := gb455) (o := .cells #[.int .i64 t447, .int .i64 t448, .slice Ao20 t449.length co20] 30 (0, 0)) u13_2 hb)
     have NB466_481 := am ((by rw [hg]; exact Nat.ne_of_lt (blk_lt (g := gb466) (o := .cells #[.int .i64 ((rd_T50 t442 x7_1).f0), .int .i64 ((rd_T50 t442 x7_1).f1), .string ((rd_T50 t442 x7_1).f2)] 50 (0, 0)) u13_3) : gb466 ≠ gb481))
     have NB481_466 := am ((by rw [hg]; exact Nat.ne_of_gt (blk_lt (g := gb466) (o := .cells #[.int .i64 ((rd_T50 t442 x7_1).f0), .int .i64 ((rd_T50 t442 x7_1).f1), .string ((rd_T50 t442 x7_1).f2)] 50 (0, 0)) u13_3) : gb481 ≠ gb466))
     replace BK466 := am (blk_below (g := gb466) (o := .cells #[.int .i64 ((rd_T50 t442 x7_1).f0), .int .i64 ((rd_T50 t442 x7_1).f1), .string ((rd_T50 t442 x7_1).f2)] 50 (0, 0)) u13_3 hb)
     clear hb hbox hg
     refine hK.out _ _ ⟨(blk_cell BK445.out 0).trans rfl, (blk_cell BK445.out 1).trans rfl, (blk_cell BK445.out 2).trans rfl⟩ (fun hHeld => ?_)
     clear hK K
     refine norm_ (a' := ?_) ?_ ?_
     rotate_left
     · show Act.put _ (some 11) _ = _
       simp only [Act.put, la, lb, lc, i64_w, i32_w]
       rfl
     refine one_ (i := 6) (N := some 66) #[true, true, true, true, true, true, true, false, false, false, true, false, false] rfl rfl (one_of HT_.out kr) (by decide) (fun K hK => ?_)
     refine goes_ Tryd.func11 kr rfl #[.agg #[.int .i64 x446000_1, .int .i64 x446001_1, .slice Ao40 x446002_1.length co40], .slice A43 y469.length c43] (by rfl) rfl rfl q1 ?_
     with_reducible refine (impl_OnceEach.calls k1 x446000_1 x446001_1 _ _ x446002_1 _ _ y469 t473 t474 t475 t478 _ ?side1 ?side2 ?side3 ?side4 A28.out).mono ?_
     (case side1 => exact u13_38)
     (case side2 => exact (Kd.R_reads' HO_446002.out).2.1)
     (case side3 => exact u13_47)
     (case side4 => exact HC472.out)
     rintro e w45 ⟨v476, v479, rfl, ho0, ho1, hb⟩
     refine ⟨_, rfl, ?_⟩
     replace HO_4 := am (Kd.R_below u13_8 hb)
     have HO477 := am (Kd.R_lower (Kd.R_new' (Kd.R_new' ho0 (Kd.R_lt u13_4)) (Kd.R_lt u13_5)) (below_size q0))
     replace HO_446002 := am (Kd.R_elder' u13_4 (Kd.R_base ho0) hb)
     replace HO_456002 := am (Kd.R_elder' u13_5 (Kd.R_base ho0) hb)
     have HO480 := am (Kd.R_lower (Kd.R_new' ho1 (Kd.R_lt q10)) (below_size q0))
     replace HO_6 := am (Kd.R_elder' q10 (Kd.R_base ho1) hb)
     replace BK445 := am (blk_below (g := gb445) (o := .cells #[.int .i64 x446000_1, .int .i64 x446001_1, .slice Ao40 x446002_1.length co40] 30 (0, 0)) u13_1 hb)
     replace BK455 := am (blk_below (g := gb455) (o := .cells #[.int .i64 t447, .int .i64 t448, .slice Ao20 t449.length co20] 30 (0, 0)) u13_2 hb)
     replace BK466 := am (blk_below (g := gb466) (o := .cells #[.int .i64 ((rd_T50 t442 x7_1).f0), .int .i64 ((rd_T50 t442 x7_1).f1), .string ((rd_T50 t442 x7_1).f2)] 50 (0, 0)) u13_3 hb)
     replace HR472 := am (Kd.C_below u13_21 hb)
     replace BK481 := am (blk_below (g := gb481) (o := .cells #[.int .i64 0, .int .i64 0, .slice none 0 0] 30 (0, 0)) u13_6 hb)
     replace HB := am (below_step q0 hb)
     (try clear hb)
     (try clear hb2)
     (try clear hk)
     (try clear hi)
     (try clear ho0)
     (try clear ho1)
     refine hK.out _ _ ⟨(blk_cell BK445.out 0).trans rfl, (blk_cell BK445.out 1).trans rfl, (blk_cell BK445.out 2).trans rfl⟩ (fun hHeld => ?_)
     clear hK K
     refine norm_ (a' := ?_) ?_ ?_
     rotate_left
     · show Act.put _ (some 66) _ = _
       simp only [Act.put, la, lb, lc, i64_w, i32_w]
       rfl
     refine pV 7 59 #[true, true, true, true, true, true, true, true, false, false, true, false, false] ?_
     refine pV 8 67 #[true, true, true, true, true, true, true, true, true, false, true, false, false] ?_
     refine pV 9 68 (bt 11 13) ?_
     exact norm_ u13_40 (hCont (v476, v479, gb481) _ ⟨hHeld, u13_51, u13_54, u13_55, u13_49, u13_50, u13_56, u13_1, u13_2, u13_3, u13_6, GW481.out, GE481.out, NB445_481.out, NB481_445.out, NB455_481.out, NB481_455.out, NB466_481.out, NB481_466.out, q0⟩)
   rintro ⟨v476, v479, gb481⟩ w46 ⟨hS_, h0_, h1_, h2_, h3_, h4_, h5_, h6_, h7_, h8_, h9_, h10_, h11_, h12_, h13_, h14_, h15_, h16_, h17_, h18_⟩
   have n0_ : Aside0 (Kd.R k54 54 w46 w.heap.size (fun k_ => some k_ ≠ (.slice Ao40 x446002_1.length co40 : Value).ownBlock ∧ some k_ ≠ (.slice Ao20 t449.length co20 : Value).ownBlock) v476 t475) := ⟨h0_⟩
   have n1_ : Aside0 (Kd.R Kd.string 9 w46 w.heap.size (fun k_ => some k_ ≠ (.slice Ao21 t452.length co21 : Value).ownBlock) v479 t478) := ⟨h1_⟩
   have n2_ : Aside0 (Kd.R k50 50 w46 w.heap.size (fun k_ => k_ ≠ gb466) (.slice (some ad465) t442.length co15) t442) := ⟨h2_⟩
   have n3_ : Aside0 (Kd.R k54 54 w46 w.heap.size (fun k_ => some k_ ≠ (v476 : Value).ownBlock ∧ some k_ ≠ (.slice Ao20 t449.length co20 : Value).ownBlock) (.slice Ao40 x446002_1.length co40) x446002_1) := ⟨h3_⟩
   have n4_ : Aside0 (Kd.R k54 54 w46 w.heap.size (fun k_ => some k_ ≠ (v476 : Value).ownBlock ∧ some k_ ≠ (.slice Ao40 x446002_1.length co40 : Value).ownBlock) (.slice Ao20 t449.length co20) t449) := ⟨h4_⟩
   have n5_ : Aside0 (Kd.R Kd.string 9 w46 w.heap.size (fun k_ => some k_ ≠ (v479 : Value).ownBlock) (.slice Ao21 t452.length co21) t452) := ⟨h5_⟩
   have n6_ : Aside0 (w46.heap[gb445]? = some (.cells #[.int .i64 x446000_1, .int .i64 x446001_1, .slice Ao40 x446002_1.length co40] 30 (0, 0))) := ⟨h6_⟩
   have n7_ : Aside0 (w46.heap[gb455]? = some (.cells #[.int .i64 t447, .int .i64 t448, .slice Ao20 t449.length co20] 30 (0, 0))) := ⟨h7_⟩
   have n8_ : Aside0 (w46.heap[gb466]? = some (.cells #[.int .i64 ((rd_T50 t442 x7_1).f0), .int .i64 ((rd_T50 t442 x7_1).f1), .string ((rd_T50 t442 x7_1).f2)] 50 (0, 0))) := ⟨h8_⟩
   have n9_ : Aside0 (w46.heap[gb481]? = some (.cells #[.int .i64 0, .int .i64 0, .slice none 0 0] 30 (0, 0))) := ⟨h9_⟩
   have n10_ : Aside0 (w.heap.size ≤ gb481) := ⟨h10_⟩
   have n11_ : Aside0 (w.heap.size ≤ gb481) := ⟨h11_⟩
   have n12_ : Aside0 (gb445 ≠ gb481) := ⟨h12_⟩
   have n13_ : Aside0 (gb481 ≠ gb445) := ⟨h13_⟩
   have n14_ : Aside0 (gb455 ≠ gb481) := ⟨h14_⟩
   have n15_ : Aside0 (gb481 ≠ gb455) := ⟨h15_⟩
   have n16_ : Aside0 (gb466 ≠ gb481) := ⟨h16_⟩
   have n17_ : Aside0 (gb481 ≠ gb466) := ⟨h17_⟩
   have n18_ : Aside0 (Below w.heap.size w w46) := ⟨h18_⟩
   clear HO_4
   clear HO_6
   clear HO_446002
   clear HO_456002
   clear BK445
   clear BK455
   clear BK466
   clear HB
   clear h0_ h1_ h2_ h3_ h4_ h5_ h6_ h7_ h8_ h9_ h10_ h11_ h12_ h13_ h14_ h15_ h16_ h17_ h18_
   have HO477 := n0_
   have HO480 := n1_
   have HO_4 := n2_
   have HO_446002 := n3_
   have HO_456002 := n4_
   have HO_6 := n5_
   have BK445 := n6_
   have BK455 := n7_
   have BK466 := n8_
   have BK481 := n9_
   have GW481 := n10_
   have GE481 := n11_
   have NB445_481 := n12_
   have NB481_445 := n13_
   have NB455_481 := n14_
   have NB481_455 := n15_
   have NB466_481 := n16_
   have NB481_466 := n17_
   have HB := n18_
   clear n0_ n1_ n2_ n3_ n4_ n5_ n6_ n7_ n8_ n9_ n10_ n11_ n12_ n13_ n14_ n15_ n16_ n17_ n18_
   have hHeld : w46.cell? ⟨gb445, 0, none⟩ = some (.int .i64 x446000_1) ∧ w46.cell? ⟨gb445, 1, none⟩ = some (.int .i64 x446001_1) ∧ w46.cell? ⟨gb445, 2, none⟩ = some (.slice Ao40 x446002_1.length co40) := hS_
   obtain ⟨Ao49, co49, eo49⟩ := Kd.R_slice HO477.out
   (first | subst eo49 | (injection eo49 with f1_ f2_ f3_; have f4_ := f1_.symm; have f5_ := f3_.symm; clear f1_ f2_ f3_; subst f4_; subst f5_))
   refine norm_ (a' := ?_) ?_ ?_
   rotate_left
   · simp only [putAll, Act.put, la, lb, lc]
     rfl
   refine one_ (i := 11) (N := none) b12_13 rfl rfl (one_of HT_.out kr) (by decide) (fun K hK => ?_)
   have hs47 : w46.cell? ⟨gb481, 0, none⟩ = some (.int .i64 0) := (blk_cell BK481.out 0).trans rfl
   have hfs47 := blk_frozen BK481.out 0
   have hns47_0 := NB445_481.out
   have hns47_1 := NB455_481.out
   have hns47_2 := NB466_481.out
   have hms47_0 := NB481_445.out
   have hms47_1 := NB481_455.out
   have hms47_2 := NB481_466.out
   have hs48 : w46.cell? ⟨gb481, 1, none⟩ = some (.int .i64 0) := (blk_cell BK481.out 1).trans rfl
   have hfs48 := blk_frozen BK481.out 1
   have hns48_0 := NB445_481.out
   have hns48_1 := NB455_481.out
   have hns48_2 := NB466_481.out
   have hms48_0 := NB481_445.out
   have hms48_1 := NB481_455.out
   have hms48_2 := NB481_466.out
   have hs50 : w46.cell? ⟨gb481, 2, none⟩ = some (.slice none 0 0) := (blk_cell BK481.out 2).trans rfl
   have hfs50 := blk_frozen BK481.out 2
   have hns50_0 := NB445_481.out
   have hns50_1 := NB455_481.out
   have hns50_2 := NB466_481.out
   have hms50_0 := NB481_445.out
   have hms50_1 := NB481_455.out
   have hms50_2 := NB481_466.out
   refine skip_ (w1 := ?_) (by rfl) rfl ?_ ?_
   rotate_left
   · go_simp
     rfl
   refine hK.out _ _ ⟨((cell_far (p := ⟨gb481, _, none⟩) NB445_481.out _).trans (((cell_far (p := ⟨gb481, _, none⟩) NB445_481.out _).trans (((cell_far (p := ⟨gb481, _, none⟩) NB445_481.out _).trans (hHeld.1)))))), ((cell_far (p := ⟨gb481, _, none⟩) NB445_481.out _).trans (((cell_far (p := ⟨gb481, _, none⟩) NB445_481.out _).trans (((cell_far (p := ⟨gb481, _, none⟩) NB445_481.out _).trans (hHeld.2.1)))))), ((cell_far (p := ⟨gb481, _, none⟩) NB445_481.out _).trans (((cell_far (p := ⟨gb481, _, none⟩) NB445_481.out _).trans (((cell_far (p := ⟨gb481, _, none⟩) NB445_481.out _).trans (hHeld.2.2))))))⟩ (fun hHeld => ?_)
   clear hK K
   refine pV 12 12 (bt 13 13) ?_
   refine done_ (done_of HT_.out kr) ?_
   try go_wp2
   have n0_ : Aside0 (Kd.R k50 50 (((w46.setCell ⟨gb481, 0, none⟩ (.int .i64 t473)).setCell ⟨gb481, 1, none⟩ (.int .i64 t474)).setCell ⟨gb481, 2, none⟩ (.slice Ao49 t475.length co49)) w.heap.size (fun k_ => k_ ≠ gb466) (.slice (some ad465) t442.length co15) t442) := ⟨by (with_reducible repeat (first | apply Kd.R_alloc | apply Kd.R_drewN | apply Kd.R_drew)); exact Kd.R_mono (Kd.R_far (p := ⟨gb481, 2, none⟩) (Kd.R_far (p := ⟨gb481, 1, none⟩) (Kd.R_far (p := ⟨gb481, 0, none⟩) (Kd.R_types HO_4.out BK481.out (by decide)) (fun _ hk => hk.2) (.int .i64 t473)) (fun _ hk => hk.2) (.int .i64 t474)) (fun _ hk => hk.2) (.slice Ao49 t475.length co49)) (fun _ hk => hk.1)⟩
   have n1_ : Aside0 (Kd.R Kd.string 9 (((w46.setCell ⟨gb481, 0, none⟩ (.int .i64 t473)).setCell ⟨gb481, 1, none⟩ (.int .i64 t474)).setCell ⟨gb481, 2, none⟩ (.slice Ao49 t475.length co49)) w.heap.size (fun k_ => some k_ ≠ (v479 : Value).ownBlock) (.slice Ao21 t452.length co21) t452) := ⟨by (with_reducible repeat (first | apply Kd.R_alloc | apply Kd.R_drewN | apply Kd.R_drew)); exact Kd.R_mono (Kd.R_far (p := ⟨gb481, 2, none⟩) (Kd.R_far (p := ⟨gb481, 1, none⟩) (Kd.R_far (p := ⟨gb481, 0, none⟩) (Kd.R_types HO_6.out BK481.out (by decide)) (fun _ hk => hk.2) (.int .i64 t473)) (fun _ hk => hk.2) (.int .i64 t474)) (fun _ hk => hk.2) (.slice Ao49 t475.length co49)) (fun _ hk => hk.1)⟩
   have n2_ : Aside0 (Kd.R k54 54 (((w46.setCell ⟨gb481, 0, none⟩ (.int .i64 t473)).setCell ⟨gb481, 1, none⟩ (.int .i64 t474)).setCell ⟨gb481, 2, none⟩ (.slice Ao49 t475.length co49)) w.heap.size (fun k_ => some k_ ≠ (.slice Ao20 t449.length co20 : Value).ownBlock ∧ some k_ ≠ (.slice Ao49 t475.length co49 : Value).ownBlock) (.slice Ao40 x446002_1.length co40) x446002_1) := ⟨by (with_reducible repeat (first | apply Kd.R_alloc | apply Kd.R_drewN | apply Kd.R_drew)); exact Kd.R_mono (Kd.R_far (p := ⟨gb481, 2, none⟩) (Kd.R_far (p := ⟨gb481, 1, none⟩) (Kd.R_far (p := ⟨gb481, 0, none⟩) (Kd.R_types HO_446002.out BK481.out (by decide)) (fun _ hk => hk.2) (.int .i64 t473)) (fun _ hk => hk.2) (.int .i64 t474)) (fun _ hk => hk.2) (.slice Ao49 t475.length co49)) (fun _ hk => ⟨hk.1.2, hk.1.1⟩)⟩
   have n3_ : Aside0 (Kd.R k54 54 (((w46.setCell ⟨gb481, 0, none⟩ (.int .i64 t473)).setCell ⟨gb481, 1, none⟩ (.int .i64 t474)).setCell ⟨gb481, 2, none⟩ (.slice Ao49 t475.length co49)) w.heap.size (fun k_ => some k_ ≠ (.slice Ao40 x446002_1.length co40 : Value).ownBlock ∧ some k_ ≠ (.slice Ao49 t475.length co49 : Value).ownBlock) (.slice Ao20 t449.length co20) t449) := ⟨by (with_reducible repeat (first | apply Kd.R_alloc | apply Kd.R_drewN | apply Kd.R_drew)); exact Kd.R_mono (Kd.R_far (p := ⟨gb481, 2, none⟩) (Kd.R_far (p := ⟨gb481, 1, none⟩) (Kd.R_far (p := ⟨gb481, 0, none⟩) (Kd.R_types HO_456002.out BK481.out (by decide)) (fun _ hk => hk.2) (.int .i64 t473)) (fun _ hk => hk.2) (.int .i64 t474)) (fun _ hk => hk.2) (.slice Ao49 t475.length co49)) (fun _ hk => ⟨hk.1.2, hk.1.1⟩)⟩
   have n4_ : Aside0 (Kd.R k54 54 (((w46.setCell ⟨gb481, 0, none⟩ (.int .i64 t473)).setCell ⟨gb481, 1, none⟩ (.int .i64 t474)).setCell ⟨gb481, 2, none⟩ (.slice Ao49 t475.length co49)) w.heap.size (fun k_ => some k_ ≠ (.slice Ao40 x446002_1.length co40 : Value).ownBlock ∧ some k_ ≠ (.slice Ao20 t449.length co20 : Value).ownBlock) (.slice Ao49 t475.length co49) t475) := ⟨by (with_reducible repeat (first | apply Kd.R_alloc | apply Kd.R_drewN | apply Kd.R_drew)); exact Kd.R_mono (Kd.R_far (p := ⟨gb481, 2, none⟩) (Kd.R_far (p := ⟨gb481, 1, none⟩) (Kd.R_far (p := ⟨gb481, 0, none⟩) (Kd.R_types HO477.out BK481.out (by decide)) (fun _ hk => hk.2) (.int .i64 t473)) (fun _ hk => hk.2) (.int .i64 t474)) (fun _ hk => hk.2) (.slice Ao49 t475.length co49)) (fun _ hk => ⟨hk.1.1, hk.1.2⟩)⟩
   have n5_ : Aside0 (Kd.R Kd.string 9 (((w46.setCell ⟨gb481, 0, none⟩ (.int .i64 t473)).setCell ⟨gb481, 1, none⟩ (.int .i64 t474)).setCell ⟨gb481, 2, none⟩ (.slice Ao49 t475.length co49)) w.heap.size (fun k_ => some k_ ≠ (.slice Ao21 t452.length co21 : Value).ownBlock) v479 t478) := ⟨by (with_reducible repeat (first | apply Kd.R_alloc | apply Kd.R_drewN | apply Kd.R_drew)); exact Kd.R_mono (Kd.R_far (p := ⟨gb481, 2, none⟩) (Kd.R_far (p := ⟨gb481, 1, none⟩) (Kd.R_far (p := ⟨gb481, 0, none⟩) (Kd.R_types HO480.out BK481.out (by decide)) (fun _ hk => hk.2) (.int .i64 t473)) (fun _ hk => hk.2) (.int .i64 t474)) (fun _ hk => hk.2) (.slice Ao49 t475.length co49)) (fun _ hk => hk.1)⟩
   have n6_ : Aside0 ((((w46.setCell ⟨gb481, 0, none⟩ (.int .i64 t473)).setCell ⟨gb481, 1, none⟩ (.int .i64 t474)).setCell ⟨gb481, 2, none⟩ (.slice Ao49 t475.length co49)).heap[gb445]? = some (.cells #[.int .i64 x446000_1, .int .i64 x446001_1, .slice Ao40 x446002_1.length co40] 30 (0, 0))) := ⟨by (with_reducible repeat (first | refine blk_drewN ?_ _ | refine blk_drew ?_ | refine blk_alloc ?_ _)); refine blk_far ?_ NB445_481.out _; (with_reducible repeat (first | refine blk_drewN ?_ _ | refine blk_drew ?_ | refine blk_alloc ?_ _)); refine blk_far ?_ NB445_481.out _; (with_reducible repeat (first | refine blk_drewN ?_ _ | refine blk_drew ?_ | refine blk_alloc ?_ _)); refine blk_far ?_ NB445_481.out _; (with_reducible repeat (first | refine blk_drewN ?_ _ | refine blk_drew ?_ | refine blk_alloc ?_ _)); exact BK445.out⟩
   have n7_ : Aside0 ((((w46.setCell ⟨gb481, 0, none⟩ (.int .i64 t473)).setCell ⟨gb481, 1, none⟩ (.int .i64 t474)).setCell ⟨gb481, 2, none⟩ (.slice Ao49 t475.length co49)).heap[gb455]? = some (.cells #[.int .i64 t447, .int .i64 t448, .slice Ao20 t449.length co20] 30 (0, 0))) := ⟨by (with_reducible repeat (first | refine blk_drewN ?_ _ | refine blk_drew ?_ | refine blk_alloc ?_ _)); refine blk_far ?_ NB455_481.out _; (with_reducible repeat (first | refine blk_drewN ?_ _ | refine blk_drew ?_ | refine blk_alloc ?_ _)); refine blk_far ?_ NB455_481.out _; (with_reducible repeat (first | refine blk_drewN ?_ _ | refine blk_drew ?_ | refine blk_alloc ?_ _)); refine blk_far ?_ NB455_481.out _; (with_reducible repeat (first | refine blk_drewN ?_ _ | refine blk_drew ?_ | refine blk_alloc ?_ _)); exact BK455.out⟩
   have n8_ : Aside0 ((((w46.setCell ⟨gb481, 0, none⟩ (.int .i64 t473)).setCell ⟨gb481, 1, none⟩ (.int .i64 t474)).setCell ⟨gb481, 2, none⟩ (.slice Ao49 t475.length co49)).heap[gb466]? = some (.cells #[.int .i64 ((rd_T50 t442 x7_1).f0), .int .i64 ((rd_T50 t442 x7_1).f1), .string ((rd_T50 t442 x7_1).f2)] 50 (0, 0))) := ⟨by (with_reducible repeat (first | refine blk_drewN ?_ _ | refine blk_drew ?_ | refine blk_alloc ?_ _)); refine blk_far ?_ NB466_481.out _; (with_reducible repeat (first | refine blk_drewN ?_ _ | refine blk_drew ?_ | refine blk_alloc ?_ _)); refine blk_far ?_ NB466_481.out _; (with_reducible repeat (first | refine blk_drewN ?_ _ | refine blk_drew ?_ | refine blk_alloc ?_ _)); refine blk_far ?_ NB466_481.out _; (with_reducible repeat (first | refine blk_drewN ?_ _ | refine blk_drew ?_ | refine blk_alloc ?_ _)); exact BK466.out⟩
   have n9_ : Aside0 ((((w46.setCell ⟨gb481, 0, none⟩ (.int .i64 t473)).setCell ⟨gb481, 1, none⟩ (.int .i64 t474)).setCell ⟨gb481, 2, none⟩ (.slice Ao49 t475.length co49)).heap[gb481]? = some (.cells #[.int .i64 t473, .int .i64 t474, .slice Ao49 t475.length co49] 30 (0, 0))) := ⟨by (with_reducible repeat (first | refine blk_drewN ?_ _ | refine blk_drew ?_ | refine blk_alloc ?_ _)); refine blk_put (cs := #[.int .i64 t473, .int .i64 t474, .slice none 0 0]) ?_ 2 _ rfl; (with_reducible repeat (first | refine blk_drewN ?_ _ | refine blk_drew ?_ | refine blk_alloc ?_ _)); refine blk_put (cs := #[.int .i64 t473, .int .i64 0, .slice none 0 0]) ?_ 1 _ rfl; (with_reducible repeat (first | refine blk_drewN ?_ _ | refine blk_drew ?_ | refine blk_alloc ?_ _)); refine blk_put (cs := #[.int .i64 0, .int .i64 0, .slice none 0 0]) ?_ 0 _ rfl; (with_reducible repeat (first | refine blk_drewN ?_ _ | refine blk_drew ?_ | refine blk_alloc ?_ _)); exact BK481.out⟩
   have n10_ : Aside0 (Below w.heap.size w (((w46.setCell ⟨gb481, 0, none⟩ (.int .i64 t473)).setCell ⟨gb481, 1, none⟩ (.int .i64 t474)).setCell ⟨gb481, 2, none⟩ (.slice Ao49 t475.length co49))) := ⟨by repeat (first | (with_reducible first | exact HB.out | apply below_alloc | apply pw_below_drewN | apply below_drew1 | refine below_set ?_ GE445.out | refine below_set ?_ GE455.out | refine below_set ?_ GE466.out | refine below_set ?_ GE481.out) | exact HB.out)⟩
   (try clear HO_4)
   (try clear HO_6)
   (try clear HO_446002)
   (try clear HO_456002)
   (try clear HO477)
   (try clear HO480)
   (try clear BK445)
   (try clear BK455)
   (try clear BK466)
   (try clear BK481)
   (try clear HB)
   generalize (((w46.setCell ⟨gb481, 0, none⟩ (.int .i64 t473)).setCell ⟨gb481, 1, none⟩ (.int .i64 t474)).setCell ⟨gb481, 2, none⟩ (.slice Ao49 t475.length co49)) = w51 at n0_ n1_ n2_ n3_ n4_ n5_ n6_ n7_ n8_ n9_ n10_ ⊢
   have HO_4 := n0_
   have HO_6 := n1_
   have HO_446002 := n2_
   have HO_456002 := n3_
   have HO477 := n4_
   have HO480 := n5_
   have BK445 := n6_
   have BK455 := n7_
   have BK466 := n8_
   have BK481 := n9_
   have HB := n10_
   clear n0_ n1_ n2_ n3_ n4_ n5_ n6_ n7_ n8_ n9_ n10_
   replace HO_4 := am (Kd.R_drew HO_4.out)
   replace HO_6 := am (Kd.R_drew HO_6.out)
   replace HO_446002 := am (Kd.R_drew HO_446002.out)
   replace HO_456002 := am (Kd.R_drew HO_456002.out)
   replace HO477 := am (Kd.R_drew HO477.out)
   replace HO480 := am (Kd.R_drew HO480.out)
   replace BK445 := am (blk_drew BK445.out)
   replace BK455 := am (blk_drew BK455.out)
   replace BK466 := am (blk_drew BK466.out)
   replace BK481 := am (blk_drew BK481.out)
   replace HB := am (below_drew1 HB.out)
   have q53 : ((wrap64 (x7_1 + 1)) : Int) ≤ ((t442.length : Int) : Int) := of_decide_eq_true q3
   obtain ⟨i053, hi053, _, hsz53, _⟩ := info_parts info50
   have hroom53 : t442.length ≤ co15 := (Kd.R_reads' HO_4.out).2.1
   have hC53 : Kd.C k50 _ (some ad465) t442.length t442 := (Kd.R_reads' HO_4.out).2.2
   have ql53 : (x7_1 : Int) ≤ ((wrap64 (x7_1 + 1)) : Int) := of_decide_eq_true q3
   have q053 : (0 : Int) ≤ (x7_1 : Int) := of_decide_eq_true q3
   have hcut53 := cut_mid (P := Tryd.prog) 35 50 .i64 .i64 Tryd.underlying35 hi053 3 hsz53 (some ad465) t442.length co15 x7_1 (wrap64 (x7_1 + 1)) q053 ql53 q53 hroom53
   have hr53 := Kd.C_mid (lo := (x7_1 : Int).toNat) (hi := ((wrap64 (x7_1 + 1)) : Int).toNat) (c := co15) hC53 (by omega) (by omega) hroom53
   obtain ⟨A53, hA53⟩ : ∃ A1, A1 = (if co15 = (x7_1 : Int).toNat then (some ad465) else ((some ad465) : Option Addr).map (·.add ((x7_1 : Int).toNat * 3))) := ⟨_, rfl⟩
   obtain ⟨c53, hc53⟩ : ∃ c1, c1 = co15 - (x7_1 : Int).toNat := ⟨_, rfl⟩
   have hy53 : y482.length = ((wrap64 (x7_1 + 1)) : Int).toNat - (x7_1 : Int).toNat := (by rw [Ny482.out, List.length_drop, List.length_take] <;> omega)
   rw [show ((t442).take ((wrap64 (x7_1 + 1)) : Int).toNat).drop (x7_1 : Int).toNat = y482 from Ny482.out.symm] at hr53
   replace hr53 : Kd.C k50 _ A53 y482.length y482 := (by rw [hA53]; exact hr53)
   rw [← hy53, ← hA53, ← hc53] at hcut53
   try clear hcut43
   have HR485 := am hr53
   have HC485 := am (show y482.length ≤ c53 from by rw [hy53, hc53]; exact Nat.sub_le_sub_right (Nat.le_trans (by omega) hroom53) _)
   clear hr53 hC53 hroom53 hi053 hsz53 hc53
   have KY53 := am hy53
   have KA53 := am hA53
   clear hy53 hA53
   have KL53 := am (show ((wrap64 (x7_1 + 1)) : Int).toNat ≤ t442.length from by omega)
   have KM53 := am (show (x7_1 : Int).toNat ≤ ((wrap64 (x7_1 + 1)) : Int).toNat from by omega)
   replace q53 := eq_true q53
   refine start_ (n := 13) (S := fun w' => w'.cell? ⟨gb481, 0, none⟩ = some (.int .i64 t473) ∧ w'.cell? ⟨gb481, 1, none⟩ = some (.int .i64 t474) ∧ w'.cell? ⟨gb481, 2, none⟩ = some (.slice Ao49 t475.length co49)) (ds := []) b0_13 kr rfl rfl ⟨(blk_cell BK481.out 0).trans rfl, (blk_cell BK481.out 1).trans rfl, (blk_cell BK481.out 2).trans rfl⟩ (fun hHeld => ?_); refine with_tabW laws_FnOnce.tab15 laws_FnOnce.bits15 (fun HT_ HW_ => ?_)
   generalize w51.drew = w52 at HO_4 HO_6 HO_446002 HO_456002 HO477 HO480 BK445 BK455 BK466 BK481 HB HR485 hHeld ⊢
   refine pV 1 71 #[false, true, false, false, false, false, false, false, false, false, false, false, false] ?_
   refine pV 2 72 #[false, true, true, false, false, false, false, false, false, false, false, false, false] ?_
   refine pV 3 73 #[false, true, true, true, false, false, false, false, false, false, false, false, false] ?_
   refine pV 4 74 #[false, true, true, true, true, false, false, false, false, false, false, false, false] ?_
   refine pV 5 75 #[false, true, true, true, true, true, false, false, false, false, false, false, false] ?_
   refine tV 0 70 (bt 6 13) ?_
   refine join_ (σ := Value × Value × Nat) 2 b11_13 (fun s_ => [(76, .tuple #[.agg #[.int .i64 t486, .int .i64 t487, s_.1], s_.2.1]), (13, .pointer (some ⟨s_.2.2, 0, none⟩)), (69, .tuple #[.agg #[.int .i64 t486, .int .i64 t487, s_.1], s_.2.1]), (77, .agg #[.int .i64 t486, .int .i64 t487, s_.1]), (78, s_.2.1)]) (fun s_ w' => (w'.cell? ⟨gb481, 0, none⟩ = some (.int .i64 t473) ∧ w'.cell? ⟨gb481, 1, none⟩ = some (.int .i64 t474) ∧ w'.cell? ⟨gb481, 2, none⟩ = some (.slice Ao49 t475.length co49)) ∧ (Kd.R k54 54 w' w.heap.size (fun k_ => some k_ ≠ (s_.1 : Value).ownBlock ∧ some k_ ≠ (.slice Ao40 x446002_1.length co40 : Value).ownBlock ∧ some k_ ≠ (.slice Ao20 t449.length co20 : Value).ownBlock) (.slice Ao49 t475.length co49) t475) ∧ (Kd.R Kd.string 9 w' w.heap.size (fun k_ => some k_ ≠ (s_.2.1 : Value).ownBlock ∧ some k_ ≠ (.slice Ao21 t452.length co21 : Value).ownBlock) v479 t478) ∧ (Kd.R k54 54 w' w.heap.size (fun k_ => some k_ ≠ (.slice Ao49 t475.length co49 : Value).ownBlock ∧ some k_ ≠ (.slice Ao40 x446002_1.length co40 : Value).ownBlock ∧ some k_ ≠ (.slice Ao20 t449.length co20 : Value).ownBlock) s_.1 t488) ∧ (Kd.R Kd.string 9 w' w.heap.size (fun k_ => some k_ ≠ (v479 : Value).ownBlock ∧ some k_ ≠ (.slice Ao21 t452.length co21 : Value).ownBlock) s_.2.1 t491) ∧ (Kd.R k50 50 w' w.heap.size (fun k_ => k_ ≠ gb466) (.slice (some ad465) t442.length co15) t442) ∧ (Kd.R k54 54 w' w.heap.size (fun k_ => some k_ ≠ (.slice Ao49 t475.length co49 : Value).ownBlock ∧ some k_ ≠ (s_.1 : Value).ownBlock ∧ some k_ ≠ (.slice Ao20 t449.length co20 : Value).ownBlock) (.slice Ao40 x446002_1.length co40) x446002_1) ∧ (Kd.R k54 54 w' w.heap.size (fun k_ => some k_ ≠ (.slice Ao49 t475.length co49 : Value).ownBlock ∧ some k_ ≠ (s_.1 : Value).ownBlock ∧ some k_ ≠ (.slice Ao40 x446002_1.length co40 : Value).ownBlock) (.slice Ao20 t449.length co20) t449) ∧ (Kd.R Kd.string 9 w' w.heap.size (fun k_ => some k_ ≠ (v479 : Value).ownBlock ∧ some k_ ≠ (s_.2.1 : Value).ownBlock) (.slice Ao21 t452.length co21) t452) ∧ (w'.heap[gb445]? = some (.cells #[.int .i64 x446000_1, .int .i64 x446001_1, .slice Ao40 x446002_1.length co40] 30 (0, 0))) ∧ (w'.heap[gb455]? = some (.cells #[.int .i64 t447, .int .i64 t448, .slice Ao20 t449.length co20] 30 (0, 0))) ∧ (w'.heap[gb466]? = some (.cells #[.int .i64 ((rd_T50 t442 x7_1).f0), .int .i64 ((rd_T50 t442 x7_1).f1), .string ((rd_T50 t442 x7_1).f2)] 50 (0, 0))) ∧ (w'.heap[gb481]? = some (.cells #[.int .i64 t473, .int .i64 t474, .slice Ao49 t475.length co49] 30 (0, 0))) ∧ (w'.heap[s_.2.2]? = some (.cells #[.int .i64 0, .int .i64 0, .slice none 0 0] 30 (0, 0))) ∧ (w.heap.size ≤ s_.2.2) ∧ (w.heap.size ≤ s_.2.2) ∧ (gb445 ≠ s_.2.2) ∧ (s_.2.2 ≠ gb445) ∧ (gb455 ≠ s_.2.2) ∧ (s_.2.2 ≠ gb455) ∧ (gb466 ≠ s_.2.2) ∧ (s_.2.2 ≠ gb466) ∧ (gb481 ≠ s_.2.2) ∧ (s_.2.2 ≠ gb481) ∧ (Below w.heap.size w w')) ?_ ?_
   rotate_left
   · intro hCont
     refine two_ (i := 6) (j := 10) (Ni := some 76) (Nj := some 13) b7_13 #[true, true, true, true, true, true, false, false, false, false, true, false, false] rfl rfl rfl rfl (two_of HT_.out kr) (by decide) (by decide) (fun K hK => ?_) (fun K hK => ?_)
     · skip
       refine goes_ Tryd.func11 kr rfl #[.agg #[.int .i64 t473, .int .i64 t474, .slice Ao49 t475.length co49], .slice A53 y482.length c53] (by rfl) rfl rfl q1 ?_
       with_reducible refine (impl_OnceEach.calls k1 t473 t474 _ _ t475 _ _ y482 t486 t487 t488 t491 _ ?side1 ?side2 ?side3 ?side4 A32.out).mono ?_
       (case side1 => exact u13_19)
       (case side2 => exact (Kd.R_reads' HO477.out).2.1)
       (case side3 => exact u13_48)
       (case side4 => exact HC485.out)
       rintro e w54 ⟨v489, v492, rfl, ho0, ho1, hb⟩
       refine ⟨_, rfl, ?_⟩
       replace HO_4 := am (Kd.R_below u13_8 hb)
       have HO490 := am (Kd.R_lower (Kd.R_new' (Kd.R_new' (Kd.R_new' ho0 (Kd.R_lt u13_4)) (Kd.R_lt u13_5)) (Kd.R_lt u13_13)) (below_size q0))
       replace HO_446002 := am (Kd.R_elder' u13_4 (Kd.R_base ho0) hb)
       replace HO_456002 := am (Kd.R_elder' u13_5 (Kd.R_base ho0) hb)
       replace HO477 := am (Kd.R_elder' u13_13 (Kd.R_base ho0) hb)
       have HO493 := am (Kd.R_lower (Kd.R_new' (Kd.R_new' ho1 (Kd.R_lt q10)) (Kd.R_lt u13_14)) (below_size q0))
       replace HO_6 := am (Kd.R_elder' q10 (Kd.R_base ho1) hb)
       replace HO480 := am (Kd.R_elder' u13_14 (Kd.R_base ho1) hb)
       replace BK445 := am (blk_below (g := gb445) (o := .cells #[.int .i64 x446000_1, .int .i64 x446001_1, .slice Ao40 x446002_1.length co40] 30 (0, 0)) u13_1 hb)
       replace BK455 := am (blk_below (g := gb455) (o := .cells #[.int .i64 t447, .int .i64 t448, .slice Ao20 t449.length co20] 30 (0, 0)) u13_2 hb)
       replace BK466 := am (blk_below (g := gb466) (o := .cells #[.int .i64 ((rd_T50 t442 x7_1).f0), .int .i64 ((rd_T50 t442 x7_1).f1), .string ((rd_T50 t442 x7_1).f2)] 50 (0, 0)) u13_3 hb)
       replace BK481 := am (blk_below (g := gb481) (o := .cells #[.int .i64 t473, .int .i64 t474, .slice Ao49 t475.length co49] 30 (0, 0)) u13_6 hb)
       replace HR485 := am (Kd.C_below u13_22 hb)
       replace HB := am (below_step q0 hb)
       (try clear hb)
       (try clear hb2)
       (try clear hk)
       (try clear hi)
       (try clear ho0)
       (try clear ho1)
       refine hK.out _ _ ⟨(blk_cell BK481.out 0).trans rfl, (blk_cell BK481.out 1).trans rfl, (blk_cell BK481.out 2).trans rfl⟩ (fun hHeld => ?_)
       clear hK K
       refine norm_ (a' := ?_) ?_ ?_
       rotate_left
       · show Act.put _ (some 76) _ = _
         simp only [Act.put, la, lb, lc, i64_w, i32_w]
         rfl
       refine pV 7 69 (bt 8 13) ?_
       refine pV 8 77 (bt 9 13) ?_
       refine pV 9 78 (bt 10 13) ?_
       refine one_ (i := 10) (N := some 13) b11_13 rfl rfl (one_of HT_.out kr) (by decide) (fun K hK => ?_)
       refine box_step ?hg (N := 13) ?hd (cs := #[.int .i64 0, .int .i64 0, .slice none 0 0]) (t := 30) ?hr ?_; (case hd => rfl); (case hg => rfl); (case hr => first | (go_simp; done) | (go_simp; rfl))
       intro gb494 hg w55 hbox hb
       replace HO_4 := am (Kd.R_below u13_8 hb)
       replace HO_6 := am (Kd.R_below q10 hb)
       replace HO_446002 := am (Kd.R_below u13_4 hb)
       replace HO_456002 := am (Kd.R_below u13_5 hb)
       replace HO477 := am (Kd.R_below u13_13 hb)
       replace HO480 := am (Kd.R_below u13_14 hb)
       replace HO490 := am (Kd.R_below u13_17 hb)
       replace HO493 := am (Kd.R_below u13_18 hb)
       replace HR485 := am (Kd.C_below u13_22 hb)
       have BK494 := am (hbox)
       have GW494 := am ((by rw [hg]; exact (below_size q0) : w.heap.size ≤ gb494))
       have GE494 := am ((by rw [hg]; exact (below_size q0) : w.heap.size ≤ gb494))
       replace HB := am (below_step q0 hb)
       have NB445_494 := am ((by rw [hg]; exact Nat.ne_of_lt (blk_lt (g := gb445) (o := .cells #[.int .i64 x446000_1, .int .i64 x446001_1, .slice Ao40 x446002_1.length co40] 30 (0, 0)) u13_1) : gb445 ≠ gb494))
       have NB494_445 := am ((by rw [hg]; exact Nat.ne_of_gt (blk_lt (g := gb445) (o := .cells #[.int .i64 x446000_1, .int .i64 x446001_1, .slice Ao40 x446002_1.length co40] 30 (0, 0)) u13_1) : gb494 ≠ gb445))
       replace BK445 := am (blk_below (g := gb445) (o := .cells #[.int .i64 x446000_1, .int .i64 x446001_1, .slice Ao40 x446002_1.length co40] 30 (0, 0)) u13_1 hb)
       have NB455_494 := am ((by rw [hg]; exact Nat.ne_of_lt (blk_lt (g := gb455) (o := .cells #[.int .i64 t447, .int .i64 t448, .slice Ao20 t449.length co20] 30 (0, 0)) u13_2) : gb455 ≠ gb494))
       have NB494_455 := am ((by rw [hg]; exact Nat.ne_of_gt (blk_lt (g := gb455) (o := .cells #[.int .i64 t447, .int .i64 t448, .slice Ao20 t449.length co20] 30 (0, 0)) u13_2) : gb494 ≠ gb455))
       replace BK455 := am (blk_below (g := gb455) (o := .cells #[.int .i64 t447, .int .i64 t448, .slice Ao20 t449.length co20] 30 (0, 0)) u13_2 hb)
       have NB466_494 := am ((by rw [hg]; exact Nat.ne_of_lt (blk_lt (g := gb466) (o := .cells #[.int .i64 ((rd_T50 t442 x7_1).f0), .int .i64 ((rd_T50 t442 x7_1).f1), .string ((rd_T50 t442 x7_1).f2)] 50 (0, 0)) u13_3) : gb466 ≠ gb494))
       have NB494_466 := am ((by rw [hg]; exact Nat.ne_of_gt (blk_lt (g := gb466) (o := .cells #[.int .i64 ((rd_T50 t442 x7_1).f0), .int .i64 ((rd_T50 t442 x7_1).f1), .string ((rd_T50 t442 x7_1).f2)] 50 (0, 0)) u13_3) : gb494 ≠ gb466))
       replace BK466 := am (blk_below (g := gb466) (o := .cells #[.int .i64 ((rd_T50 t442 x7_1).f0), .int .i64 ((rd_T50 t442 x7_1).f1), .string ((rd_T50 t442 x7_1).f2)] 50 (0, 0)) u13_3 hb)
       have NB481_494 := am ((by rw [hg]; exact Nat.ne_of_lt (blk_lt (g := gb481) (o := .cells #[.int .i64 t473, .int .i64 t474, .slice Ao49 t475.length co49] 30 (0, 0)) u13_6) : gb481 ≠ gb494))
       have NB494_481 := am ((by rw [hg]; exact Nat.ne_of_gt (blk_lt (g := gb481) (o := .cells #[.int .i64 t473, .int .i64 t474, .slice Ao49 t475.length co49] 30 (0, 0)) u13_6) : gb494 ≠ gb481))
       replace BK481 := am (blk_below (g := gb481) (o := .cells #[.int .i64 t473, .int .i64 t474, .slice Ao49 t475.length co49] 30 (0, 0)) u13_6 hb)
       clear hb hbox hg
       refine hK.out _ _ ⟨(blk_cell BK481.out 0).trans rfl, (blk_cell BK481.out 1).trans rfl, (blk_cell BK481.out 2).trans rfl⟩ (fun hHeld => ?_)
       clear hK K
       refine norm_ (a' := ?_) ?_ ?_
       rotate_left
       · show Act.put _ (some 13) _ = _
         simp only [Act.put, la, lb, lc, i64_w, i32_w]
         rfl
       exact norm_ u13_40 (hCont (v489, v492, gb494) _ ⟨hHeld, u13_46, u13_53, u13_45, u13_52, u13_8, u13_43, u13_44, q10, u13_1, u13_2, u13_3, u13_6, u13_10, GW494.out, GE494.out, NB445_494.out, NB494_445.out, NB455_494.out, NB494_455.out, NB466_494.out, NB494_466.out, NB481_494.out, NB494_481.out, q0⟩)
     skip
     refine box_step ?hg (N := 13) ?hd (cs := #[.int .i64 0, .int .i64 0, .slice none 0 0]) (t := 30) ?hr ?_; (case hd => rfl); (case hg => rfl); (case hr => first | (go_simp; done) | (go_simp; rfl))
     intro gb494 hg w54 hbox hb
     replace HO_4 := am (Kd.R_below u13_8 hb)
     replace HO_6 := am (Kd.R_below q10 hb)
     replace HO_446002 := am (Kd.R_below u13_4 hb)
     replace HO_456002 := am (Kd.R_below u13_5 hb)
     replace HO477 := am (Kd.R_below u13_13 hb)
     replace HO480 := am (Kd.R_below u13_14 hb)
     replace HR485 := am (Kd.C_below u13_22 hb)
     have BK494 := am (hbox)
     have GW494 := am ((by rw [hg]; exact (below_size q0) : w.heap.size ≤ gb494))
     have GE494 := am ((by rw [hg]; exact (below_size q0) : w.heap.size ≤ gb494))
     replace HB := am (below_step q0 hb)
     have NB445_494 := am ((by rw [hg]; exact Nat.ne_of_lt (blk_lt (g := gb445) (o := .cells #[.int .i64 x446000_1, .int .i64 x446001_1, .slice Ao40 x446002_1.length co40] 30 (0, 0)) u13_1) : gb445 ≠ gb494))
     have NB494_445 := am ((by rw [hg]; exact Nat.ne_of_gt (blk_lt (g := gb445) (o := .cells #[.int .i64 x446000_1, .int .i64 x446001_1, .slice Ao40 x446002_1.length co40] 30 (0, 0)) u13_1) : gb494 ≠ gb445))
     replace BK445 := am (blk_below (g := gb445) (o := .cells #[.int .i64 x446000_1, .int .i64 x446001_1, .slice Ao40 x446002_1.length co40] 30 (0, 0)) u13_1 hb)
     have NB455_494 := am ((by rw [hg]; exact Nat.ne_of_lt (blk_lt (g := gb455) (o := .cells #[.int .i64 t447, .int .i64 t448, .slice Ao20 t449.length co20] 30 (0, 0)) u13_2) : gb455 ≠ gb494))
     have NB494_455 := am ((by rw [hg]; exact Nat.ne_of_gt (blk_lt (g := gb455) (o := .cells #[.int .i64 t447, .int .i64 t448, .slice Ao20 t449.length co20] 30 (0, 0)) u13_2) : gb494 ≠ gb455))
     replace BK455 := am (blk_below (g := gb455) (o := .cells #[.int .i64 t447, .int .i64 t448, .slice Ao20 t449.length co20] 30 (0, 0)) u13_2 hb)
     have NB466_494 := am ((by rw [hg]; exact Nat.ne_of_lt (blk_lt (g := gb466) (o := .cells #[.int .i64 ((rd_T50 t442 x7_1).f0), .int .i64 ((rd_T50 t442 x7_1).f1), .string ((rd_T50 t442 x7_1).f2)] 50 (0, 0)) u13_3) : gb466 ≠ gb494))
     have NB494_466 := am ((by rw [hg]; exact Nat.ne_of_gt (blk_lt (g := gb466) (o := .cells #[.int .i64 ((rd_T50 t442 x7_1).f0), .int .i64 ((rd_T50 t442 x7_1).f1), .string ((rd_T50 t442 x7_1).f2)] 50 (0, 0)) u13_3) : gb494 ≠ gb466))
     replace BK466 := am (blk_below (g := gb466) (o := .cells #[.int .i64 ((rd_T50 t442 x7_1).f0), .int .i64 ((rd_T50 t442 x7_1).f1), .string ((rd_T50 t442 x7_1).f2)] 50 (0, 0)) u13_3 hb)
     have NB481_494 := am ((by rw [hg]; exact Nat.ne_of_lt (blk_lt (g := gb481) (o := .cells #[.int .i64 t473, .int .i64 t474, .slice Ao49 t475.length co49] 30 (0, 0)) u13_6) : gb481 ≠ gb494))
     have NB494_481 := am ((by rw [hg]; exact Nat.ne_of_gt (blk_lt (g := gb481) (o := .cells #[.int .i64 t473, .int .i64 t474, .slice Ao49 t475.length co49] 30 (0, 0)) u13_6) : gb494 ≠ gb481))
     replace BK481 := am (blk_below (g := gb481) (o := .cells #[.int .i64 t473, .int .i64 t474, .slice Ao49 t475.length co49] 30 (0, 0)) u13_6 hb)
     clear hb hbox hg
     refine hK.out _ _ ⟨(blk_cell BK481.out 0).trans rfl, (blk_cell BK481.out 1).trans rfl, (blk_cell BK481.out 2).trans rfl⟩ (fun hHeld => ?_)
     clear hK K
     refine norm_ (a' := ?_) ?_ ?_
     rotate_left
     · show Act.put _ (some 13) _ = _
       simp only [Act.put, la, lb, lc, i64_w, i32_w]
       rfl
     refine one_ (i := 6) (N := some 76) #[true, true, true, true, true, true, true, false, false, false, true, false, false] rfl rfl (one_of HT_.out kr) (by decide) (fun K hK => ?_)
     refine goes_ Tryd.func11 kr rfl #[.agg #[.int .i64 t473, .int .i64 t474, .slice Ao49 t475.length co49], .slice A53 y482.length c53] (by rfl) rfl rfl q1 ?_
     with_reducible refine (impl_OnceEach.calls k1 t473 t474 _ _ t475 _ _ y482 t486 t487 t488 t491 _ ?side1 ?side2 ?side3 ?side4 A32.out).mono ?_
     (case side1 => exact u13_19)
     (case side2 => exact (Kd.R_reads' HO477.out).2.1)
     (case side3 => exact u13_48)
     (case side4 => exact HC485.out)
     rintro e w55 ⟨v489, v492, rfl, ho0, ho1, hb⟩
     refine ⟨_, rfl, ?_⟩
     replace HO_4 := am (Kd.R_below u13_8 hb)
     have HO490 := am (Kd.R_lower (Kd.R_new' (Kd.R_new' (Kd.R_new' ho0 (Kd.R_lt u13_4)) (Kd.R_lt u13_5)) (Kd.R_lt u13_13)) (below_size q0))
     replace HO_446002 := am (Kd.R_elder' u13_4 (Kd.R_base ho0) hb)
     replace HO_456002 := am (Kd.R_elder' u13_5 (Kd.R_base ho0) hb)
     replace HO477 := am (Kd.R_elder' u13_13 (Kd.R_base ho0) hb)
     have HO493 := am (Kd.R_lower (Kd.R_new' (Kd.R_new' ho1 (Kd.R_lt q10)) (Kd.R_lt u13_14)) (below_size q0))
     replace HO_6 := am (Kd.R_elder' q10 (Kd.R_base ho1) hb)
     replace HO480 := am (Kd.R_elder' u13_14 (Kd.R_base ho1) hb)
     replace BK445 := am (blk_below (g := gb445) (o := .cells #[.int .i64 x446000_1, .int .i64 x446001_1, .slice Ao40 x446002_1.length co40] 30 (0, 0)) u13_1 hb)
     replace BK455 := am (blk_below (g := gb455) (o := .cells #[.int .i64 t447, .int .i64 t448, .slice Ao20 t449.length co20] 30 (0, 0)) u13_2 hb)
     replace BK466 := am (blk_below (g := gb466) (o := .cells #[.int .i64 ((rd_T50 t442 x7_1).f0), .int .i64 ((rd_T50 t442 x7_1).f1), .string ((rd_T50 t442 x7_1).f2)] 50 (0, 0)) u13_3 hb)
     replace BK481 := am (blk_below (g := gb481) (o := .cells #[.int .i64 t473, .int .i64 t474, .slice Ao49 t475.length co49] 30 (0, 0)) u13_6 hb)
     replace HR485 := am (Kd.C_below u13_22 hb)
     replace BK494 := am (blk_below (g := gb494) (o := .cells #[.int .i64 0, .int .i64 0, .slice none 0 0] 30 (0, 0)) u13_10 hb)
     replace HB := am (below_step q0 hb)
     (try clear hb)
     (try clear hb2)
     (try clear hk)
     (try clear hi)
     (try clear ho0)
     (try clear ho1)
     refine hK.out _ _ ⟨(blk_cell BK481.out 0).trans rfl, (blk_cell BK481.out 1).trans rfl, (blk_cell BK481.out 2).trans rfl⟩ (fun hHeld => ?_)
     clear hK K
     refine norm_ (a' := ?_) ?_ ?_
     rotate_left
     · show Act.put _ (some 76) _ = _
       simp only [Act.put, la, lb, lc, i64_w, i32_w]
       rfl
     refine pV 7 69 #[true, true, true, true, true, true, true, true, false, false, true, false, false] ?_
     refine pV 8 77 #[true, true, true, true, true, true, true, true, true, false, true, false, false] ?_
     refine pV 9 78 (bt 11 13) ?_
     exact norm_ u13_40 (hCont (v489, v492, gb494) _ ⟨hHeld, u13_46, u13_53, u13_45, u13_52, u13_8, u13_43, u13_44, q10, u13_1, u13_2, u13_3, u13_6, u13_10, GW494.out, GE494.out, NB445_494.out, NB494_445.out, NB455_494.out, NB494_455.out, NB466_494.out, NB494_466.out, NB481_494.out, NB494_481.out, q0⟩)
   rintro ⟨v489, v492, gb494⟩ w56 ⟨hS_, h0_, h1_, h2_, h3_, h4_, h5_, h6_, h7_, h8_, h9_, h10_, h11_, h12_, h13_, h14_, h15_, h16_, h17_, h18_, h19_, h20_, h21_, h22_, h23_⟩
   have n0_ : Aside0 (Kd.R k54 54 w56 w.heap.size (fun k_ => some k_ ≠ (v489 : Value).ownBlock ∧ some k_ ≠ (.slice Ao40 x446002_1.length co40 : Value).ownBlock ∧ some k_ ≠ (.slice Ao20 t449.length co20 : Value).ownBlock) (.slice Ao49 t475.length co49) t475) := ⟨h0_⟩
   have n1_ : Aside0 (Kd.R Kd.string 9 w56 w.heap.size (fun k_ => some k_ ≠ (v492 : Value).ownBlock ∧ some k_ ≠ (.slice Ao21 t452.length co21 : Value).ownBlock) v479 t478) := ⟨h1_⟩
   have n2_ : Aside0 (Kd.R k54 54 w56 w.heap.size (fun k_ => some k_ ≠ (.slice Ao49 t475.length co49 : Value).ownBlock ∧ some k_ ≠ (.slice Ao40 x446002_1.length co40 : Value).ownBlock ∧ some k_ ≠ (.slice Ao20 t449.length co20 : Value).ownBlock) v489 t488) := ⟨h2_⟩
   have n3_ : Aside0 (Kd.R Kd.string 9 w56 w.heap.size (fun k_ => some k_ ≠ (v479 : Value).ownBlock ∧ some k_ ≠ (.slice Ao21 t452.length co21 : Value).ownBlock) v492 t491) := ⟨h3_⟩
   have n4_ : Aside0 (Kd.R k50 50 w56 w.heap.size (fun k_ => k_ ≠ gb466) (.slice (some ad465) t442.length co15) t442) := ⟨h4_⟩
   have n5_ : Aside0 (Kd.R k54 54 w56 w.heap.size (fun k_ => some k_ ≠ (.slice Ao49 t475.length co49 : Value).ownBlock ∧ some k_ ≠ (v489 : Value).ownBlock ∧ some k_ ≠ (.slice Ao20 t449.length co20 : Value).ownBlock) (.slice Ao40 x446002_1.length co40) x446002_1) := ⟨h5_⟩
   have n6_ : Aside0 (Kd.R k54 54 w56 w.heap.size (fun k_ => some k_ ≠ (.slice Ao49 t475.length co49 : Value).ownBlock ∧ some k_ ≠ (v489 : Value).ownBlock ∧ some k_ ≠ (.slice Ao40 x446002_1.length co40 : Value).ownBlock) (.slice Ao20 t449.length co20) t449) := ⟨h6_⟩
   have n7_ : Aside0 (Kd.R Kd.string 9 w56 w.heap.size (fun k_ => some k_ ≠ (v479 : Value).ownBlock ∧ some k_ ≠ (v492 : Value).ownBlock) (.slice Ao21 t452.length co21) t452) := ⟨h7_⟩
   have n8_ : Aside0 (w56.heap[gb445]? = some (.cells #[.int .i64 x446000_1, .int .i64 x446001_1, .slice Ao40 x446002_1.length co40] 30 (0, 0))) := ⟨h8_⟩
   have n9_ : Aside0 (w56.heap[gb455]? = some (.cells #[.int .i64 t447, .int .i64 t448, .slice Ao20 t449.length co20] 30 (0, 0))) := ⟨h9_⟩
   have n10_ : Aside0 (w56.heap[gb466]? = some (.cells #[.int .i64 ((rd_T50 t442 x7_1).f0), .int .i64 ((rd_T50 t442 x7_1).f1), .string ((rd_T50 t442 x7_1).f2)] 50 (0, 0))) := ⟨h10_⟩
   have n11_ : Aside0 (w56.heap[gb481]? = some (.cells #[.int .i64 t473, .int .i64 t474, .slice Ao49 t475.length co49] 30 (0, 0))) := ⟨h11_⟩
   have n12_ : Aside0 (w56.heap[gb494]? = some (.cells #[.int .i64 0, .int .i64 0, .slice none 0 0] 30 (0, 0))) := ⟨h12_⟩
   have n13_ : Aside0 (w.heap.size ≤ gb494) := ⟨h13_⟩
   have n14_ : Aside0 (w.heap.size ≤ gb494) := ⟨h14_⟩
   have n15_ : Aside0 (gb445 ≠ gb494) := ⟨h15_⟩
   have n16_ : Aside0 (gb494 ≠ gb445) := ⟨h16_⟩
   have n17_ : Aside0 (gb455 ≠ gb494) := ⟨h17_⟩
   have n18_ : Aside0 (gb494 ≠ gb455) := ⟨h18_⟩
   have n19_ : Aside0 (gb466 ≠ gb494) := ⟨h19_⟩
   have n20_ : Aside0 (gb494 ≠ gb466) := ⟨h20_⟩
   have n21_ : Aside0 (gb481 ≠ gb494) := ⟨h21_⟩
   have n22_ : Aside0 (gb494 ≠ gb481) := ⟨h22_⟩
   have n23_ : Aside0 (Below w.heap.size w w56) := ⟨h23_⟩
   clear HO_4
   clear HO_6
   clear HO_446002
   clear HO_456002
   clear HO477
   clear HO480
   clear BK445
   clear BK455
   clear BK466
   clear BK481
   clear HB
   clear h0_ h1_ h2_ h3_ h4_ h5_ h6_ h7_ h8_ h9_ h10_ h11_ h12_ h13_ h14_ h15_ h16_ h17_ h18_ h19_ h20_ h21_ h22_ h23_
   have HO477 := n0_
   have HO480 := n1_
   have HO490 := n2_
   have HO493 := n3_
   have HO_4 := n4_
   have HO_446002 := n5_
   have HO_456002 := n6_
   have HO_6 := n7_
   have BK445 := n8_
   have BK455 := n9_
   have BK466 := n10_
   have BK481 := n11_
   have BK494 := n12_
   have GW494 := n13_
   have GE494 := n14_
   have NB445_494 := n15_
   have NB494_445 := n16_
   have NB455_494 := n17_
   have NB494_455 := n18_
   have NB466_494 := n19_
   have NB494_466 := n20_
   have NB481_494 := n21_
   have NB494_481 := n22_
   have HB := n23_
   clear n0_ n1_ n2_ n3_ n4_ n5_ n6_ n7_ n8_ n9_ n10_ n11_ n12_ n13_ n14_ n15_ n16_ n17_ n18_ n19_ n20_ n21_ n22_ n23_
   have hHeld : w56.cell? ⟨gb481, 0, none⟩ = some (.int .i64 t473) ∧ w56.cell? ⟨gb481, 1, none⟩ = some (.int .i64 t474) ∧ w56.cell? ⟨gb481, 2, none⟩ = some (.slice Ao49 t475.length co49) := hS_
   obtain ⟨Ao59, co59, eo59⟩ := Kd.R_slice HO490.out
   (first | subst eo59 | (injection eo59 with f1_ f2_ f3_; have f4_ := f1_.symm; have f5_ := f3_.symm; clear f1_ f2_ f3_; subst f4_; subst f5_))
   refine norm_ (a' := ?_) ?_ ?_
   rotate_left
   · simp only [putAll, Act.put, la, lb, lc]
     rfl
   refine one_ (i := 11) (N := none) b12_13 rfl rfl (one_of HT_.out kr) (by decide) (fun K hK => ?_)
   have hs57 : w56.cell? ⟨gb494, 0, none⟩ = some (.int .i64 0) := (blk_cell BK494.out 0).trans rfl
   have hfs57 := blk_frozen BK494.out 0
   have hns57_0 := NB445_494.out
   have hns57_1 := NB455_494.out
   have hns57_2 := NB466_494.out
   have hns57_3 := NB481_494.out
   have hms57_0 := NB494_445.out
   have hms57_1 := NB494_455.out
   have hms57_2 := NB494_466.out
   have hms57_3 := NB494_481.out
   have hs58 : w56.cell? ⟨gb494, 1, none⟩ = some (.int .i64 0) := (blk_cell BK494.out 1).trans rfl
   have hfs58 := blk_frozen BK494.out 1
   have hns58_0 := NB445_494.out
   have hns58_1 := NB455_494.out
   have hns58_2 := NB466_494.out
   have hns58_3 := NB481_494.out
   have hms58_0 := NB494_445.out
   have hms58_1 := NB494_455.out
   have hms58_2 := NB494_466.out
   have hms58_3 := NB494_481.out
   have hs60 : w56.cell? ⟨gb494, 2, none⟩ = some (.slice none 0 0) := (blk_cell BK494.out 2).trans rfl
   have hfs60 := blk_frozen BK494.out 2
   have hns60_0 := NB445_494.out
   have hns60_1 := NB455_494.out
   have hns60_2 := NB466_494.out
   have hns60_3 := NB481_494.out
   have hms60_0 := NB494_445.out
   have hms60_1 := NB494_455.out
   have hms60_2 := NB494_466.out
   have hms60_3 := NB494_481.out
   refine skip_ (w1 := ?_) (by rfl) rfl ?_ ?_
   rotate_left
   · go_simp
     rfl
   refine hK.out _ _ ⟨((cell_far (p := ⟨gb494, _, none⟩) NB481_494.out _).trans (((cell_far (p := ⟨gb494, _, none⟩) NB481_494.out _).trans (((cell_far (p := ⟨gb494, _, none⟩) NB481_494.out _).trans (hHeld.1)))))), ((cell_far (p := ⟨gb494, _, none⟩) NB481_494.out _).trans (((cell_far (p := ⟨gb494, _, none⟩) NB481_494.out _).trans (((cell_far (p := ⟨gb494, _, none⟩) NB481_494.out _).trans (hHeld.2.1)))))), ((cell_far (p := ⟨gb494, _, none⟩) NB481_494.out _).trans (((cell_far (p := ⟨gb494, _, none⟩) NB481_494.out _).trans (((cell_far (p := ⟨gb494, _, none⟩) NB481_494.out _).trans (hHeld.2.2))))))⟩ (fun hHeld => ?_)
   clear hK K
   refine pV 12 14 (bt 13 13) ?_
   refine done_ (done_of HT_.out kr) ?_
   go_upto_region 16 with (fail)
   go_cut [112] (fun v112 wc => ∃ (kq : Nat) (x112_32 : Bool), v112 = .bool x112_32 ∧ Aside0 (laws_FnOnce.j1 kq t442 t452 x7_1 t467 t478 t491 x112_32 t447 t448 t449 ((rd_T50 t442 x7_1).f0) ((rd_T50 t442 x7_1).f1) ((rd_T50 t442 x7_1).f2) t473 t474 t475 t486 t487 t488 = some r) ∧ Aside0 (kq ≤ k1) ∧ Aside0 (Kd.R k50 50 wc w.heap.size (fun k_ => k_ ≠ gb466) (.slice (some ad465) t442.length co15) t442) ∧ Aside0 (Kd.R Kd.string 9 wc w.heap.size (fun k_ => some k_ ≠ (v479 : Value).ownBlock ∧ some k_ ≠ (v492 : Value).ownBlock) (.slice Ao21 t452.length co21) t452) ∧ Aside0 (Kd.R Kd.string 9 wc w.heap.size (fun k_ => some k_ ≠ ((.slice Ao21 t452.length co21) : Value).ownBlock ∧ some k_ ≠ (v492 : Value).ownBlock) v479 t478) ∧ Aside0 (Kd.R Kd.string 9 wc w.heap.size (fun k_ => some k_ ≠ ((.slice Ao21 t452.length co21) : Value).ownBlock ∧ some k_ ≠ (v479 : Value).ownBlock) v492 t491) ∧ Aside0 (Kd.R k54 54 wc w.heap.size (fun k_ => some k_ ≠ ((.slice Ao20 t449.length co20) : Value).ownBlock ∧ some k_ ≠ ((.slice Ao49 t475.length co49) : Value).ownBlock ∧ some k_ ≠ ((.slice Ao59 t488.length co59) : Value).ownBlock) (.slice Ao40 x446002_1.length co40) x446002_1) ∧ Aside0 (Kd.R k54 54 wc w.heap.size (fun k_ => some k_ ≠ ((.slice Ao40 x446002_1.length co40) : Value).ownBlock ∧ some k_ ≠ ((.slice Ao49 t475.length co49) : Value).ownBlock ∧ some k_ ≠ ((.slice Ao59 t488.length co59) : Value).ownBlock) (.slice Ao20 t449.length co20) t449) ∧ Aside0 (Kd.R k54 54 wc w.heap.size (fun k_ => some k_ ≠ ((.slice Ao40 x446002_1.length co40) : Value).ownBlock ∧ some k_ ≠ ((.slice Ao20 t449.length co20) : Value).ownBlock ∧ some k_ ≠ ((.slice Ao59 t488.length co59) : Value).ownBlock) (.slice Ao49 t475.length co49) t475) ∧ Aside0 (Kd.R k54 54 wc w.heap.size (fun k_ => some k_ ≠ ((.slice Ao40 x446002_1.length co40) : Value).ownBlock ∧ some k_ ≠ ((.slice Ao20 t449.length co20) : Value).ownBlock ∧ some k_ ≠ ((.slice Ao49 t475.length co49) : Value).ownBlock) (.slice Ao59 t488.length co59) t488) ∧ Aside0 (wc.heap[gb445]? = some (.cells #[.int .i64 x446000_1, .int .i64 x446001_1, (.slice Ao40 x446002_1.length co40)] 30 (0, 0))) ∧ Aside0 (wc.heap[gb455]? = some (.cells #[.int .i64 t447, .int .i64 t448, (.slice Ao20 t449.length co20)] 30 (0, 0))) ∧ Aside0 (wc.heap[gb466]? = some (.cells #[.int .i64 ((rd_T50 t442 x7_1).f0), .int .i64 ((rd_T50 t442 x7_1).f1), .string ((rd_T50 t442 x7_1).f2)] 50 (0, 0))) ∧ Aside0 (wc.heap[gb481]? = some (.cells #[.int .i64 t473, .int .i64 t474, (.slice Ao49 t475.length co49)] 30 (0, 0))) ∧ Aside0 (wc.heap[gb494]? = some (.cells #[.int .i64 t486, .int .i64 t487, (.slice Ao59 t488.length co59)] 30 (0, 0))) ∧ Aside0 (Below w.heap.size w wc))
   case first =>
     have H := HC33.out
     clear HC33
     replace H := Option.bind_eq_some_iff.mp H
     obtain ⟨t495, A610, H⟩ := H
     have A61 := am A610
     clear A610
     as_aux_lemma =>
      by_cases c62 : t495 = true
      rotate_left
      · replace c62 := Bool.eq_false_iff.mpr c62
        subst c62
        rw [nf] at H
        have H' := am H
        clear H
        try go_wp2
        have n0_ : Aside0 (Kd.R k50 50 (((w56.setCell ⟨gb494, 0, none⟩ (.int .i64 t486)).setCell ⟨gb494, 1, none⟩ (.int .i64 t487)).setCell ⟨gb494, 2, none⟩ (.slice Ao59 t488.length co59)) w.heap.size (fun k_ => k_ ≠ gb466) (.slice (some ad465) t442.length co15) t442) := ⟨by (with_reducible repeat (first | apply Kd.R_alloc | apply Kd.R_drewN | apply Kd.R_drew)); exact Kd.R_mono (Kd.R_far (p := ⟨gb494, 2, none⟩) (Kd.R_far (p := ⟨gb494, 1, none⟩) (Kd.R_far (p := ⟨gb494, 0, none⟩) (Kd.R_types HO_4.out BK494.out (by decide)) (fun _ hk => hk.2) (.int .i64 t486)) (fun _ hk => hk.2) (.int .i64 t487)) (fun _ hk => hk.2) (.slice Ao59 t488.length co59)) (fun _ hk => hk.1)⟩
        have n1_ : Aside0 (Kd.R Kd.string 9 (((w56.setCell ⟨gb494, 0, none⟩ (.int .i64 t486)).setCell ⟨gb494, 1, none⟩ (.int .i64 t487)).setCell ⟨gb494, 2, none⟩ (.slice Ao59 t488.length co59)) w.heap.size (fun k_ => some k_ ≠ (v479 : Value).ownBlock ∧ some k_ ≠ (v492 : Value).ownBlock) (.slice Ao21 t452.length co21) t452) := ⟨by (with_reducible repeat (first | apply Kd.R_alloc | apply Kd.R_drewN | apply Kd.R_drew)); exact Kd.R_mono (Kd.R_far (p := ⟨gb494, 2, none⟩) (Kd.R_far (p := ⟨gb494, 1, none⟩) (Kd.R_far (p := ⟨gb494, 0, none⟩) (Kd.R_types HO_6.out BK494.out (by decide)) (fun _ hk => hk.2) (.int .i64 t486)) (fun _ hk => hk.2) (.int .i64 t487)) (fun _ hk => hk.2) (.slice Ao59 t488.length co59)) (fun _ hk => ⟨hk.1.1, hk.1.2⟩)⟩
        have n2_ : Aside0 (Kd.R k54 54 (((w56.setCell ⟨gb494, 0, none⟩ (.int .i64 t486)).setCell ⟨gb494, 1, none⟩ (.int .i64 t487)).setCell ⟨gb494, 2, none⟩ (.slice Ao59 t488.length co59)) w.heap.size (fun k_ => some k_ ≠ (.slice Ao20 t449.length co20 : Value).ownBlock ∧ some k_ ≠ (.slice Ao49 t475.length co49 : Value).ownBlock ∧ some k_ ≠ (.slice Ao59 t488.length co59 : Value).ownBlock) (.slice Ao40 x446002_1.length co40) x446002_1) := ⟨by (with_reducible repeat (first | apply Kd.R_alloc | apply Kd.R_drewN | apply Kd.R_drew)); exact Kd.R_mono (Kd.R_far (p := ⟨gb494, 2, none⟩) (Kd.R_far (p := ⟨gb494, 1, none⟩) (Kd.R_far (p := ⟨gb494, 0, none⟩) (Kd.R_types HO_446002.out BK494.out (by decide)) (fun _ hk => hk.2) (.int .i64 t486)) (fun _ hk => hk.2) (.int .i64 t487)) (fun _ hk => hk.2) (.slice Ao59 t488.length co59)) (fun _ hk => ⟨hk.1.2.2, ⟨hk.1.1, hk.1.2.1⟩⟩)⟩
        have n3_ : Aside0 (Kd.R k54 54 (((w56.setCell ⟨gb494, 0, none⟩ (.int .i64 t486)).setCell ⟨gb494, 1, none⟩ (.int .i64 t487)).setCell ⟨gb494, 2, none⟩ (.slice Ao59 t488.length co59)) w.heap.size (fun k_ => some k_ ≠ (.slice Ao40 x446002_1.length co40 : Value).ownBlock ∧ some k_ ≠ (.slice Ao49 t475.length co49 : Value).ownBlock ∧ some k_ ≠ (.slice Ao59 t488.length co59 : Value).ownBlock) (.slice Ao20 t449.length co20) t449) := ⟨by (with_reducible repeat (first | apply Kd.R_alloc | apply Kd.R_drewN | apply Kd.R_drew)); exact Kd.R_mono (Kd.R_far (p := ⟨gb494, 2, none⟩) (Kd.R_far (p := ⟨gb494, 1, none⟩) (Kd.R_far (p := ⟨gb494, 0, none⟩) (Kd.R_types HO_456002.out BK494.out (by decide)) (fun _ hk => hk.2) (.int .i64 t486)) (fun _ hk => hk.2) (.int .i64 t487)) (fun _ hk => hk.2) (.slice Ao59 t488.length co59)) (fun _ hk => ⟨hk.1.2.2, ⟨hk.1.1, hk.1.2.1⟩⟩)⟩
        have n4_ : Aside0 (Kd.R k54 54 (((w56.setCell ⟨gb494, 0, none⟩ (.int .i64 t486)).setCell ⟨gb494, 1, none⟩ (.int .i64 t487)).setCell ⟨gb494, 2, none⟩ (.slice Ao59 t488.length co59)) w.heap.size (fun k_ => some k_ ≠ (.slice Ao40 x446002_1.length co40 : Value).ownBlock ∧ some k_ ≠ (.slice Ao20 t449.length co20 : Value).ownBlock ∧ some k_ ≠ (.slice Ao59 t488.length co59 : Value).ownBlock) (.slice Ao49 t475.length co49) t475) := ⟨by (with_reducible repeat (first | apply Kd.R_alloc | apply Kd.R_drewN | apply Kd.R_drew)); exact Kd.R_mono (Kd.R_far (p := ⟨gb494, 2, none⟩) (Kd.R_far (p := ⟨gb494, 1, none⟩) (Kd.R_far (p := ⟨gb494, 0, none⟩) (Kd.R_types HO477.out BK494.out (by decide)) (fun _ hk => hk.2) (.int .i64 t486)) (fun _ hk => hk.2) (.int .i64 t487)) (fun _ hk => hk.2) (.slice Ao59 t488.length co59)) (fun _ hk => ⟨hk.1.2.1, ⟨hk.1.2.2, hk.1.1⟩⟩)⟩
        have n5_ : Aside0 (Kd.R Kd.string 9 (((w56.setCell ⟨gb494, 0, none⟩ (.int .i64 t486)).setCell ⟨gb494, 1, none⟩ (.int .i64 t487)).setCell ⟨gb494, 2, none⟩ (.slice Ao59 t488.length co59)) w.heap.size (fun k_ => some k_ ≠ (.slice Ao21 t452.length co21 : Value).ownBlock ∧ some k_ ≠ (v492 : Value).ownBlock) v479 t478) := ⟨by (with_reducible repeat (first | apply Kd.R_alloc | apply Kd.R_drewN | apply Kd.R_drew)); exact Kd.R_mono (Kd.R_far (p := ⟨gb494, 2, none⟩) (Kd.R_far (p := ⟨gb494, 1, none⟩) (Kd.R_far (p := ⟨gb494, 0, none⟩) (Kd.R_types HO480.out BK494.out (by decide)) (fun _ hk => hk.2) (.int .i64 t486)) (fun _ hk => hk.2) (.int .i64 t487)) (fun _ hk => hk.2) (.slice Ao59 t488.length co59)) (fun _ hk => ⟨hk.1.2, hk.1.1⟩)⟩
        have n6_ : Aside0 (Kd.R k54 54 (((w56.setCell ⟨gb494, 0, none⟩ (.int .i64 t486)).setCell ⟨gb494, 1, none⟩ (.int .i64 t487)).setCell ⟨gb494, 2, none⟩ (.slice Ao59 t488.length co59)) w.heap.size (fun k_ => some k_ ≠ (.slice Ao40 x446002_1.length co40 : Value).ownBlock ∧ some k_ ≠ (.slice Ao20 t449.length co20 : Value).ownBlock ∧ some k_ ≠ (.slice Ao49 t475.length co49 : Value).ownBlock) (.slice Ao59 t488.length co59) t488) := ⟨by (with_reducible repeat (first | apply Kd.R_alloc | apply Kd.R_drewN | apply Kd.R_drew)); exact Kd.R_mono (Kd.R_far (p := ⟨gb494, 2, none⟩) (Kd.R_far (p := ⟨gb494, 1, none⟩) (Kd.R_far (p := ⟨gb494, 0, none⟩) (Kd.R_types HO490.out BK494.out (by decide)) (fun _ hk => hk.2) (.int .i64 t486)) (fun _ hk => hk.2) (.int .i64 t487)) (fun _ hk => hk.2) (.slice Ao59 t488.length co59)) (fun _ hk => ⟨hk.1.2.1, ⟨hk.1.2.2, hk.1.1⟩⟩)⟩
        have n7_ : Aside0 (Kd.R Kd.string 9 (((w56.setCell ⟨gb494, 0, none⟩ (.int .i64 t486)).setCell ⟨gb494, 1, none⟩ (.int .i64 t487)).setCell ⟨gb494, 2, none⟩ (.slice Ao59 t488.length co59)) w.heap.size (fun k_ => some k_ ≠ (.slice Ao21 t452.length co21 : Value).ownBlock ∧ some k_ ≠ (v479 : Value).ownBlock) v492 t491) := ⟨by (with_reducible repeat (first | apply Kd.R_alloc | apply Kd.R_drewN | apply Kd.R_drew)); exact Kd.R_mono (Kd.R_far (p := ⟨gb494, 2, none⟩) (Kd.R_far (p := ⟨gb494, 1, none⟩) (Kd.R_far (p := ⟨gb494, 0, none⟩) (Kd.R_types HO493.out BK494.out (by decide)) (fun _ hk => hk.2) (.int .i64 t486)) (fun _ hk => hk.2) (.int .i64 t487)) (fun _ hk => hk.2) (.slice Ao59 t488.length co59)) (fun _ hk => ⟨hk.1.2, hk.1.1⟩)⟩
        have n8_ : Aside0 ((((w56.setCell ⟨gb494, 0, none⟩ (.int .i64 t486)).setCell ⟨gb494, 1, none⟩ (.int .i64 t487)).setCell ⟨gb494, 2, none⟩ (.slice Ao59 t488.length co59)).heap[gb445]? = some (.cells #[.int .i64 x446000_1, .int .i64 x446001_1, .slice Ao40 x446002_1.length co40] 30 (0, 0))) := ⟨by (with_reducible repeat (first | refine blk_drewN ?_ _ | refine blk_drew ?_ | refine blk_alloc ?_ _)); refine blk_far ?_ NB445_494.out _; (with_reducible repeat (first | refine blk_drewN ?_ _ | refine blk_drew ?_ | refine blk_alloc ?_ _)); refine blk_far ?_ NB445_494.out _; (with_reducible repeat (first | refine blk_drewN ?_ _ | refine blk_drew ?_ | refine blk_alloc ?_ _)); refine blk_far ?_ NB445_494.out _; (with_reducible repeat (first | refine blk_drewN ?_ _ | refine blk_drew ?_ | refine blk_alloc ?_ _)); exact BK445.out⟩
        have n9_ : Aside0 ((((w56.setCell ⟨gb494, 0, none⟩ (.int .i64 t486)).setCell ⟨gb494, 1, none⟩ (.int .i64 t487)).setCell ⟨gb494, 2, none⟩ (.slice Ao59 t488.length co59)).heap[gb455]? = some (.cells #[.int .i64 t447, .int .i64 t448, .slice Ao20 t449.length co20] 30 (0, 0))) := ⟨by (with_reducible repeat (first | refine blk_drewN ?_ _ | refine blk_drew ?_ | refine blk_alloc ?_ _)); refine blk_far ?_ NB455_494.out _; (with_reducible repeat (first | refine blk_drewN ?_ _ | refine blk_drew ?_ | refine blk_alloc ?_ _)); refine blk_far ?_ NB455_494.out _; (with_reducible repeat (first | refine blk_drewN ?_ _ | refine blk_drew ?_ | refine blk_alloc ?_ _)); refine blk_far ?_ NB455_494.out _; (with_reducible repeat (first | refine blk_drewN ?_ _ | refine blk_drew ?_ | refine blk_alloc ?_ _)); exact BK455.out⟩
        have n10_ : Aside0 ((((w56.setCell ⟨gb494, 0, none⟩ (.int .i64 t486)).setCell ⟨gb494, 1, none⟩ (.int .i64 t487)).setCell ⟨gb494, 2, none⟩ (.slice Ao59 t488.length co59)).heap[gb466]? = some (.cells #[.int .i64 ((rd_T50 t442 x7_1).f0), .int .i64 ((rd_T50 t442 x7_1).f1), .string ((rd_T50 t442 x7_1).f2)] 50 (0, 0))) := ⟨by (with_reducible repeat (first | refine blk_drewN ?_ _ | refine blk_drew ?_ | refine blk_alloc ?_ _)); refine blk_far ?_ NB466_494.out _; (with_reducible repeat (first | refine blk_drewN ?_ _ | refine blk_drew ?_ | refine blk_alloc ?_ _)); refine blk_far ?_ NB466_494.out _; (with_reducible repeat (first | refine blk_drewN ?_ _ | refine blk_drew ?_ | refine blk_alloc ?_ _)); refine blk_far ?_ NB466_494.out _; (with_reducible repeat (first | refine blk_drewN ?_ _ | refine blk_drew ?_ | refine blk_alloc ?_ _)); exact BK466.out⟩
        have n11_ : Aside0 ((((w56.setCell ⟨gb494, 0, none⟩ (.int .i64 t486)).setCell ⟨gb494, 1, none⟩ (.int .i64 t487)).setCell ⟨gb494, 2, none⟩ (.slice Ao59 t488.length co59)).heap[gb481]? = some (.cells #[.int .i64 t473, .int .i64 t474, .slice Ao49 t475.length co49] 30 (0, 0))) := ⟨by (with_reducible repeat (first | refine blk_drewN ?_ _ | refine blk_drew ?_ | refine blk_alloc ?_ _)); refine blk_far ?_ NB481_494.out _; (with_reducible repeat (first | refine blk_drewN ?_ _ | refine blk_drew ?_ | refine blk_alloc ?_ _)); refine blk_far ?_ NB481_494.out _; (with_reducible repeat (first | refine blk_drewN ?_ _ | refine blk_drew ?_ | refine blk_alloc ?_ _)); refine blk_far ?_ NB481_494.out _; (with_reducible repeat (first | refine blk_drewN ?_ _ | refine blk_drew ?_ | refine blk_alloc ?_ _)); exact BK481.out⟩
        have n12_ : Aside0 ((((w56.setCell ⟨gb494, 0, none⟩ (.int .i64 t486)).setCell ⟨gb494, 1, none⟩ (.int .i64 t487)).setCell ⟨gb494, 2, none⟩ (.slice Ao59 t488.length co59)).heap[gb494]? = some (.cells #[.int .i64 t486, .int .i64 t487, .slice Ao59 t488.length co59] 30 (0, 0))) := ⟨by (with_reducible repeat (first | refine blk_drewN ?_ _ | refine blk_drew ?_ | refine blk_alloc ?_ _)); refine blk_put (cs := #[.int .i64 t486, .int .i64 t487, .slice none 0 0]) ?_ 2 _ rfl; (with_reducible repeat (first | refine blk_drewN ?_ _ | refine blk_drew ?_ | refine blk_alloc ?_ _)); refine blk_put (cs := #[.int .i64 t486, .int .i64 0, .slice none 0 0]) ?_ 1 _ rfl; (with_reducible repeat (first | refine blk_drewN ?_ _ | refine blk_drew ?_ | refine blk_alloc ?_ _)); refine blk_put (cs := #[.int .i64 0, .int .i64 0, .slice none 0 0]) ?_ 0 _ rfl; (with_reducible repeat (first | refine blk_drewN ?_ _ | refine blk_drew ?_ | refine blk_alloc ?_ _)); exact BK494.out⟩
        have n13_ : Aside0 (Below w.heap.size w (((w56.setCell ⟨gb494, 0, none⟩ (.int .i64 t486)).setCell ⟨gb494, 1, none⟩ (.int .i64 t487)).setCell ⟨gb494, 2, none⟩ (.slice Ao59 t488.length co59))) := ⟨by repeat (first | (with_reducible first | exact HB.out | apply below_alloc | apply pw_below_drewN | apply below_drew1 | refine below_set ?_ GE445.out | refine below_set ?_ GE455.out | refine below_set ?_ GE466.out | refine below_set ?_ GE481.out | refine below_set ?_ GE494.out) | exact HB.out)⟩
        (try clear HO_4)
        (try clear HO_6)
        (try clear HO_446002)
        (try clear HO_456002)
        (try clear HO477)
        (try clear HO480)
        (try clear HO490)
        (try clear HO493)
        (try clear BK445)
        (try clear BK455)
        (try clear BK466)
        (try clear BK481)
        (try clear BK494)
        (try clear HB)
        generalize (((w56.setCell ⟨gb494, 0, none⟩ (.int .i64 t486)).setCell ⟨gb494, 1, none⟩ (.int .i64 t487)).setCell ⟨gb494, 2, none⟩ (.slice Ao59 t488.length co59)) = w93 at n0_ n1_ n2_ n3_ n4_ n5_ n6_ n7_ n8_ n9_ n10_ n11_ n12_ n13_ ⊢
        have HO_4 := n0_
        have HO_6 := n1_
        have HO_446002 := n2_
        have HO_456002 := n3_
        have HO477 := n4_
        have HO480 := n5_
        have HO490 := n6_
        have HO493 := n7_
        have BK445 := n8_
        have BK455 := n9_
        have BK466 := n10_
        have BK481 := n11_
        have BK494 := n12_
        have HB := n13_
        clear n0_ n1_ n2_ n3_ n4_ n5_ n6_ n7_ n8_ n9_ n10_ n11_ n12_ n13_
        replace HO_4 := am (Kd.R_drew HO_4.out)
        replace HO_6 := am (Kd.R_drew HO_6.out)
        replace HO_446002 := am (Kd.R_drew HO_446002.out)
        replace HO_456002 := am (Kd.R_drew HO_456002.out)
        replace HO477 := am (Kd.R_drew HO477.out)
        replace HO480 := am (Kd.R_drew HO480.out)
        replace HO490 := am (Kd.R_drew HO490.out)
        replace HO493 := am (Kd.R_drew HO493.out)
        replace BK445 := am (blk_drew BK445.out)
        replace BK455 := am (blk_drew BK455.out)
        replace BK466 := am (blk_drew BK466.out)
        replace BK481 := am (blk_drew BK481.out)
        replace BK494 := am (blk_drew BK494.out)
        replace HB := am (below_drew1 HB.out)
        refine start_ (n := 34) (S := fun w' => w'.cell? ⟨gb481, 0, none⟩ = some (.int .i64 t473) ∧ w'.cell? ⟨gb481, 1, none⟩ = some (.int .i64 t474) ∧ w'.cell? ⟨gb481, 2, none⟩ = some (.slice Ao49 t475.length co49)) (ds := []) b0_34 kr rfl rfl ⟨(blk_cell BK481.out 0).trans rfl, (blk_cell BK481.out 1).trans rfl, (blk_cell BK481.out 2).trans rfl⟩ (fun hHeld => ?_); refine with_tabW laws_FnOnce.tab16 laws_FnOnce.bits16 (fun HT_ HW_ => ?_)
        generalize w93.drew = w94 at HO_4 HO_6 HO_446002 HO_456002 HO477 HO480 HO490 HO493 BK445 BK455 BK466 BK481 BK494 HB hHeld ⊢
        refine tV 0 79 (bt 1 34) ?_
        refine one_ (i := 1) (N := some 80) b2_34 rfl rfl (one_of HT_.out kr) (by decide) (fun K hK => ?_)
        refine goes_ Tryd.func22 kr rfl #[.agg #[.int .i64 t473, .int .i64 t474, .slice Ao49 t475.length co49]] (by rfl) rfl rfl q1 ?_
        with_reducible refine (impl_SessionsOk.calls k1 t473 t474 _ _ t475 false _ ?side1 ?side2 A61.out).mono ?_
        (case side1 => exact u13_19)
        (case side2 => exact (Kd.R_reads' HO477.out).2.1)
        rintro e w95 ⟨rfl, hb⟩
        refine ⟨_, rfl, ?_⟩
        replace HO_4 := am (Kd.R_below u13_8 hb)
        replace HO_6 := am (Kd.R_below q10 hb)
        replace HO_446002 := am (Kd.R_below u13_4 hb)
        replace HO_456002 := am (Kd.R_below u13_5 hb)
        replace HO477 := am (Kd.R_below u13_13 hb)
        replace HO480 := am (Kd.R_below u13_14 hb)
        replace HO490 := am (Kd.R_below u13_17 hb)
        replace HO493 := am (Kd.R_below u13_18 hb)
        replace BK445 := am (blk_below (g := gb445) (o := .cells #[.int .i64 x446000_1, .int .i64 x446001_1, .slice Ao40 x446002_1.length co40] 30 (0, 0)) u13_1 hb)
        replace BK455 := am (blk_below (g := gb455) (o := .cells #[.int .i64 t447, .int .i64 t448, .slice Ao20 t449.length co20] 30 (0, 0)) u13_2 hb)
        replace BK466 := am (blk_below (g := gb466) (o := .cells #[.int .i64 ((rd_T50 t442 x7_1).f0), .int .i64 ((rd_T50 t442 x7_1).f1), .string ((rd_T50 t442 x7_1).f2)] 50 (0, 0)) u13_3 hb)
        replace BK481 := am (blk_below (g := gb481) (o := .cells #[.int .i64 t473, .int .i64 t474, .slice Ao49 t475.length co49] 30 (0, 0)) u13_6 hb)
        replace BK494 := am (blk_below (g := gb494) (o := .cells #[.int .i64 t486, .int .i64 t487, .slice Ao59 t488.length co59] 30 (0, 0)) u13_10 hb)
        replace HB := am (below_step q0 hb)
        (try clear hb)
        (try clear hb2)
        (try clear hk)
        (try clear hi)
        refine hK.out _ _ ⟨(blk_cell BK481.out 0).trans rfl, (blk_cell BK481.out 1).trans rfl, (blk_cell BK481.out 2).trans rfl⟩ (fun hHeld => ?_)
        clear hK K
        refine norm_ (a' := ?_) ?_ ?_
        rotate_left
        · show Act.put _ (some 80) _ = _
          simp only [Act.put, la, lb, lc, i64_w, i32_w]
          rfl
        refine pV 2 81 (bt 3 34) ?_
        refine pV 3 82 (bt 4 34) ?_
        refine pU 4 83 (bt 5 34) ?_
        refine pU 5 84 (bt 6 34) ?_
        refine pU 6 85 (bt 7 34) ?_
        refine pV 7 86 (bt 8 34) ?_
        refine pV 8 87 (bt 9 34) ?_
        refine pU 9 88 (bt 10 34) ?_
        refine pU 10 89 (bt 11 34) ?_
        refine pU 11 90 (bt 12 34) ?_
        refine pV 12 91 (bt 13 34) ?_
        refine pV 13 92 (bt 14 34) ?_
        refine pU 14 93 (bt 15 34) ?_
        refine pU 15 94 (bt 16 34) ?_
        refine pU 16 95 (bt 17 34) ?_
        refine pU 17 96 (bt 18 34) ?_
        refine pU 18 97 (bt 19 34) ?_
        refine pU 19 98 (bt 20 34) ?_
        refine pU 20 99 (bt 21 34) ?_
        refine pU 21 100 (bt 22 34) ?_
        refine pV 22 101 (bt 23 34) ?_
        refine pV 23 102 (bt 24 34) ?_
        refine pU 24 103 (bt 25 34) ?_
        refine pU 25 104 (bt 26 34) ?_
        refine pU 26 105 (bt 27 34) ?_
        refine pU 27 106 (bt 28 34) ?_
        refine pU 28 107 (bt 29 34) ?_
        refine pU 29 108 (bt 30 34) ?_
        refine pU 30 109 (bt 31 34) ?_
        refine pU 31 110 (bt 32 34) ?_
        refine pU 32 111 (bt 33 34) ?_
        refine pV 33 112 (bt 34 34) ?_
        refine done_ (done_of HT_.out kr) ?_
        try go_wp2
        go_meet
        case rel => exact ⟨_, (true), q4, H', ⟨u13_41⟩, ⟨u13_8⟩, ⟨q10⟩, ⟨u13_14⟩, ⟨u13_18⟩, ⟨u13_4⟩, ⟨u13_5⟩, ⟨u13_13⟩, ⟨u13_17⟩, ⟨u13_1⟩, ⟨u13_2⟩, ⟨u13_3⟩, ⟨u13_6⟩, ⟨u13_10⟩, ⟨q0⟩⟩
      subst c62
      rw [if_pos rfl] at H
      by_cases c63 : (t478.length : Int) = 1
      rotate_left
      · rw [if_neg c63] at H
        have c63b0 : ((t478.length : Int) == 1) = false := beq_eq_false_iff_ne.mpr c63
        have c63b1 : ((t478.length : Int) != 1) = true := bne_iff_ne.mpr c63
        (first | rw [c63b0] | (simp only [i64_w, i32_w]; rw [c63b0]) | skip)
        have H' := am H
        clear H
        try go_wp2
        have n0_ : Aside0 (Kd.R k50 50 (((w56.setCell ⟨gb494, 0, none⟩ (.int .i64 t486)).setCell ⟨gb494, 1, none⟩ (.int .i64 t487)).setCell ⟨gb494, 2, none⟩ (.slice Ao59 t488.length co59)) w.heap.size (fun k_ => k_ ≠ gb466) (.slice (some ad465) t442.length co15) t442) := ⟨by (with_reducible repeat (first | apply Kd.R_alloc | apply Kd.R_drewN | apply Kd.R_drew)); exact Kd.R_mono (Kd.R_far (p := ⟨gb494, 2, none⟩) (Kd.R_far (p := ⟨gb494, 1, none⟩) (Kd.R_far (p := ⟨gb494, 0, none⟩) (Kd.R_types HO_4.out BK494.out (by decide)) (fun _ hk => hk.2) (.int .i64 t486)) (fun _ hk => hk.2) (.int .i64 t487)) (fun _ hk => hk.2) (.slice Ao59 t488.length co59)) (fun _ hk => hk.1)⟩
        have n1_ : Aside0 (Kd.R Kd.string 9 (((w56.setCell ⟨gb494, 0, none⟩ (.int .i64 t486)).setCell ⟨gb494, 1, none⟩ (.int .i64 t487)).setCell ⟨gb494, 2, none⟩ (.slice Ao59 t488.length co59)) w.heap.size (fun k_ => some k_ ≠ (v479 : Value).ownBlock ∧ some k_ ≠ (v492 : Value).ownBlock) (.slice Ao21 t452.length co21) t452) := ⟨by (with_reducible repeat (first | apply Kd.R_alloc | apply Kd.R_drewN | apply Kd.R_drew)); exact Kd.R_mono (Kd.R_far (p := ⟨gb494, 2, none⟩) (Kd.R_far (p := ⟨gb494, 1, none⟩) (Kd.R_far (p := ⟨gb494, 0, none⟩) (Kd.R_types HO_6.out BK494.out (by decide)) (fun _ hk => hk.2) (.int .i64 t486)) (fun _ hk => hk.2) (.int .i64 t487)) (fun _ hk => hk.2) (.slice Ao59 t488.length co59)) (fun _ hk => ⟨hk.1.1, hk.1.2⟩)⟩
        have n2_ : Aside0 (Kd.R k54 54 (((w56.setCell ⟨gb494, 0, none⟩ (.int .i64 t486)).setCell ⟨gb494, 1, none⟩ (.int .i64 t487)).setCell ⟨gb494, 2, none⟩ (.slice Ao59 t488.length co59)) w.heap.size (fun k_ => some k_ ≠ (.slice Ao20 t449.length co20 : Value).ownBlock ∧ some k_ ≠ (.slice Ao49 t475.length co49 : Value).ownBlock ∧ some k_ ≠ (.slice Ao59 t488.length co59 : Value).ownBlock) (.slice Ao40 x446002_1.length co40) x446002_1) := ⟨by (with_reducible repeat (first | apply Kd.R_alloc | apply Kd.R_drewN | apply Kd.R_drew)); exact Kd.R_mono (Kd.R_far (p := ⟨gb494, 2, none⟩) (Kd.R_far (p := ⟨gb494, 1, none⟩) (Kd.R_far (p := ⟨gb494, 0, none⟩) (Kd.R_types HO_446002.out BK494.out (by decide)) (fun _ hk => hk.2) (.int .i64 t486)) (fun _ hk => hk.2) (.int .i64 t487)) (fun _ hk => hk.2) (.slice Ao59 t488.length co59)) (fun _ hk => ⟨hk.1.2.2, ⟨hk.1.1, hk.1.2.1⟩⟩)⟩
        have n3_ : Aside0 (Kd.R k54 54 (((w56.setCell ⟨gb494, 0, none⟩ (.int .i64 t486)).setCell ⟨gb494, 1, none⟩ (.int .i64 t487)).setCell ⟨gb494, 2, none⟩ (.slice Ao59 t488.length co59)) w.heap.size (fun k_ => some k_ ≠ (.slice Ao40 x446002_1.length co40 : Value).ownBlock ∧ some k_ ≠ (.slice Ao49 t475.length co49 : Value).ownBlock ∧ some k_ ≠ (.slice Ao59 t488.length co59 : Value).ownBlock) (.slice Ao20 t449.length co20) t449) := ⟨by (with_reducible repeat (first | apply Kd.R_alloc | apply Kd.R_drewN | apply Kd.R_drew)); exact Kd.R_mono (Kd.R_far (p := ⟨gb494, 2, none⟩) (Kd.R_far (p := ⟨gb494, 1, none⟩) (Kd.R_far (p := ⟨gb494, 0, none⟩) (Kd.R_types HO_456002.out BK494.out (by decide)) (fun _ hk => hk.2) (.int .i64 t486)) (fun _ hk => hk.2) (.int .i64 t487)) (fun _ hk => hk.2) (.slice Ao59 t488.length co59)) (fun _ hk => ⟨hk.1.2.2, ⟨hk.1.1, hk.1.2.1⟩⟩)⟩
        have n4_ : Aside0 (Kd.R k54 54 (((w56.setCell ⟨gb494, 0, none⟩ (.int .i64 t486)).setCell ⟨gb494, 1, none⟩ (.int .i64 t487)).setCell ⟨gb494, 2, none⟩ (.slice Ao59 t488.length co59)) w.heap.size (fun k_ => some k_ ≠ (.slice Ao40 x446002_1.length co40 : Value).ownBlock ∧ some k_ ≠ (.slice Ao20 t449.length co20 : Value).ownBlock ∧ some k_ ≠ (.slice Ao59 t488.length co59 : Value).ownBlock) (.slice Ao49 t475.length co49) t475) := ⟨by (with_reducible repeat (first | apply Kd.R_alloc | apply Kd.R_drewN | apply Kd.R_drew)); exact Kd.R_mono (Kd.R_far (p := ⟨gb494, 2, none⟩) (Kd.R_far (p := ⟨gb494, 1, none⟩) (Kd.R_far (p := ⟨gb494, 0, none⟩) (Kd.R_types HO477.out BK494.out (by decide)) (fun _ hk => hk.2) (.int .i64 t486)) (fun _ hk => hk.2) (.int .i64 t487)) (fun _ hk => hk.2) (.slice Ao59 t488.length co59)) (fun _ hk => ⟨hk.1.2.1, ⟨hk.1.2.2, hk.1.1⟩⟩)⟩
        have n5_ : Aside0 (Kd.R Kd.string 9 (((w56.setCell ⟨gb494, 0, none⟩ (.int .i64 t486)).setCell ⟨gb494, 1, none⟩ (.int .i64 t487)).setCell ⟨gb494, 2, none⟩ (.slice Ao59 t488.length co59)) w.heap.size (fun k_ => some k_ ≠ (.slice Ao21 t452.length co21 : Value).ownBlock ∧ some k_ ≠ (v492 : Value).ownBlock) v479 t478) := ⟨by (with_reducible repeat (first | apply Kd.R_alloc | apply Kd.R_drewN | apply Kd.R_drew)); exact Kd.R_mono (Kd.R_far (p := ⟨gb494, 2, none⟩) (Kd.R_far (p := ⟨gb494, 1, none⟩) (Kd.R_far (p := ⟨gb494, 0, none⟩) (Kd.R_types HO480.out BK494.out (by decide)) (fun _ hk => hk.2) (.int .i64 t486)) (fun _ hk => hk.2) (.int .i64 t487)) (fun _ hk => hk.2) (.slice Ao59 t488.length co59)) (fun _ hk => ⟨hk.1.2, hk.1.1⟩)⟩
        have n6_ : Aside0 (Kd.R k54 54 (((w56.setCell ⟨gb494, 0, none⟩ (.int .i64 t486)).setCell ⟨gb494, 1, none⟩ (.int .i64 t487)).setCell ⟨gb494, 2, none⟩ (.slice Ao59 t488.length co59)) w.heap.size (fun k_ => some k_ ≠ (.slice Ao40 x446002_1.length co40 : Value).ownBlock ∧ some k_ ≠ (.slice Ao20 t449.length co20 : Value).ownBlock ∧ some k_ ≠ (.slice Ao49 t475.length co49 : Value).ownBlock) (.slice Ao59 t488.length co59) t488) := ⟨by (with_reducible repeat (first | apply Kd.R_alloc | apply Kd.R_drewN | apply Kd.R_drew)); exact Kd.R_mono (Kd.R_far (p := ⟨gb494, 2, none⟩) (Kd.R_far (p := ⟨gb494, 1, none⟩) (Kd.R_far (p := ⟨gb494, 0, none⟩) (Kd.R_types HO490.out BK494.out (by decide)) (fun _ hk => hk.2) (.int .i64 t486)) (fun _ hk => hk.2) (.int .i64 t487)) (fun _ hk => hk.2) (.slice Ao59 t488.length co59)) (fun _ hk => ⟨hk.1.2.1, ⟨hk.1.2.2, hk.1.1⟩⟩)⟩
        have n7_ : Aside0 (Kd.R Kd.string 9 (((w56.setCell ⟨gb494, 0, none⟩ (.int .i64 t486)).setCell ⟨gb494, 1, none⟩ (.int .i64 t487)).setCell ⟨gb494, 2, none⟩ (.slice Ao59 t488.length co59)) w.heap.size (fun k_ => some k_ ≠ (.slice Ao21 t452.length co21 : Value).ownBlock ∧ some k_ ≠ (v479 : Value).ownBlock) v492 t491) := ⟨by (with_reducible repeat (first | apply Kd.R_alloc | apply Kd.R_drewN | apply Kd.R_drew)); exact Kd.R_mono (Kd.R_far (p := ⟨gb494, 2, none⟩) (Kd.R_far (p := ⟨gb494, 1, none⟩) (Kd.R_far (p := ⟨gb494, 0, none⟩) (Kd.R_types HO493.out BK494.out (by decide)) (fun _ hk => hk.2) (.int .i64 t486)) (fun _ hk => hk.2) (.int .i64 t487)) (fun _ hk => hk.2) (.slice Ao59 t488.length co59)) (fun _ hk => ⟨hk.1.2, hk.1.1⟩)⟩
        have n8_ : Aside0 ((((w56.setCell ⟨gb494, 0, none⟩ (.int .i64 t486)).setCell ⟨gb494, 1, none⟩ (.int .i64 t487)).setCell ⟨gb494, 2, none⟩ (.slice Ao59 t488.length co59)).heap[gb445]? = some (.cells #[.int .i64 x446000_1, .int .i64 x446001_1, .slice Ao40 x446002_1.length co40] 30 (0, 0))) := ⟨by (with_reducible repeat (first | refine blk_drewN ?_ _ | refine blk_drew ?_ | refine blk_alloc ?_ _)); refine blk_far ?_ NB445_494.out _; (with_reducible repeat (first | refine blk_drewN ?_ _ | refine blk_drew ?_ | refine blk_alloc ?_ _)); refine blk_far ?_ NB445_494.out _; (with_reducible repeat (first | refine blk_drewN ?_ _ | refine blk_drew ?_ | refine blk_alloc ?_ _)); refine blk_far ?_ NB445_494.out _; (with_reducible repeat (first | refine blk_drewN ?_ _ | refine blk_drew ?_ | refine blk_alloc ?_ _)); exact BK445.out⟩
        have n9_ : Aside0 ((((w56.setCell ⟨gb494, 0, none⟩ (.int .i64 t486)).setCell ⟨gb494, 1, none⟩ (.int .i64 t487)).setCell ⟨gb494, 2, none⟩ (.slice Ao59 t488.length co59)).heap[gb455]? = some (.cells #[.int .i64 t447, .int .i64 t448, .slice Ao20 t449.length co20] 30 (0, 0))) := ⟨by (with_reducible repeat (first | refine blk_drewN ?_ _ | refine blk_drew ?_ | refine blk_alloc ?_ _)); refine blk_far ?_ NB455_494.out _; (with_reducible repeat (first | refine blk_drewN ?_ _ | refine blk_drew ?_ | refine blk_alloc ?_ _)); refine blk_far ?_ NB455_494.out _; (with_reducible repeat (first | refine blk_drewN ?_ _ | refine blk_drew ?_ | refine blk_alloc ?_ _)); refine blk_far ?_ NB455_494.out _; (with_reducible repeat (first | refine blk_drewN ?_ _ | refine blk_drew ?_ | refine blk_alloc ?_ _)); exact BK455.out⟩
        have n10_ : Aside0 ((((w56.setCell ⟨gb494, 0, none⟩ (.int .i64 t486)).setCell ⟨gb494, 1, none⟩ (.int .i64 t487)).setCell ⟨gb494, 2, none⟩ (.slice Ao59 t488.length co59)).heap[gb466]? = some (.cells #[.int .i64 ((rd_T50 t442 x7_1).f0), .int .i64 ((rd_T50 t442 x7_1).f1), .string ((rd_T50 t442 x7_1).f2)] 50 (0, 0))) := ⟨by (with_reducible repeat (first | refine blk_drewN ?_ _ | refine blk_drew ?_ | refine blk_alloc ?_ _)); refine blk_far ?_ NB466_494.out _; (with_reducible repeat (first | refine blk_drewN ?_ _ | refine blk_drew ?_ | refine blk_alloc ?_ _)); refine blk_far ?_ NB466_494.out _; (with_reducible repeat (first | refine blk_drewN ?_ _ | refine blk_drew ?_ | refine blk_alloc ?_ _)); refine blk_far ?_ NB466_494.out _; (with_reducible repeat (first | refine blk_drewN ?_ _ | refine blk_drew ?_ | refine blk_alloc ?_ _)); exact BK466.out⟩
        have n11_ : Aside0 ((((w56.setCell ⟨gb494, 0, none⟩ (.int .i64 t486)).setCell ⟨gb494, 1, none⟩ (.int .i64 t487)).setCell ⟨gb494, 2, none⟩ (.slice Ao59 t488.length co59)).heap[gb481]? = some (.cells #[.int .i64 t473, .int .i64 t474, .slice Ao49 t475.length co49] 30 (0, 0))) := ⟨by (with_reducible repeat (first | refine blk_drewN ?_ _ | refine blk_drew ?_ | refine blk_alloc ?_ _)); refine blk_far ?_ NB481_494.out _; (with_reducible repeat (first | refine blk_drewN ?_ _ | refine blk_drew ?_ | refine blk_alloc ?_ _)); refine blk_far ?_ NB481_494.out _; (with_reducible repeat (first | refine blk_drewN ?_ _ | refine blk_drew ?_ | refine blk_alloc ?_ _)); refine blk_far ?_ NB481_494.out _; (with_reducible repeat (first | refine blk_drewN ?_ _ | refine blk_drew ?_ | refine blk_alloc ?_ _)); exact BK481.out⟩
        have n12_ : Aside0 ((((w56.setCell ⟨gb494, 0, none⟩ (.int .i64 t486)).setCell ⟨gb494, 1, none⟩ (.int .i64 t487)).setCell ⟨gb494, 2, none⟩ (.slice Ao59 t488.length co59)).heap[gb494]? = some (.cells #[.int .i64 t486, .int .i64 t487, .slice Ao59 t488.length co59] 30 (0, 0))) := ⟨by (with_reducible repeat (first | refine blk_drewN ?_ _ | refine blk_drew ?_ | refine blk_alloc ?_ _)); refine blk_put (cs := #[.int .i64 t486, .int .i64 t487, .slice none 0 0]) ?_ 2 _ rfl; (with_reducible repeat (first | refine blk_drewN ?_ _ | refine blk_drew ?_ | refine blk_alloc ?_ _)); refine blk_put (cs := #[.int .i64 t486, .int .i64 0, .slice none 0 0]) ?_ 1 _ rfl; (with_reducible repeat (first | refine blk_drewN ?_ _ | refine blk_drew ?_ | refine blk_alloc ?_ _)); refine blk_put (cs := #[.int .i64 0, .int .i64 0, .slice none 0 0]) ?_ 0 _ rfl; (with_reducible repeat (first | refine blk_drewN ?_ _ | refine blk_drew ?_ | refine blk_alloc ?_ _)); exact BK494.out⟩
        have n13_ : Aside0 (Below w.heap.size w (((w56.setCell ⟨gb494, 0, none⟩ (.int .i64 t486)).setCell ⟨gb494, 1, none⟩ (.int .i64 t487)).setCell ⟨gb494, 2, none⟩ (.slice Ao59 t488.length co59))) := ⟨by repeat (first | (with_reducible first | exact HB.out | apply below_alloc | apply pw_below_drewN | apply below_drew1 | refine below_set ?_ GE445.out | refine below_set ?_ GE455.out | refine below_set ?_ GE466.out | refine below_set ?_ GE481.out | refine below_set ?_ GE494.out) | exact HB.out)⟩
        (try clear HO_4)
        (try clear HO_6)
        (try clear HO_446002)
        (try clear HO_456002)
        (try clear HO477)
        (try clear HO480)
        (try clear HO490)
        (try clear HO493)
        (try clear BK445)
        (try clear BK455)
        (try clear BK466)
        (try clear BK481)
        (try clear BK494)
        (try clear HB)
        generalize (((w56.setCell ⟨gb494, 0, none⟩ (.int .i64 t486)).setCell ⟨gb494, 1, none⟩ (.int .i64 t487)).setCell ⟨gb494, 2, none⟩ (.slice Ao59 t488.length co59)) = w89 at n0_ n1_ n2_ n3_ n4_ n5_ n6_ n7_ n8_ n9_ n10_ n11_ n12_ n13_ ⊢
        have HO_4 := n0_
        have HO_6 := n1_
        have HO_446002 := n2_
        have HO_456002 := n3_
        have HO477 := n4_
        have HO480 := n5_
        have HO490 := n6_
        have HO493 := n7_
        have BK445 := n8_
        have BK455 := n9_
        have BK466 := n10_
        have BK481 := n11_
        have BK494 := n12_
        have HB := n13_
        clear n0_ n1_ n2_ n3_ n4_ n5_ n6_ n7_ n8_ n9_ n10_ n11_ n12_ n13_
        replace HO_4 := am (Kd.R_drew HO_4.out)
        replace HO_6 := am (Kd.R_drew HO_6.out)
        replace HO_446002 := am (Kd.R_drew HO_446002.out)
        replace HO_456002 := am (Kd.R_drew HO_456002.out)
        replace HO477 := am (Kd.R_drew HO477.out)
        replace HO480 := am (Kd.R_drew HO480.out)
        replace HO490 := am (Kd.R_drew HO490.out)
        replace HO493 := am (Kd.R_drew HO493.out)
        replace BK445 := am (blk_drew BK445.out)
        replace BK455 := am (blk_drew BK455.out)
        replace BK466 := am (blk_drew BK466.out)
        replace BK481 := am (blk_drew BK481.out)
        replace BK494 := am (blk_drew BK494.out)
        replace HB := am (below_drew1 HB.out)
        refine start_ (n := 34) (S := fun w' => w'.cell? ⟨gb481, 0, none⟩ = some (.int .i64 t473) ∧ w'.cell? ⟨gb481, 1, none⟩ = some (.int .i64 t474) ∧ w'.cell? ⟨gb481, 2, none⟩ = some (.slice Ao49 t475.length co49)) (ds := []) b0_34 kr rfl rfl ⟨(blk_cell BK481.out 0).trans rfl, (blk_cell BK481.out 1).trans rfl, (blk_cell BK481.out 2).trans rfl⟩ (fun hHeld => ?_); refine with_tabW laws_FnOnce.tab16 laws_FnOnce.bits16 (fun HT_ HW_ => ?_)
        generalize w89.drew = w90 at HO_4 HO_6 HO_446002 HO_456002 HO477 HO480 HO490 HO493 BK445 BK455 BK466 BK481 BK494 HB hHeld ⊢
        refine tV 0 79 (bt 1 34) ?_
        refine one_ (i := 1) (N := some 80) b2_34 rfl rfl (one_of HT_.out kr) (by decide) (fun K hK => ?_)
        refine goes_ Tryd.func22 kr rfl #[.agg #[.int .i64 t473, .int .i64 t474, .slice Ao49 t475.length co49]] (by rfl) rfl rfl q1 ?_
        with_reducible refine (impl_SessionsOk.calls k1 t473 t474 _ _ t475 true _ ?side1 ?side2 A61.out).mono ?_
        (case side1 => exact u13_19)
        (case side2 => exact (Kd.R_reads' HO477.out).2.1)
        rintro e w91 ⟨rfl, hb⟩
        refine ⟨_, rfl, ?_⟩
        replace HO_4 := am (Kd.R_below u13_8 hb)
        replace HO_6 := am (Kd.R_below q10 hb)
        replace HO_446002 := am (Kd.R_below u13_4 hb)
        replace HO_456002 := am (Kd.R_below u13_5 hb)
        replace HO477 := am (Kd.R_below u13_13 hb)
        replace HO480 := am (Kd.R_below u13_14 hb)
        replace HO490 := am (Kd.R_below u13_17 hb)
        replace HO493 := am (Kd.R_below u13_18 hb)
        replace BK445 := am (blk_below (g := gb445) (o := .cells #[.int .i64 x446000_1, .int .i64 x446001_1, .slice Ao40 x446002_1.length co40] 30 (0, 0)) u13_1 hb)
        replace BK455 := am (blk_below (g := gb455) (o := .cells #[.int .i64 t447, .int .i64 t448, .slice Ao20 t449.length co20] 30 (0, 0)) u13_2 hb)
        replace BK466 := am (blk_below (g := gb466) (o := .cells #[.int .i64 ((rd_T50 t442 x7_1).f0), .int .i64 ((rd_T50 t442 x7_1).f1), .string ((rd_T50 t442 x7_1).f2)] 50 (0, 0)) u13_3 hb)
        replace BK481 := am (blk_below (g := gb481) (o := .cells #[.int .i64 t473, .int .i64 t474, .slice Ao49 t475.length co49] 30 (0, 0)) u13_6 hb)
        replace BK494 := am (blk_below (g := gb494) (o := .cells #[.int .i64 t486, .int .i64 t487, .slice Ao59 t488.length co59] 30 (0, 0)) u13_10 hb)
        replace HB := am (below_step q0 hb)
        (try clear hb)
        (try clear hb2)
        (try clear hk)
        (try clear hi)
        obtain ⟨Ao92, co92, eo92⟩ := Kd.R_slice HO480.out
        (first | subst eo92 | (injection eo92 with f1_ f2_ f3_; have f4_ := f1_.symm; have f5_ := f3_.symm; clear f1_ f2_ f3_; subst f4_; subst f5_))
        refine hK.out _ _ ⟨(blk_cell BK481.out 0).trans rfl, (blk_cell BK481.out 1).trans rfl, (blk_cell BK481.out 2).trans rfl⟩ (fun hHeld => ?_)
        clear hK K
        refine norm_ (a' := ?_) ?_ ?_
        rotate_left
        · show Act.put _ (some 80) _ = _
          simp only [Act.put, la, lb, lc, i64_w, i32_w]
          rfl
        refine pV 2 81 (bt 3 34) ?_
        refine pV 3 82 (bt 4 34) ?_
        refine pV 4 83 (bt 5 34) ?_
        refine pV 5 84 (bt 6 34) ?_
        refine pV 6 85 (bt 7 34) ?_
        refine pV 7 86 (bt 8 34) ?_
        refine pV 8 87 (bt 9 34) ?_
        refine pU 9 88 (bt 10 34) ?_
        refine pU 10 89 (bt 11 34) ?_
        refine pU 11 90 (bt 12 34) ?_
        refine pV 12 91 (bt 13 34) ?_
        refine pV 13 92 (bt 14 34) ?_
        refine pU 14 93 (bt 15 34) ?_
        refine pU 15 94 (bt 16 34) ?_
        refine pU 16 95 (bt 17 34) ?_
        refine pU 17 96 (bt 18 34) ?_
        refine pU 18 97 (bt 19 34) ?_
        refine pU 19 98 (bt 20 34) ?_
        refine pU 20 99 (bt 21 34) ?_
        refine pU 21 100 (bt 22 34) ?_
        refine pV 22 101 (bt 23 34) ?_
        refine pV 23 102 (bt 24 34) ?_
        refine pU 24 103 (bt 25 34) ?_
        refine pU 25 104 (bt 26 34) ?_
        refine pU 26 105 (bt 27 34) ?_
        refine pU 27 106 (bt 28 34) ?_
        refine pU 28 107 (bt 29 34) ?_
        refine pU 29 108 (bt 30 34) ?_
        refine pU 30 109 (bt 31 34) ?_
        refine pU 31 110 (bt 32 34) ?_
        refine pU 32 111 (bt 33 34) ?_
        refine pV 33 112 (bt 34 34) ?_
        refine done_ (done_of HT_.out kr) ?_
        try go_wp2
        go_meet
        case rel => exact ⟨_, (true), q4, H', ⟨u13_41⟩, ⟨u13_8⟩, ⟨q10⟩, ⟨u13_14⟩, ⟨u13_18⟩, ⟨u13_4⟩, ⟨u13_5⟩, ⟨u13_13⟩, ⟨u13_17⟩, ⟨u13_1⟩, ⟨u13_2⟩, ⟨u13_3⟩, ⟨u13_6⟩, ⟨u13_10⟩, ⟨q0⟩⟩
      rw [if_pos c63] at H
      have c63b0 : ((t478.length : Int) == 1) = true := beq_iff_eq.mpr c63
      have c63b1 : ((t478.length : Int) != 1) = false := bne_eq_false_iff_eq.mpr c63
      clear c63
      (first | rw [c63b0] | (simp only [i64_w, i32_w]; rw [c63b0]) | skip)
      by_cases c64 : (t491.length : Int) = 1
      rotate_left
      · rw [if_neg c64] at H
        have c64b0 : ((t491.length : Int) == 1) = false := beq_eq_false_iff_ne.mpr c64
        have c64b1 : ((t491.length : Int) != 1) = true := bne_iff_ne.mpr c64
        have H' := am H
        clear H
        try go_wp2
        have n0_ : Aside0 (Kd.R k50 50 (((w56.setCell ⟨gb494, 0, none⟩ (.int .i64 t486)).setCell ⟨gb494, 1, none⟩ (.int .i64 t487)).setCell ⟨gb494, 2, none⟩ (.slice Ao59 t488.length co59)) w.heap.size (fun k_ => k_ ≠ gb466) (.slice (some ad465) t442.length co15) t442) := ⟨by (with_reducible repeat (first | apply Kd.R_alloc | apply Kd.R_drewN | apply Kd.R_drew)); exact Kd.R_mono (Kd.R_far (p := ⟨gb494, 2, none⟩) (Kd.R_far (p := ⟨gb494, 1, none⟩) (Kd.R_far (p := ⟨gb494, 0, none⟩) (Kd.R_types HO_4.out BK494.out (by decide)) (fun _ hk => hk.2) (.int .i64 t486)) (fun _ hk => hk.2) (.int .i64 t487)) (fun _ hk => hk.2) (.slice Ao59 t488.length co59)) (fun _ hk => hk.1)⟩
        have n1_ : Aside0 (Kd.R Kd.string 9 (((w56.setCell ⟨gb494, 0, none⟩ (.int .i64 t486)).setCell ⟨gb494, 1, none⟩ (.int .i64 t487)).setCell ⟨gb494, 2, none⟩ (.slice Ao59 t488.length co59)) w.heap.size (fun k_ => some k_ ≠ (v479 : Value).ownBlock ∧ some k_ ≠ (v492 : Value).ownBlock) (.slice Ao21 t452.length co21) t452) := ⟨by (with_reducible repeat (first | apply Kd.R_alloc | apply Kd.R_drewN | apply Kd.R_drew)); exact Kd.R_mono (Kd.R_far (p := ⟨gb494, 2, none⟩) (Kd.R_far (p := ⟨gb494, 1, none⟩) (Kd.R_far (p := ⟨gb494, 0, none⟩) (Kd.R_types HO_6.out BK494.out (by decide)) (fun _ hk => hk.2) (.int .i64 t486)) (fun _ hk => hk.2) (.int .i64 t487)) (fun _ hk => hk.2) (.slice Ao59 t488.length co59)) (fun _ hk => ⟨hk.1.1, hk.1.2⟩)⟩
        have n2_ : Aside0 (Kd.R k54 54 (((w56.setCell ⟨gb494, 0, none⟩ (.int .i64 t486)).setCell ⟨gb494, 1, none⟩ (.int .i64 t487)).setCell ⟨gb494, 2, none⟩ (.slice Ao59 t488.length co59)) w.heap.size (fun k_ => some k_ ≠ (.slice Ao20 t449.length co20 : Value).ownBlock ∧ some k_ ≠ (.slice Ao49 t475.length co49 : Value).ownBlock ∧ some k_ ≠ (.slice Ao59 t488.length co59 : Value).ownBlock) (.slice Ao40 x446002_1.length co40) x446002_1) := ⟨by (with_reducible repeat (first | apply Kd.R_alloc | apply Kd.R_drewN | apply Kd.R_drew)); exact Kd.R_mono (Kd.R_far (p := ⟨gb494, 2, none⟩) (Kd.R_far (p := ⟨gb494, 1, none⟩) (Kd.R_far (p := ⟨gb494, 0, none⟩) (Kd.R_types HO_446002.out BK494.out (by decide)) (fun _ hk => hk.2) (.int .i64 t486)) (fun _ hk => hk.2) (.int .i64 t487)) (fun _ hk => hk.2) (.slice Ao59 t488.length co59)) (fun _ hk => ⟨hk.1.2.2, ⟨hk.1.1, hk.1.2.1⟩⟩)⟩
        have n3_ : Aside0 (Kd.R k54 54 (((w56.setCell ⟨gb494, 0, none⟩ (.int .i64 t486)).setCell ⟨gb494, 1, none⟩ (.int .i64 t487)).setCell ⟨gb494, 2, none⟩ (.slice Ao59 t488.length co59)) w.heap.size (fun k_ => some k_ ≠ (.slice Ao40 x446002_1.length co40 : Value).ownBlock ∧ some k_ ≠ (.slice Ao49 t475.length co49 : Value).ownBlock ∧ some k_ ≠ (.slice Ao59 t488.length co59 : Value).ownBlock) (.slice Ao20 t449.length co20) t449) := ⟨by (with_reducible repeat (first | apply Kd.R_alloc | apply Kd.R_drewN | apply Kd.R_drew)); exact Kd.R_mono (Kd.R_far (p := ⟨gb494, 2, none⟩) (Kd.R_far (p := ⟨gb494, 1, none⟩) (Kd.R_far (p := ⟨gb494, 0, none⟩) (Kd.R_types HO_456002.out BK494.out (by decide)) (fun _ hk => hk.2) (.int .i64 t486)) (fun _ hk => hk.2) (.int .i64 t487)) (fun _ hk => hk.2) (.slice Ao59 t488.length co59)) (fun _ hk => ⟨hk.1.2.2, ⟨hk.1.1, hk.1.2.1⟩⟩)⟩
        have n4_ : Aside0 (Kd.R k54 54 (((w56.setCell ⟨gb494, 0, none⟩ (.int .i64 t486)).setCell ⟨gb494, 1, none⟩ (.int .i64 t487)).setCell ⟨gb494, 2, none⟩ (.slice Ao59 t488.length co59)) w.heap.size (fun k_ => some k_ ≠ (.slice Ao40 x446002_1.length co40 : Value).ownBlock ∧ some k_ ≠ (.slice Ao20 t449.length co20 : Value).ownBlock ∧ some k_ ≠ (.slice Ao59 t488.length co59 : Value).ownBlock) (.slice Ao49 t475.length co49) t475) := ⟨by (with_reducible repeat (first | apply Kd.R_alloc | apply Kd.R_drewN | apply Kd.R_drew)); exact Kd.R_mono (Kd.R_far (p := ⟨gb494, 2, none⟩) (Kd.R_far (p := ⟨gb494, 1, none⟩) (Kd.R_far (p := ⟨gb494, 0, none⟩) (Kd.R_types HO477.out BK494.out (by decide)) (fun _ hk => hk.2) (.int .i64 t486)) (fun _ hk => hk.2) (.int .i64 t487)) (fun _ hk => hk.2) (.slice Ao59 t488.length co59)) (fun _ hk => ⟨hk.1.2.1, ⟨hk.1.2.2, hk.1.1⟩⟩)⟩
        have n5_ : Aside0 (Kd.R Kd.string 9 (((w56.setCell ⟨gb494, 0, none⟩ (.int .i64 t486)).setCell ⟨gb494, 1, none⟩ (.int .i64 t487)).setCell ⟨gb494, 2, none⟩ (.slice Ao59 t488.length co59)) w.heap.size (fun k_ => some k_ ≠ (.slice Ao21 t452.length co21 : Value).ownBlock ∧ some k_ ≠ (v492 : Value).ownBlock) v479 t478) := ⟨by (with_reducible repeat (first | apply Kd.R_alloc | apply Kd.R_drewN | apply Kd.R_drew)); exact Kd.R_mono (Kd.R_far (p := ⟨gb494, 2, none⟩) (Kd.R_far (p := ⟨gb494, 1, none⟩) (Kd.R_far (p := ⟨gb494, 0, none⟩) (Kd.R_types HO480.out BK494.out (by decide)) (fun _ hk => hk.2) (.int .i64 t486)) (fun _ hk => hk.2) (.int .i64 t487)) (fun _ hk => hk.2) (.slice Ao59 t488.length co59)) (fun _ hk => ⟨hk.1.2, hk.1.1⟩)⟩
        have n6_ : Aside0 (Kd.R k54 54 (((w56.setCell ⟨gb494, 0, none⟩ (.int .i64 t486)).setCell ⟨gb494, 1, none⟩ (.int .i64 t487)).setCell ⟨gb494, 2, none⟩ (.slice Ao59 t488.length co59)) w.heap.size (fun k_ => some k_ ≠ (.slice Ao40 x446002_1.length co40 : Value).ownBlock ∧ some k_ ≠ (.slice Ao20 t449.length co20 : Value).ownBlock ∧ some k_ ≠ (.slice Ao49 t475.length co49 : Value).ownBlock) (.slice Ao59 t488.length co59) t488) := ⟨by (with_reducible repeat (first | apply Kd.R_alloc | apply Kd.R_drewN | apply Kd.R_drew)); exact Kd.R_mono (Kd.R_far (p := ⟨gb494, 2, none⟩) (Kd.R_far (p := ⟨gb494, 1, none⟩) (Kd.R_far (p := ⟨gb494, 0, none⟩) (Kd.R_types HO490.out BK494.out (by decide)) (fun _ hk => hk.2) (.int .i64 t486)) (fun _ hk => hk.2) (.int .i64 t487)) (fun _ hk => hk.2) (.slice Ao59 t488.length co59)) (fun _ hk => ⟨hk.1.2.1, ⟨hk.1.2.2, hk.1.1⟩⟩)⟩
        have n7_ : Aside0 (Kd.R Kd.string 9 (((w56.setCell ⟨gb494, 0, none⟩ (.int .i64 t486)).setCell ⟨gb494, 1, none⟩ (.int .i64 t487)).setCell ⟨gb494, 2, none⟩ (.slice Ao59 t488.length co59)) w.heap.size (fun k_ => some k_ ≠ (.slice Ao21 t452.length co21 : Value).ownBlock ∧ some k_ ≠ (v479 : Value).ownBlock) v492 t491) := ⟨by (with_reducible repeat (first | apply Kd.R_alloc | apply Kd.R_drewN | apply Kd.R_drew)); exact Kd.R_mono (Kd.R_far (p := ⟨gb494, 2, none⟩) (Kd.R_far (p := ⟨gb494, 1, none⟩) (Kd.R_far (p := ⟨gb494, 0, none⟩) (Kd.R_types HO493.out BK494.out (by decide)) (fun _ hk => hk.2) (.int .i64 t486)) (fun _ hk => hk.2) (.int .i64 t487)) (fun _ hk => hk.2) (.slice Ao59 t488.length co59)) (fun _ hk => ⟨hk.1.2, hk.1.1⟩)⟩
        have n8_ : Aside0 ((((w56.setCell ⟨gb494, 0, none⟩ (.int .i64 t486)).setCell ⟨gb494, 1, none⟩ (.int .i64 t487)).setCell ⟨gb494, 2, none⟩ (.slice Ao59 t488.length co59)).heap[gb445]? = some (.cells #[.int .i64 x446000_1, .int .i64 x446001_1, .slice Ao40 x446002_1.length co40] 30 (0, 0))) := ⟨by (with_reducible repeat (first | refine blk_drewN ?_ _ | refine blk_drew ?_ | refine blk_alloc ?_ _)); refine blk_far ?_ NB445_494.out _; (with_reducible repeat (first | refine blk_drewN ?_ _ | refine blk_drew ?_ | refine blk_alloc ?_ _)); refine blk_far ?_ NB445_494.out _; (with_reducible repeat (first | refine blk_drewN ?_ _ | refine blk_drew ?_ | refine blk_alloc ?_ _)); refine blk_far ?_ NB445_494.out _; (with_reducible repeat (first | refine blk_drewN ?_ _ | refine blk_drew ?_ | refine blk_alloc ?_ _)); exact BK445.out⟩
        have n9_ : Aside0 ((((w56.setCell ⟨gb494, 0, none⟩ (.int .i64 t486)).setCell ⟨gb494, 1, none⟩ (.int .i64 t487)).setCell ⟨gb494, 2, none⟩ (.slice Ao59 t488.length co59)).heap[gb455]? = some (.cells #[.int .i64 t447, .int .i64 t448, .slice Ao20 t449.length co20] 30 (0, 0))) := ⟨by (with_reducible repeat (first | refine blk_drewN ?_ _ | refine blk_drew ?_ | refine blk_alloc ?_ _)); refine blk_far ?_ NB455_494.out _; (with_reducible repeat (first | refine blk_drewN ?_ _ | refine blk_drew ?_ | refine blk_alloc ?_ _)); refine blk_far ?_ NB455_494.out _; (with_reducible repeat (first | refine blk_drewN ?_ _ | refine blk_drew ?_ | refine blk_alloc ?_ _)); refine blk_far ?_ NB455_494.out _; (with_reducible repeat (first | refine blk_drewN ?_ _ | refine blk_drew ?_ | refine blk_alloc ?_ _)); exact BK455.out⟩
        have n10_ : Aside0 ((((w56.setCell ⟨gb494, 0, none⟩ (.int .i64 t486)).setCell ⟨gb494, 1, none⟩ (.int .i64 t487)).setCell ⟨gb494, 2, none⟩ (.slice Ao59 t488.length co59)).heap[gb466]? = some (.cells #[.int .i64 ((rd_T50 t442 x7_1).f0), .int .i64 ((rd_T50 t442 x7_1).f1), .string ((rd_T50 t442 x7_1).f2)] 50 (0, 0))) := ⟨by (with_reducible repeat (first | refine blk_drewN ?_ _ | refine blk_drew ?_ | refine blk_alloc ?_ _)); refine blk_far ?_ NB466_494.out _; (with_reducible repeat (first | refine blk_drewN ?_ _ | refine blk_drew ?_ | refine blk_alloc ?_ _)); refine blk_far ?_ NB466_494.out _; (with_reducible repeat (first | refine blk_drewN ?_ _ | refine blk_drew ?_ | refine blk_alloc ?_ _)); refine blk_far ?_ NB466_494.out _; (with_reducible repeat (first | refine blk_drewN ?_ _ | refine blk_drew ?_ | refine blk_alloc ?_ _)); exact BK466.out⟩
        have n11_ : Aside0 ((((w56.setCell ⟨gb494, 0, none⟩ (.int .i64 t486)).setCell ⟨gb494, 1, none⟩ (.int .i64 t487)).setCell ⟨gb494, 2, none⟩ (.slice Ao59 t488.length co59)).heap[gb481]? = some (.cells #[.int .i64 t473, .int .i64 t474, .slice Ao49 t475.length co49] 30 (0, 0))) := ⟨by (with_reducible repeat (first | refine blk_drewN ?_ _ | refine blk_drew ?_ | refine blk_alloc ?_ _)); refine blk_far ?_ NB481_494.out _; (with_reducible repeat (first | refine blk_drewN ?_ _ | refine blk_drew ?_ | refine blk_alloc ?_ _)); refine blk_far ?_ NB481_494.out _; (with_reducible repeat (first | refine blk_drewN ?_ _ | refine blk_drew ?_ | refine blk_alloc ?_ _)); refine blk_far ?_ NB481_494.out _; (with_reducible repeat (first | refine blk_drewN ?_ _ | refine blk_drew ?_ | refine blk_alloc ?_ _)); exact BK481.out⟩
        have n12_ : Aside0 ((((w56.setCell ⟨gb494, 0, none⟩ (.int .i64 t486)).setCell ⟨gb494, 1, none⟩ (.int .i64 t487)).setCell ⟨gb494, 2, none⟩ (.slice Ao59 t488.length co59)).heap[gb494]? = some (.cells #[.int .i64 t486, .int .i64 t487, .slice Ao59 t488.length co59] 30 (0, 0))) := ⟨by (with_reducible repeat (first | refine blk_drewN ?_ _ | refine blk_drew ?_ | refine blk_alloc ?_ _)); refine blk_put (cs := #[.int .i64 t486, .int .i64 t487, .slice none 0 0]) ?_ 2 _ rfl; (with_reducible repeat (first | refine blk_drewN ?_ _ | refine blk_drew ?_ | refine blk_alloc ?_ _)); refine blk_put (cs := #[.int .i64 t486, .int .i64 0, .slice none 0 0]) ?_ 1 _ rfl; (with_reducible repeat (first | refine blk_drewN ?_ _ | refine blk_drew ?_ | refine blk_alloc ?_ _)); refine blk_put (cs := #[.int .i64 0, .int .i64 0, .slice none 0 0]) ?_ 0 _ rfl; (with_reducible repeat (first | refine blk_drewN ?_ _ | refine blk_drew ?_ | refine blk_alloc ?_ _)); exact BK494.out⟩
        have n13_ : Aside0 (Below w.heap.size w (((w56.setCell ⟨gb494, 0, none⟩ (.int .i64 t486)).setCell ⟨gb494, 1, none⟩ (.int .i64 t487)).setCell ⟨gb494, 2, none⟩ (.slice Ao59 t488.length co59))) := ⟨by repeat (first | (with_reducible first | exact HB.out | apply below_alloc | apply pw_below_drewN | apply below_drew1 | refine below_set ?_ GE445.out | refine below_set ?_ GE455.out | refine below_set ?_ GE466.out | refine below_set ?_ GE481.out | refine below_set ?_ GE494.out) | exact HB.out)⟩
        (try clear HO_4)
        (try clear HO_6)
        (try clear HO_446002)
        (try clear HO_456002)
        (try clear HO477)
        (try clear HO480)
        (try clear HO490)
        (try clear HO493)
        (try clear BK445)
        (try clear BK455)
        (try clear BK466)
        (try clear BK481)
        (try clear BK494)
        (try clear HB)
        generalize (((w56.setCell ⟨gb494, 0, none⟩ (.int .i64 t486)).setCell ⟨gb494, 1, none⟩ (.int .i64 t487)).setCell ⟨gb494, 2, none⟩ (.slice Ao59 t488.length co59)) = w84 at n0_ n1_ n2_ n3_ n4_ n5_ n6_ n7_ n8_ n9_ n10_ n11_ n12_ n13_ ⊢
        have HO_4 := n0_
        have HO_6 := n1_
        have HO_446002 := n2_
        have HO_456002 := n3_
        have HO477 := n4_
        have HO480 := n5_
        have HO490 := n6_
        have HO493 := n7_
        have BK445 := n8_
        have BK455 := n9_
        have BK466 := n10_
        have BK481 := n11_
        have BK494 := n12_
        have HB := n13_
        clear n0_ n1_ n2_ n3_ n4_ n5_ n6_ n7_ n8_ n9_ n10_ n11_ n12_ n13_
        replace HO_4 := am (Kd.R_drew HO_4.out)
        replace HO_6 := am (Kd.R_drew HO_6.out)
        replace HO_446002 := am (Kd.R_drew HO_446002.out)
        replace HO_456002 := am (Kd.R_drew HO_456002.out)
        replace HO477 := am (Kd.R_drew HO477.out)
        replace HO480 := am (Kd.R_drew HO480.out)
        replace HO490 := am (Kd.R_drew HO490.out)
        replace HO493 := am (Kd.R_drew HO493.out)
        replace BK445 := am (blk_drew BK445.out)
        replace BK455 := am (blk_drew BK455.out)
        replace BK466 := am (blk_drew BK466.out)
        replace BK481 := am (blk_drew BK481.out)
        replace BK494 := am (blk_drew BK494.out)
        replace HB := am (below_drew1 HB.out)
        refine start_ (n := 34) (S := fun w' => w'.cell? ⟨gb481, 0, none⟩ = some (.int .i64 t473) ∧ w'.cell? ⟨gb481, 1, none⟩ = some (.int .i64 t474) ∧ w'.cell? ⟨gb481, 2, none⟩ = some (.slice Ao49 t475.length co49)) (ds := []) b0_34 kr rfl rfl ⟨(blk_cell BK481.out 0).trans rfl, (blk_cell BK481.out 1).trans rfl, (blk_cell BK481.out 2).trans rfl⟩ (fun hHeld => ?_); refine with_tabW laws_FnOnce.tab16 laws_FnOnce.bits16 (fun HT_ HW_ => ?_)
        generalize w84.drew = w85 at HO_4 HO_6 HO_446002 HO_456002 HO477 HO480 HO490 HO493 BK445 BK455 BK466 BK481 BK494 HB hHeld ⊢
        refine tV 0 79 (bt 1 34) ?_
        refine one_ (i := 1) (N := some 80) b2_34 rfl rfl (one_of HT_.out kr) (by decide) (fun K hK => ?_)
        refine goes_ Tryd.func22 kr rfl #[.agg #[.int .i64 t473, .int .i64 t474, .slice Ao49 t475.length co49]] (by rfl) rfl rfl q1 ?_
        with_reducible refine (impl_SessionsOk.calls k1 t473 t474 _ _ t475 true _ ?side1 ?side2 A61.out).mono ?_
        (case side1 => exact u13_19)
        (case side2 => exact (Kd.R_reads' HO477.out).2.1)
        rintro e w86 ⟨rfl, hb⟩
        refine ⟨_, rfl, ?_⟩
        replace HO_4 := am (Kd.R_below u13_8 hb)
        replace HO_6 := am (Kd.R_below q10 hb)
        replace HO_446002 := am (Kd.R_below u13_4 hb)
        replace HO_456002 := am (Kd.R_below u13_5 hb)
        replace HO477 := am (Kd.R_below u13_13 hb)
        replace HO480 := am (Kd.R_below u13_14 hb)
        replace HO490 := am (Kd.R_below u13_17 hb)
        replace HO493 := am (Kd.R_below u13_18 hb)
        replace BK445 := am (blk_below (g := gb445) (o := .cells #[.int .i64 x446000_1, .int .i64 x446001_1, .slice Ao40 x446002_1.length co40] 30 (0, 0)) u13_1 hb)
        replace BK455 := am (blk_below (g := gb455) (o := .cells #[.int .i64 t447, .int .i64 t448, .slice Ao20 t449.length co20] 30 (0, 0)) u13_2 hb)
        replace BK466 := am (blk_below (g := gb466) (o := .cells #[.int .i64 ((rd_T50 t442 x7_1).f0), .int .i64 ((rd_T50 t442 x7_1).f1), .string ((rd_T50 t442 x7_1).f2)] 50 (0, 0)) u13_3 hb)
        replace BK481 := am (blk_below (g := gb481) (o := .cells #[.int .i64 t473, .int .i64 t474, .slice Ao49 t475.length co49] 30 (0, 0)) u13_6 hb)
        replace BK494 := am (blk_below (g := gb494) (o := .cells #[.int .i64 t486, .int .i64 t487, .slice Ao59 t488.length co59] 30 (0, 0)) u13_10 hb)
        replace HB := am (below_step q0 hb)
        (try clear hb)
        (try clear hb2)
        (try clear hk)
        (try clear hi)
        obtain ⟨Ao87, co87, eo87⟩ := Kd.R_slice HO480.out
        (first | subst eo87 | (injection eo87 with f1_ f2_ f3_; have f4_ := f1_.symm; have f5_ := f3_.symm; clear f1_ f2_ f3_; subst f4_; subst f5_))
        obtain ⟨Ao88, co88, eo88⟩ := Kd.R_slice HO493.out
        (first | subst eo88 | (injection eo88 with f1_ f2_ f3_; have f4_ := f1_.symm; have f5_ := f3_.symm; clear f1_ f2_ f3_; subst f4_; subst f5_))
        refine hK.out _ _ ⟨(blk_cell BK481.out 0).trans rfl, (blk_cell BK481.out 1).trans rfl, (blk_cell BK481.out 2).trans rfl⟩ (fun hHeld => ?_)
        clear hK K
        refine norm_ (a' := ?_) ?_ ?_
        rotate_left
        · show Act.put _ (some 80) _ = _
          simp only [Act.put, la, lb, lc, i64_w, i32_w]
          rfl
        refine pV 2 81 (bt 3 34) ?_
        refine pV 3 82 (bt 4 34) ?_
        refine pV 4 83 (bt 5 34) ?_
        refine pV 5 84 (bt 6 34) ?_
        refine pV 6 85 (bt 7 34) ?_
        refine pV 7 86 (bt 8 34) ?_
        refine pV 8 87 (bt 9 34) ?_
        refine pV 9 88 (bt 10 34) ?_
        refine pV 10 89 (bt 11 34) ?_
        refine pV 11 90 (bt 12 34) ?_
        refine pV 12 91 (bt 13 34) ?_
        refine pV 13 92 (bt 14 34) ?_
        refine pU 14 93 (bt 15 34) ?_
        refine pU 15 94 (bt 16 34) ?_
        refine pU 16 95 (bt 17 34) ?_
        refine pU 17 96 (bt 18 34) ?_
        refine pU 18 97 (bt 19 34) ?_
        refine pU 19 98 (bt 20 34) ?_
        refine pU 20 99 (bt 21 34) ?_
        refine pU 21 100 (bt 22 34) ?_
        refine pV 22 101 (bt 23 34) ?_
        refine pV 23 102 (bt 24 34) ?_
        refine pU 24 103 (bt 25 34) ?_
        refine pU 25 104 (bt 26 34) ?_
        refine pU 26 105 (bt 27 34) ?_
        refine pU 27 106 (bt 28 34) ?_
        refine pU 28 107 (bt 29 34) ?_
        refine pU 29 108 (bt 30 34) ?_
        refine pU 30 109 (bt 31 34) ?_
        refine pU 31 110 (bt 32 34) ?_
        refine pU 32 111 (bt 33 34) ?_
        refine pV 33 112 (bt 34 34) ?_
        refine done_ (done_of HT_.out kr) ?_
        try go_wp2
        go_meet
        case rel => exact ⟨_, (true), q4, H', ⟨u13_41⟩, ⟨u13_8⟩, ⟨q10⟩, ⟨u13_14⟩, ⟨u13_18⟩, ⟨u13_4⟩, ⟨u13_5⟩, ⟨u13_13⟩, ⟨u13_17⟩, ⟨u13_1⟩, ⟨u13_2⟩, ⟨u13_3⟩, ⟨u13_6⟩, ⟨u13_10⟩, ⟨q0⟩⟩
      rw [if_pos c64] at H
      have c64b0 : ((t491.length : Int) == 1) = true := beq_iff_eq.mpr c64
      have c64b1 : ((t491.length : Int) != 1) = false := bne_eq_false_iff_eq.mpr c64
      clear c64
      by_cases c65 : 0 < (t478.length : Int)
      rotate_left
      · rw [if_neg c65] at H
        exact absurd H (by simp)
      rw [if_pos c65] at H
      have c65b0 : decide (0 < (t478.length : Int)) = true := decide_eq_true c65
      have c65b1 : decide (0 < t478.length) = true := decide_eq_true (by omega)
      clear c65
      by_cases c66 : x7_1 < (t452.length : Int)
      rotate_left
      · rw [if_neg c66] at H
        exact absurd H (by simp)
      rw [if_pos c66] at H
      have c66b0 : decide (x7_1 < (t452.length : Int)) = true := decide_eq_true c66
      clear c66
      by_cases c67 : (rdOf ByteArray.empty t478 0).toList = (rdOf ByteArray.empty t452 x7_1).toList
      rotate_left
      · rw [if_neg c67] at H
        have c67b0 : ((rdOf ByteArray.empty t478 0).toList == (rdOf ByteArray.empty t452 x7_1).toList) = false := beq_eq_false_iff_ne.mpr c67
        have c67b1 : ((rdOf ByteArray.empty t478 0).toList != (rdOf ByteArray.empty t452 x7_1).toList) = true := bne_iff_ne.mpr c67
        have H' := am H
        clear H
        try go_wp2
        have n0_ : Aside0 (Kd.R k50 50 (((w56.setCell ⟨gb494, 0, none⟩ (.int .i64 t486)).setCell ⟨gb494, 1, none⟩ (.int .i64 t487)).setCell ⟨gb494, 2, none⟩ (.slice Ao59 t488.length co59)) w.heap.size (fun k_ => k_ ≠ gb466) (.slice (some ad465) t442.length co15) t442) := ⟨by (with_reducible repeat (first | apply Kd.R_alloc | apply Kd.R_drewN | apply Kd.R_drew)); exact Kd.R_mono (Kd.R_far (p := ⟨gb494, 2, none⟩) (Kd.R_far (p := ⟨gb494, 1, none⟩) (Kd.R_far (p := ⟨gb494, 0, none⟩) (Kd.R_types HO_4.out BK494.out (by decide)) (fun _ hk => hk.2) (.int .i64 t486)) (fun _ hk => hk.2) (.int .i64 t487)) (fun _ hk => hk.2) (.slice Ao59 t488.length co59)) (fun _ hk => hk.1)⟩
        have n1_ : Aside0 (Kd.R Kd.string 9 (((w56.setCell ⟨gb494, 0, none⟩ (.int .i64 t486)).setCell ⟨gb494, 1, none⟩ (.int .i64 t487)).setCell ⟨gb494, 2, none⟩ (.slice Ao59 t488.length co59)) w.heap.size (fun k_ => some k_ ≠ (v479 : Value).ownBlock ∧ some k_ ≠ (v492 : Value).ownBlock) (.slice Ao21 t452.length co21) t452) := ⟨by (with_reducible repeat (first | apply Kd.R_alloc | apply Kd.R_drewN | apply Kd.R_drew)); exact Kd.R_mono (Kd.R_far (p := ⟨gb494, 2, none⟩) (Kd.R_far (p := ⟨gb494, 1, none⟩) (Kd.R_far (p := ⟨gb494, 0, none⟩) (Kd.R_types HO_6.out BK494.out (by decide)) (fun _ hk => hk.2) (.int .i64 t486)) (fun _ hk => hk.2) (.int .i64 t487)) (fun _ hk => hk.2) (.slice Ao59 t488.length co59)) (fun _ hk => ⟨hk.1.1, hk.1.2⟩)⟩
        have n2_ : Aside0 (Kd.R k54 54 (((w56.setCell ⟨gb494, 0, none⟩ (.int .i64 t486)).setCell ⟨gb494, 1, none⟩ (.int .i64 t487)).setCell ⟨gb494, 2, none⟩ (.slice Ao59 t488.length co59)) w.heap.size (fun k_ => some k_ ≠ (.slice Ao20 t449.length co20 : Value).ownBlock ∧ some k_ ≠ (.slice Ao49 t475.length co49 : Value).ownBlock ∧ some k_ ≠ (.slice Ao59 t488.length co59 : Value).ownBlock) (.slice Ao40 x446002_1.length co40) x446002_1) := ⟨by (with_reducible repeat (first | apply Kd.R_alloc | apply Kd.R_drewN | apply Kd.R_drew)); exact Kd.R_mono (Kd.R_far (p := ⟨gb494, 2, none⟩) (Kd.R_far (p := ⟨gb494, 1, none⟩) (Kd.R_far (p := ⟨gb494, 0, none⟩) (Kd.R_types HO_446002.out BK494.out (by decide)) (fun _ hk => hk.2) (.int .i64 t486)) (fun _ hk => hk.2) (.int .i64 t487)) (fun _ hk => hk.2) (.slice Ao59 t488.length co59)) (fun _ hk => ⟨hk.1.2.2, ⟨hk.1.1, hk.1.2.1⟩⟩)⟩
        have n3_ : Aside0 (Kd.R k54 54 (((w56.setCell ⟨gb494, 0, none⟩ (.int .i64 t486)).setCell ⟨gb494, 1, none⟩ (.int .i64 t487)).setCell ⟨gb494, 2, none⟩ (.slice Ao59 t488.length co59)) w.heap.size (fun k_ => some k_ ≠ (.slice Ao40 x446002_1.length co40 : Value).ownBlock ∧ some k_ ≠ (.slice Ao49 t475.length co49 : Value).ownBlock ∧ some k_ ≠ (.slice Ao59 t488.length co59 : Value).ownBlock) (.slice Ao20 t449.length co20) t449) := ⟨by (with_reducible repeat (first | apply Kd.R_alloc | apply Kd.R_drewN | apply Kd.R_drew)); exact Kd.R_mono (Kd.R_far (p := ⟨gb494, 2, none⟩) (Kd.R_far (p := ⟨gb494, 1, none⟩) (Kd.R_far (p := ⟨gb494, 0, none⟩) (Kd.R_types HO_456002.out BK494.out (by decide)) (fun _ hk => hk.2) (.int .i64 t486)) (fun _ hk => hk.2) (.int .i64 t487)) (fun _ hk => hk.2) (.slice Ao59 t488.length co59)) (fun _ hk => ⟨hk.1.2.2, ⟨hk.1.1, hk.1.2.1⟩⟩)⟩
        have n4_ : Aside0 (Kd.R k54 54 (((w56.setCell ⟨gb494, 0, none⟩ (.int .i64 t486)).setCell ⟨gb494, 1, none⟩ (.int .i64 t487)).setCell ⟨gb494, 2, none⟩ (.slice Ao59 t488.length co59)) w.heap.size (fun k_ => some k_ ≠ (.slice Ao40 x446002_1.length co40 : Value).ownBlock ∧ some k_ ≠ (.slice Ao20 t449.length co20 : Value).ownBlock ∧ some k_ ≠ (.slice Ao59 t488.length co59 : Value).ownBlock) (.slice Ao49 t475.length co49) t475) := ⟨by (with_reducible repeat (first | apply Kd.R_alloc | apply Kd.R_drewN | apply Kd.R_drew)); exact Kd.R_mono (Kd.R_far (p := ⟨gb494, 2, none⟩) (Kd.R_far (p := ⟨gb494, 1, none⟩) (Kd.R_far (p := ⟨gb494, 0, none⟩) (Kd.R_types HO477.out BK494.out (by decide)) (fun _ hk => hk.2) (.int .i64 t486)) (fun _ hk => hk.2) (.int .i64 t487)) (fun _ hk => hk.2) (.slice Ao59 t488.length co59)) (fun _ hk => ⟨hk.1.2.1, ⟨hk.1.2.2, hk.1.1⟩⟩)⟩
        have n5_ : Aside0 (Kd.R Kd.string 9 (((w56.setCell ⟨gb494, 0, none⟩ (.int .i64 t486)).setCell ⟨gb494, 1, none⟩ (.int .i64 t487)).setCell ⟨gb494, 2, none⟩ (.slice Ao59 t488.length co59)) w.heap.size (fun k_ => some k_ ≠ (.slice Ao21 t452.length co21 : Value).ownBlock ∧ some k_ ≠ (v492 : Value).ownBlock) v479 t478) := ⟨by (with_reducible repeat (first | apply Kd.R_alloc | apply Kd.R_drewN | apply Kd.R_drew)); exact Kd.R_mono (Kd.R_far (p := ⟨gb494, 2, none⟩) (Kd.R_far (p := ⟨gb494, 1, none⟩) (Kd.R_far (p := ⟨gb494, 0, none⟩) (Kd.R_types HO480.out BK494.out (by decide)) (fun _ hk => hk.2) (.int .i64 t486)) (fun _ hk => hk.2) (.int .i64 t487)) (fun _ hk => hk.2) (.slice Ao59 t488.length co59)) (fun _ hk => ⟨hk.1.2, hk.1.1⟩)⟩
        have n6_ : Aside0 (Kd.R k54 54 (((w56.setCell ⟨gb494, 0, none⟩ (.int .i64 t486)).setCell ⟨gb494, 1, none⟩ (.int .i64 t487)).setCell ⟨gb494, 2, none⟩ (.slice Ao59 t488.length co59)) w.heap.size (fun k_ => some k_ ≠ (.slice Ao40 x446002_1.length co40 : Value).ownBlock ∧ some k_ ≠ (.slice Ao20 t449.length co20 : Value).ownBlock ∧ some k_ ≠ (.slice Ao49 t475.length co49 : Value).ownBlock) (.slice Ao59 t488.length co59) t488) := ⟨by (with_reducible repeat (first | apply Kd.R_alloc | apply Kd.R_drewN | apply Kd.R_drew)); exact Kd.R_mono (Kd.R_far (p := ⟨gb494, 2, none⟩) (Kd.R_far (p := ⟨gb494, 1, none⟩) (Kd.R_far (p := ⟨gb494, 0, none⟩) (Kd.R_types HO490.out BK494.out (by decide)) (fun _ hk => hk.2) (.int .i64 t486)) (fun _ hk => hk.2) (.int .i64 t487)) (fun _ hk => hk.2) (.slice Ao59 t488.length co59)) (fun _ hk => ⟨hk.1.2.1, ⟨hk.1.2.2, hk.1.1⟩⟩)⟩
        have n7_ : Aside0 (Kd.R Kd.string 9 (((w56.setCell ⟨gb494, 0, none⟩ (.int .i64 t486)).setCell ⟨gb494, 1, none⟩ (.int .i64 t487)).setCell ⟨gb494, 2, none⟩ (.slice Ao59 t488.length co59)) w.heap.size (fun k_ => some k_ ≠ (.slice Ao21 t452.length co21 : Value).ownBlock ∧ some k_ ≠ (v479 : Value).ownBlock) v492 t491) := ⟨by (with_reducible repeat (first | apply Kd.R_alloc | apply Kd.R_drewN | apply Kd.R_drew)); exact Kd.R_mono (Kd.R_far (p := ⟨gb494, 2, none⟩) (Kd.R_far (p := ⟨gb494, 1, none⟩) (Kd.R_far (p := ⟨gb494, 0, none⟩) (Kd.R_types HO493.out BK494.out (by decide)) (fun _ hk => hk.2) (.int .i64 t486)) (fun _ hk => hk.2) (.int .i64 t487)) (fun _ hk => hk.2) (.slice Ao59 t488.length co59)) (fun _ hk => ⟨hk.1.2, hk.1.1⟩)⟩
        have n8_ : Aside0 ((((w56.setCell ⟨gb494, 0, none⟩ (.int .i64 t486)).setCell ⟨gb494, 1, none⟩ (.int .i64 t487)).setCell ⟨gb494, 2, none⟩ (.slice Ao59 t488.length co59)).heap[gb445]? = some (.cells #[.int .i64 x446000_1, .int .i64 x446001_1, .slice Ao40 x446002_1.length co40] 30 (0, 0))) := ⟨by (with_reducible repeat (first | refine blk_drewN ?_ _ | refine blk_drew ?_ | refine blk_alloc ?_ _)); refine blk_far ?_ NB445_494.out _; (with_reducible repeat (first | refine blk_drewN ?_ _ | refine blk_drew ?_ | refine blk_alloc ?_ _)); refine blk_far ?_ NB445_494.out _; (with_reducible repeat (first | refine blk_drewN ?_ _ | refine blk_drew ?_ | refine blk_alloc ?_ _)); refine blk_far ?_ NB445_494.out _; (with_reducible repeat (first | refine blk_drewN ?_ _ | refine blk_drew ?_ | refine blk_alloc ?_ _)); exact BK445.out⟩
        have n9_ : Aside0 ((((w56.setCell ⟨gb494, 0, none⟩ (.int .i64 t486)).setCell ⟨gb494, 1, none⟩ (.int .i64 t487)).setCell ⟨gb494, 2, none⟩ (.slice Ao59 t488.length co59)).heap[gb455]? = some (.cells #[.int .i64 t447, .int .i64 t448, .slice Ao20 t449.length co20] 30 (0, 0))) := ⟨by (with_reducible repeat (first | refine blk_drewN ?_ _ | refine blk_drew ?_ | refine blk_alloc ?_ _)); refine blk_far ?_ NB455_494.out _; (with_reducible repeat (first | refine blk_drewN ?_ _ | refine blk_drew ?_ | refine blk_alloc ?_ _)); refine blk_far ?_ NB455_494.out _; (with_reducible repeat (first | refine blk_drewN ?_ _ | refine blk_drew ?_ | refine blk_alloc ?_ _)); refine blk_far ?_ NB455_494.out _; (with_reducible repeat (first | refine blk_drewN ?_ _ | refine blk_drew ?_ | refine blk_alloc ?_ _)); exact BK455.out⟩
        have n10_ : Aside0 ((((w56.setCell ⟨gb494, 0, none⟩ (.int .i64 t486)).setCell ⟨gb494, 1, none⟩ (.int .i64 t487)).setCell ⟨gb494, 2, none⟩ (.slice Ao59 t488.length co59)).heap[gb466]? = some (.cells #[.int .i64 ((rd_T50 t442 x7_1).f0), .int .i64 ((rd_T50 t442 x7_1).f1), .string ((rd_T50 t442 x7_1).f2)] 50 (0, 0))) := ⟨by (with_reducible repeat (first | refine blk_drewN ?_ _ | refine blk_drew ?_ | refine blk_alloc ?_ _)); refine blk_far ?_ NB466_494.out _; (with_reducible repeat (first | refine blk_drewN ?_ _ | refine blk_drew ?_ | refine blk_alloc ?_ _)); refine blk_far ?_ NB466_494.out _; (with_reducible repeat (first | refine blk_drewN ?_ _ | refine blk_drew ?_ | refine blk_alloc ?_ _)); refine blk_far ?_ NB466_494.out _; (with_reducible repeat (first | refine blk_drewN ?_ _ | refine blk_drew ?_ | refine blk_alloc ?_ _)); exact BK466.out⟩
        have n11_ : Aside0 ((((w56.setCell ⟨gb494, 0, none⟩ (.int .i64 t486)).setCell ⟨gb494, 1, none⟩ (.int .i64 t487)).setCell ⟨gb494, 2, none⟩ (.slice Ao59 t488.length co59)).heap[gb481]? = some (.cells #[.int .i64 t473, .int .i64 t474, .slice Ao49 t475.length co49] 30 (0, 0))) := ⟨by (with_reducible repeat (first | refine blk_drewN ?_ _ | refine blk_drew ?_ | refine blk_alloc ?_ _)); refine blk_far ?_ NB481_494.out _; (with_reducible repeat (first | refine blk_drewN ?_ _ | refine blk_drew ?_ | refine blk_alloc ?_ _)); refine blk_far ?_ NB481_494.out _; (with_reducible repeat (first | refine blk_drewN ?_ _ | refine blk_drew ?_ | refine blk_alloc ?_ _)); refine blk_far ?_ NB481_494.out _; (with_reducible repeat (first | refine blk_drewN ?_ _ | refine blk_drew ?_ | refine blk_alloc ?_ _)); exact BK481.out⟩
        have n12_ : Aside0 ((((w56.setCell ⟨gb494, 0, none⟩ (.int .i64 t486)).setCell ⟨gb494, 1, none⟩ (.int .i64 t487)).setCell ⟨gb494, 2, none⟩ (.slice Ao59 t488.length co59)).heap[gb494]? = some (.cells #[.int .i64 t486, .int .i64 t487, .slice Ao59 t488.length co59] 30 (0, 0))) := ⟨by (with_reducible repeat (first | refine blk_drewN ?_ _ | refine blk_drew ?_ | refine blk_alloc ?_ _)); refine blk_put (cs := #[.int .i64 t486, .int .i64 t487, .slice none 0 0]) ?_ 2 _ rfl; (with_reducible repeat (first | refine blk_drewN ?_ _ | refine blk_drew ?_ | refine blk_alloc ?_ _)); refine blk_put (cs := #[.int .i64 t486, .int .i64 0, .slice none 0 0]) ?_ 1 _ rfl; (with_reducible repeat (first | refine blk_drewN ?_ _ | refine blk_drew ?_ | refine blk_alloc ?_ _)); refine blk_put (cs := #[.int .i64 0, .int .i64 0, .slice none 0 0]) ?_ 0 _ rfl; (with_reducible repeat (first | refine blk_drewN ?_ _ | refine blk_drew ?_ | refine blk_alloc ?_ _)); exact BK494.out⟩
        have n13_ : Aside0 (Below w.heap.size w (((w56.setCell ⟨gb494, 0, none⟩ (.int .i64 t486)).setCell ⟨gb494, 1, none⟩ (.int .i64 t487)).setCell ⟨gb494, 2, none⟩ (.slice Ao59 t488.length co59))) := ⟨by repeat (first | (with_reducible first | exact HB.out | apply below_alloc | apply pw_below_drewN | apply below_drew1 | refine below_set ?_ GE445.out | refine below_set ?_ GE455.out | refine below_set ?_ GE466.out | refine below_set ?_ GE481.out | refine below_set ?_ GE494.out) | exact HB.out)⟩
        (try clear HO_4)
        (try clear HO_6)
        (try clear HO_446002)
        (try clear HO_456002)
        (try clear HO477)
        (try clear HO480)
        (try clear HO490)
        (try clear HO493)
        (try clear BK445)
        (try clear BK455)
        (try clear BK466)
        (try clear BK481)
        (try clear BK494)
        (try clear HB)
        generalize (((w56.setCell ⟨gb494, 0, none⟩ (.int .i64 t486)).setCell ⟨gb494, 1, none⟩ (.int .i64 t487)).setCell ⟨gb494, 2, none⟩ (.slice Ao59 t488.length co59)) = w79 at n0_ n1_ n2_ n3_ n4_ n5_ n6_ n7_ n8_ n9_ n10_ n11_ n12_ n13_ ⊢
        have HO_4 := n0_
        have HO_6 := n1_
        have HO_446002 := n2_
        have HO_456002 := n3_
        have HO477 := n4_
        have HO480 := n5_
        have HO490 := n6_
        have HO493 := n7_
        have BK445 := n8_
        have BK455 := n9_
        have BK466 := n10_
        have BK481 := n11_
        have BK494 := n12_
        have HB := n13_
        clear n0_ n1_ n2_ n3_ n4_ n5_ n6_ n7_ n8_ n9_ n10_ n11_ n12_ n13_
        replace HO_4 := am (Kd.R_drew HO_4.out)
        replace HO_6 := am (Kd.R_drew HO_6.out)
        replace HO_446002 := am (Kd.R_drew HO_446002.out)
        replace HO_456002 := am (Kd.R_drew HO_456002.out)
        replace HO477 := am (Kd.R_drew HO477.out)
        replace HO480 := am (Kd.R_drew HO480.out)
        replace HO490 := am (Kd.R_drew HO490.out)
        replace HO493 := am (Kd.R_drew HO493.out)
        replace BK445 := am (blk_drew BK445.out)
        replace BK455 := am (blk_drew BK455.out)
        replace BK466 := am (blk_drew BK466.out)
        replace BK481 := am (blk_drew BK481.out)
        replace BK494 := am (blk_drew BK494.out)
        replace HB := am (below_drew1 HB.out)
        have p496 : 0 ≤ (0 : Int) := (by omega)
        have q496 : 0 < (t478.length : Int) := of_decide_eq_true q3
        obtain ⟨Ao480_, co480_, eo480_⟩ := Kd.R_slice HO480.out
        subst eo480_
        obtain ⟨ad496, e496, hx496_0⟩ := Kd.at_string (Kd.R_reads' HO480.out).2.2 0 p496 q496
        cases e496
        have qi496 : (0 < t478.length) = True := eq_true (by omega)
        (try rw [show ((0 : Int)).toNat = 0 from rfl] at hx496_0)
        (try rw [Addr.add_zero'] at hx496_0)
        replace p496 := eq_true p496
        replace q496 := eq_true q496
        have p497 : 0 ≤ (x7_1 : Int) := of_decide_eq_true q3
        have q497 : x7_1 < (t452.length : Int) := of_decide_eq_true q3
        obtain ⟨ad497, e497, hx497_0⟩ := Kd.at_string (Kd.R_reads' HO_6.out).2.2 x7_1 p497 q497
        cases e497
        replace p497 := eq_true p497
        replace q497 := eq_true q497
        refine start_ (n := 34) (S := fun w' => w'.cell? ⟨gb481, 0, none⟩ = some (.int .i64 t473) ∧ w'.cell? ⟨gb481, 1, none⟩ = some (.int .i64 t474) ∧ w'.cell? ⟨gb481, 2, none⟩ = some (.slice Ao49 t475.length co49) ∧ w'.cell? ad496 = some (.string (rdOf ByteArray.empty t478 0)) ∧ w'.cell? (ad497.add (x7_1).toNat) = some (.string (rdOf ByteArray.empty t452 x7_1))) (ds := []) b0_34 kr rfl rfl ⟨(blk_cell BK481.out 0).trans rfl, (blk_cell BK481.out 1).trans rfl, (blk_cell BK481.out 2).trans rfl, hx496_0, hx497_0⟩ (fun hHeld => ?_); refine with_tabW laws_FnOnce.tab16 laws_FnOnce.bits16 (fun HT_ HW_ => ?_)
        generalize w79.drew = w80 at HO_4 HO_6 HO_446002 HO_456002 HO477 HO480 HO490 HO493 BK445 BK455 BK466 BK481 BK494 HB hx496_0 hx497_0 hHeld ⊢
        refine tV 0 79 (bt 1 34) ?_
        refine one_ (i := 1) (N := some 80) b2_34 rfl rfl (one_of HT_.out kr) (by decide) (fun K hK => ?_)
        refine goes_ Tryd.func22 kr rfl #[.agg #[.int .i64 t473, .int .i64 t474, .slice Ao49 t475.length co49]] (by rfl) rfl rfl q1 ?_
        with_reducible refine (impl_SessionsOk.calls k1 t473 t474 _ _ t475 true _ ?side1 ?side2 A61.out).mono ?_
        (case side1 => exact u13_19)
        (case side2 => exact (Kd.R_reads' HO477.out).2.1)
        rintro e w81 ⟨rfl, hb⟩
        have HS3_ := (hb.cell (World.block_lt_of_cell? _ _ (hHeld.2.2.2.1))).trans (hHeld.2.2.2.1)
        have HS4_ := (hb.cell (World.block_lt_of_cell? _ _ (hHeld.2.2.2.2))).trans (hHeld.2.2.2.2)
        refine ⟨_, rfl, ?_⟩
        replace HO_4 := am (Kd.R_below u13_8 hb)
        replace HO_6 := am (Kd.R_below q10 hb)
        replace HO_446002 := am (Kd.R_below u13_4 hb)
        replace HO_456002 := am (Kd.R_below u13_5 hb)
        replace HO477 := am (Kd.R_below u13_13 hb)
        replace HO480 := am (Kd.R_below u13_14 hb)
        replace HO490 := am (Kd.R_below u13_17 hb)
        replace HO493 := am (Kd.R_below u13_18 hb)
        replace BK445 := am (blk_below (g := gb445) (o := .cells #[.int .i64 x446000_1, .int .i64 x446001_1, .slice Ao40 x446002_1.length co40] 30 (0, 0)) u13_1 hb)
        replace BK455 := am (blk_below (g := gb455) (o := .cells #[.int .i64 t447, .int .i64 t448, .slice Ao20 t449.length co20] 30 (0, 0)) u13_2 hb)
        replace BK466 := am (blk_below (g := gb466) (o := .cells #[.int .i64 ((rd_T50 t442 x7_1).f0), .int .i64 ((rd_T50 t442 x7_1).f1), .string ((rd_T50 t442 x7_1).f2)] 50 (0, 0)) u13_3 hb)
        replace BK481 := am (blk_below (g := gb481) (o := .cells #[.int .i64 t473, .int .i64 t474, .slice Ao49 t475.length co49] 30 (0, 0)) u13_6 hb)
        replace BK494 := am (blk_below (g := gb494) (o := .cells #[.int .i64 t486, .int .i64 t487, .slice Ao59 t488.length co59] 30 (0, 0)) u13_10 hb)
        replace HB := am (below_step q0 hb)
        (try clear hb)
        (try clear hb2)
        (try clear hk)
        (try clear hi)
        obtain ⟨Ao82, co82, eo82⟩ := Kd.R_slice HO480.out
        (first | subst eo82 | (injection eo82 with f1_ f2_ f3_; have f4_ := f1_.symm; have f5_ := f3_.symm; clear f1_ f2_ f3_; subst f4_; subst f5_))
        obtain ⟨Ao83, co83, eo83⟩ := Kd.R_slice HO493.out
        (first | subst eo83 | (injection eo83 with f1_ f2_ f3_; have f4_ := f1_.symm; have f5_ := f3_.symm; clear f1_ f2_ f3_; subst f4_; subst f5_))
        refine hK.out _ _ ⟨(blk_cell BK481.out 0).trans rfl, (blk_cell BK481.out 1).trans rfl, (blk_cell BK481.out 2).trans rfl, HS3_, HS4_⟩ (fun hHeld => ?_)
        clear hK K
        refine norm_ (a' := ?_) ?_ ?_
        rotate_left
        · show Act.put _ (some 80) _ = _
          simp only [Act.put, la, lb, lc, i64_w, i32_w]
          rfl
        refine pV 2 81 (bt 3 34) ?_
        refine pV 3 82 (bt 4 34) ?_
        refine pV 4 83 (bt 5 34) ?_
        refine pV 5 84 (bt 6 34) ?_
        refine pV 6 85 (bt 7 34) ?_
        refine pV 7 86 (bt 8 34) ?_
        refine pV 8 87 (bt 9 34) ?_
        refine pV 9 88 (bt 10 34) ?_
        refine pV 10 89 (bt 11 34) ?_
        refine pV 11 90 (bt 12 34) ?_
        refine pV 12 91 (bt 13 34) ?_
        refine pV 13 92 (bt 14 34) ?_
        refine pV 14 93 (bt 15 34) ?_
        refine pV 15 94 (bt 16 34) ?_
        refine pV 17 96 bx44 ?_
        refine pV 18 97 bx45 ?_
        refine pV 19 98 bx46 ?_
        refine tV 16 95 (bt 20 34) ?_
        refine tV 20 99 (bt 21 34) ?_
        refine pV 21 100 (bt 22 34) ?_
        refine pV 22 101 (bt 23 34) ?_
        refine pV 23 102 (bt 24 34) ?_
        refine pU 24 103 (bt 25 34) ?_
        refine pU 25 104 (bt 26 34) ?_
        refine pU 26 105 (bt 27 34) ?_
        refine pU 27 106 (bt 28 34) ?_
        refine pU 28 107 (bt 29 34) ?_
        refine pU 29 108 (bt 30 34) ?_
        refine pU 30 109 (bt 31 34) ?_
        refine pU 31 110 (bt 32 34) ?_
        refine pU 32 111 (bt 33 34) ?_
        refine pV 33 112 (bt 34 34) ?_
        refine done_ (done_of HT_.out kr) ?_
        try go_wp2
        go_meet
        case rel => exact ⟨_, (true), q4, H', ⟨u13_41⟩, ⟨u13_8⟩, ⟨q10⟩, ⟨u13_14⟩, ⟨u13_18⟩, ⟨u13_4⟩, ⟨u13_5⟩, ⟨u13_13⟩, ⟨u13_17⟩, ⟨u13_1⟩, ⟨u13_2⟩, ⟨u13_3⟩, ⟨u13_6⟩, ⟨u13_10⟩, ⟨q0⟩⟩
      rw [if_pos c67] at H
      have c67b0 : ((rdOf ByteArray.empty t478 0).toList == (rdOf ByteArray.empty t452 x7_1).toList) = true := beq_iff_eq.mpr c67
      have c67b1 : ((rdOf ByteArray.empty t478 0).toList != (rdOf ByteArray.empty t452 x7_1).toList) = false := bne_eq_false_iff_eq.mpr c67
      clear c67
      as_aux_lemma =>
       by_cases c68 : t467 = 1
       rotate_left
       · rw [if_neg c68] at H
         have c68b0 : (t467 == 1) = false := beq_eq_false_iff_ne.mpr c68
         have c68b1 : (t467 != 1) = true := bne_iff_ne.mpr c68
         have H' := am H
         clear H
         try go_wp2
         have n0_ : Aside0 (Kd.R k50 50 (((w56.setCell ⟨gb494, 0, none⟩ (.int .i64 t486)).setCell ⟨gb494, 1, none⟩ (.int .i64 t487)).setCell ⟨gb494, 2, none⟩ (.slice Ao59 t488.length co59)) w.heap.size (fun k_ => k_ ≠ gb466) (.slice (some ad465) t442.length co15) t442) := ⟨by (with_reducible repeat (first | apply Kd.R_alloc | apply Kd.R_drewN | apply Kd.R_drew)); exact Kd.R_mono (Kd.R_far (p := ⟨gb494, 2, none⟩) (Kd.R_far (p := ⟨gb494, 1, none⟩) (Kd.R_far (p := ⟨gb494, 0, none⟩) (Kd.R_types HO_4.out BK494.out (by decide)) (fun _ hk => hk.2) (.int .i64 t486)) (fun _ hk => hk.2) (.int .i64 t487)) (fun _ hk => hk.2) (.slice Ao59 t488.length co59)) (fun _ hk => hk.1)⟩
         have n1_ : Aside0 (Kd.R Kd.string 9 (((w56.setCell ⟨gb494, 0, none⟩ (.int .i64 t486)).setCell ⟨gb494, 1, none⟩ (.int .i64 t487)).setCell ⟨gb494, 2, none⟩ (.slice Ao59 t488.length co59)) w.heap.size (fun k_ => some k_ ≠ (v479 : Value).ownBlock ∧ some k_ ≠ (v492 : Value).ownBlock) (.slice Ao21 t452.length co21) t452) := ⟨by (with_reducible repeat (first | apply Kd.R_alloc | apply Kd.R_drewN | apply Kd.R_drew)); exact Kd.R_mono (Kd.R_far (p := ⟨gb494, 2, none⟩) (Kd.R_far (p := ⟨gb494, 1, none⟩) (Kd.R_far (p := ⟨gb494, 0, none⟩) (Kd.R_types HO_6.out BK494.out (by decide)) (fun _ hk => hk.2) (.int .i64 t486)) (fun _ hk => hk.2) (.int .i64 t487)) (fun _ hk => hk.2) (.slice Ao59 t488.length co59)) (fun _ hk => ⟨hk.1.1, hk.1.2⟩)⟩
         have n2_ : Aside0 (Kd.R k54 54 (((w56.setCell ⟨gb494, 0, none⟩ (.int .i64 t486)).setCell ⟨gb494, 1, none⟩ (.int .i64 t487)).setCell ⟨gb494, 2, none⟩ (.slice Ao59 t488.length co59)) w.heap.size (fun k_ => some k_ ≠ (.slice Ao20 t449.length co20 : Value).ownBlock ∧ some k_ ≠ (.slice Ao49 t475.length co49 : Value).ownBlock ∧ some k_ ≠ (.slice Ao59 t488.length co59 : Value).ownBlock) (.slice Ao40 x446002_1.length co40) x446002_1) := ⟨by (with_reducible repeat (first | apply Kd.R_alloc | apply Kd.R_drewN | apply Kd.R_drew)); exact Kd.R_mono (Kd.R_far (p := ⟨gb494, 2, none⟩) (Kd.R_far (p := ⟨gb494, 1, none⟩) (Kd.R_far (p := ⟨gb494, 0, none⟩) (Kd.R_types HO_446002.out BK494.out (by decide)) (fun _ hk => hk.2) (.int .i64 t486)) (fun _ hk => hk.2) (.int .i64 t487)) (fun _ hk => hk.2) (.slice Ao59 t488.length co59)) (fun _ hk => ⟨hk.1.2.2, ⟨hk.1.1, hk.1.2.1⟩⟩)⟩
         have n3_ : Aside0 (Kd.R k54 54 (((w56.setCell ⟨gb494, 0, none⟩ (.int .i64 t486)).setCell ⟨gb494, 1, none⟩ (.int .i64 t487)).setCell ⟨gb494, 2, none⟩ (.slice Ao59 t488.length co59)) w.heap.size (fun k_ => some k_ ≠ (.slice Ao40 x446002_1.length co40 : Value).ownBlock ∧ some k_ ≠ (.slice Ao49 t475.length co49 : Value).ownBlock ∧ some k_ ≠ (.slice Ao59 t488.length co59 : Value).ownBlock) (.slice Ao20 t449.length co20) t449) := ⟨by (with_reducible repeat (first | apply Kd.R_alloc | apply Kd.R_drewN | apply Kd.R_drew)); exact Kd.R_mono (Kd.R_far (p := ⟨gb494, 2, none⟩) (Kd.R_far (p := ⟨gb494, 1, none⟩) (Kd.R_far (p := ⟨gb494, 0, none⟩) (Kd.R_types HO_456002.out BK494.out (by decide)) (fun _ hk => hk.2) (.int .i64 t486)) (fun _ hk => hk.2) (.int .i64 t487)) (fun _ hk => hk.2) (.slice Ao59 t488.length co59)) (fun _ hk => ⟨hk.1.2.2, ⟨hk.1.1, hk.1.2.1⟩⟩)⟩
         have n4_ : Aside0 (Kd.R k54 54 (((w56.setCell ⟨gb494, 0, none⟩ (.int .i64 t486)).setCell ⟨gb494, 1, none⟩ (.int .i64 t487)).setCell ⟨gb494, 2, none⟩ (.slice Ao59 t488.length co59)) w.heap.size (fun k_ => some k_ ≠ (.slice Ao40 x446002_1.length co40 : Value).ownBlock ∧ some k_ ≠ (.slice Ao20 t449.length co20 : Value).ownBlock ∧ some k_ ≠ (.slice Ao59 t488.length co59 : Value).ownBlock) (.slice Ao49 t475.length co49) t475) := ⟨by (with_reducible repeat (first | apply Kd.R_alloc | apply Kd.R_drewN | apply Kd.R_drew)); exact Kd.R_mono (Kd.R_far (p := ⟨gb494, 2, none⟩) (Kd.R_far (p := ⟨gb494, 1, none⟩) (Kd.R_far (p := ⟨gb494, 0, none⟩) (Kd.R_types HO477.out BK494.out (by decide)) (fun _ hk => hk.2) (.int .i64 t486)) (fun _ hk => hk.2) (.int .i64 t487)) (fun _ hk => hk.2) (.slice Ao59 t488.length co59)) (fun _ hk => ⟨hk.1.2.1, ⟨hk.1.2.2, hk.1.1⟩⟩)⟩
         have n5_ : Aside0 (Kd.R Kd.string 9 (((w56.setCell ⟨gb494, 0, none⟩ (.int .i64 t486)).setCell ⟨gb494, 1, none⟩ (.int .i64 t487)).setCell ⟨gb494, 2, none⟩ (.slice Ao59 t488.length co59)) w.heap.size (fun k_ => some k_ ≠ (.slice Ao21 t452.length co21 : Value).ownBlock ∧ some k_ ≠ (v492 : Value).ownBlock) v479 t478) := ⟨by (with_reducible repeat (first | apply Kd.R_alloc | apply Kd.R_drewN | apply Kd.R_drew)); exact Kd.R_mono (Kd.R_far (p := ⟨gb494, 2, none⟩) (Kd.R_far (p := ⟨gb494, 1, none⟩) (Kd.R_far (p := ⟨gb494, 0, none⟩) (Kd.R_types HO480.out BK494.out (by decide)) (fun _ hk => hk.2) (.int .i64 t486)) (fun _ hk => hk.2) (.int .i64 t487)) (fun _ hk => hk.2) (.slice Ao59 t488.length co59)) (fun _ hk => ⟨hk.1.2, hk.1.1⟩)⟩
         have n6_ : Aside0 (Kd.R k54 54 (((w56.setCell ⟨gb494, 0, none⟩ (.int .i64 t486)).setCell ⟨gb494, 1, none⟩ (.int .i64 t487)).setCell ⟨gb494, 2, none⟩ (.slice Ao59 t488.length co59)) w.heap.size (fun k_ => some k_ ≠ (.slice Ao40 x446002_1.length co40 : Value).ownBlock ∧ some k_ ≠ (.slice Ao20 t449.length co20 : Value).ownBlock ∧ some k_ ≠ (.slice Ao49 t475.length co49 : Value).ownBlock) (.slice Ao59 t488.length co59) t488) := ⟨by (with_reducible repeat (first | apply Kd.R_alloc | apply Kd.R_drewN | apply Kd.R_drew)); exact Kd.R_mono (Kd.R_far (p := ⟨gb494, 2, none⟩) (Kd.R_far (p := ⟨gb494, 1, none⟩) (Kd.R_far (p := ⟨gb494, 0, none⟩) (Kd.R_types HO490.out BK494.out (by decide)) (fun _ hk => hk.2) (.int .i64 t486)) (fun _ hk => hk.2) (.int .i64 t487)) (fun _ hk => hk.2) (.slice Ao59 t488.length co59)) (fun _ hk => ⟨hk.1.2.1, ⟨hk.1.2.2, hk.1.1⟩⟩)⟩
         have n7_ : Aside0 (Kd.R Kd.string 9 (((w56.setCell ⟨gb494, 0, none⟩ (.int .i64 t486)).setCell ⟨gb494, 1, none⟩ (.int .i64 t487)).setCell ⟨gb494, 2, none⟩ (.slice Ao59 t488.length co59)) w.heap.size (fun k_ => some k_ ≠ (.slice Ao21 t452.length co21 : Value).ownBlock ∧ some k_ ≠ (v479 : Value).ownBlock) v492 t491) := ⟨by (with_reducible repeat (first | apply Kd.R_alloc | apply Kd.R_drewN | apply Kd.R_drew)); exact Kd.R_mono (Kd.R_far (p := ⟨gb494, 2, none⟩) (Kd.R_far (p := ⟨gb494, 1, none⟩) (Kd.R_far (p := ⟨gb494, 0, none⟩) (Kd.R_types HO493.out BK494.out (by decide)) (fun _ hk => hk.2) (.int .i64 t486)) (fun _ hk => hk.2) (.int .i64 t487)) (fun _ hk => hk.2) (.slice Ao59 t488.length co59)) (fun _ hk => ⟨hk.1.2, hk.1.1⟩)⟩
         have n8_ : Aside0 ((((w56.setCell ⟨gb494, 0, none⟩ (.int .i64 t486)).setCell ⟨gb494, 1, none⟩ (.int .i64 t487)).setCell ⟨gb494, 2, none⟩ (.slice Ao59 t488.length co59)).heap[gb445]? = some (.cells #[.int .i64 x446000_1, .int .i64 x446001_1, .slice Ao40 x446002_1.length co40] 30 (0, 0))) := ⟨by (with_reducible repeat (first | refine blk_drewN ?_ _ | refine blk_drew ?_ | refine blk_alloc ?_ _)); refine blk_far ?_ NB445_494.out _; (with_reducible repeat (first | refine blk_drewN ?_ _ | refine blk_drew ?_ | refine blk_alloc ?_ _)); refine blk_far ?_ NB445_494.out _; (with_reducible repeat (first | refine blk_drewN ?_ _ | refine blk_drew ?_ | refine blk_alloc ?_ _)); refine blk_far ?_ NB445_494.out _; (with_reducible repeat (first | refine blk_drewN ?_ _ | refine blk_drew ?_ | refine blk_alloc ?_ _)); exact BK445.out⟩
         have n9_ : Aside0 ((((w56.setCell ⟨gb494, 0, none⟩ (.int .i64 t486)).setCell ⟨gb494, 1, none⟩ (.int .i64 t487)).setCell ⟨gb494, 2, none⟩ (.slice Ao59 t488.length co59)).heap[gb455]? = some (.cells #[.int .i64 t447, .int .i64 t448, .slice Ao20 t449.length co20] 30 (0, 0))) := ⟨by (with_reducible repeat (first | refine blk_drewN ?_ _ | refine blk_drew ?_ | refine blk_alloc ?_ _)); refine blk_far ?_ NB455_494.out _; (with_reducible repeat (first | refine blk_drewN ?_ _ | refine blk_drew ?_ | refine blk_alloc ?_ _)); refine blk_far ?_ NB455_494.out _; (with_reducible repeat (first | refine blk_drewN ?_ _ | refine blk_drew ?_ | refine blk_alloc ?_ _)); refine blk_far ?_ NB455_494.out _; (with_reducible repeat (first | refine blk_drewN ?_ _ | refine blk_drew ?_ | refine blk_alloc ?_ _)); exact BK455.out⟩
         have n10_ : Aside0 ((((w56.setCell ⟨gb494, 0, none⟩ (.int .i64 t486)).setCell ⟨gb494, 1, none⟩ (.int .i64 t487)).setCell ⟨gb494, 2, none⟩ (.slice Ao59 t488.length co59)).heap[gb466]? = some (.cells #[.int .i64 ((rd_T50 t442 x7_1).f0), .int .i64 ((rd_T50 t442 x7_1).f1), .string ((rd_T50 t442 x7_1).f2)] 50 (0, 0))) := ⟨by (with_reducible repeat (first | refine blk_drewN ?_ _ | refine blk_drew ?_ | refine blk_alloc ?_ _)); refine blk_far ?_ NB466_494.out _; (with_reducible repeat (first | refine blk_drewN ?_ _ | refine blk_drew ?_ | refine blk_alloc ?_ _)); refine blk_far ?_ NB466_494.out _; (with_reducible repeat (first | refine blk_drewN ?_ _ | refine blk_drew ?_ | refine blk_alloc ?_ _)); refine blk_far ?_ NB466_494.out _; (with_reducible repeat (first | refine blk_drewN ?_ _ | refine blk_drew ?_ | refine blk_alloc ?_ _)); exact BK466.out⟩
         have n11_ : Aside0 ((((w56.setCell ⟨gb494, 0, none⟩ (.int .i64 t486)).setCell ⟨gb494, 1, none⟩ (.int .i64 t487)).setCell ⟨gb494, 2, none⟩ (.slice Ao59 t488.length co59)).heap[gb481]? = some (.cells #[.int .i64 t473, .int .i64 t474, .slice Ao49 t475.length co49] 30 (0, 0))) := ⟨by (with_reducible repeat (first | refine blk_drewN ?_ _ | refine blk_drew ?_ | refine blk_alloc ?_ _)); refine blk_far ?_ NB481_494.out _; (with_reducible repeat (first | refine blk_drewN ?_ _ | refine blk_drew ?_ | refine blk_alloc ?_ _)); refine blk_far ?_ NB481_494.out _; (with_reducible repeat (first | refine blk_drewN ?_ _ | refine blk_drew ?_ | refine blk_alloc ?_ _)); refine blk_far ?_ NB481_494.out _; (with_reducible repeat (first | refine blk_drewN ?_ _ | refine blk_drew ?_ | refine blk_alloc ?_ _)); exact BK481.out⟩
         have n12_ : Aside0 ((((w56.setCell ⟨gb494, 0, none⟩ (.int .i64 t486)).setCell ⟨gb494, 1, none⟩ (.int .i64 t487)).setCell ⟨gb494, 2, none⟩ (.slice Ao59 t488.length co59)).heap[gb494]? = some (.cells #[.int .i64 t486, .int .i64 t487, .slice Ao59 t488.length co59] 30 (0, 0))) := ⟨by (with_reducible repeat (first | refine blk_drewN ?_ _ | refine blk_drew ?_ | refine blk_alloc ?_ _)); refine blk_put (cs := #[.int .i64 t486, .int .i64 t487, .slice none 0 0]) ?_ 2 _ rfl; (with_reducible repeat (first | refine blk_drewN ?_ _ | refine blk_drew ?_ | refine blk_alloc ?_ _)); refine blk_put (cs := #[.int .i64 t486, .int .i64 0, .slice none 0 0]) ?_ 1 _ rfl; (with_reducible repeat (first | refine blk_drewN ?_ _ | refine blk_drew ?_ | refine blk_alloc ?_ _)); refine blk_put (cs := #[.int .i64 0, .int .i64 0, .slice none 0 0]) ?_ 0 _ rfl; (with_reducible repeat (first | refine blk_drewN ?_ _ | refine blk_drew ?_ | refine blk_alloc ?_ _)); exact BK494.out⟩
         have n13_ : Aside0 (Below w.heap.size w (((w56.setCell ⟨gb494, 0, none⟩ (.int .i64 t486)).setCell ⟨gb494, 1, none⟩ (.int .i64 t487)).setCell ⟨gb494, 2, none⟩ (.slice Ao59 t488.length co59))) := ⟨by repeat (first | (with_reducible first | exact HB.out | apply below_alloc | apply pw_below_drewN | apply below_drew1 | refine below_set ?_ GE445.out | refine below_set ?_ GE455.out | refine below_set ?_ GE466.out | refine below_set ?_ GE481.out | refine below_set ?_ GE494.out) | exact HB.out)⟩
         (try clear HO_4)
         (try clear HO_6)
         (try clear HO_446002)
         (try clear HO_456002)
         (try clear HO477)
         (try clear HO480)
         (try clear HO490)
         (try clear HO493)
         (try clear BK445)
         (try clear BK455)
         (try clear BK466)
         (try clear BK481)
         (try clear BK494)
         (try clear HB)
         generalize (((w56.setCell ⟨gb494, 0, none⟩ (.int .i64 t486)).setCell ⟨gb494, 1, none⟩ (.int .i64 t487)).setCell ⟨gb494, 2, none⟩ (.slice Ao59 t488.length co59)) = w74 at n0_ n1_ n2_ n3_ n4_ n5_ n6_ n7_ n8_ n9_ n10_ n11_ n12_ n13_ ⊢
         have HO_4 := n0_
         have HO_6 := n1_
         have HO_446002 := n2_
         have HO_456002 := n3_
         have HO477 := n4_
         have HO480 := n5_
         have HO490 := n6_
         have HO493 := n7_
         have BK445 := n8_
         have BK455 := n9_
         have BK466 := n10_
         have BK481 := n11_
         have BK494 := n12_
         have HB := n13_
         clear n0_ n1_ n2_ n3_ n4_ n5_ n6_ n7_ n8_ n9_ n10_ n11_ n12_ n13_
         replace HO_4 := am (Kd.R_drew HO_4.out)
         replace HO_6 := am (Kd.R_drew HO_6.out)
         replace HO_446002 := am (Kd.R_drew HO_446002.out)
         replace HO_456002 := am (Kd.R_drew HO_456002.out)
         replace HO477 := am (Kd.R_drew HO477.out)
         replace HO480 := am (Kd.R_drew HO480.out)
         replace HO490 := am (Kd.R_drew HO490.out)
         replace HO493 := am (Kd.R_drew HO493.out)
         replace BK445 := am (blk_drew BK445.out)
         replace BK455 := am (blk_drew BK455.out)
         replace BK466 := am (blk_drew BK466.out)
         replace BK481 := am (blk_drew BK481.out)
         replace BK494 := am (blk_drew BK494.out)
         replace HB := am (below_drew1 HB.out)
         have p496 : 0 ≤ (0 : Int) := (by omega)
         have q496 : 0 < (t478.length : Int) := of_decide_eq_true q3
         obtain ⟨Ao480_, co480_, eo480_⟩ := Kd.R_slice HO480.out
         subst eo480_
         obtain ⟨ad496, e496, hx496_0⟩ := Kd.at_string (Kd.R_reads' HO480.out).2.2 0 p496 q496
         cases e496
         have qi496 : (0 < t478.length) = True := eq_true (by omega)
         (try rw [show ((0 : Int)).toNat = 0 from rfl] at hx496_0)
         (try rw [Addr.add_zero'] at hx496_0)
         replace p496 := eq_true p496
         replace q496 := eq_true q496
         have p497 : 0 ≤ (x7_1 : Int) := of_decide_eq_true q3
         have q497 : x7_1 < (t452.length : Int) := of_decide_eq_true q3
         obtain ⟨ad497, e497, hx497_0⟩ := Kd.at_string (Kd.R_reads' HO_6.out).2.2 x7_1 p497 q497
         cases e497
         replace p497 := eq_true p497
         replace q497 := eq_true q497
         refine start_ (n := 34) (S := fun w' => w'.cell? ⟨gb481, 0, none⟩ = some (.int .i64 t473) ∧ w'.cell? ⟨gb481, 1, none⟩ = some (.int .i64 t474) ∧ w'.cell? ⟨gb481, 2, none⟩ = some (.slice Ao49 t475.length co49) ∧ w'.cell? ad496 = some (.string (rdOf ByteArray.empty t478 0)) ∧ w'.cell? (ad497.add (x7_1).toNat) = some (.string (rdOf ByteArray.empty t452 x7_1))) (ds := []) b0_34 kr rfl rfl ⟨(blk_cell BK481.out 0).trans rfl, (blk_cell BK481.out 1).trans rfl, (blk_cell BK481.out 2).trans rfl, hx496_0, hx497_0⟩ (fun hHeld => ?_); refine with_tabW laws_FnOnce.tab16 laws_FnOnce.bits16 (fun HT_ HW_ => ?_)
         generalize w74.drew = w75 at HO_4 HO_6 HO_446002 HO_456002 HO477 HO480 HO490 HO493 BK445 BK455 BK466 BK481 BK494 HB hx496_0 hx497_0 hHeld ⊢
         refine tV 0 79 (bt 1 34) ?_
         refine one_ (i := 1) (N := some 80) b2_34 rfl rfl (one_of HT_.out kr) (by decide) (fun K hK => ?_)
         refine goes_ Tryd.func22 kr rfl #[.agg #[.int .i64 t473, .int .i64 t474, .slice Ao49 t475.length co49]] (by rfl) rfl rfl q1 ?_
         with_reducible refine (impl_SessionsOk.calls k1 t473 t474 _ _ t475 true _ ?side1 ?side2 A61.out).mono ?_
         (case side1 => exact u13_19)
         (case side2 => exact (Kd.R_reads' HO477.out).2.1)
         rintro e w76 ⟨rfl, hb⟩
         have HS3_ := (hb.cell (World.block_lt_of_cell? _ _ (hHeld.2.2.2.1))).trans (hHeld.2.2.2.1)
         have HS4_ := (hb.cell (World.block_lt_of_cell? _ _ (hHeld.2.2.2.2))).trans (hHeld.2.2.2.2)
         refine ⟨_, rfl, ?_⟩
         replace HO_4 := am (Kd.R_below u13_8 hb)
         replace HO_6 := am (Kd.R_below q10 hb)
         replace HO_446002 := am (Kd.R_below u13_4 hb)
         replace HO_456002 := am (Kd.R_below u13_5 hb)
         replace HO477 := am (Kd.R_below u13_13 hb)
         replace HO480 := am (Kd.R_below u13_14 hb)
         replace HO490 := am (Kd.R_below u13_17 hb)
         replace HO493 := am (Kd.R_below u13_18 hb)
         replace BK445 := am (blk_below (g := gb445) (o := .cells #[.int .i64 x446000_1, .int .i64 x446001_1, .slice Ao40 x446002_1.length co40] 30 (0, 0)) u13_1 hb)
         replace BK455 := am (blk_below (g := gb455) (o := .cells #[.int .i64 t447, .int .i64 t448, .slice Ao20 t449.length co20] 30 (0, 0)) u13_2 hb)
         replace BK466 := am (blk_below (g := gb466) (o := .cells #[.int .i64 ((rd_T50 t442 x7_1).f0), .int .i64 ((rd_T50 t442 x7_1).f1), .string ((rd_T50 t442 x7_1).f2)] 50 (0, 0)) u13_3 hb)
         replace BK481 := am (blk_below (g := gb481) (o := .cells #[.int .i64 t473, .int .i64 t474, .slice Ao49 t475.length co49] 30 (0, 0)) u13_6 hb)
         replace BK494 := am (blk_below (g := gb494) (o := .cells #[.int .i64 t486, .int .i64 t487, .slice Ao59 t488.length co59] 30 (0, 0)) u13_10 hb)
         replace HB := am (below_step q0 hb)
         (try clear hb)
         (try clear hb2)
         (try clear hk)
         (try clear hi)
         obtain ⟨Ao77, co77, eo77⟩ := Kd.R_slice HO480.out
         (first | subst eo77 | (injection eo77 with f1_ f2_ f3_; have f4_ := f1_.symm; have f5_ := f3_.symm; clear f1_ f2_ f3_; subst f4_; subst f5_))
         obtain ⟨Ao78, co78, eo78⟩ := Kd.R_slice HO493.out
         (first | subst eo78 | (injection eo78 with f1_ f2_ f3_; have f4_ := f1_.symm; have f5_ := f3_.symm; clear f1_ f2_ f3_; subst f4_; subst f5_))
         refine hK.out _ _ ⟨(blk_cell BK481.out 0).trans rfl, (blk_cell BK481.out 1).trans rfl, (blk_cell BK481.out 2).trans rfl, HS3_, HS4_⟩ (fun hHeld => ?_)
         clear hK K
         refine norm_ (a' := ?_) ?_ ?_
         rotate_left
         · show Act.put _ (some 80) _ = _
           simp only [Act.put, la, lb, lc, i64_w, i32_w]
           rfl
         refine pV 2 81 (bt 3 34) ?_
         refine pV 3 82 (bt 4 34) ?_
         refine pV 4 83 (bt 5 34) ?_
         refine pV 5 84 (bt 6 34) ?_
         refine pV 6 85 (bt 7 34) ?_
         refine pV 7 86 (bt 8 34) ?_
         refine pV 8 87 (bt 9 34) ?_
         refine pV 9 88 (bt 10 34) ?_
         refine pV 10 89 (bt 11 34) ?_
         refine pV 11 90 (bt 12 34) ?_
         refine pV 12 91 (bt 13 34) ?_
         refine pV 13 92 (bt 14 34) ?_
         refine pV 14 93 (bt 15 34) ?_
         refine pV 15 94 (bt 16 34) ?_
         refine pV 17 96 bx44 ?_
         refine pV 18 97 bx45 ?_
         refine pV 19 98 bx46 ?_
         refine tV 16 95 (bt 20 34) ?_
         refine tV 20 99 (bt 21 34) ?_
         refine pV 21 100 (bt 22 34) ?_
         refine pV 22 101 (bt 23 34) ?_
         refine pV 23 102 (bt 24 34) ?_
         refine pV 24 103 (bt 25 34) ?_
         refine pV 25 104 (bt 26 34) ?_
         refine pV 26 105 (bt 27 34) ?_
         refine pU 27 106 (bt 28 34) ?_
         refine pU 28 107 (bt 29 34) ?_
         refine pU 29 108 (bt 30 34) ?_
         refine pU 30 109 (bt 31 34) ?_
         refine pU 31 110 (bt 32 34) ?_
         refine pV 32 111 (bt 33 34) ?_
         refine pV 33 112 (bt 34 34) ?_
         refine done_ (done_of HT_.out kr) ?_
         try go_wp2
         go_meet
         case rel => exact ⟨_, (false), q4, H', ⟨u13_41⟩, ⟨u13_8⟩, ⟨q10⟩, ⟨u13_14⟩, ⟨u13_18⟩, ⟨u13_4⟩, ⟨u13_5⟩, ⟨u13_13⟩, ⟨u13_17⟩, ⟨u13_1⟩, ⟨u13_2⟩, ⟨u13_3⟩, ⟨u13_6⟩, ⟨u13_10⟩, ⟨q0⟩⟩
       rw [if_pos c68] at H
       have c68b0 : (t467 == 1) = true := beq_iff_eq.mpr c68
       have c68b1 : (t467 != 1) = false := bne_eq_false_iff_eq.mpr c68
       clear c68
       have H' := am H
       clear H
       try go_wp2
       have n0_ : Aside0 (Kd.R k50 50 (((w56.setCell ⟨gb494, 0, none⟩ (.int .i64 t486)).setCell ⟨gb494, 1, none⟩ (.int .i64 t487)).setCell ⟨gb494, 2, none⟩ (.slice Ao59 t488.length co59)) w.heap.size (fun k_ => k_ ≠ gb466) (.slice (some ad465) t442.length co15) t442) := ⟨by (with_reducible repeat (first | apply Kd.R_alloc | apply Kd.R_drewN | apply Kd.R_drew)); exact Kd.R_mono (Kd.R_far (p := ⟨gb494, 2, none⟩) (Kd.R_far (p := ⟨gb494, 1, none⟩) (Kd.R_far (p := ⟨gb494, 0, none⟩) (Kd.R_types HO_4.out BK494.out (by decide)) (fun _ hk => hk.2) (.int .i64 t486)) (fun _ hk => hk.2) (.int .i64 t487)) (fun _ hk => hk.2) (.slice Ao59 t488.length co59)) (fun _ hk => hk.1)⟩
       have n1_ : Aside0 (Kd.R Kd.string 9 (((w56.setCell ⟨gb494, 0, none⟩ (.int .i64 t486)).setCell ⟨gb494, 1, none⟩ (.int .i64 t487)).setCell ⟨gb494, 2, none⟩ (.slice Ao59 t488.length co59)) w.heap.size (fun k_ => some k_ ≠ (v479 : Value).ownBlock ∧ some k_ ≠ (v492 : Value).ownBlock) (.slice Ao21 t452.length co21) t452) := ⟨by (with_reducible repeat (first | apply Kd.R_alloc | apply Kd.R_drewN | apply Kd.R_drew)); exact Kd.R_mono (Kd.R_far (p := ⟨gb494, 2, none⟩) (Kd.R_far (p := ⟨gb494, 1, none⟩) (Kd.R_far (p := ⟨gb494, 0, none⟩) (Kd.R_types HO_6.out BK494.out (by decide)) (fun _ hk => hk.2) (.int .i64 t486)) (fun _ hk => hk.2) (.int .i64 t487)) (fun _ hk => hk.2) (.slice Ao59 t488.length co59)) (fun _ hk => ⟨hk.1.1, hk.1.2⟩)⟩
       have n2_ : Aside0 (Kd.R k54 54 (((w56.setCell ⟨gb494, 0, none⟩ (.int .i64 t486)).setCell ⟨gb494, 1, none⟩ (.int .i64 t487)).setCell ⟨gb494, 2, none⟩ (.slice Ao59 t488.length co59)) w.heap.size (fun k_ => some k_ ≠ (.slice Ao20 t449.length co20 : Value).ownBlock ∧ some k_ ≠ (.slice Ao49 t475.length co49 : Value).ownBlock ∧ some k_ ≠ (.slice Ao59 t488.length co59 : Value).ownBlock) (.slice Ao40 x446002_1.length co40) x446002_1) := ⟨by (with_reducible repeat (first | apply Kd.R_alloc | apply Kd.R_drewN | apply Kd.R_drew)); exact Kd.R_mono (Kd.R_far (p := ⟨gb494, 2, none⟩) (Kd.R_far (p := ⟨gb494, 1, none⟩) (Kd.R_far (p := ⟨gb494, 0, none⟩) (Kd.R_types HO_446002.out BK494.out (by decide)) (fun _ hk => hk.2) (.int .i64 t486)) (fun _ hk => hk.2) (.int .i64 t487)) (fun _ hk => hk.2) (.slice Ao59 t488.length co59)) (fun _ hk => ⟨hk.1.2.2, ⟨hk.1.1, hk.1.2.1⟩⟩)⟩
       have n3_ : Aside0 (Kd.R k54 54 (((w56.setCell ⟨gb494, 0, none⟩ (.int .i64 t486)).setCell ⟨gb494, 1, none⟩ (.int .i64 t487)).setCell ⟨gb494, 2, none⟩ (.slice Ao59 t488.length co59)) w.heap.size (fun k_ => some k_ ≠ (.slice Ao40 x446002_1.length co40 : Value).ownBlock ∧ some k_ ≠ (.slice Ao49 t475.length co49 : Value).ownBlock ∧ some k_ ≠ (.slice Ao59 t488.length co59 : Value).ownBlock) (.slice Ao20 t449.length co20) t449) := ⟨by (with_reducible repeat (first | apply Kd.R_alloc | apply Kd.R_drewN | apply Kd.R_drew)); exact Kd.R_mono (Kd.R_far (p := ⟨gb494, 2, none⟩) (Kd.R_far (p := ⟨gb494, 1, none⟩) (Kd.R_far (p := ⟨gb494, 0, none⟩) (Kd.R_types HO_456002.out BK494.out (by decide)) (fun _ hk => hk.2) (.int .i64 t486)) (fun _ hk => hk.2) (.int .i64 t487)) (fun _ hk => hk.2) (.slice Ao59 t488.length co59)) (fun _ hk => ⟨hk.1.2.2, ⟨hk.1.1, hk.1.2.1⟩⟩)⟩
       have n4_ : Aside0 (Kd.R k54 54 (((w56.setCell ⟨gb494, 0, none⟩ (.int .i64 t486)).setCell ⟨gb494, 1, none⟩ (.int .i64 t487)).setCell ⟨gb494, 2, none⟩ (.slice Ao59 t488.length co59)) w.heap.size (fun k_ => some k_ ≠ (.slice Ao40 x446002_1.length co40 : Value).ownBlock ∧ some k_ ≠ (.slice Ao20 t449.length co20 : Value).ownBlock ∧ some k_ ≠ (.slice Ao59 t488.length co59 : Value).ownBlock) (.slice Ao49 t475.length co49) t475) := ⟨by (with_reducible repeat (first | apply Kd.R_alloc | apply Kd.R_drewN | apply Kd.R_drew)); exact Kd.R_mono (Kd.R_far (p := ⟨gb494, 2, none⟩) (Kd.R_far (p := ⟨gb494, 1, none⟩) (Kd.R_far (p := ⟨gb494, 0, none⟩) (Kd.R_types HO477.out BK494.out (by decide)) (fun _ hk => hk.2) (.int .i64 t486)) (fun _ hk => hk.2) (.int .i64 t487)) (fun _ hk => hk.2) (.slice Ao59 t488.length co59)) (fun _ hk => ⟨hk.1.2.1, ⟨hk.1.2.2, hk.1.1⟩⟩)⟩
       have n5_ : Aside0 (Kd.R Kd.string 9 (((w56.setCell ⟨gb494, 0, none⟩ (.int .i64 t486)).setCell ⟨gb494, 1, none⟩ (.int .i64 t487)).setCell ⟨gb494, 2, none⟩ (.slice Ao59 t488.length co59)) w.heap.size (fun k_ => some k_ ≠ (.slice Ao21 t452.length co21 : Value).ownBlock ∧ some k_ ≠ (v492 : Value).ownBlock) v479 t478) := ⟨by (with_reducible repeat (first | apply Kd.R_alloc | apply Kd.R_drewN | apply Kd.R_drew)); exact Kd.R_mono (Kd.R_far (p := ⟨gb494, 2, none⟩) (Kd.R_far (p := ⟨gb494, 1, none⟩) (Kd.R_far (p := ⟨gb494, 0, none⟩) (Kd.R_types HO480.out BK494.out (by decide)) (fun _ hk => hk.2) (.int .i64 t486)) (fun _ hk => hk.2) (.int .i64 t487)) (fun _ hk => hk.2) (.slice Ao59 t488.length co59)) (fun _ hk => ⟨hk.1.2, hk.1.1⟩)⟩
       have n6_ : Aside0 (Kd.R k54 54 (((w56.setCell ⟨gb494, 0, none⟩ (.int .i64 t486)).setCell ⟨gb494, 1, none⟩ (.int .i64 t487)).setCell ⟨gb494, 2, none⟩ (.slice Ao59 t488.length co59)) w.heap.size (fun k_ => some k_ ≠ (.slice Ao40 x446002_1.length co40 : Value).ownBlock ∧ some k_ ≠ (.slice Ao20 t449.length co20 : Value).ownBlock ∧ some k_ ≠ (.slice Ao49 t475.length co49 : Value).ownBlock) (.slice Ao59 t488.length co59) t488) := ⟨by (with_reducible repeat (first | apply Kd.R_alloc | apply Kd.R_drewN | apply Kd.R_drew)); exact Kd.R_mono (Kd.R_far (p := ⟨gb494, 2, none⟩) (Kd.R_far (p := ⟨gb494, 1, none⟩) (Kd.R_far (p := ⟨gb494, 0, none⟩) (Kd.R_types HO490.out BK494.out (by decide)) (fun _ hk => hk.2) (.int .i64 t486)) (fun _ hk => hk.2) (.int .i64 t487)) (fun _ hk => hk.2) (.slice Ao59 t488.length co59)) (fun _ hk => ⟨hk.1.2.1, ⟨hk.1.2.2, hk.1.1⟩⟩)⟩
       have n7_ : Aside0 (Kd.R Kd.string 9 (((w56.setCell ⟨gb494, 0, none⟩ (.int .i64 t486)).setCell ⟨gb494, 1, none⟩ (.int .i64 t487)).setCell ⟨gb494, 2, none⟩ (.slice Ao59 t488.length co59)) w.heap.size (fun k_ => some k_ ≠ (.slice Ao21 t452.length co21 : Value).ownBlock ∧ some k_ ≠ (v479 : Value).ownBlock) v492 t491) := ⟨by (with_reducible repeat (first | apply Kd.R_alloc | apply Kd.R_drewN | apply Kd.R_drew)); exact Kd.R_mono (Kd.R_far (p := ⟨gb494, 2, none⟩) (Kd.R_far (p := ⟨gb494, 1, none⟩) (Kd.R_far (p := ⟨gb494, 0, none⟩) (Kd.R_types HO493.out BK494.out (by decide)) (fun _ hk => hk.2) (.int .i64 t486)) (fun _ hk => hk.2) (.int .i64 t487)) (fun _ hk => hk.2) (.slice Ao59 t488.length co59)) (fun _ hk => ⟨hk.1.2, hk.1.1⟩)⟩
       have n8_ : Aside0 ((((w56.setCell ⟨gb494, 0, none⟩ (.int .i64 t486)).setCell ⟨gb494, 1, none⟩ (.int .i64 t487)).setCell ⟨gb494, 2, none⟩ (.slice Ao59 t488.length co59)).heap[gb445]? = some (.cells #[.int .i64 x446000_1, .int .i64 x446001_1, .slice Ao40 x446002_1.length co40] 30 (0, 0))) := ⟨by (with_reducible repeat (first | refine blk_drewN ?_ _ | refine blk_drew ?_ | refine blk_alloc ?_ _)); refine blk_far ?_ NB445_494.out _; (with_reducible repeat (first | refine blk_drewN ?_ _ | refine blk_drew ?_ | refine blk_alloc ?_ _)); refine blk_far ?_ NB445_494.out _; (with_reducible repeat (first | refine blk_drewN ?_ _ | refine blk_drew ?_ | refine blk_alloc ?_ _)); refine blk_far ?_ NB445_494.out _; (with_reducible repeat (first | refine blk_drewN ?_ _ | refine blk_drew ?_ | refine blk_alloc ?_ _)); exact BK445.out⟩
       have n9_ : Aside0 ((((w56.setCell ⟨gb494, 0, none⟩ (.int .i64 t486)).setCell ⟨gb494, 1, none⟩ (.int .i64 t487)).setCell ⟨gb494, 2, none⟩ (.slice Ao59 t488.length co59)).heap[gb455]? = some (.cells #[.int .i64 t447, .int .i64 t448, .slice Ao20 t449.length co20] 30 (0, 0))) := ⟨by (with_reducible repeat (first | refine blk_drewN ?_ _ | refine blk_drew ?_ | refine blk_alloc ?_ _)); refine blk_far ?_ NB455_494.out _; (with_reducible repeat (first | refine blk_drewN ?_ _ | refine blk_drew ?_ | refine blk_alloc ?_ _)); refine blk_far ?_ NB455_494.out _; (with_reducible repeat (first | refine blk_drewN ?_ _ | refine blk_drew ?_ | refine blk_alloc ?_ _)); refine blk_far ?_ NB455_494.out _; (with_reducible repeat (first | refine blk_drewN ?_ _ | refine blk_drew ?_ | refine blk_alloc ?_ _)); exact BK455.out⟩
       have n10_ : Aside0 ((((w56.setCell ⟨gb494, 0, none⟩ (.int .i64 t486)).setCell ⟨gb494, 1, none⟩ (.int .i64 t487)).setCell ⟨gb494, 2, none⟩ (.slice Ao59 t488.length co59)).heap[gb466]? = some (.cells #[.int .i64 ((rd_T50 t442 x7_1).f0), .int .i64 ((rd_T50 t442 x7_1).f1), .string ((rd_T50 t442 x7_1).f2)] 50 (0, 0))) := ⟨by (with_reducible repeat (first | refine blk_drewN ?_ _ | refine blk_drew ?_ | refine blk_alloc ?_ _)); refine blk_far ?_ NB466_494.out _; (with_reducible repeat (first | refine blk_drewN ?_ _ | refine blk_drew ?_ | refine blk_alloc ?_ _)); refine blk_far ?_ NB466_494.out _; (with_reducible repeat (first | refine blk_drewN ?_ _ | refine blk_drew ?_ | refine blk_alloc ?_ _)); refine blk_far ?_ NB466_494.out _; (with_reducible repeat (first | refine blk_drewN ?_ _ | refine blk_drew ?_ | refine blk_alloc ?_ _)); exact BK466.out⟩
       have n11_ : Aside0 ((((w56.setCell ⟨gb494, 0, none⟩ (.int .i64 t486)).setCell ⟨gb494, 1, none⟩ (.int .i64 t487)).setCell ⟨gb494, 2, none⟩ (.slice Ao59 t488.length co59)).heap[gb481]? = some (.cells #[.int .i64 t473, .int .i64 t474, .slice Ao49 t475.length co49] 30 (0, 0))) := ⟨by (with_reducible repeat (first | refine blk_drewN ?_ _ | refine blk_drew ?_ | refine blk_alloc ?_ _)); refine blk_far ?_ NB481_494.out _; (with_reducible repeat (first | refine blk_drewN ?_ _ | refine blk_drew ?_ | refine blk_alloc ?_ _)); refine blk_far ?_ NB481_494.out _; (with_reducible repeat (first | refine blk_drewN ?_ _ | refine blk_drew ?_ | refine blk_alloc ?_ _)); refine blk_far ?_ NB481_494.out _; (with_reducible repeat (first | refine blk_drewN ?_ _ | refine blk_drew ?_ | refine blk_alloc ?_ _)); exact BK481.out⟩
       have n12_ : Aside0 ((((w56.setCell ⟨gb494, 0, none⟩ (.int .i64 t486)).setCell ⟨gb494, 1, none⟩ (.int .i64 t487)).setCell ⟨gb494, 2, none⟩ (.slice Ao59 t488.length co59)).heap[gb494]? = some (.cells #[.int .i64 t486, .int .i64 t487, .slice Ao59 t488.length co59] 30 (0, 0))) := ⟨by (with_reducible repeat (first | refine blk_drewN ?_ _ | refine blk_drew ?_ | refine blk_alloc ?_ _)); refine blk_put (cs := #[.int .i64 t486, .int .i64 t487, .slice none 0 0]) ?_ 2 _ rfl; (with_reducible repeat (first | refine blk_drewN ?_ _ | refine blk_drew ?_ | refine blk_alloc ?_ _)); refine blk_put (cs := #[.int .i64 t486, .int .i64 0, .slice none 0 0]) ?_ 1 _ rfl; (with_reducible repeat (first | refine blk_drewN ?_ _ | refine blk_drew ?_ | refine blk_alloc ?_ _)); refine blk_put (cs := #[.int .i64 0, .int .i64 0, .slice none 0 0]) ?_ 0 _ rfl; (with_reducible repeat (first | refine blk_drewN ?_ _ | refine blk_drew ?_ | refine blk_alloc ?_ _)); exact BK494.out⟩
       have n13_ : Aside0 (Below w.heap.size w (((w56.setCell ⟨gb494, 0, none⟩ (.int .i64 t486)).setCell ⟨gb494, 1, none⟩ (.int .i64 t487)).setCell ⟨gb494, 2, none⟩ (.slice Ao59 t488.length co59))) := ⟨by repeat (first | (with_reducible first | exact HB.out | apply below_alloc | apply pw_below_drewN | apply below_drew1 | refine below_set ?_ GE445.out | refine below_set ?_ GE455.out | refine below_set ?_ GE466.out | refine below_set ?_ GE481.out | refine below_set ?_ GE494.out) | exact HB.out)⟩
       (try clear HO_4)
       (try clear HO_6)
       (try clear HO_446002)
       (try clear HO_456002)
       (try clear HO477)
       (try clear HO480)
       (try clear HO490)
       (try clear HO493)
       (try clear BK445)
       (try clear BK455)
       (try clear BK466)
       (try clear BK481)
       (try clear BK494)
       (try clear HB)
       generalize (((w56.setCell ⟨gb494, 0, none⟩ (.int .i64 t486)).setCell ⟨gb494, 1, none⟩ (.int .i64 t487)).setCell ⟨gb494, 2, none⟩ (.slice Ao59 t488.length co59)) = w69 at n0_ n1_ n2_ n3_ n4_ n5_ n6_ n7_ n8_ n9_ n10_ n11_ n12_ n13_ ⊢
       have HO_4 := n0_
       have HO_6 := n1_
       have HO_446002 := n2_
       have HO_456002 := n3_
       have HO477 := n4_
       have HO480 := n5_
       have HO490 := n6_
       have HO493 := n7_
       have BK445 := n8_
       have BK455 := n9_
       have BK466 := n10_
       have BK481 := n11_
       have BK494 := n12_
       have HB := n13_
       clear n0_ n1_ n2_ n3_ n4_ n5_ n6_ n7_ n8_ n9_ n10_ n11_ n12_ n13_
       replace HO_4 := am (Kd.R_drew HO_4.out)
       replace HO_6 := am (Kd.R_drew HO_6.out)
       replace HO_446002 := am (Kd.R_drew HO_446002.out)
       replace HO_456002 := am (Kd.R_drew HO_456002.out)
       replace HO477 := am (Kd.R_drew HO477.out)
       replace HO480 := am (Kd.R_drew HO480.out)
       replace HO490 := am (Kd.R_drew HO490.out)
       replace HO493 := am (Kd.R_drew HO493.out)
       replace BK445 := am (blk_drew BK445.out)
       replace BK455 := am (blk_drew BK455.out)
       replace BK466 := am (blk_drew BK466.out)
       replace BK481 := am (blk_drew BK481.out)
       replace BK494 := am (blk_drew BK494.out)
       replace HB := am (below_drew1 HB.out)
       have p496 : 0 ≤ (0 : Int) := (by omega)
       have q496 : 0 < (t478.length : Int) := of_decide_eq_true q3
       obtain ⟨Ao480_, co480_, eo480_⟩ := Kd.R_slice HO480.out
       subst eo480_
       obtain ⟨ad496, e496, hx496_0⟩ := Kd.at_string (Kd.R_reads' HO480.out).2.2 0 p496 q496
       cases e496
       have qi496 : (0 < t478.length) = True := eq_true (by omega)
       (try rw [show ((0 : Int)).toNat = 0 from rfl] at hx496_0)
       (try rw [Addr.add_zero'] at hx496_0)
       replace p496 := eq_true p496
       replace q496 := eq_true q496
       have p497 : 0 ≤ (x7_1 : Int) := of_decide_eq_true q3
       have q497 : x7_1 < (t452.length : Int) := of_decide_eq_true q3
       obtain ⟨ad497, e497, hx497_0⟩ := Kd.at_string (Kd.R_reads' HO_6.out).2.2 x7_1 p497 q497
       cases e497
       replace p497 := eq_true p497
       replace q497 := eq_true q497
       have p498 : 0 ≤ (0 : Int) := (by omega)
       have q498 : 0 < (t478.length : Int) := of_decide_eq_true q3
       obtain ⟨ad498, e498, hx498_0⟩ := Kd.at_string (Kd.R_reads' HO480.out).2.2 0 p498 q498
       obtain rfl : ad496 = ad498 := (by injection e498)
       have qi498 : (0 < t478.length) = True := eq_true (by omega)
       (try rw [show ((0 : Int)).toNat = 0 from rfl] at hx498_0)
       (try rw [Addr.add_zero'] at hx498_0)
       replace p498 := eq_true p498
       replace q498 := eq_true q498
       refine start_ (n := 34) (S := fun w' => w'.cell? ⟨gb481, 0, none⟩ = some (.int .i64 t473) ∧ w'.cell? ⟨gb481, 1, none⟩ = some (.int .i64 t474) ∧ w'.cell? ⟨gb481, 2, none⟩ = some (.slice Ao49 t475.length co49) ∧ w'.cell? ad496 = some (.string (rdOf ByteArray.empty t478 0)) ∧ w'.cell? (ad497.add (x7_1).toNat) = some (.string (rdOf ByteArray.empty t452 x7_1)) ∧ w'.cell? ad496 = some (.string (rdOf ByteArray.empty t478 0))) (ds := []) b0_34 kr rfl rfl ⟨(blk_cell BK481.out 0).trans rfl, (blk_cell BK481.out 1).trans rfl, (blk_cell BK481.out 2).trans rfl, hx496_0, hx497_0, hx498_0⟩ (fun hHeld => ?_); refine with_tabW laws_FnOnce.tab16 laws_FnOnce.bits16 (fun HT_ HW_ => ?_)
       generalize w69.drew = w70 at HO_4 HO_6 HO_446002 HO_456002 HO477 HO480 HO490 HO493 BK445 BK455 BK466 BK481 BK494 HB hx496_0 hx497_0 hx498_0 hHeld ⊢
       refine tV 0 79 (bt 1 34) ?_
       refine one_ (i := 1) (N := some 80) b2_34 rfl rfl (one_of HT_.out kr) (by decide) (fun K hK => ?_)
       refine goes_ Tryd.func22 kr rfl #[.agg #[.int .i64 t473, .int .i64 t474, .slice Ao49 t475.length co49]] (by rfl) rfl rfl q1 ?_
       with_reducible refine (impl_SessionsOk.calls k1 t473 t474 _ _ t475 true _ ?side1 ?side2 A61.out).mono ?_
       (case side1 => exact u13_19)
       (case side2 => exact (Kd.R_reads' HO477.out).2.1)
       rintro e w71 ⟨rfl, hb⟩
       have HS3_ := (hb.cell (World.block_lt_of_cell? _ _ (hHeld.2.2.2.1))).trans (hHeld.2.2.2.1)
       have HS4_ := (hb.cell (World.block_lt_of_cell? _ _ (hHeld.2.2.2.2.1))).trans (hHeld.2.2.2.2.1)
       have HS5_ := (hb.cell (World.block_lt_of_cell? _ _ (hHeld.2.2.2.2.2))).trans (hHeld.2.2.2.2.2)
       refine ⟨_, rfl, ?_⟩
       replace HO_4 := am (Kd.R_below u13_8 hb)
       replace HO_6 := am (Kd.R_below q10 hb)
       replace HO_446002 := am (Kd.R_below u13_4 hb)
       replace HO_456002 := am (Kd.R_below u13_5 hb)
       replace HO477 := am (Kd.R_below u13_13 hb)
       replace HO480 := am (Kd.R_below u13_14 hb)
       replace HO490 := am (Kd.R_below u13_17 hb)
       replace HO493 := am (Kd.R_below u13_18 hb)
       replace BK445 := am (blk_below (g := gb445) (o := .cells #[.int .i64 x446000_1, .int .i64 x446001_1, .slice Ao40 x446002_1.length co40] 30 (0, 0)) u13_1 hb)
       replace BK455 := am (blk_below (g := gb455) (o := .cells #[.int .i64 t447, .int .i64 t448, .slice Ao20 t449.length co20] 30 (0, 0)) u13_2 hb)
       replace BK466 := am (blk_below (g := gb466) (o := .cells #[.int .i64 ((rd_T50 t442 x7_1).f0), .int .i64 ((rd_T50 t442 x7_1).f1), .string ((rd_T50 t442 x7_1).f2)] 50 (0, 0)) u13_3 hb)
       replace BK481 := am (blk_below (g := gb481) (o := .cells #[.int .i64 t473, .int .i64 t474, .slice Ao49 t475.length co49] 30 (0, 0)) u13_6 hb)
       replace BK494 := am (blk_below (g := gb494) (o := .cells #[.int .i64 t486, .int .i64 t487, .slice Ao59 t488.length co59] 30 (0, 0)) u13_10 hb)
       replace HB := am (below_step q0 hb)
       (try clear hb)
       (try clear hb2)
       (try clear hk)
       (try clear hi)
       obtain ⟨Ao72, co72, eo72⟩ := Kd.R_slice HO480.out
       (first | subst eo72 | (injection eo72 with f1_ f2_ f3_; have f4_ := f1_.symm; have f5_ := f3_.symm; clear f1_ f2_ f3_; subst f4_; subst f5_))
       obtain ⟨Ao73, co73, eo73⟩ := Kd.R_slice HO493.out
       (first | subst eo73 | (injection eo73 with f1_ f2_ f3_; have f4_ := f1_.symm; have f5_ := f3_.symm; clear f1_ f2_ f3_; subst f4_; subst f5_))
       refine hK.out _ _ ⟨(blk_cell BK481.out 0).trans rfl, (blk_cell BK481.out 1).trans rfl, (blk_cell BK481.out 2).trans rfl, HS3_, HS4_, HS5_⟩ (fun hHeld => ?_)
       clear hK K
       refine norm_ (a' := ?_) ?_ ?_
       rotate_left
       · show Act.put _ (some 80) _ = _
         simp only [Act.put, la, lb, lc, i64_w, i32_w]
         rfl
       refine pV 2 81 (bt 3 34) ?_
       refine pV 3 82 (bt 4 34) ?_
       refine pV 4 83 (bt 5 34) ?_
       refine pV 5 84 (bt 6 34) ?_
       refine pV 6 85 (bt 7 34) ?_
       refine pV 7 86 (bt 8 34) ?_
       refine pV 8 87 (bt 9 34) ?_
       refine pV 9 88 (bt 10 34) ?_
       refine pV 10 89 (bt 11 34) ?_
       refine pV 11 90 (bt 12 34) ?_
       refine pV 12 91 (bt 13 34) ?_
       refine pV 13 92 (bt 14 34) ?_
       refine pV 14 93 (bt 15 34) ?_
       refine pV 15 94 (bt 16 34) ?_
       refine pV 17 96 bx44 ?_
       refine pV 18 97 bx45 ?_
       refine pV 19 98 bx46 ?_
       refine tV 16 95 (bt 20 34) ?_
       refine tV 20 99 (bt 21 34) ?_
       refine pV 21 100 (bt 22 34) ?_
       refine pV 22 101 (bt 23 34) ?_
       refine pV 23 102 (bt 24 34) ?_
       refine pV 24 103 (bt 25 34) ?_
       refine pV 25 104 (bt 26 34) ?_
       refine pV 26 105 (bt 27 34) ?_
       refine pV 27 106 (bt 28 34) ?_
       refine pV 28 107 (bt 29 34) ?_
       refine pV 30 109 #[true, true, true, true, true, true, true, true, true, true, true, true, true, true, true, true, true, true, true, true, true, true, true, true, true, true, true, true, true, false, true, false, false, false] ?_
       refine tV 29 108 (bt 31 34) ?_
       refine pV 31 110 (bt 32 34) ?_
       refine pV 32 111 (bt 33 34) ?_
       refine pV 33 112 (bt 34 34) ?_
       refine done_ (done_of HT_.out kr) ?_
       try go_wp2
       go_meet
       case rel => exact ⟨_, (((rdOf ByteArray.empty t478 0).toList != t468.toList)), q4, H', ⟨u13_41⟩, ⟨u13_8⟩, ⟨q10⟩, ⟨u13_14⟩, ⟨u13_18⟩, ⟨u13_4⟩, ⟨u13_5⟩, ⟨u13_13⟩, ⟨u13_17⟩, ⟨u13_1⟩, ⟨u13_2⟩, ⟨u13_3⟩, ⟨u13_6⟩, ⟨u13_10⟩, ⟨q0⟩⟩
   clear HC33
   try clear c6
   try clear c22
   obtain ⟨kq, x112_32, rfl, HA, HJ32, HO_4, HO_6, HO_12, HO_14, HO_446002, HO_456002, HO_482002, HO_495002, BK445, BK455, BK466, BK481, BK494, HB⟩ := hcut
   cases kq with
   | zero => exact absurd HA.out (by simp [laws_FnOnce.j1])
   | succ kj32 =>
     have H := HA.out
     clear HA
     simp only [laws_FnOnce.j1] at H
     by_cases c96 : x112_32 = true
     · subst c96
       rw [if_pos rfl] at H
       exact absurd ((Option.some.inj H).trans hr_.out) (by decide)
     replace c96 := Bool.eq_false_iff.mpr c96
     subst c96
     rw [nf] at H
     have HC97 := am H
     clear H
     go_upto_region 18 with (fail)
     go_cut [143] (fun v143 wc => ∃ (kq : Nat) (x143_96 : Bool), v143 = .bool x143_96 ∧ Aside0 (laws_FnOnce.j2 kq t442 t452 x7_1 t467 t478 x143_96 t447 t448 t449 ((rd_T50 t442 x7_1).f0) ((rd_T50 t442 x7_1).f1) ((rd_T50 t442 x7_1).f2) t473 t474 t475 = some r) ∧ Aside0 (kq ≤ kj32) ∧ Aside0 (Kd.R k50 50 wc w.heap.size (fun k_ => k_ ≠ gb466) (.slice (some ad465) t442.length co15) t442) ∧ Aside0 (Kd.R Kd.string 9 wc w.heap.size (fun k_ => some k_ ≠ (v479 : Value).ownBlock) (.slice Ao21 t452.length co21) t452) ∧ Aside0 (Kd.R Kd.string 9 wc w.heap.size (fun k_ => some k_ ≠ ((.slice Ao21 t452.length co21) : Value).ownBlock) v479 t478) ∧ Aside0 (Kd.R k54 54 wc w.heap.size (fun k_ => some k_ ≠ ((.slice Ao20 t449.length co20) : Value).ownBlock ∧ some k_ ≠ ((.slice Ao49 t475.length co49) : Value).ownBlock ∧ some k_ ≠ ((.slice Ao59 t488.length co59) : Value).ownBlock) (.slice Ao40 x446002_1.length co40) x446002_1) ∧ Aside0 (Kd.R k54 54 wc w.heap.size (fun k_ => some k_ ≠ ((.slice Ao40 x446002_1.length co40) : Value).ownBlock ∧ some k_ ≠ ((.slice Ao49 t475.length co49) : Value).ownBlock ∧ some k_ ≠ ((.slice Ao59 t488.length co59) : Value).ownBlock) (.slice Ao20 t449.length co20) t449) ∧ Aside0 (Kd.R k54 54 wc w.heap.size (fun k_ => some k_ ≠ ((.slice Ao40 x446002_1.length co40) : Value).ownBlock ∧ some k_ ≠ ((.slice Ao20 t449.length co20) : Value).ownBlock ∧ some k_ ≠ ((.slice Ao59 t488.length co59) : Value).ownBlock) (.slice Ao49 t475.length co49) t475) ∧ Aside0 (Kd.R k54 54 wc w.heap.size (fun k_ => some k_ ≠ ((.slice Ao40 x446002_1.length co40) : Value).ownBlock ∧ some k_ ≠ ((.slice Ao20 t449.length co20) : Value).ownBlock ∧ some k_ ≠ ((.slice Ao49 t475.length co49) : Value).ownBlock) (.slice Ao59 t488.length co59) t488) ∧ Aside0 (wc.heap[gb445]? = some (.cells #[.int .i64 x446000_1, .int .i64 x446001_1, (.slice Ao40 x446002_1.length co40)] 30 (0, 0))) ∧ Aside0 (wc.heap[gb455]? = some (.cells #[.int .i64 t447, .int .i64 t448, (.slice Ao20 t449.length co20)] 30 (0, 0))) ∧ Aside0 (wc.heap[gb466]? = some (.cells #[.int .i64 ((rd_T50 t442 x7_1).f0), .int .i64 ((rd_T50 t442 x7_1).f1), .string ((rd_T50 t442 x7_1).f2)] 50 (0, 0))) ∧ Aside0 (wc.heap[gb481]? = some (.cells #[.int .i64 t473, .int .i64 t474, (.slice Ao49 t475.length co49)] 30 (0, 0))) ∧ Aside0 (wc.heap[gb494]? = some (.cells #[.int .i64 t486, .int .i64 t487, (.slice Ao59 t488.length co59)] 30 (0, 0))) ∧ Aside0 (Below w.heap.size w wc))
     case first =>
       have H := HC97.out
       clear HC97
       by_cases c98 : t467 = 0
       · rw [if_pos c98] at H
         have c98b0 : (t467 == 0) = true := beq_iff_eq.mpr c98
         have c98b1 : (t467 != 0) = false := bne_eq_false_iff_eq.mpr c98
         clear c98
         (first | rw [c98b0] | (simp only [i64_w, i32_w]; rw [c98b0]) | skip)
         by_cases c99 : 0 < (t478.length : Int)
         rotate_left
         · rw [if_neg c99] at H
           exact absurd H (by simp)
         rw [if_pos c99] at H
         have c99b0 : decide (0 < (t478.length : Int)) = true := decide_eq_true c99
         have c99b1 : decide (0 < t478.length) = true := decide_eq_true (by omega)
         clear c99
         by_cases c100 : 0 < (t491.length : Int)
         rotate_left
         · rw [if_neg c100] at H
           exact absurd H (by simp)
         rw [if_pos c100] at H
         have c100b0 : decide (0 < (t491.length : Int)) = true := decide_eq_true c100
         have c100b1 : decide (0 < t491.length) = true := decide_eq_true (by omega)
         clear c100
         by_cases c101 : (rdOf ByteArray.empty t478 0).toList = (rdOf ByteArray.empty t491 0).toList
         rotate_left
         · rw [if_neg c101] at H
           have c101b0 : ((rdOf ByteArray.empty t478 0).toList == (rdOf ByteArray.empty t491 0).toList) = false := beq_eq_false_iff_ne.mpr c101
           have c101b1 : ((rdOf ByteArray.empty t478 0).toList != (rdOf ByteArray.empty t491 0).toList) = true := bne_iff_ne.mpr c101
           have H' := am H
           clear H
           try go_wp2
           replace HO_4 := am (Kd.R_drew HO_4.out)
           replace HO_6 := am (Kd.R_drew HO_6.out)
           replace HO_12 := am (Kd.R_drew HO_12.out)
           replace HO_14 := am (Kd.R_drew HO_14.out)
           replace HO_446002 := am (Kd.R_drew HO_446002.out)
           replace HO_456002 := am (Kd.R_drew HO_456002.out)
           replace HO_482002 := am (Kd.R_drew HO_482002.out)
           replace HO_495002 := am (Kd.R_drew HO_495002.out)
           replace BK445 := am (blk_drew BK445.out)
           replace BK455 := am (blk_drew BK455.out)
           replace BK466 := am (blk_drew BK466.out)
           replace BK481 := am (blk_drew BK481.out)
           replace BK494 := am (blk_drew BK494.out)
           replace HB := am (below_drew1 HB.out)
           obtain ⟨Ao110, co110, eo110⟩ := Kd.R_slice HO_12.out
           (first | subst eo110 | (injection eo110 with f1_ f2_ f3_; have f4_ := f1_.symm; have f5_ := f3_.symm; clear f1_ f2_ f3_; subst f4_; subst f5_))
           have p499 : 0 ≤ (0 : Int) := (by omega)
           have q499 : 0 < (t478.length : Int) := of_decide_eq_true q3
           obtain ⟨ad499, e499, hx499_0⟩ := Kd.at_string (Kd.R_reads' HO_12.out).2.2 0 p499 q499
           cases e499
           have qi499 : (0 < t478.length) = True := eq_true (by omega)
           (try rw [show ((0 : Int)).toNat = 0 from rfl] at hx499_0)
           (try rw [Addr.add_zero'] at hx499_0)
           replace p499 := eq_true p499
           replace q499 := eq_true q499
           obtain ⟨Ao111, co111, eo111⟩ := Kd.R_slice HO_14.out
           (first | subst eo111 | (injection eo111 with f1_ f2_ f3_; have f4_ := f1_.symm; have f5_ := f3_.symm; clear f1_ f2_ f3_; subst f4_; subst f5_))
           have p500 : 0 ≤ (0 : Int) := (by omega)
           have q500 : 0 < (t491.length : Int) := of_decide_eq_true q3
           obtain ⟨ad500, e500, hx500_0⟩ := Kd.at_string (Kd.R_reads' HO_14.out).2.2 0 p500 q500
           cases e500
           have qi500 : (0 < t491.length) = True := eq_true (by omega)
           (try rw [show ((0 : Int)).toNat = 0 from rfl] at hx500_0)
           (try rw [Addr.add_zero'] at hx500_0)
           replace p500 := eq_true p500
           replace q500 := eq_true q500
           refine start_ (n := 31) (S := fun w' => w'.cell? ad499 = some (.string (rdOf ByteArray.empty t478 0)) ∧ w'.cell? ad500 = some (.string (rdOf ByteArray.empty t491 0))) (ds := []) b0_31 kr rfl rfl ⟨hx499_0, hx500_0⟩ (fun hHeld => ?_); refine with_tabW laws_FnOnce.tab18 laws_FnOnce.bits18 (fun HT_ HW_ => ?_)
           generalize wc.drew = w109 at HO_4 HO_6 HO_12 HO_14 HO_446002 HO_456002 HO_482002 HO_495002 BK445 BK455 BK466 BK481 BK494 HB hx499_0 hx500_0 hHeld ⊢
           refine pV 0 113 (bt 1 31) ?_
           refine pV 1 114 (bt 2 31) ?_
           refine pV 2 115 (bt 3 31) ?_
           refine pU 3 116 (bt 4 31) ?_
           refine pU 4 117 (bt 5 31) ?_
           refine pV 5 118 (bt 6 31) ?_
           refine pV 6 119 (bt 7 31) ?_
           refine pV 7 120 (bt 8 31) ?_
           refine pV 8 121 (bt 9 31) ?_
           refine pV 10 123 bx57 ?_
           refine pV 11 124 bx58 ?_
           refine tV 9 122 (bt 12 31) ?_
           refine tV 12 125 (bt 13 31) ?_
           refine pV 13 126 (bt 14 31) ?_
           refine pV 14 127 (bt 15 31) ?_
           refine pU 15 128 (bt 16 31) ?_
           refine pU 16 129 (bt 17 31) ?_
           refine pU 17 130 (bt 18 31) ?_
           refine pU 18 131 (bt 19 31) ?_
           refine pU 19 132 (bt 20 31) ?_
           refine pU 20 133 (bt 21 31) ?_
           refine pU 21 134 (bt 22 31) ?_
           refine pV 22 135 (bt 23 31) ?_
           refine pV 23 136 (bt 24 31) ?_
           refine pU 24 137 (bt 25 31) ?_
           refine pU 25 138 (bt 26 31) ?_
           refine pU 26 139 (bt 27 31) ?_
           refine pU 27 140 (bt 28 31) ?_
           refine pU 28 141 (bt 29 31) ?_
           refine pV 29 142 (bt 30 31) ?_
           refine pV 30 143 (bt 31 31) ?_
           refine done_ (done_of HT_.out kr) ?_
           try go_wp2
           go_meet
           case rel => exact ⟨_, (true), q4, H', ⟨u13_32⟩, ⟨u13_8⟩, ⟨u13_25⟩, ⟨u13_23⟩, ⟨u13_4⟩, ⟨u13_5⟩, ⟨u13_27⟩, ⟨u13_28⟩, ⟨u13_1⟩, ⟨u13_2⟩, ⟨u13_3⟩, ⟨u13_6⟩, ⟨u13_10⟩, ⟨q0⟩⟩
         rw [if_pos c101] at H
         have c101b0 : ((rdOf ByteArray.empty t478 0).toList == (rdOf ByteArray.empty t491 0).toList) = true := beq_iff_eq.mpr c101
         have c101b1 : ((rdOf ByteArray.empty t478 0).toList != (rdOf ByteArray.empty t491 0).toList) = false := bne_eq_false_iff_eq.mpr c101
         clear c101
         by_cases c102 : (t488.length : Int) = (t475.length : Int)
         rotate_left
         · rw [if_neg c102] at H
           have c102b0 : ((t488.length : Int) == (t475.length : Int)) = false := beq_eq_false_iff_ne.mpr c102
           have c102b1 : ((t488.length : Int) != (t475.length : Int)) = true := bne_iff_ne.mpr c102
           have c102b2 : (t488.length == t475.length) = false := by first | simpa using c102 | (simp at c102 ⊢; omega)
           have H' := am H
           clear H
           try go_wp2
           replace HO_4 := am (Kd.R_drew HO_4.out)
           replace HO_6 := am (Kd.R_drew HO_6.out)
           replace HO_12 := am (Kd.R_drew HO_12.out)
           replace HO_14 := am (Kd.R_drew HO_14.out)
           replace HO_446002 := am (Kd.R_drew HO_446002.out)
           replace HO_456002 := am (Kd.R_drew HO_456002.out)
           replace HO_482002 := am (Kd.R_drew HO_482002.out)
           replace HO_495002 := am (Kd.R_drew HO_495002.out)
           replace BK445 := am (blk_drew BK445.out)
           replace BK455 := am (blk_drew BK455.out)
           replace BK466 := am (blk_drew BK466.out)
           replace BK481 := am (blk_drew BK481.out)
           replace BK494 := am (blk_drew BK494.out)
           replace HB := am (below_drew1 HB.out)
           obtain ⟨Ao107, co107, eo107⟩ := Kd.R_slice HO_12.out
           (first | subst eo107 | (injection eo107 with f1_ f2_ f3_; have f4_ := f1_.symm; have f5_ := f3_.symm; clear f1_ f2_ f3_; subst f4_; subst f5_))
           have p499 : 0 ≤ (0 : Int) := (by omega)
           have q499 : 0 < (t478.length : Int) := of_decide_eq_true q3
           obtain ⟨ad499, e499, hx499_0⟩ := Kd.at_string (Kd.R_reads' HO_12.out).2.2 0 p499 q499
           cases e499
           have qi499 : (0 < t478.length) = True := eq_true (by omega)
           (try rw [show ((0 : Int)).toNat = 0 from rfl] at hx499_0)
           (try rw [Addr.add_zero'] at hx499_0)
           replace p499 := eq_true p499
           replace q499 := eq_true q499
           obtain ⟨Ao108, co108, eo108⟩ := Kd.R_slice HO_14.out
           (first | subst eo108 | (injection eo108 with f1_ f2_ f3_; have f4_ := f1_.symm; have f5_ := f3_.symm; clear f1_ f2_ f3_; subst f4_; subst f5_))
           have p500 : 0 ≤ (0 : Int) := (by omega)
           have q500 : 0 < (t491.length : Int) := of_decide_eq_true q3
           obtain ⟨ad500, e500, hx500_0⟩ := Kd.at_string (Kd.R_reads' HO_14.out).2.2 0 p500 q500
           cases e500
           have qi500 : (0 < t491.length) = True := eq_true (by omega)
           (try rw [show ((0 : Int)).toNat = 0 from rfl] at hx500_0)
           (try rw [Addr.add_zero'] at hx500_0)
           replace p500 := eq_true p500
           replace q500 := eq_true q500
           refine start_ (n := 31) (S := fun w' => w'.cell? ⟨gb494, 0, none⟩ = some (.int .i64 t486) ∧ w'.cell? ⟨gb494, 1, none⟩ = some (.int .i64 t487) ∧ w'.cell? ⟨gb494, 2, none⟩ = some (.slice Ao59 t488.length co59) ∧ w'.cell? ⟨gb481, 0, none⟩ = some (.int .i64 t473) ∧ w'.cell? ⟨gb481, 1, none⟩ = some (.int .i64 t474) ∧ w'.cell? ⟨gb481, 2, none⟩ = some (.slice Ao49 t475.length co49) ∧ w'.cell? ad499 = some (.string (rdOf ByteArray.empty t478 0)) ∧ w'.cell? ad500 = some (.string (rdOf ByteArray.empty t491 0))) (ds := []) b0_31 kr rfl rfl ⟨(blk_cell BK494.out 0).trans rfl, (blk_cell BK494.out 1).trans rfl, (blk_cell BK494.out 2).trans rfl, (blk_cell BK481.out 0).trans rfl, (blk_cell BK481.out 1).trans rfl, (blk_cell BK481.out 2).trans rfl, hx499_0, hx500_0⟩ (fun hHeld => ?_); refine with_tabW laws_FnOnce.tab18 laws_FnOnce.bits18 (fun HT_ HW_ => ?_)
           generalize wc.drew = w106 at HO_4 HO_6 HO_12 HO_14 HO_446002 HO_456002 HO_482002 HO_495002 BK445 BK455 BK466 BK481 BK494 HB hx499_0 hx500_0 hHeld ⊢
           refine pV 0 113 (bt 1 31) ?_
           refine pV 1 114 (bt 2 31) ?_
           refine pV 2 115 (bt 3 31) ?_
           refine pU 3 116 (bt 4 31) ?_
           refine pU 4 117 (bt 5 31) ?_
           refine pV 5 118 (bt 6 31) ?_
           refine pV 6 119 (bt 7 31) ?_
           refine pV 7 120 (bt 8 31) ?_
           refine pV 8 121 (bt 9 31) ?_
           refine pV 10 123 bx57 ?_
           refine pV 11 124 bx58 ?_
           refine tV 9 122 (bt 12 31) ?_
           refine tV 12 125 (bt 13 31) ?_
           refine pV 13 126 (bt 14 31) ?_
           refine pV 14 127 (bt 15 31) ?_
           refine pV 15 128 (bt 16 31) ?_
           refine pV 18 131 bx79 ?_
           refine tV 16 129 bx80 ?_
           refine pV 17 130 (bt 19 31) ?_
           refine tV 19 132 (bt 20 31) ?_
           refine pV 20 133 (bt 21 31) ?_
           refine pV 21 134 (bt 22 31) ?_
           refine pV 22 135 (bt 23 31) ?_
           refine pV 23 136 (bt 24 31) ?_
           refine pU 24 137 (bt 25 31) ?_
           refine pU 25 138 (bt 26 31) ?_
           refine pU 26 139 (bt 27 31) ?_
           refine pU 27 140 (bt 28 31) ?_
           refine pU 28 141 (bt 29 31) ?_
           refine pV 29 142 (bt 30 31) ?_
           refine pV 30 143 (bt 31 31) ?_
           refine done_ (done_of HT_.out kr) ?_
           try go_wp2
           go_meet
           case rel => exact ⟨_, (true), q4, H', ⟨u13_32⟩, ⟨u13_8⟩, ⟨u13_25⟩, ⟨u13_23⟩, ⟨u13_4⟩, ⟨u13_5⟩, ⟨u13_27⟩, ⟨u13_28⟩, ⟨u13_1⟩, ⟨u13_2⟩, ⟨u13_3⟩, ⟨u13_6⟩, ⟨u13_10⟩, ⟨q0⟩⟩
         rw [if_pos c102] at H
         have c102b0 : ((t488.length : Int) == (t475.length : Int)) = true := beq_iff_eq.mpr c102
         have c102b1 : ((t488.length : Int) != (t475.length : Int)) = false := bne_eq_false_iff_eq.mpr c102
         have c102b2 : (t488.length == t475.length) = true := by first | simpa using c102 | (simp at c102 ⊢; omega)
         clear c102
         have H' := am H
         clear H
         try go_wp2
         replace HO_4 := am (Kd.R_drew HO_4.out)
         replace HO_6 := am (Kd.R_drew HO_6.out)
         replace HO_12 := am (Kd.R_drew HO_12.out)
         replace HO_14 := am (Kd.R_drew HO_14.out)
         replace HO_446002 := am (Kd.R_drew HO_446002.out)
         replace HO_456002 := am (Kd.R_drew HO_456002.out)
         replace HO_482002 := am (Kd.R_drew HO_482002.out)
         replace HO_495002 := am (Kd.R_drew HO_495002.out)
         replace BK445 := am (blk_drew BK445.out)
         replace BK455 := am (blk_drew BK455.out)
         replace BK466 := am (blk_drew BK466.out)
         replace BK481 := am (blk_drew BK481.out)
         replace BK494 := am (blk_drew BK494.out)
         replace HB := am (below_drew1 HB.out)
         obtain ⟨Ao104, co104, eo104⟩ := Kd.R_slice HO_12.out
         (first | subst eo104 | (injection eo104 with f1_ f2_ f3_; have f4_ := f1_.symm; have f5_ := f3_.symm; clear f1_ f2_ f3_; subst f4_; subst f5_))
         have p499 : 0 ≤ (0 : Int) := (by omega)
         have q499 : 0 < (t478.length : Int) := of_decide_eq_true q3
         obtain ⟨ad499, e499, hx499_0⟩ := Kd.at_string (Kd.R_reads' HO_12.out).2.2 0 p499 q499
         cases e499
         have qi499 : (0 < t478.length) = True := eq_true (by omega)
         (try rw [show ((0 : Int)).toNat = 0 from rfl] at hx499_0)
         (try rw [Addr.add_zero'] at hx499_0)
         replace p499 := eq_true p499
         replace q499 := eq_true q499
         obtain ⟨Ao105, co105, eo105⟩ := Kd.R_slice HO_14.out
         (first | subst eo105 | (injection eo105 with f1_ f2_ f3_; have f4_ := f1_.symm; have f5_ := f3_.symm; clear f1_ f2_ f3_; subst f4_; subst f5_))
         have p500 : 0 ≤ (0 : Int) := (by omega)
         have q500 : 0 < (t491.length : Int) := of_decide_eq_true q3
         obtain ⟨ad500, e500, hx500_0⟩ := Kd.at_string (Kd.R_reads' HO_14.out).2.2 0 p500 q500
         cases e500
         have qi500 : (0 < t491.length) = True := eq_true (by omega)
         (try rw [show ((0 : Int)).toNat = 0 from rfl] at hx500_0)
         (try rw [Addr.add_zero'] at hx500_0)
         replace p500 := eq_true p500
         replace q500 := eq_true q500
         refine start_ (n := 31) (S := fun w' => w'.cell? ⟨gb494, 0, none⟩ = some (.int .i64 t486) ∧ w'.cell? ⟨gb494, 1, none⟩ = some (.int .i64 t487) ∧ w'.cell? ⟨gb494, 2, none⟩ = some (.slice Ao59 t488.length co59) ∧ w'.cell? ⟨gb481, 0, none⟩ = some (.int .i64 t473) ∧ w'.cell? ⟨gb481, 1, none⟩ = some (.int .i64 t474) ∧ w'.cell? ⟨gb481, 2, none⟩ = some (.slice Ao49 t475.length co49) ∧ w'.cell? ad499 = some (.string (rdOf ByteArray.empty t478 0)) ∧ w'.cell? ad500 = some (.string (rdOf ByteArray.empty t491 0))) (ds := []) b0_31 kr rfl rfl ⟨(blk_cell BK494.out 0).trans rfl, (blk_cell BK494.out 1).trans rfl, (blk_cell BK494.out 2).trans rfl, (blk_cell BK481.out 0).trans rfl, (blk_cell BK481.out 1).trans rfl, (blk_cell BK481.out 2).trans rfl, hx499_0, hx500_0⟩ (fun hHeld => ?_); refine with_tabW laws_FnOnce.tab18 laws_FnOnce.bits18 (fun HT_ HW_ => ?_)
         generalize wc.drew = w103 at HO_4 HO_6 HO_12 HO_14 HO_446002 HO_456002 HO_482002 HO_495002 BK445 BK455 BK466 BK481 BK494 HB hx499_0 hx500_0 hHeld ⊢
         refine pV 0 113 (bt 1 31) ?_
         refine pV 1 114 (bt 2 31) ?_
         refine pV 2 115 (bt 3 31) ?_
         refine pU 3 116 (bt 4 31) ?_
         refine pU 4 117 (bt 5 31) ?_
         refine pV 5 118 (bt 6 31) ?_
         refine pV 6 119 (bt 7 31) ?_
         refine pV 7 120 (bt 8 31) ?_
         refine pV 8 121 (bt 9 31) ?_
         refine pV 10 123 bx57 ?_
         refine pV 11 124 bx58 ?_
         refine tV 9 122 (bt 12 31) ?_
         refine tV 12 125 (bt 13 31) ?_
         refine pV 13 126 (bt 14 31) ?_
         refine pV 14 127 (bt 15 31) ?_
         refine pV 15 128 (bt 16 31) ?_
         refine pV 18 131 bx79 ?_
         refine tV 16 129 bx80 ?_
         refine pV 17 130 (bt 19 31) ?_
         refine tV 19 132 (bt 20 31) ?_
         refine pV 20 133 (bt 21 31) ?_
         refine pV 21 134 (bt 22 31) ?_
         refine pV 22 135 (bt 23 31) ?_
         refine pV 23 136 (bt 24 31) ?_
         refine pV 24 137 (bt 25 31) ?_
         refine pV 26 139 #[true, true, true, true, true, true, true, true, true, true, true, true, true, true, true, true, true, true, true, true, true, true, true, true, true, false, true, false, false, false, false] ?_
         refine tV 25 138 (bt 27 31) ?_
         refine tV 27 140 (bt 28 31) ?_
         refine pV 28 141 (bt 29 31) ?_
         refine pV 29 142 (bt 30 31) ?_
         refine pV 30 143 (bt 31 31) ?_
         refine done_ (done_of HT_.out kr) ?_
         try go_wp2
         go_meet
         case rel => exact ⟨_, ((t487 != t474)), q4, H', ⟨u13_32⟩, ⟨u13_8⟩, ⟨u13_25⟩, ⟨u13_23⟩, ⟨u13_4⟩, ⟨u13_5⟩, ⟨u13_27⟩, ⟨u13_28⟩, ⟨u13_1⟩, ⟨u13_2⟩, ⟨u13_3⟩, ⟨u13_6⟩, ⟨u13_10⟩, ⟨q0⟩⟩
       rw [if_neg c98] at H
       have c98b0 : (t467 == 0) = false := beq_eq_false_iff_ne.mpr c98
       have c98b1 : (t467 != 0) = true := bne_iff_ne.mpr c98
       (first | rw [c98b0] | (simp only [i64_w, i32_w]; rw [c98b0]) | skip)
       as_aux_lemma =>
        by_cases c112 : t467 = 1
        rotate_left
        · rw [if_neg c112] at H
          have c112b0 : (t467 == 1) = false := beq_eq_false_iff_ne.mpr c112
          have c112b1 : (t467 != 1) = true := bne_iff_ne.mpr c112
          have H' := am H
          clear H
          try go_wp2
          replace HO_4 := am (Kd.R_drew HO_4.out)
          replace HO_6 := am (Kd.R_drew HO_6.out)
          replace HO_12 := am (Kd.R_drew HO_12.out)
          replace HO_14 := am (Kd.R_drew HO_14.out)
          replace HO_446002 := am (Kd.R_drew HO_446002.out)
          replace HO_456002 := am (Kd.R_drew HO_456002.out)
          replace HO_482002 := am (Kd.R_drew HO_482002.out)
          replace HO_495002 := am (Kd.R_drew HO_495002.out)
          replace BK445 := am (blk_drew BK445.out)
          replace BK455 := am (blk_drew BK455.out)
          replace BK466 := am (blk_drew BK466.out)
          replace BK481 := am (blk_drew BK481.out)
          replace BK494 := am (blk_drew BK494.out)
          replace HB := am (below_drew1 HB.out)
          refine start_ (n := 31) (S := fun w' => True) (ds := []) b0_31 kr rfl rfl trivial (fun hHeld => ?_); refine with_tabW laws_FnOnce.tab18 laws_FnOnce.bits18 (fun HT_ HW_ => ?_)
          generalize wc.drew = w126 at HO_4 HO_6 HO_12 HO_14 HO_446002 HO_456002 HO_482002 HO_495002 BK445 BK455 BK466 BK481 BK494 HB hHeld ⊢
          refine pV 0 113 (bt 1 31) ?_
          refine pV 1 114 (bt 2 31) ?_
          refine pV 2 115 (bt 3 31) ?_
          refine pV 3 116 (bt 4 31) ?_
          refine pV 4 117 (bt 5 31) ?_
          refine pV 5 118 (bt 6 31) ?_
          refine pV 6 119 (bt 7 31) ?_
          refine pU 7 120 (bt 8 31) ?_
          refine pU 8 121 (bt 9 31) ?_
          refine pU 9 122 (bt 10 31) ?_
          refine pU 10 123 (bt 11 31) ?_
          refine pU 11 124 (bt 12 31) ?_
          refine pU 12 125 (bt 13 31) ?_
          refine pU 13 126 (bt 14 31) ?_
          refine pU 14 127 (bt 15 31) ?_
          refine pU 15 128 (bt 16 31) ?_
          refine pU 16 129 (bt 17 31) ?_
          refine pU 17 130 (bt 18 31) ?_
          refine pU 18 131 (bt 19 31) ?_
          refine pU 19 132 (bt 20 31) ?_
          refine pU 20 133 (bt 21 31) ?_
          refine pU 21 134 (bt 22 31) ?_
          refine pU 22 135 (bt 23 31) ?_
          refine pU 23 136 (bt 24 31) ?_
          refine pU 24 137 (bt 25 31) ?_
          refine pU 25 138 (bt 26 31) ?_
          refine pU 26 139 (bt 27 31) ?_
          refine pU 27 140 (bt 28 31) ?_
          refine pU 28 141 (bt 29 31) ?_
          refine pU 29 142 (bt 30 31) ?_
          refine pV 30 143 (bt 31 31) ?_
          refine done_ (done_of HT_.out kr) ?_
          try go_wp2
          go_meet
          case rel => exact ⟨_, (false), q4, H', ⟨u13_32⟩, ⟨u13_8⟩, ⟨u13_25⟩, ⟨u13_23⟩, ⟨u13_4⟩, ⟨u13_5⟩, ⟨u13_27⟩, ⟨u13_28⟩, ⟨u13_1⟩, ⟨u13_2⟩, ⟨u13_3⟩, ⟨u13_6⟩, ⟨u13_10⟩, ⟨q0⟩⟩
        rw [if_pos c112] at H
        have c112b0 : (t467 == 1) = true := beq_iff_eq.mpr c112
        have c112b1 : (t467 != 1) = false := bne_eq_false_iff_eq.mpr c112
        clear c112
        by_cases c113 : 0 < (t478.length : Int)
        rotate_left
        · rw [if_neg c113] at H
          exact absurd H (by simp)
        rw [if_pos c113] at H
        have c113b0 : decide (0 < (t478.length : Int)) = true := decide_eq_true c113
        have c113b1 : decide (0 < t478.length) = true := decide_eq_true (by omega)
        clear c113
        by_cases c114 : 0 < (t491.length : Int)
        rotate_left
        · rw [if_neg c114] at H
          exact absurd H (by simp)
        rw [if_pos c114] at H
        have c114b0 : decide (0 < (t491.length : Int)) = true := decide_eq_true c114
        have c114b1 : decide (0 < t491.length) = true := decide_eq_true (by omega)
        clear c114
        by_cases c115 : (rdOf ByteArray.empty t478 0).toList = (rdOf ByteArray.empty t491 0).toList
        rotate_left
        · rw [if_neg c115] at H
          have c115b0 : ((rdOf ByteArray.empty t478 0).toList == (rdOf ByteArray.empty t491 0).toList) = false := beq_eq_false_iff_ne.mpr c115
          have c115b1 : ((rdOf ByteArray.empty t478 0).toList != (rdOf ByteArray.empty t491 0).toList) = true := bne_iff_ne.mpr c115
          have H' := am H
          clear H
          try go_wp2
          replace HO_4 := am (Kd.R_drew HO_4.out)
          replace HO_6 := am (Kd.R_drew HO_6.out)
          replace HO_12 := am (Kd.R_drew HO_12.out)
          replace HO_14 := am (Kd.R_drew HO_14.out)
          replace HO_446002 := am (Kd.R_drew HO_446002.out)
          replace HO_456002 := am (Kd.R_drew HO_456002.out)
          replace HO_482002 := am (Kd.R_drew HO_482002.out)
          replace HO_495002 := am (Kd.R_drew HO_495002.out)
          replace BK445 := am (blk_drew BK445.out)
          replace BK455 := am (blk_drew BK455.out)
          replace BK466 := am (blk_drew BK466.out)
          replace BK481 := am (blk_drew BK481.out)
          replace BK494 := am (blk_drew BK494.out)
          replace HB := am (below_drew1 HB.out)
          obtain ⟨Ao124, co124, eo124⟩ := Kd.R_slice HO_12.out
          (first | subst eo124 | (injection eo124 with f1_ f2_ f3_; have f4_ := f1_.symm; have f5_ := f3_.symm; clear f1_ f2_ f3_; subst f4_; subst f5_))
          have p501 : 0 ≤ (0 : Int) := (by omega)
          have q501 : 0 < (t478.length : Int) := of_decide_eq_true q3
          obtain ⟨ad501, e501, hx501_0⟩ := Kd.at_string (Kd.R_reads' HO_12.out).2.2 0 p501 q501
          cases e501
          have qi501 : (0 < t478.length) = True := eq_true (by omega)
          (try rw [show ((0 : Int)).toNat = 0 from rfl] at hx501_0)
          (try rw [Addr.add_zero'] at hx501_0)
          replace p501 := eq_true p501
          replace q501 := eq_true q501
          obtain ⟨Ao125, co125, eo125⟩ := Kd.R_slice HO_14.out
          (first | subst eo125 | (injection eo125 with f1_ f2_ f3_; have f4_ := f1_.symm; have f5_ := f3_.symm; clear f1_ f2_ f3_; subst f4_; subst f5_))
          have p502 : 0 ≤ (0 : Int) := (by omega)
          have q502 : 0 < (t491.length : Int) := of_decide_eq_true q3
          obtain ⟨ad502, e502, hx502_0⟩ := Kd.at_string (Kd.R_reads' HO_14.out).2.2 0 p502 q502
          cases e502
          have qi502 : (0 < t491.length) = True := eq_true (by omega)
          (try rw [show ((0 : Int)).toNat = 0 from rfl] at hx502_0)
          (try rw [Addr.add_zero'] at hx502_0)
          replace p502 := eq_true p502
          replace q502 := eq_true q502
          refine start_ (n := 31) (S := fun w' => w'.cell? ad501 = some (.string (rdOf ByteArray.empty t478 0)) ∧ w'.cell? ad502 = some (.string (rdOf ByteArray.empty t491 0))) (ds := []) b0_31 kr rfl rfl ⟨hx501_0, hx502_0⟩ (fun hHeld => ?_); refine with_tabW laws_FnOnce.tab18 laws_FnOnce.bits18 (fun HT_ HW_ => ?_)
          generalize wc.drew = w123 at HO_4 HO_6 HO_12 HO_14 HO_446002 HO_456002 HO_482002 HO_495002 BK445 BK455 BK466 BK481 BK494 HB hx501_0 hx502_0 hHeld ⊢
          refine pV 0 113 (bt 1 31) ?_
          refine pV 1 114 (bt 2 31) ?_
          refine pV 2 115 (bt 3 31) ?_
          refine pV 3 116 (bt 4 31) ?_
          refine pV 4 117 (bt 5 31) ?_
          refine pV 5 118 (bt 6 31) ?_
          refine pV 6 119 (bt 7 31) ?_
          refine pV 7 120 (bt 8 31) ?_
          refine pV 8 121 (bt 9 31) ?_
          refine pV 10 123 bx57 ?_
          refine pV 11 124 bx58 ?_
          refine tV 9 122 (bt 12 31) ?_
          refine tV 12 125 (bt 13 31) ?_
          refine pV 13 126 (bt 14 31) ?_
          refine pV 14 127 (bt 15 31) ?_
          refine pU 15 128 (bt 16 31) ?_
          refine pU 16 129 (bt 17 31) ?_
          refine pU 17 130 (bt 18 31) ?_
          refine pU 18 131 (bt 19 31) ?_
          refine pU 19 132 (bt 20 31) ?_
          refine pU 20 133 (bt 21 31) ?_
          refine pU 21 134 (bt 22 31) ?_
          refine pV 22 135 (bt 23 31) ?_
          refine pV 23 136 (bt 24 31) ?_
          refine pU 24 137 (bt 25 31) ?_
          refine pU 25 138 (bt 26 31) ?_
          refine pU 26 139 (bt 27 31) ?_
          refine pU 27 140 (bt 28 31) ?_
          refine pU 28 141 (bt 29 31) ?_
          refine pV 29 142 (bt 30 31) ?_
          refine pV 30 143 (bt 31 31) ?_
          refine done_ (done_of HT_.out kr) ?_
          try go_wp2
          go_meet
          case rel => exact ⟨_, (true), q4, H', ⟨u13_32⟩, ⟨u13_8⟩, ⟨u13_25⟩, ⟨u13_23⟩, ⟨u13_4⟩, ⟨u13_5⟩, ⟨u13_27⟩, ⟨u13_28⟩, ⟨u13_1⟩, ⟨u13_2⟩, ⟨u13_3⟩, ⟨u13_6⟩, ⟨u13_10⟩, ⟨q0⟩⟩
        rw [if_pos c115] at H
        have c115b0 : ((rdOf ByteArray.empty t478 0).toList == (rdOf ByteArray.empty t491 0).toList) = true := beq_iff_eq.mpr c115
        have c115b1 : ((rdOf ByteArray.empty t478 0).toList != (rdOf ByteArray.empty t491 0).toList) = false := bne_eq_false_iff_eq.mpr c115
        clear c115
        by_cases c116 : (t488.length : Int) = (t475.length : Int)
        rotate_left
        · rw [if_neg c116] at H
          have c116b0 : ((t488.length : Int) == (t475.length : Int)) = false := beq_eq_false_iff_ne.mpr c116
          have c116b1 : ((t488.length : Int) != (t475.length : Int)) = true := bne_iff_ne.mpr c116
          have c116b2 : (t488.length == t475.length) = false := by first | simpa using c116 | (simp at c116 ⊢; omega)
          have H' := am H
          clear H
          try go_wp2
          replace HO_4 := am (Kd.R_drew HO_4.out)
          replace HO_6 := am (Kd.R_drew HO_6.out)
          replace HO_12 := am (Kd.R_drew HO_12.out)
          replace HO_14 := am (Kd.R_drew HO_14.out)
          replace HO_446002 := am (Kd.R_drew HO_446002.out)
          replace HO_456002 := am (Kd.R_drew HO_456002.out)
          replace HO_482002 := am (Kd.R_drew HO_482002.out)
          replace HO_495002 := am (Kd.R_drew HO_495002.out)
          replace BK445 := am (blk_drew BK445.out)
          replace BK455 := am (blk_drew BK455.out)
          replace BK466 := am (blk_drew BK466.out)
          replace BK481 := am (blk_drew BK481.out)
          replace BK494 := am (blk_drew BK494.out)
          replace HB := am (below_drew1 HB.out)
          obtain ⟨Ao121, co121, eo121⟩ := Kd.R_slice HO_12.out
          (first | subst eo121 | (injection eo121 with f1_ f2_ f3_; have f4_ := f1_.symm; have f5_ := f3_.symm; clear f1_ f2_ f3_; subst f4_; subst f5_))
          have p501 : 0 ≤ (0 : Int) := (by omega)
          have q501 : 0 < (t478.length : Int) := of_decide_eq_true q3
          obtain ⟨ad501, e501, hx501_0⟩ := Kd.at_string (Kd.R_reads' HO_12.out).2.2 0 p501 q501
          cases e501
          have qi501 : (0 < t478.length) = True := eq_true (by omega)
          (try rw [show ((0 : Int)).toNat = 0 from rfl] at hx501_0)
          (try rw [Addr.add_zero'] at hx501_0)
          replace p501 := eq_true p501
          replace q501 := eq_true q501
          obtain ⟨Ao122, co122, eo122⟩ := Kd.R_slice HO_14.out
          (first | subst eo122 | (injection eo122 with f1_ f2_ f3_; have f4_ := f1_.symm; have f5_ := f3_.symm; clear f1_ f2_ f3_; subst f4_; subst f5_))
          have p502 : 0 ≤ (0 : Int) := (by omega)
          have q502 : 0 < (t491.length : Int) := of_decide_eq_true q3
          obtain ⟨ad502, e502, hx502_0⟩ := Kd.at_string (Kd.R_reads' HO_14.out).2.2 0 p502 q502
          cases e502
          have qi502 : (0 < t491.length) = True := eq_true (by omega)
          (try rw [show ((0 : Int)).toNat = 0 from rfl] at hx502_0)
          (try rw [Addr.add_zero'] at hx502_0)
          replace p502 := eq_true p502
          replace q502 := eq_true q502
          refine start_ (n := 31) (S := fun w' => w'.cell? ⟨gb494, 0, none⟩ = some (.int .i64 t486) ∧ w'.cell? ⟨gb494, 1, none⟩ = some (.int .i64 t487) ∧ w'.cell? ⟨gb494, 2, none⟩ = some (.slice Ao59 t488.length co59) ∧ w'.cell? ⟨gb481, 0, none⟩ = some (.int .i64 t473) ∧ w'.cell? ⟨gb481, 1, none⟩ = some (.int .i64 t474) ∧ w'.cell? ⟨gb481, 2, none⟩ = some (.slice Ao49 t475.length co49) ∧ w'.cell? ad501 = some (.string (rdOf ByteArray.empty t478 0)) ∧ w'.cell? ad502 = some (.string (rdOf ByteArray.empty t491 0))) (ds := []) b0_31 kr rfl rfl ⟨(blk_cell BK494.out 0).trans rfl, (blk_cell BK494.out 1).trans rfl, (blk_cell BK494.out 2).trans rfl, (blk_cell BK481.out 0).trans rfl, (blk_cell BK481.out 1).trans rfl, (blk_cell BK481.out 2).trans rfl, hx501_0, hx502_0⟩ (fun hHeld => ?_); refine with_tabW laws_FnOnce.tab18 laws_FnOnce.bits18 (fun HT_ HW_ => ?_)
          generalize wc.drew = w120 at HO_4 HO_6 HO_12 HO_14 HO_446002 HO_456002 HO_482002 HO_495002 BK445 BK455 BK466 BK481 BK494 HB hx501_0 hx502_0 hHeld ⊢
          refine pV 0 113 (bt 1 31) ?_
          refine pV 1 114 (bt 2 31) ?_
          refine pV 2 115 (bt 3 31) ?_
          refine pV 3 116 (bt 4 31) ?_
          refine pV 4 117 (bt 5 31) ?_
          refine pV 5 118 (bt 6 31) ?_
          refine pV 6 119 (bt 7 31) ?_
          refine pV 7 120 (bt 8 31) ?_
          refine pV 8 121 (bt 9 31) ?_
          refine pV 10 123 bx57 ?_
          refine pV 11 124 bx58 ?_
          refine tV 9 122 (bt 12 31) ?_
          refine tV 12 125 (bt 13 31) ?_
          refine pV 13 126 (bt 14 31) ?_
          refine pV 14 127 (bt 15 31) ?_
          refine pV 15 128 (bt 16 31) ?_
          refine pV 18 131 bx79 ?_
          refine tV 16 129 bx80 ?_
          refine pV 17 130 (bt 19 31) ?_
          refine tV 19 132 (bt 20 31) ?_
          refine pV 20 133 (bt 21 31) ?_
          refine pV 21 134 (bt 22 31) ?_
          refine pV 22 135 (bt 23 31) ?_
          refine pV 23 136 (bt 24 31) ?_
          refine pU 24 137 (bt 25 31) ?_
          refine pU 25 138 (bt 26 31) ?_
          refine pU 26 139 (bt 27 31) ?_
          refine pU 27 140 (bt 28 31) ?_
          refine pU 28 141 (bt 29 31) ?_
          refine pV 29 142 (bt 30 31) ?_
          refine pV 30 143 (bt 31 31) ?_
          refine done_ (done_of HT_.out kr) ?_
          try go_wp2
          go_meet
          case rel => exact ⟨_, (true), q4, H', ⟨u13_32⟩, ⟨u13_8⟩, ⟨u13_25⟩, ⟨u13_23⟩, ⟨u13_4⟩, ⟨u13_5⟩, ⟨u13_27⟩, ⟨u13_28⟩, ⟨u13_1⟩, ⟨u13_2⟩, ⟨u13_3⟩, ⟨u13_6⟩, ⟨u13_10⟩, ⟨q0⟩⟩
        rw [if_pos c116] at H
        have c116b0 : ((t488.length : Int) == (t475.length : Int)) = true := beq_iff_eq.mpr c116
        have c116b1 : ((t488.length : Int) != (t475.length : Int)) = false := bne_eq_false_iff_eq.mpr c116
        have c116b2 : (t488.length == t475.length) = true := by first | simpa using c116 | (simp at c116 ⊢; omega)
        clear c116
        have H' := am H
        clear H
        try go_wp2
        replace HO_4 := am (Kd.R_drew HO_4.out)
        replace HO_6 := am (Kd.R_drew HO_6.out)
        replace HO_12 := am (Kd.R_drew HO_12.out)
        replace HO_14 := am (Kd.R_drew HO_14.out)
        replace HO_446002 := am (Kd.R_drew HO_446002.out)
        replace HO_456002 := am (Kd.R_drew HO_456002.out)
        replace HO_482002 := am (Kd.R_drew HO_482002.out)
        replace HO_495002 := am (Kd.R_drew HO_495002.out)
        replace BK445 := am (blk_drew BK445.out)
        replace BK455 := am (blk_drew BK455.out)
        replace BK466 := am (blk_drew BK466.out)
        replace BK481 := am (blk_drew BK481.out)
        replace BK494 := am (blk_drew BK494.out)
        replace HB := am (below_drew1 HB.out)
        obtain ⟨Ao118, co118, eo118⟩ := Kd.R_slice HO_12.out
        (first | subst eo118 | (injection eo118 with f1_ f2_ f3_; have f4_ := f1_.symm; have f5_ := f3_.symm; clear f1_ f2_ f3_; subst f4_; subst f5_))
        have p501 : 0 ≤ (0 : Int) := (by omega)
        have q501 : 0 < (t478.length : Int) := of_decide_eq_true q3
        obtain ⟨ad501, e501, hx501_0⟩ := Kd.at_string (Kd.R_reads' HO_12.out).2.2 0 p501 q501
        cases e501
        have qi501 : (0 < t478.length) = True := eq_true (by omega)
        (try rw [show ((0 : Int)).toNat = 0 from rfl] at hx501_0)
        (try rw [Addr.add_zero'] at hx501_0)
        replace p501 := eq_true p501
        replace q501 := eq_true q501
        obtain ⟨Ao119, co119, eo119⟩ := Kd.R_slice HO_14.out
        (first | subst eo119 | (injection eo119 with f1_ f2_ f3_; have f4_ := f1_.symm; have f5_ := f3_.symm; clear f1_ f2_ f3_; subst f4_; subst f5_))
        have p502 : 0 ≤ (0 : Int) := (by omega)
        have q502 : 0 < (t491.length : Int) := of_decide_eq_true q3
        obtain ⟨ad502, e502, hx502_0⟩ := Kd.at_string (Kd.R_reads' HO_14.out).2.2 0 p502 q502
        cases e502
        have qi502 : (0 < t491.length) = True := eq_true (by omega)
        (try rw [show ((0 : Int)).toNat = 0 from rfl] at hx502_0)
        (try rw [Addr.add_zero'] at hx502_0)
        replace p502 := eq_true p502
        replace q502 := eq_true q502
        refine start_ (n := 31) (S := fun w' => w'.cell? ⟨gb494, 0, none⟩ = some (.int .i64 t486) ∧ w'.cell? ⟨gb494, 1, none⟩ = some (.int .i64 t487) ∧ w'.cell? ⟨gb494, 2, none⟩ = some (.slice Ao59 t488.length co59) ∧ w'.cell? ⟨gb481, 0, none⟩ = some (.int .i64 t473) ∧ w'.cell? ⟨gb481, 1, none⟩ = some (.int .i64 t474) ∧ w'.cell? ⟨gb481, 2, none⟩ = some (.slice Ao49 t475.length co49) ∧ w'.cell? ad501 = some (.string (rdOf ByteArray.empty t478 0)) ∧ w'.cell? ad502 = some (.string (rdOf ByteArray.empty t491 0))) (ds := []) b0_31 kr rfl rfl ⟨(blk_cell BK494.out 0).trans rfl, (blk_cell BK494.out 1).trans rfl, (blk_cell BK494.out 2).trans rfl, (blk_cell BK481.out 0).trans rfl, (blk_cell BK481.out 1).trans rfl, (blk_cell BK481.out 2).trans rfl, hx501_0, hx502_0⟩ (fun hHeld => ?_); refine with_tabW laws_FnOnce.tab18 laws_FnOnce.bits18 (fun HT_ HW_ => ?_)
        generalize wc.drew = w117 at HO_4 HO_6 HO_12 HO_14 HO_446002 HO_456002 HO_482002 HO_495002 BK445 BK455 BK466 BK481 BK494 HB hx501_0 hx502_0 hHeld ⊢
        refine pV 0 113 (bt 1 31) ?_
        refine pV 1 114 (bt 2 31) ?_
        refine pV 2 115 (bt 3 31) ?_
        refine pV 3 116 (bt 4 31) ?_
        refine pV 4 117 (bt 5 31) ?_
        refine pV 5 118 (bt 6 31) ?_
        refine pV 6 119 (bt 7 31) ?_
        refine pV 7 120 (bt 8 31) ?_
        refine pV 8 121 (bt 9 31) ?_
        refine pV 10 123 bx57 ?_
        refine pV 11 124 bx58 ?_
        refine tV 9 122 (bt 12 31) ?_
        refine tV 12 125 (bt 13 31) ?_
        refine pV 13 126 (bt 14 31) ?_
        refine pV 14 127 (bt 15 31) ?_
        refine pV 15 128 (bt 16 31) ?_
        refine pV 18 131 bx79 ?_
        refine tV 16 129 bx80 ?_
        refine pV 17 130 (bt 19 31) ?_
        refine tV 19 132 (bt 20 31) ?_
        refine pV 20 133 (bt 21 31) ?_
        refine pV 21 134 (bt 22 31) ?_
        refine pV 22 135 (bt 23 31) ?_
        refine pV 23 136 (bt 24 31) ?_
        refine pV 24 137 (bt 25 31) ?_
        refine pV 26 139 #[true, true, true, true, true, true, true, true, true, true, true, true, true, true, true, true, true, true, true, true, true, true, true, true, true, false, true, false, false, false, false] ?_
        refine tV 25 138 (bt 27 31) ?_
        refine tV 27 140 (bt 28 31) ?_
        refine pV 28 141 (bt 29 31) ?_
        refine pV 29 142 (bt 30 31) ?_
        refine pV 30 143 (bt 31 31) ?_
        refine done_ (done_of HT_.out kr) ?_
        try go_wp2
        go_meet
        case rel => exact ⟨_, ((t487 != t474)), q4, H', ⟨u13_32⟩, ⟨u13_8⟩, ⟨u13_25⟩, ⟨u13_23⟩, ⟨u13_4⟩, ⟨u13_5⟩, ⟨u13_27⟩, ⟨u13_28⟩, ⟨u13_1⟩, ⟨u13_2⟩, ⟨u13_3⟩, ⟨u13_6⟩, ⟨u13_10⟩, ⟨q0⟩⟩
     clear HC97
     try clear c1
     obtain ⟨kq, x143_96, rfl, HA, HJ96, HO_4, HO_6, HO_12, HO_446002, HO_456002, HO_482002, HO_495002, BK445, BK455, BK466, BK481, BK494, HB⟩ := hcut
     cases kq with
     | zero => exact absurd HA.out (by simp [laws_FnOnce.j2])
     | succ kj96 =>
       have H := HA.out
       clear HA
       simp only [laws_FnOnce.j2] at H
       by_cases c127 : x143_96 = true
       · subst c127
         rw [if_pos rfl] at H
         exact absurd ((Option.some.inj H).trans hr_.out) (by decide)
       replace c127 := Bool.eq_false_iff.mpr c127
       subst c127
       rw [nf] at H
       by_cases c128 : t467 = 0
       rotate_left
       · rw [if_neg c128] at H
         have c128b0 : (t467 == 0) = false := beq_eq_false_iff_ne.mpr c128
         have c128b1 : (t467 != 0) = true := bne_iff_ne.mpr c128
         have H' := am H
         clear H
         have hnb150 := NB481_445.out
         have hnc150 := NB445_481.out
         have hnb151 := NB481_455.out
         have hnc151 := NB455_481.out
         have hnb152 := NB481_466.out
         have hnc152 := NB466_481.out
         have hnb153 := NB481_494.out
         have hnc153 := NB494_481.out
         obtain ⟨hcz154_0, hcz154_1, hcz154_2, hfz154_0, hfz154_1, hfz154_2⟩ := bc3f wc BK481.out
         have hnb155 := NB445_455.out
         have hnc155 := NB455_445.out
         have hnb156 := NB445_466.out
         have hnc156 := NB466_445.out
         have hnb157 := NB445_494.out
         have hnc157 := NB494_445.out
         obtain ⟨hcz158_0, hcz158_1, hcz158_2, hfz158_0, hfz158_1, hfz158_2⟩ := bc3f wc BK445.out
         go_wp2
         go_roundg kj96
         case measure => have := HK1.out; have := HJ32.out; have := HJ96.out; omega
         case rel => exact ⟨(wrap64 (x7_1 + 1)), (t473), (t474), (t475), (.slice Ao49 t475.length co49), q4, H', ⟨(by have := HK1.out; have := HJ32.out; have := HJ96.out; omega)⟩, ⟨u13_36⟩, ⟨u13_37⟩, ⟨u13_33⟩, ⟨u13_34⟩, ⟨u13_26⟩, ⟨u13_30⟩, ⟨q0⟩⟩
       rw [if_pos c128] at H
       have c128b0 : (t467 == 0) = true := beq_iff_eq.mpr c128
       have c128b1 : (t467 != 0) = false := bne_eq_false_iff_eq.mpr c128
       clear c128
       replace H := Option.bind_eq_some_iff.mp H
       obtain ⟨⟨t503, t504⟩, A1290, H⟩ := H
       (try dsimp only at H)
       have A129 := am A1290
       clear A1290
       by_cases c130 : t503 = 1
       rotate_left
       · rw [if_neg c130] at H
         have c130b0 : (t503 == 1) = false := beq_eq_false_iff_ne.mpr c130
         have c130b1 : (t503 != 1) = true := bne_iff_ne.mpr c130
         exact absurd ((Option.some.inj H).trans hr_.out) (by decide)
       rw [if_pos c130] at H
       have c130b0 : (t503 == 1) = true := beq_iff_eq.mpr c130
       have c130b1 : (t503 != 1) = false := bne_eq_false_iff_eq.mpr c130
       clear c130
       by_cases c131 : t504.toList = ((rd_T50 t442 x7_1).f2).toList
       rotate_left
       · rw [if_neg c131] at H
         have c131b0 : (t504.toList == ((rd_T50 t442 x7_1).f2).toList) = false := beq_eq_false_iff_ne.mpr c131
         have c131b1 : (t504.toList != ((rd_T50 t442 x7_1).f2).toList) = true := bne_iff_ne.mpr c131
         exact absurd ((Option.some.inj H).trans hr_.out) (by decide)
       rw [if_pos c131] at H
       have c131b0 : (t504.toList == ((rd_T50 t442 x7_1).f2).toList) = true := beq_iff_eq.mpr c131
       have c131b1 : (t504.toList != ((rd_T50 t442 x7_1).f2).toList) = false := bne_eq_false_iff_eq.mpr c131
       clear c131
       by_cases c132 : 0 < (t478.length : Int)
       rotate_left
       · rw [if_neg c132] at H
         exact absurd H (by simp)
       rw [if_pos c132] at H
       have c132b0 : decide (0 < (t478.length : Int)) = true := decide_eq_true c132
       have c132b1 : decide (0 < t478.length) = true := decide_eq_true (by omega)
       clear c132
       by_cases c133 : (rdOf ByteArray.empty t478 0).toList = ((rd_T50 t442 x7_1).f2).toList
       rotate_left
       · rw [if_neg c133] at H
         have c133b0 : ((rdOf ByteArray.empty t478 0).toList == ((rd_T50 t442 x7_1).f2).toList) = false := beq_eq_false_iff_ne.mpr c133
         have c133b1 : ((rdOf ByteArray.empty t478 0).toList != ((rd_T50 t442 x7_1).f2).toList) = true := bne_iff_ne.mpr c133
         exact absurd ((Option.some.inj H).trans hr_.out) (by decide)
       rw [if_pos c133] at H
       have c133b0 : ((rdOf ByteArray.empty t478 0).toList == ((rd_T50 t442 x7_1).f2).toList) = true := beq_iff_eq.mpr c133
       have c133b1 : ((rdOf ByteArray.empty t478 0).toList != ((rd_T50 t442 x7_1).f2).toList) = false := bne_eq_false_iff_eq.mpr c133
       clear c133
       have H' := am H
       clear H
       have hnb134 := NB481_445.out
       have hnc134 := NB445_481.out
       have hnb135 := NB481_455.out
       have hnc135 := NB455_481.out
       have hnb136 := NB481_466.out
       have hnc136 := NB466_481.out
       have hnb137 := NB481_494.out
       have hnc137 := NB494_481.out
       obtain ⟨hcz138_0, hcz138_1, hcz138_2, hfz138_0, hfz138_1, hfz138_2⟩ := bc3f wc BK481.out
       have hnb139 := NB466_445.out
       have hnc139 := NB445_466.out
       have hnb140 := NB466_455.out
       have hnc140 := NB455_466.out
       have hnb141 := NB466_494.out
       have hnc141 := NB494_466.out
       obtain ⟨hcz142_0, hcz142_1, hcz142_2, hfz142_0, hfz142_1, hfz142_2⟩ := bc3f wc BK466.out
       try go_wp2_with (first | ((with_reducible refine gate_callee (f := 23) rfl ?_); refine goesL_ (some 152) rfl rfl Tryd.func23 kr rfl #[.agg #[.int .i64 t473, .int .i64 t474, .slice Ao49 t475.length co49], .int .i64 ((rd_T50 t442 x7_1).f0), .int .i64 ((rd_T50 t442 x7_1).f1)] rfl q1 ?_; (with_reducible refine (impl_Look.calls kj96 t473 t474 _ _ t475 ((rd_T50 t442 x7_1).f0) ((rd_T50 t442 x7_1).f1) t503 t504 _ ?side1 ?side2 A129.out).mono ?_); (case side1 => exact (by repeat (first | exact (Kd.R_reads' HO_482002.out).2.2 | (with_reducible refine Kd.C_alloc ?_ _) | (with_reducible refine Kd.C_drewN ?_ _) | (with_reducible refine Kd.C_drew ?_)))); (case side2 => exact (Kd.R_reads' HO_482002.out).2.1); rintro e w143 ⟨rfl, hb⟩; refine ⟨_, rfl, ?_⟩; replace HO_4 := am (Kd.R_below u13_8 hb); replace HO_6 := am (Kd.R_below q10 hb); replace HO_12 := am (Kd.R_below (by (with_reducible repeat (first | apply Kd.R_alloc | apply Kd.R_drewN | apply Kd.R_drew)); exact HO_12.out) hb); replace HO_446002 := am (Kd.R_below u13_4 hb); replace HO_456002 := am (Kd.R_below u13_5 hb); replace HO_482002 := am (Kd.R_below u13_27 hb); replace HO_495002 := am (Kd.R_below u13_28 hb); replace BK445 := am (blk_below (g := gb445) (o := .cells #[.int .i64 x446000_1, .int .i64 x446001_1, .slice Ao40 x446002_1.length co40] 30 (0, 0)) u13_1 hb); replace BK455 := am (blk_below (g := gb455) (o := .cells #[.int .i64 t447, .int .i64 t448, .slice Ao20 t449.length co20] 30 (0, 0)) u13_2 hb); replace BK466 := am (blk_below (g := gb466) (o := .cells #[.int .i64 ((rd_T50 t442 x7_1).f0), .int .i64 ((rd_T50 t442 x7_1).f1), .string ((rd_T50 t442 x7_1).f2)] 50 (0, 0)) u13_3 hb); replace BK481 := am (blk_below (g := gb481) (o := .cells #[.int .i64 t473, .int .i64 t474, .slice Ao49 t475.length co49] 30 (0, 0)) u13_6 hb); replace BK494 := am (blk_below (g := gb494) (o := .cells #[.int .i64 t486, .int .i64 t487, .slice Ao59 t488.length co59] 30 (0, 0)) u13_10 hb); replace HB := am (below_step q0 hb); (try clear hb); (try clear hb2); (try clear hk); (try clear hi)))
       replace HO_4 := am (Kd.R_drew HO_4.out)
       replace HO_6 := am (Kd.R_drew HO_6.out)
       replace HO_12 := am (Kd.R_drew HO_12.out)
       replace HO_446002 := am (Kd.R_drew HO_446002.out)
       replace HO_456002 := am (Kd.R_drew HO_456002.out)
       replace HO_482002 := am (Kd.R_drew HO_482002.out)
       replace HO_495002 := am (Kd.R_drew HO_495002.out)
       replace BK445 := am (blk_drew BK445.out)
       replace BK455 := am (blk_drew BK455.out)
       replace BK466 := am (blk_drew BK466.out)
       replace BK481 := am (blk_drew BK481.out)
       replace BK494 := am (blk_drew BK494.out)
       replace HB := am (below_drew1 HB.out)
       obtain ⟨Ao145, co145, eo145⟩ := Kd.R_slice HO_12.out
       (first | subst eo145 | (injection eo145 with f1_ f2_ f3_; have f4_ := f1_.symm; have f5_ := f3_.symm; clear f1_ f2_ f3_; subst f4_; subst f5_))
       have p505 : 0 ≤ (0 : Int) := (by omega)
       have q505 : 0 < (t478.length : Int) := of_decide_eq_true q3
       obtain ⟨ad505, e505, hx505_0⟩ := Kd.at_string (Kd.R_reads' HO_12.out).2.2 0 p505 q505
       cases e505
       have qi505 : (0 < t478.length) = True := eq_true (by omega)
       (try rw [show ((0 : Int)).toNat = 0 from rfl] at hx505_0)
       (try rw [Addr.add_zero'] at hx505_0)
       replace p505 := eq_true p505
       replace q505 := eq_true q505
       refine start_ (n := 16) (S := fun w' => w'.cell? ⟨gb466, 0, none⟩ = some (.int .i64 ((rd_T50 t442 x7_1).f0)) ∧ w'.cell? ⟨gb466, 1, none⟩ = some (.int .i64 ((rd_T50 t442 x7_1).f1)) ∧ w'.cell? ⟨gb466, 2, none⟩ = some (.string ((rd_T50 t442 x7_1).f2)) ∧ w'.cell? ad505 = some (.string (rdOf ByteArray.empty t478 0))) (ds := []) #[false, false, false, false, false, false, false, false, false, false, false, false, false, false, false, false] kr rfl rfl ⟨(blk_cell BK466.out 0).trans rfl, (blk_cell BK466.out 1).trans rfl, (blk_cell BK466.out 2).trans rfl, hx505_0⟩ (fun hHeld => ?_); refine with_tabW laws_FnOnce.tab22 laws_FnOnce.bits22 (fun HT_ HW_ => ?_)
       generalize w143.drew = w144 at HO_4 HO_6 HO_12 HO_446002 HO_456002 HO_482002 HO_495002 BK445 BK455 BK466 BK481 BK494 HB hx505_0 hHeld ⊢
       refine pV 0 155 (bt 1 16) ?_
       refine pV 1 156 (bt 2 16) ?_
       refine pV 2 157 (bt 3 16) ?_
       refine pV 3 158 (bt 4 16) ?_
       refine pV 4 159 (bt 5 16) ?_
       refine tV 5 160 (bt 6 16) ?_
       refine pV 6 161 (bt 7 16) ?_
       refine pV 7 162 (bt 8 16) ?_
       refine pV 8 163 (bt 9 16) ?_
       refine pV 9 164 (bt 10 16) ?_
       refine pV 10 165 (bt 11 16) ?_
       refine pV 12 167 #[true, true, true, true, true, true, true, true, true, true, true, false, true, false, false, false] ?_
       refine tV 11 166 (bt 13 16) ?_
       refine tV 13 168 (bt 14 16) ?_
       refine pV 14 169 (bt 15 16) ?_
       refine pV 15 170 (bt 16 16) ?_
       refine done_ (done_of HT_.out kr) ?_
       obtain ⟨hcz146_0, hcz146_1, hcz146_2, hfz146_0, hfz146_1, hfz146_2⟩ := bc3f w144 BK481.out
       have hnb147 := NB445_455.out
       have hnc147 := NB455_445.out
       have hnb148 := NB445_494.out
       have hnc148 := NB494_445.out
       obtain ⟨hcz149_0, hcz149_1, hcz149_2, hfz149_0, hfz149_1, hfz149_2⟩ := bc3f w144 BK445.out
       try go_wp2
       go_roundg kj96
       case measure => have := HK1.out; have := HJ32.out; have := HJ96.out; omega
       case rel => exact ⟨(wrap64 (x7_1 + 1)), (t473), (t474), (t475), (.slice Ao49 t475.length co49), q4, H', ⟨(by have := HK1.out; have := HJ32.out; have := HJ96.out; omega)⟩, ⟨u13_36⟩, ⟨u13_37⟩, ⟨u13_33⟩, ⟨u13_34⟩, ⟨u13_26⟩, ⟨u13_30⟩, ⟨q0⟩⟩

/-- THE ONE PURE STATEMENT of laws_FnOnce: yours. -/
def laws_FnOnce.Pure : Prop := ∀ (l0 : List Int), l0.length ≤ maxLen → l0.length * 1 ≤ 140737488351232 → (∀ x ∈ l0, (Lit.int .u8 x).wf = true) → ∃ k, laws_FnOnce.f k l0 = some true
theorem laws_FnOnce.walk (P : laws_FnOnce.Pure) (a0 : Option Addr) (len0 cap0 : Nat) (z0 : List Int) (w : World) (w0 : (a0 = none ∧ len0 = 0 ∧ cap0 = 0 ∧ z0 = []) ∨ ∃ x, a0 = some x ∧ len0 ≤ cap0 ∧ cap0 ≤ maxLen ∧ z0.length = cap0 ∧ (∀ i, i < z0.length → w.cell? (x.add i) = some (.int .u8 (z0.getD i 0))) ∧ ∀ n ∈ z0, (Lit.int .u8 n).wf = true) (y0 : len0 * 1 ≤ 140737488351232) :
   Calls Tryd.prog 4 #[.slice a0 len0 cap0] w fun e w' => e = .returned (.bool true) ∧ Below w.heap.size w w' := by
 obtain ⟨l0, rfl, hr0, hm0, hw0, hc0⟩ := ReadsInt.ofRowC w0
 obtain ⟨k, h⟩ := P l0 hm0 y0 hw0
 refine (laws_FnOnce.calls k _ _ l0 true w (Kd.C_of_reads (d := (0 : Int)) (h1 := fun _ => rfl) hr0) hc0 h ⟨rfl⟩).mono ?_
 rintro e w' ⟨rfl, hd⟩
 exact ⟨rfl, hd⟩

end Go.Proofs.YtjdpifafijcpbaaDoor.QFnOnce
