import Derived.Test.YtoemdmjdpikfbaaSqFnExactPlayConf
import Derived.Test.YtoemdmjdpikfbaaQFnExactPlayConfx0
import Derived.Test.YtoemdmjdpikfbaaQFnExactPlayConfx3
import Derived.Test.YtoemdmjdpikfbaaQFnExactPlayConfx5
import Derived.Test.YtoemdmjdpikfbaaQFnExactPlayConfx6
namespace Go.Proofs.Ytoemdmjdpikfbaa.QFnExactPlayConf
open Go.RowKit Go.Proofs.YtoemdmjdpikfbaaW.PrintWords Go.Proofs.YtoemdmjdpikfbaaW.PrintLast Go.Proofs.YtoemdmjdpikfbaaW.PrintMore Go.Proofs.Ytoemdmjdpikfbaa.SqFnExactPlayConf
attribute [local go_sem] max2_int min2_int max_two min_two max_three min_three max_four min_four Go.Proofs.Ytoemdmjdpikfbaa.Set.isSome_setCell
set_option linter.unusedVariables false
set_option linter.unusedSimpArgs false
theorem u7_1 {P : Prop} (h : P := by (with_reducible repeat (first | apply r1_ | apply r2_ | apply r3_)); exact (Kd.R_mono (Kd.R_mono (Kd.R_far (p := ⟨gb311, 2, none⟩) (Kd.R_far (p := ⟨gb311, 1, none⟩) (Kd.R_far (p := ⟨gb311, 0, none⟩) (Kd.R_far (p := ⟨gb315, 2, none⟩) (Kd.R_far (p := ⟨gb315, 1, none⟩) (Kd.R_far (p := ⟨gb315, 0, none⟩) (Kd.R_types (Kd.R_types HO_7.out BK315.out (by decide)) BK311.out (by decide)) (fun _ hk => hk.1.2) (.slice Ao111 t359.length co111)) (fun _ hk => hk.1.2) (.slice Ao113 t362.length co113)) (fun _ hk => hk.1.2) (.slice Ao115 t365.length co115)) (fun _ hk => hk.2) (.slice Ao111 t359.length co111)) (fun _ hk => hk.2) (.slice Ao113 t362.length co113)) (fun _ hk => hk.2) (.slice Ao115 t365.length co115)) (fun _ h_ => h_.1)) (fun _ h_ => h_.1))) : P := h
theorem u7_2 {P : Prop} (h : P := by (with_reducible repeat (first | apply b1_ | apply b2_ | apply b3_)); refine blk_far ?_ NB290_311.out _; (with_reducible repeat (first | apply b1_ | apply b2_ | apply b3_)); refine blk_far ?_ NB290_311.out _; (with_reducible repeat (first | apply b1_ | apply b2_ | apply b3_)); refine blk_far ?_ NB290_311.out _; (with_reducible repeat (first | apply b1_ | apply b2_ | apply b3_)); refine blk_far ?_ NB290_315.out _; (with_reducible repeat (first | apply b1_ | apply b2_ | apply b3_)); refine blk_far ?_ NB290_315.out _; (with_reducible repeat (first | apply b1_ | apply b2_ | apply b3_)); refine blk_far ?_ NB290_315.out _; (with_reducible repeat (first | apply b1_ | apply b2_ | apply b3_)); exact BK290.out) : P := h
theorem u7_3 {P : Prop} (h : P := by (with_reducible repeat (first | apply b1_ | apply b2_ | apply b3_)); refine blk_far ?_ NB291_311.out _; (with_reducible repeat (first | apply b1_ | apply b2_ | apply b3_)); refine blk_far ?_ NB291_311.out _; (with_reducible repeat (first | apply b1_ | apply b2_ | apply b3_)); refine blk_far ?_ NB291_311.out _; (with_reducible repeat (first | apply b1_ | apply b2_ | apply b3_)); refine blk_far ?_ NB291_315.out _; (with_reducible repeat (first | apply b1_ | apply b2_ | apply b3_)); refine blk_far ?_ NB291_315.out _; (with_reducible repeat (first | apply b1_ | apply b2_ | apply b3_)); refine blk_far ?_ NB291_315.out _; (with_reducible repeat (first | apply b1_ | apply b2_ | apply b3_)); exact BK291.out) : P := h
theorem u7_4 {P : Prop} (h : P := by (with_reducible repeat (first | apply r1_ | apply r2_ | apply r3_)); exact (Kd.R_mono (Kd.R_mono (Kd.R_far (p := ⟨gb311, 2, none⟩) (Kd.R_far (p := ⟨gb311, 1, none⟩) (Kd.R_far (p := ⟨gb311, 0, none⟩) (Kd.R_far (p := ⟨gb315, 2, none⟩) (Kd.R_far (p := ⟨gb315, 1, none⟩) (Kd.R_far (p := ⟨gb315, 0, none⟩) (Kd.R_types (Kd.R_types HO_7.out BK315.out (by decide)) BK311.out (by decide)) (fun _ hk => hk.1.2) (.slice Ao55 t318.length co55)) (fun _ hk => hk.1.2) (.slice Ao57 t321.length co57)) (fun _ hk => hk.1.2) (.slice Ao59 t324.length co59)) (fun _ hk => hk.2) (.slice Ao55 t318.length co55)) (fun _ hk => hk.2) (.slice Ao57 t321.length co57)) (fun _ hk => hk.2) (.slice Ao59 t324.length co59)) (fun _ h_ => h_.1)) (fun _ h_ => h_.1))) : P := h
theorem u7_5 {P : Prop} (h : P := by (with_reducible repeat (first | apply r1_ | apply r2_ | apply r3_)); exact (Kd.R_mono (Kd.R_mono (Kd.R_far (p := ⟨gb311, 2, none⟩) (Kd.R_far (p := ⟨gb311, 1, none⟩) (Kd.R_far (p := ⟨gb311, 0, none⟩) (Kd.R_far (p := ⟨gb315, 2, none⟩) (Kd.R_far (p := ⟨gb315, 1, none⟩) (Kd.R_far (p := ⟨gb315, 0, none⟩) (Kd.R_types (Kd.R_types HO_7.out BK315.out (by decide)) BK311.out (by decide)) (fun _ hk => hk.1.2) (.slice Ao77 t331.length co77)) (fun _ hk => hk.1.2) (.slice Ao81 t334.length co81)) (fun _ hk => hk.1.2) (.slice Ao82 t337.length co82)) (fun _ hk => hk.2) (.slice Ao77 t331.length co77)) (fun _ hk => hk.2) (.slice Ao81 t334.length co81)) (fun _ hk => hk.2) (.slice Ao82 t337.length co82)) (fun _ h_ => h_.1)) (fun _ h_ => h_.1))) : P := h
theorem u7_6 {P : Prop} (h : P := by (with_reducible repeat (first | apply r1_ | apply r2_ | apply r3_)); exact (Kd.R_mono (Kd.R_mono (Kd.R_far (p := ⟨gb311, 2, none⟩) (Kd.R_far (p := ⟨gb311, 1, none⟩) (Kd.R_far (p := ⟨gb311, 0, none⟩) (Kd.R_far (p := ⟨gb315, 2, none⟩) (Kd.R_far (p := ⟨gb315, 1, none⟩) (Kd.R_far (p := ⟨gb315, 0, none⟩) (Kd.R_types (Kd.R_types HO_7.out BK315.out (by decide)) BK311.out (by decide)) (fun _ hk => hk.1.2) (.slice Ao91 t345.length co91)) (fun _ hk => hk.1.2) (.slice Ao93 t348.length co93)) (fun _ hk => hk.1.2) (.slice Ao95 t351.length co95)) (fun _ hk => hk.2) (.slice Ao91 t345.length co91)) (fun _ hk => hk.2) (.slice Ao93 t348.length co93)) (fun _ hk => hk.2) (.slice Ao95 t351.length co95)) (fun _ h_ => h_.1)) (fun _ h_ => h_.1))) : P := h
theorem u7_8 {P : Prop} (h : P := by (with_reducible repeat (first | apply b1_ | apply b2_ | apply b3_)); exact BK290.out) : P := h
theorem u7_9 {P : Prop} (h : P := by (with_reducible repeat (first | apply b1_ | apply b2_ | apply b3_)); exact BK291.out) : P := h
theorem u7_10 {P : Prop} (h : P := by (with_reducible repeat (first | apply r1_ | apply r2_ | apply r3_)); exact (Kd.R_mono (Kd.R_far (p := ⟨gb315, 2, none⟩) (Kd.R_far (p := ⟨gb315, 1, none⟩) (Kd.R_far (p := ⟨gb315, 0, none⟩) (Kd.R_types HO_312000.out BK315.out (by decide)) (fun _ hk => hk.2) (.slice Ao42 x312000_2.length co42)) (fun _ hk => hk.2) (.slice Ao47 x312001_2.length co47)) (fun _ hk => hk.2) (.slice Ao48 x312002_2.length co48)) (fun _ h_ => h_.1))) : P := h
theorem u7_11 {P : Prop} (h : P := by (with_reducible repeat (first | apply r1_ | apply r2_ | apply r3_)); exact (Kd.R_mono (Kd.R_far (p := ⟨gb315, 2, none⟩) (Kd.R_far (p := ⟨gb315, 1, none⟩) (Kd.R_far (p := ⟨gb315, 0, none⟩) (Kd.R_types HO_312001.out BK315.out (by decide)) (fun _ hk => hk.2) (.slice Ao42 x312000_2.length co42)) (fun _ hk => hk.2) (.slice Ao47 x312001_2.length co47)) (fun _ hk => hk.2) (.slice Ao48 x312002_2.length co48)) (fun _ h_ => h_.1))) : P := h
theorem u7_12 {P : Prop} (h : P := by (with_reducible repeat (first | apply r1_ | apply r2_ | apply r3_)); exact (Kd.R_mono (Kd.R_far (p := ⟨gb315, 2, none⟩) (Kd.R_far (p := ⟨gb315, 1, none⟩) (Kd.R_far (p := ⟨gb315, 0, none⟩) (Kd.R_types HO_312002.out BK315.out (by decide)) (fun _ hk => hk.2) (.slice Ao42 x312000_2.length co42)) (fun _ hk => hk.2) (.slice Ao47 x312001_2.length co47)) (fun _ hk => hk.2) (.slice Ao48 x312002_2.length co48)) (fun _ h_ => h_.1))) : P := h
theorem u7_13 {P : Prop} (h : P := by (with_reducible repeat (first | apply r1_ | apply r2_ | apply r3_)); exact (Kd.R_mono (Kd.R_mono (Kd.R_far (p := ⟨gb311, 2, none⟩) (Kd.R_far (p := ⟨gb311, 1, none⟩) (Kd.R_far (p := ⟨gb311, 0, none⟩) (Kd.R_far (p := ⟨gb315, 2, none⟩) (Kd.R_far (p := ⟨gb315, 1, none⟩) (Kd.R_far (p := ⟨gb315, 0, none⟩) (Kd.R_types (Kd.R_types HO_7.out BK315.out (by decide)) BK311.out (by decide)) (fun _ hk => hk.1.2) (.slice Ao42 x312000_2.length co42)) (fun _ hk => hk.1.2) (.slice Ao47 x312001_2.length co47)) (fun _ hk => hk.1.2) (.slice Ao48 x312002_2.length co48)) (fun _ hk => hk.2) (.slice Ao42 x312000_2.length co42)) (fun _ hk => hk.2) (.slice Ao47 x312001_2.length co47)) (fun _ hk => hk.2) (.slice Ao48 x312002_2.length co48)) (fun _ h_ => h_.1)) (fun _ h_ => h_.1))) : P := h
theorem u7_14 {P : Prop} (h : P := by (with_reducible repeat (first | apply r1_ | apply r2_ | apply r3_)); exact HO_312000.out) : P := h
theorem u7_15 {P : Prop} (h : P := by (with_reducible repeat (first | apply r1_ | apply r2_ | apply r3_)); exact HO_312001.out) : P := h
theorem u7_16 {P : Prop} (h : P := by (with_reducible repeat (first | apply r1_ | apply r2_ | apply r3_)); exact HO_312002.out) : P := h
theorem u7_18 {P : Prop} (h : P := by first | exact Nat.ne_of_lt (Nat.lt_of_lt_of_le (by have := World.block_lt_of_cell? _ _ hw317_0; first | rwa [add_block] at this | exact this) GW315.out) | (rw [add_block]; exact Nat.ne_of_lt (Nat.lt_of_lt_of_le (by have := World.block_lt_of_cell? _ _ hw317_0; first | rwa [add_block] at this | exact this) GW315.out)) | (show (Addr.add _ _).block ≠ _; rw [add_block]; exact Nat.ne_of_lt (Nat.lt_of_lt_of_le (by have := World.block_lt_of_cell? _ _ hw317_0; first | rwa [add_block] at this | exact this) GW315.out)) | (dsimp only; exact Nat.ne_of_lt (Nat.lt_of_lt_of_le (by have := World.block_lt_of_cell? _ _ hw317_0; first | rwa [add_block] at this | exact this) GW315.out))) : P := h
theorem u7_19 {P : Prop} (h : P := by first | exact Nat.ne_of_lt (Nat.lt_of_lt_of_le (by have := World.block_lt_of_cell? _ _ hw317_1; first | rwa [add_block] at this | exact this) GW315.out) | (rw [add_block]; exact Nat.ne_of_lt (Nat.lt_of_lt_of_le (by have := World.block_lt_of_cell? _ _ hw317_1; first | rwa [add_block] at this | exact this) GW315.out)) | (show (Addr.add _ _).block ≠ _; rw [add_block]; exact Nat.ne_of_lt (Nat.lt_of_lt_of_le (by have := World.block_lt_of_cell? _ _ hw317_1; first | rwa [add_block] at this | exact this) GW315.out)) | (dsimp only; exact Nat.ne_of_lt (Nat.lt_of_lt_of_le (by have := World.block_lt_of_cell? _ _ hw317_1; first | rwa [add_block] at this | exact this) GW315.out))) : P := h
theorem u7_20 {P : Prop} (h : P := by first | exact Nat.ne_of_lt (Nat.lt_of_lt_of_le (by have := World.block_lt_of_cell? _ _ hw317_2; first | rwa [add_block] at this | exact this) GW315.out) | (rw [add_block]; exact Nat.ne_of_lt (Nat.lt_of_lt_of_le (by have := World.block_lt_of_cell? _ _ hw317_2; first | rwa [add_block] at this | exact this) GW315.out)) | (show (Addr.add _ _).block ≠ _; rw [add_block]; exact Nat.ne_of_lt (Nat.lt_of_lt_of_le (by have := World.block_lt_of_cell? _ _ hw317_2; first | rwa [add_block] at this | exact this) GW315.out)) | (dsimp only; exact Nat.ne_of_lt (Nat.lt_of_lt_of_le (by have := World.block_lt_of_cell? _ _ hw317_2; first | rwa [add_block] at this | exact this) GW315.out))) : P := h
theorem u7_21 {P : Prop} (h : P := by first | exact Nat.ne_of_lt (Nat.lt_of_lt_of_le (by have := World.block_lt_of_cell? _ _ hw344_0; first | rwa [add_block] at this | exact this) GW315.out) | (rw [add_block]; exact Nat.ne_of_lt (Nat.lt_of_lt_of_le (by have := World.block_lt_of_cell? _ _ hw344_0; first | rwa [add_block] at this | exact this) GW315.out)) | (show (Addr.add _ _).block ≠ _; rw [add_block]; exact Nat.ne_of_lt (Nat.lt_of_lt_of_le (by have := World.block_lt_of_cell? _ _ hw344_0; first | rwa [add_block] at this | exact this) GW315.out)) | (dsimp only; exact Nat.ne_of_lt (Nat.lt_of_lt_of_le (by have := World.block_lt_of_cell? _ _ hw344_0; first | rwa [add_block] at this | exact this) GW315.out))) : P := h
theorem u7_22 {P : Prop} (h : P := by first | exact Nat.ne_of_lt (Nat.lt_of_lt_of_le (by have := World.block_lt_of_cell? _ _ hw344_1; first | rwa [add_block] at this | exact this) GW315.out) | (rw [add_block]; exact Nat.ne_of_lt (Nat.lt_of_lt_of_le (by have := World.block_lt_of_cell? _ _ hw344_1; first | rwa [add_block] at this | exact this) GW315.out)) | (show (Addr.add _ _).block ≠ _; rw [add_block]; exact Nat.ne_of_lt (Nat.lt_of_lt_of_le (by have := World.block_lt_of_cell? _ _ hw344_1; first | rwa [add_block] at this | exact this) GW315.out)) | (dsimp only; exact Nat.ne_of_lt (Nat.lt_of_lt_of_le (by have := World.block_lt_of_cell? _ _ hw344_1; first | rwa [add_block] at this | exact this) GW315.out))) : P := h
theorem u7_23 {P : Prop} (h : P := by first | exact Nat.ne_of_lt (Nat.lt_of_lt_of_le (by have := World.block_lt_of_cell? _ _ hw344_2; first | rwa [add_block] at this | exact this) GW315.out) | (rw [add_block]; exact Nat.ne_of_lt (Nat.lt_of_lt_of_le (by have := World.block_lt_of_cell? _ _ hw344_2; first | rwa [add_block] at this | exact this) GW315.out)) | (show (Addr.add _ _).block ≠ _; rw [add_block]; exact Nat.ne_of_lt (Nat.lt_of_lt_of_le (by have := World.block_lt_of_cell? _ _ hw344_2; first | rwa [add_block] at this | exact this) GW315.out)) | (dsimp only; exact Nat.ne_of_lt (Nat.lt_of_lt_of_le (by have := World.block_lt_of_cell? _ _ hw344_2; first | rwa [add_block] at this | exact this) GW315.out))) : P := h
theorem u7_24 {P : Prop} (h : P := by first | exact Nat.ne_of_lt (Nat.lt_of_lt_of_le (by have := World.block_lt_of_cell? _ _ hw358_0; first | rwa [add_block] at this | exact this) GW315.out) | (rw [add_block]; exact Nat.ne_of_lt (Nat.lt_of_lt_of_le (by have := World.block_lt_of_cell? _ _ hw358_0; first | rwa [add_block] at this | exact this) GW315.out)) | (show (Addr.add _ _).block ≠ _; rw [add_block]; exact Nat.ne_of_lt (Nat.lt_of_lt_of_le (by have := World.block_lt_of_cell? _ _ hw358_0; first | rwa [add_block] at this | exact this) GW315.out)) | (dsimp only; exact Nat.ne_of_lt (Nat.lt_of_lt_of_le (by have := World.block_lt_of_cell? _ _ hw358_0; first | rwa [add_block] at this | exact this) GW315.out))) : P := h
theorem u7_25 {P : Prop} (h : P := by first | exact Nat.ne_of_lt (Nat.lt_of_lt_of_le (by have := World.block_lt_of_cell? _ _ hw358_1; first | rwa [add_block] at this | exact this) GW315.out) | (rw [add_block]; exact Nat.ne_of_lt (Nat.lt_of_lt_of_le (by have := World.block_lt_of_cell? _ _ hw358_1; first | rwa [add_block] at this | exact this) GW315.out)) | (show (Addr.add _ _).block ≠ _; rw [add_block]; exact Nat.ne_of_lt (Nat.lt_of_lt_of_le (by have := World.block_lt_of_cell? _ _ hw358_1; first | rwa [add_block] at this | exact this) GW315.out)) | (dsimp only; exact Nat.ne_of_lt (Nat.lt_of_lt_of_le (by have := World.block_lt_of_cell? _ _ hw358_1; first | rwa [add_block] at this | exact this) GW315.out))) : P := h
theorem u7_26 {P : Prop} (h : P := by first | exact Nat.ne_of_lt (Nat.lt_of_lt_of_le (by have := World.block_lt_of_cell? _ _ hw358_2; first | rwa [add_block] at this | exact this) GW315.out) | (rw [add_block]; exact Nat.ne_of_lt (Nat.lt_of_lt_of_le (by have := World.block_lt_of_cell? _ _ hw358_2; first | rwa [add_block] at this | exact this) GW315.out)) | (show (Addr.add _ _).block ≠ _; rw [add_block]; exact Nat.ne_of_lt (Nat.lt_of_lt_of_le (by have := World.block_lt_of_cell? _ _ hw358_2; first | rwa [add_block] at this | exact this) GW315.out)) | (dsimp only; exact Nat.ne_of_lt (Nat.lt_of_lt_of_le (by have := World.block_lt_of_cell? _ _ hw358_2; first | rwa [add_block] at this | exact this) GW315.out))) : P := h
theorem u7_27 {P : Prop} (h : P := by (with_reducible repeat (first | apply b1_ | apply b2_ | apply b3_)); exact BK311.out) : P := h
theorem u7_32 {P : Prop} (h : P := by repeat (first | exact (Kd.R_reads' HO_312000.out).2.2 | (with_reducible refine Kd.C_alloc ?_ _) | (with_reducible refine Kd.C_drewN ?_ _) | (with_reducible refine Kd.C_drew ?_))) : P := h
theorem u7_33 {P : Prop} (h : P := by repeat (first | exact (Kd.R_reads' HO_312001.out).2.2 | (with_reducible refine Kd.C_alloc ?_ _) | (with_reducible refine Kd.C_drewN ?_ _) | (with_reducible refine Kd.C_drew ?_))) : P := h
theorem u7_34 {P : Prop} (h : P := by repeat (first | exact (Kd.R_reads' HO_312002.out).2.2 | (with_reducible refine Kd.C_alloc ?_ _) | (with_reducible refine Kd.C_drewN ?_ _) | (with_reducible refine Kd.C_drew ?_))) : P := h
theorem u7_37 {P : Prop} (h : P := by (with_reducible repeat (first | apply r1_ | apply r2_ | apply r3_)); exact HO_7.out) : P := h
theorem u7_40 {P : Prop} (h : P := by first | (rw [add_block]; exact hn316_0) | (show (Addr.add _ _).block ≠ _; rw [add_block]; exact hn316_0) | exact hn316_0) : P := h
theorem u7_41 {P : Prop} (h : P := by first | (rw [add_block]; exact hn316_1) | (show (Addr.add _ _).block ≠ _; rw [add_block]; exact hn316_1) | exact hn316_1) : P := h
theorem u7_42 {P : Prop} (h : P := by first | (rw [add_block]; exact hn316_2) | (show (Addr.add _ _).block ≠ _; rw [add_block]; exact hn316_2) | exact hn316_2) : P := h
theorem u7_43 {P : Prop} (h : P := by (with_reducible repeat (first | apply b1_ | apply b2_ | apply b3_)); exact BK315.out) : P := h
theorem u7_44 {P : Prop} (h : P := by have := World.block_lt_of_cell? _ _ hx316_0; first | rwa [add_block] at this | exact this) : P := h
theorem u7_47 {P : Prop} (h : P := by (with_reducible repeat (first | apply r1_ | apply r2_ | apply r3_)); exact HO304.out) : P := h
theorem u7_48 {P : Prop} (h : P := by (with_reducible repeat (first | apply r1_ | apply r2_ | apply r3_)); exact HO307.out) : P := h
theorem u7_49 {P : Prop} (h : P := by (with_reducible repeat (first | apply r1_ | apply r2_ | apply r3_)); exact HO310.out) : P := h
mutual
def spec_PlayConf.j0 : Nat → List (S77) → Bool → List Int → List Int → List Int → Option (List Int × List Int × List Int × List Bool)
 | 0, _, _, _, _, _ => none
 | k + 1, x1, x18, x291000, x291001, x291002 => if x18 = true then ((spec_l06Copy.f k x291000 x291001 x291002).bind fun bt293 => (some (bt293.1, bt293.2.1, bt293.2.2, ([] : List Bool)))) else ((spec_l06Copy.f k x291000 x291001 x291002).bind fun bt302 => (spec_PlayConf.l0 k x1 (([] : List Bool)) 0 bt302.1 bt302.2.1 bt302.2.2))
def spec_PlayConf.l0 : Nat → List (S77) → List Bool → Int → List Int → List Int → List Int → Option (List Int × List Int × List Int × List Bool)
 | 0, _, _, _, _, _, _ => none
 | k + 1, x1, x7, x8, x312000, x312001, x312002 => if x8 < (x1.length : Int) then (if 0 ≤ x8 then (if ((rd_T77 x1 x8).f0) = 0 then ((spec_Begin.f k x312000 x312001 x312002 ((rd_T77 x1 x8).f2)).bind fun bt318 => (if x7.length < 140737488355328 then (spec_PlayConf.l0 k x1 (x7 ++ [bt318.2.2.2]) (wrap64 (x8 + 1)) bt318.1 bt318.2.1 bt318.2.2.1) else (none))) else (if ((rd_T77 x1 x8).f0) = 1 then ((spec_Finish.f k x312000 x312001 x312002).bind fun bt331 => (if x7.length < 140737488355328 then (spec_PlayConf.l0 k x1 (x7 ++ [bt331.2.2.2]) (wrap64 (x8 + 1)) bt331.1 bt331.2.1 bt331.2.2.1) else (none))) else (if ((rd_T77 x1 x8).f0) = 2 then ((spec_Learner.f k x312000 x312001 x312002 ((rd_T77 x1 x8).f1) true).bind fun bt345 => (if x7.length < 140737488355328 then (spec_PlayConf.l0 k x1 (x7 ++ [bt345.2.2.2]) (wrap64 (x8 + 1)) bt345.1 bt345.2.1 bt345.2.2.1) else (none))) else (if ((rd_T77 x1 x8).f0) = 3 then ((spec_Learner.f k x312000 x312001 x312002 ((rd_T77 x1 x8).f1) false).bind fun bt359 => (if x7.length < 140737488355328 then (spec_PlayConf.l0 k x1 (x7 ++ [bt359.2.2.2]) (wrap64 (x8 + 1)) bt359.1 bt359.2.1 bt359.2.2.1) else (none))) else (if x7.length < 140737488355328 then (spec_PlayConf.l0 k x1 (x7 ++ [false]) (wrap64 (x8 + 1)) x312000 x312001 x312002) else (none)))))) else (none)) else (some (x312000, x312001, x312002, x7))
end
def spec_PlayConf.f (k : Nat) (l0_0 : List Int) (l0_1 : List Int) (l0_2 : List Int) (l1 : List (S77)) : Option (List Int × List Int × List Int × List Bool) := (spec_ConfOk.f k l0_0 l0_1 l0_2).bind fun t292 => (if t292 = true then (spec_PlayConf.j0 k l1 (decide ((l1.length : Int) > 100)) l0_0 l0_1 l0_2) else (spec_PlayConf.j0 k l1 true l0_0 l0_1 l0_2))
theorem spec_PlayConf.mono_l : ∀ k, (∀ y0 y1 y2 y3 y4, LeO (spec_PlayConf.j0 k y0 y1 y2 y3 y4) (spec_PlayConf.j0 (k + 1) y0 y1 y2 y3 y4)) ∧ (∀ y0 y1 y2 y3 y4 y5, LeO (spec_PlayConf.l0 k y0 y1 y2 y3 y4 y5) (spec_PlayConf.l0 (k + 1) y0 y1 y2 y3 y4 y5))
 | 0 => ⟨fun _ _ _ _ _ r h => by simp [spec_PlayConf.j0] at h, fun _ _ _ _ _ _ r h => by simp [spec_PlayConf.l0] at h⟩
 | k + 1 => by
   obtain ⟨ih0, ih1⟩ := spec_PlayConf.mono_l k
   refine ⟨?_, ?_⟩ <;> intros <;> (first | unfold spec_PlayConf.j0 | unfold spec_PlayConf.l0) <;> repeat' first
   | (with_reducible exact ih0 _ _ _ _ _)
   | (with_reducible exact ih1 _ _ _ _ _ _)
   | (with_reducible exact spec_Begin.mono _ _ _ _ _)
   | (with_reducible exact spec_ConfOk.mono _ _ _ _)
   | (with_reducible exact spec_Finish.mono _ _ _ _)
   | (with_reducible exact spec_Learner.mono _ _ _ _ _ _)
   | (with_reducible exact spec_l06Copy.mono _ _ _ _)
   | (with_reducible exact LeO.refl _)
   | (with_reducible exact LeO.none _)
   | (with_reducible refine LeO.ite ?_ ?_)
   | (with_reducible refine LeO.bind ?_ (fun _ => ?_))
   | exact ih0 _ _ _ _ _
   | exact ih1 _ _ _ _ _ _
   | exact spec_Begin.mono _ _ _ _ _
   | exact spec_ConfOk.mono _ _ _ _
   | exact spec_Finish.mono _ _ _ _
   | exact spec_Learner.mono _ _ _ _ _ _
   | exact spec_l06Copy.mono _ _ _ _
   | exact LeO.none _
   | refine LeO.ite ?_ ?_
   | refine LeO.bind ?_ (fun _ => ?_)
theorem spec_PlayConf.mono : ∀ a0 a1 a2 a3 k, LeO (spec_PlayConf.f k a0 a1 a2 a3) (spec_PlayConf.f (k + 1) a0 a1 a2 a3) := by
 intro a0 a1 a2 a3 k
 obtain ⟨ih0, ih1⟩ := spec_PlayConf.mono_l k
 unfold spec_PlayConf.f
 repeat' first
     | (with_reducible exact ih0 _ _ _ _ _)
     | (with_reducible exact ih1 _ _ _ _ _ _)
     | (with_reducible exact spec_Begin.mono _ _ _ _ _)
     | (with_reducible exact spec_ConfOk.mono _ _ _ _)
     | (with_reducible exact spec_Finish.mono _ _ _ _)
     | (with_reducible exact spec_Learner.mono _ _ _ _ _ _)
     | (with_reducible exact spec_l06Copy.mono _ _ _ _)
     | (with_reducible exact LeO.refl _)
     | (with_reducible exact LeO.none _)
     | (with_reducible refine LeO.ite ?_ ?_)
     | (with_reducible refine LeO.bind ?_ (fun _ => ?_))
     | exact ih0 _ _ _ _ _
     | exact ih1 _ _ _ _ _ _
     | exact spec_Begin.mono _ _ _ _ _
     | exact spec_ConfOk.mono _ _ _ _
     | exact spec_Finish.mono _ _ _ _
     | exact spec_Learner.mono _ _ _ _ _ _
     | exact spec_l06Copy.mono _ _ _ _
     | exact LeO.none _
     | refine LeO.ite ?_ ?_
     | refine LeO.bind ?_ (fun _ => ?_)
def spec_PlayConf.T12 : Bool × List (List Nat × List Nat) := (true, [([], []), ([], []), ([], []), ([1, 2], [1, 2]), ([3], [3]), ([4], [4]), ([0, 5], [0, 5]), ([6], [6]), ([7], [7]), ([7], [7]), ([8, 6, 0, 1, 2, 3, 4, 5, 6, 7, 8], [8]), ([9, 10, 0, 1, 2, 3, 4, 5, 6, 7, 8, 9, 10], [9])])
def spec_PlayConf.B12 : List Nat := [0, 0, 0, 6, 14, 30, 63, 127, 255, 255, 511, 2047]
theorem spec_PlayConf.tab12 : rtab .any (opsOf Try.f31 12) = spec_PlayConf.T12 := by kernel_rfl
theorem spec_PlayConf.bits12 : waitsOk spec_PlayConf.T12.2 spec_PlayConf.B12 = true := by kernel_rfl
def spec_PlayConf.T16 : Bool × List (List Nat × List Nat) := (true, [([], []), ([], []), ([], []), ([1, 2], [1, 2]), ([3], [3]), ([4], [4]), ([0, 5], [0, 5]), ([6], [6]), ([7], [7]), ([7], [7]), ([8, 6, 0, 1, 2, 3, 4, 5, 6, 7, 8], [8]), ([9, 10, 0, 1, 2, 3, 4, 5, 6, 7, 8, 9, 10], [9])])
def spec_PlayConf.B16 : List Nat := [0, 0, 0, 6, 14, 30, 63, 127, 255, 255, 511, 2047]
theorem spec_PlayConf.tab16 : rtab .any (opsOf Try.f31 16) = spec_PlayConf.T16 := by kernel_rfl
theorem spec_PlayConf.bits16 : waitsOk spec_PlayConf.T16.2 spec_PlayConf.B16 = true := by kernel_rfl
def spec_PlayConf.T18 : Bool × List (List Nat × List Nat) := (true, [([], []), ([], []), ([], []), ([1, 2], [1, 2]), ([3], [3]), ([4], [4]), ([0, 5], [0, 5]), ([6], [6]), ([7], [7]), ([7], [7]), ([8, 6, 0, 1, 2, 3, 4, 5, 6, 7, 8], [8]), ([9, 10, 0, 1, 2, 3, 4, 5, 6, 7, 8, 9, 10], [9])])
def spec_PlayConf.B18 : List Nat := [0, 0, 0, 6, 14, 30, 63, 127, 255, 255, 511, 2047]
theorem spec_PlayConf.tab18 : rtab .any (opsOf Try.f31 18) = spec_PlayConf.T18 := by kernel_rfl
theorem spec_PlayConf.bits18 : waitsOk spec_PlayConf.T18.2 spec_PlayConf.B18 = true := by kernel_rfl
set_option maxHeartbeats 8000000 in
set_option maxRecDepth 100000 in
theorem spec_PlayConf.calls (k : Nat) (A0_0 : Option Addr) (c0_0 : Nat) (l0_0 : List Int) (A0_1 : Option Addr) (c0_1 : Nat) (l0_1 : List Int) (A0_2 : Option Addr) (c0_2 : Nat) (l0_2 : List Int) (A1 : Option Addr) (c1 : Nat) (l1 : List (S77)) (r1 : List Int) (r2 : List Int) (r3 : List Int) (r4 : List Bool) (w : World) (hr0_0 : Kd.C (Kd.int .i64) w A0_0 l0_0.length l0_0) (hc0_0 : l0_0.length ≤ c0_0) (hr0_1 : Kd.C (Kd.int .i64) w A0_1 l0_1.length l0_1) (hc0_1 : l0_1.length ≤ c0_1) (hr0_2 : Kd.C (Kd.int .i64) w A0_2 l0_2.length l0_2) (hc0_2 : l0_2.length ≤ c0_2) (hr1 : Kd.C k77 w A1 l1.length l1) (hc1 : l1.length ≤ c1) (h : spec_PlayConf.f k l0_0 l0_1 l0_2 l1 = some (r1, r2, r3, r4)) :
   Calls Try.prog 31 #[.agg #[.slice A0_0 l0_0.length c0_0, .slice A0_1 l0_1.length c0_1, .slice A0_2 l0_2.length c0_2], .slice A1 l1.length c1] w fun e w' => ∃ v0_ v1_ v2_ v3_ : Value, e = .returned (.tuple #[.agg #[v0_, v1_, v2_], v3_]) ∧ Kd.R (Kd.int .i64) 3 w' w.heap.size (fun k_ => some k_ ≠ (v1_ : Value).ownBlock ∧ some k_ ≠ (v2_ : Value).ownBlock) v0_ r1 ∧ Kd.R (Kd.int .i64) 3 w' w.heap.size (fun k_ => some k_ ≠ (v0_ : Value).ownBlock ∧ some k_ ≠ (v2_ : Value).ownBlock) v1_ r2 ∧ Kd.R (Kd.int .i64) 3 w' w.heap.size (fun k_ => some k_ ≠ (v0_ : Value).ownBlock ∧ some k_ ≠ (v1_ : Value).ownBlock) v2_ r3 ∧ Kd.R Kd.bool 4 w' w.heap.size (fun _ => True) v3_ r4 ∧ Below w.heap.size w w' := by
 have hu26 := Try.underlying26
 have HR0_0 := am hr0_0
 have HC0_0 := am hc0_0
 clear hr0_0 hc0_0
 have HR0_1 := am hr0_1
 have HC0_1 := am hc0_1
 clear hr0_1 hc0_1
 have HR0_2 := am hr0_2
 have HC0_2 := am hc0_2
 clear hr0_2 hc0_2
 have HR1 := am hr1
 have HC1 := am hc1
 clear hr1 hc1
 have HB := am (Below.refl w.heap.size w)
 have H : ((spec_ConfOk.f k l0_0 l0_1 l0_2).bind fun t292 => (if t292 = true then (spec_PlayConf.j0 k l1 (decide ((l1.length : Int) > 100)) l0_0 l0_1 l0_2) else (spec_PlayConf.j0 k l1 true l0_0 l0_1 l0_2))) = some (r1, r2, r3, r4) := h
 clear h
 have HC3 := am H
 clear H
 go_enter Try.func31, Try.ntmps31
 go_upto_region 1 with (first | ((with_reducible refine gate_dst (N := 2) rfl ?_); (try (refine gate_guard (by rfl) ?_; dsimp only)); refine box_event ?hg (N := 2) ?hd (cs := #[.slice A0_0 l0_0.length c0_0, .slice A0_1 l0_1.length c0_1, .slice A0_2 l0_2.length c0_2]) (t := 26) ?hr ?_; (case hd => rfl); (case hg => rfl); (case hr => first | (go_simp; done) | (go_simp; rfl)); intro gb290 hg w4 hbox hb; have BK290 := am (hbox); have GW290 := am ((by rw [hg]; exact (below_size Q6) : w.heap.size ≤ gb290)); have GE290 := am ((by rw [hg]; exact (below_size Q6) : w.heap.size ≤ gb290)); replace HB := am (below_step Q6 hb); clear hb hbox hg) | ((with_reducible refine gate_dst (N := 4) rfl ?_); (try (refine gate_guard (by rfl) ?_; dsimp only)); refine box_event ?hg (N := 4) ?hd (cs := #[.slice none 0 0, .slice none 0 0, .slice none 0 0]) (t := 26) ?hr ?_; (case hd => rfl); (case hg => rfl); (case hr => first | (go_simp; done) | (go_simp; rfl)); intro gb291 hg w5 hbox hb; have BK291 := am (hbox); have GW291 := am ((by rw [hg]; exact (below_size Q6) : w.heap.size ≤ gb291)); have GE291 := am ((by rw [hg]; exact (below_size Q6) : w.heap.size ≤ gb291)); replace HB := am (below_step Q6 hb); have NB290_291 := am ((by rw [hg]; exact Nat.ne_of_lt (blk_lt (g := gb290) (o := .cells #[.slice A0_0 l0_0.length c0_0, .slice A0_1 l0_1.length c0_1, .slice A0_2 l0_2.length c0_2] 26 (0, 0)) u7_8) : gb290 ≠ gb291)); have NB291_290 := am ((by rw [hg]; exact Nat.ne_of_gt (blk_lt (g := gb290) (o := .cells #[.slice A0_0 l0_0.length c0_0, .slice A0_1 l0_1.length c0_1, .slice A0_2 l0_2.length c0_2] 26 (0, 0)) u7_8) : gb291 ≠ gb290)); replace BK290 := am (bb_ BK290.out u7_8 hb); clear hb hbox hg))
 (try simp only [Act.put, la, lb, lc])
 go_cut [18] (fun v18 wc => ∃ (kq : Nat) (x18_2 : Bool), v18 = .bool x18_2 ∧ Aside0 (spec_PlayConf.j0 kq l1 x18_2 l0_0 l0_1 l0_2 = some (r1, r2, r3, r4)) ∧ Aside0 (kq ≤ k) ∧ Aside0 (wc.heap[gb290]? = some (.cells #[(.slice A0_0 l0_0.length c0_0), (.slice A0_1 l0_1.length c0_1), (.slice A0_2 l0_2.length c0_2)] 26 (0, 0))) ∧ Aside0 (wc.heap[gb291]? = some (.cells #[(.slice none 0 0), (.slice none 0 0), (.slice none 0 0)] 26 (0, 0))) ∧ Aside0 (Below w.heap.size w wc))
 case first =>
   have H := HC3.out
   clear HC3
   replace H := Option.bind_eq_some_iff.mp H
   obtain ⟨t292, A60, H⟩ := H
   have A6 := am A60
   clear A60
   by_cases c7 : t292 = true
   · subst c7
     rw [if_pos rfl] at H
     have H' := am H
     clear H
     have hnb8 := NB290_291.out
     have hnc8 := NB291_290.out
     obtain ⟨hcz9_0, hcz9_1, hcz9_2, hfz9_0, hfz9_1, hfz9_2⟩ := bc3f w5 BK290.out
     go_wp2_with (first | ((with_reducible refine gate_callee (f := 53) rfl ?_); refine goesL_ (some 12) rfl rfl Try.func53 kr rfl #[.agg #[.slice A0_0 l0_0.length c0_0, .slice A0_1 l0_1.length c0_1, .slice A0_2 l0_2.length c0_2]] rfl Q10 ?_; (with_reducible refine (spec_ConfOk.calls k _ _ l0_0 _ _ l0_1 _ _ l0_2 true _ ?side1 ?side2 ?side3 ?side4 ?side5 ?side6 A6.out).mono ?_); (case side1 => exact Q0); (case side2 => exact HC0_0.out); (case side3 => exact Q7); (case side4 => exact HC0_1.out); (case side5 => exact Q2); (case side6 => exact HC0_2.out); rintro e w10 ⟨rfl, hb⟩; refine ⟨_, rfl, ?_⟩; replace BK290 := am (bb_ BK290.out u7_8 hb); replace BK291 := am (bb_ BK291.out u7_9 hb); replace HB := am (below_step Q6 hb); (try clear hb); (try clear hb2); (try clear hk); (try clear hi)))
     go_meet
     case rel => exact ⟨_, (decide ((l1.length : Int) > 100)), Q9, H', ⟨by first | omega | exact Nat.le_refl _⟩, ⟨u7_8⟩, ⟨u7_9⟩, ⟨Q6⟩⟩
   replace c7 := Bool.eq_false_iff.mpr c7
   subst c7
   rw [nf] at H
   have H' := am H
   clear H
   have hnb11 := NB290_291.out
   have hnc11 := NB291_290.out
   obtain ⟨hcz12_0, hcz12_1, hcz12_2, hfz12_0, hfz12_1, hfz12_2⟩ := bc3f w5 BK290.out
   go_wp2_with (first | ((with_reducible refine gate_callee (f := 53) rfl ?_); refine goesL_ (some 12) rfl rfl Try.func53 kr rfl #[.agg #[.slice A0_0 l0_0.length c0_0, .slice A0_1 l0_1.length c0_1, .slice A0_2 l0_2.length c0_2]] rfl Q10 ?_; (with_reducible refine (spec_ConfOk.calls k _ _ l0_0 _ _ l0_1 _ _ l0_2 false _ ?side1 ?side2 ?side3 ?side4 ?side5 ?side6 A6.out).mono ?_); (case side1 => exact Q0); (case side2 => exact HC0_0.out); (case side3 => exact Q7); (case side4 => exact HC0_1.out); (case side5 => exact Q2); (case side6 => exact HC0_2.out); rintro e w13 ⟨rfl, hb⟩; refine ⟨_, rfl, ?_⟩; replace BK290 := am (bb_ BK290.out u7_8 hb); replace BK291 := am (bb_ BK291.out u7_9 hb); replace HB := am (below_step Q6 hb); (try clear hb); (try clear hb2); (try clear hk); (try clear hi)))
   go_meet
   case rel => exact ⟨_, (true), Q9, H', ⟨by first | omega | exact Nat.le_refl _⟩, ⟨u7_8⟩, ⟨u7_9⟩, ⟨Q6⟩⟩
 clear HC3
 try clear c1
 obtain ⟨kq, x18_2, rfl, HA, HJ2, BK290, BK291, HB⟩ := hcut
 cases kq with
 | zero => exact absurd HA.out (by simp [spec_PlayConf.j0])
 | succ kj2 =>
   have H := HA.out
   clear HA
   simp only [spec_PlayConf.j0] at H
   by_cases c14 : x18_2 = true
   · subst c14
     rw [if_pos rfl] at H
     replace H := Option.bind_eq_some_iff.mp H
     obtain ⟨⟨t293, t296, t299⟩, A150, H⟩ := H
     replace H : (some (t293, t296, t299, ([] : List Bool))) = some (r1, r2, r3, r4) := H
     have A15 := am A150
     clear A150
     simp only [Option.some.injEq, Prod.mk.injEq] at H
     obtain ⟨rfl, rfl, rfl, rfl⟩ := H
     have hnb16 := NB290_291.out
     have hnc16 := NB291_290.out
     obtain ⟨hcz17_0, hcz17_1, hcz17_2, hfz17_0, hfz17_1, hfz17_2⟩ := bc3f wc BK290.out
     go_wp2_with (first | ((with_reducible refine gate_callee (f := 55) rfl ?_); refine goesL_ (some 20) rfl rfl Try.func55 kr rfl #[.agg #[.slice A0_0 l0_0.length c0_0, .slice A0_1 l0_1.length c0_1, .slice A0_2 l0_2.length c0_2]] rfl Q10 ?_; (with_reducible refine (spec_l06Copy.calls kj2 _ _ l0_0 _ _ l0_1 _ _ l0_2 t293 t296 t299 _ ?side1 ?side2 ?side3 ?side4 ?side5 ?side6 A15.out).mono ?_); (case side1 => exact Q0); (case side2 => exact HC0_0.out); (case side3 => exact Q7); (case side4 => exact HC0_1.out); (case side5 => exact Q2); (case side6 => exact HC0_2.out); rintro e w18 ⟨v294, v297, v300, rfl, ho0, ho1, ho2, hb⟩; refine ⟨_, rfl, ?_⟩; have HO295 := am (Kd.R_lower ho0 (below_size Q6)); have HO298 := am (Kd.R_lower ho1 (below_size Q6)); have HO301 := am (Kd.R_lower ho2 (below_size Q6)); replace BK290 := am (bb_ BK290.out u7_8 hb); replace BK291 := am (bb_ BK291.out u7_9 hb); replace HB := am (below_step Q6 hb); (try clear hb); (try clear hb2); (try clear hk); (try clear hi); (try clear ho0); (try clear ho1); (try clear ho2); obtain ⟨Ao19, co19, eo19⟩ := Kd.R_slice HO295.out; subst eo19; obtain ⟨hcz20_0, hcz20_1, hcz20_2, hfz20_0, hfz20_1, hfz20_2⟩ := bc3f w18 BK291.out; obtain ⟨Ao21, co21, eo21⟩ := Kd.R_slice HO298.out; subst eo21; obtain ⟨Ao22, co22, eo22⟩ := Kd.R_slice HO301.out; subst eo22))
     refine bodyPost_ret (results_ct rfl _ _ gb291 26 #[.slice Ao19 t293.length co19, .slice Ao21 t296.length co21, .slice Ao22 t299.length co22] (0, 0) _ rfl (by (with_reducible repeat (first | apply b1_ | apply b2_ | apply b3_)); refine blk_put (cs := #[.slice Ao19 t293.length co19, .slice Ao21 t296.length co21, .slice none 0 0]) ?_ 2 _ rfl; (with_reducible repeat (first | apply b1_ | apply b2_ | apply b3_)); refine blk_put (cs := #[.slice Ao19 t293.length co19, .slice none 0 0, .slice none 0 0]) ?_ 1 _ rfl; (with_reducible repeat (first | apply b1_ | apply b2_ | apply b3_)); refine blk_put (cs := #[.slice none 0 0, .slice none 0 0, .slice none 0 0]) ?_ 0 _ rfl; (with_reducible repeat (first | apply b1_ | apply b2_ | apply b3_)); exact BK291.out) Try.underlying26 rfl kr) rfl ?_
     exact ⟨_, _, _, _, er, (by (with_reducible repeat (first | apply r1_ | apply r2_ | apply r3_)); exact Kd.R_mono (Kd.R_far (p := ⟨gb291, 2, none⟩) (Kd.R_far (p := ⟨gb291, 1, none⟩) (Kd.R_far (p := ⟨gb291, 0, none⟩) (Kd.R_types HO295.out BK291.out (by decide)) (fun _ hk => hk.2) (.slice Ao19 t293.length co19)) (fun _ hk => hk.2) (.slice Ao21 t296.length co21)) (fun _ hk => hk.2) (.slice Ao22 t299.length co22)) (fun _ hk => ⟨hk.1.1, hk.1.2⟩)), (by (with_reducible repeat (first | apply r1_ | apply r2_ | apply r3_)); exact Kd.R_mono (Kd.R_far (p := ⟨gb291, 2, none⟩) (Kd.R_far (p := ⟨gb291, 1, none⟩) (Kd.R_far (p := ⟨gb291, 0, none⟩) (Kd.R_types HO298.out BK291.out (by decide)) (fun _ hk => hk.2) (.slice Ao19 t293.length co19)) (fun _ hk => hk.2) (.slice Ao21 t296.length co21)) (fun _ hk => hk.2) (.slice Ao22 t299.length co22)) (fun _ hk => ⟨hk.1.1, hk.1.2⟩)), (by (with_reducible repeat (first | apply r1_ | apply r2_ | apply r3_)); exact Kd.R_mono (Kd.R_far (p := ⟨gb291, 2, none⟩) (Kd.R_far (p := ⟨gb291, 1, none⟩) (Kd.R_far (p := ⟨gb291, 0, none⟩) (Kd.R_types HO301.out BK291.out (by decide)) (fun _ hk => hk.2) (.slice Ao19 t293.length co19)) (fun _ hk => hk.2) (.slice Ao21 t296.length co21)) (fun _ hk => hk.2) (.slice Ao22 t299.length co22)) (fun _ hk => ⟨hk.1.1, hk.1.2⟩)), (by first | exact Kd.R_nil _ _ _ _ _ | exact Kd.N_nil _ _ _ _ _ | exact Kd.V_nil _ _ _ _ _ | exact Kd.Q_nil _ _ _ _ _ | exact Kd.S_nil _ _ _ _ _), Q6⟩
   replace c14 := Bool.eq_false_iff.mpr c14
   subst c14
   rw [nf] at H
   replace H := Option.bind_eq_some_iff.mp H
   obtain ⟨⟨t302, t305, t308⟩, A230, H⟩ := H
   replace H : (spec_PlayConf.l0 kj2 l1 (([] : List Bool)) 0 t302 t305 t308) = some (r1, r2, r3, r4) := H
   have A23 := am A230
   clear A230
   obtain ⟨y312, hy312⟩ : ∃ y_ : List Bool, y_ = (([] : List Bool)) := ⟨_, rfl⟩
   replace H : (spec_PlayConf.l0 kj2 l1 y312 0 t302 t305 t308) = some (r1, r2, r3, r4) := by first | (rw [hy312]; with_reducible exact H) | (have H2_ := (Option.bind_some _ _).symm.trans H; rw [hy312]; with_reducible exact H2_) | (have H2_ := (Option.bind_some _ _).symm.trans H; with_reducible exact H2_) | with_reducible exact H | (rw [hy312]; exact H) | exact H
   have Ny312 := am hy312
   clear hy312
   have H' := am H
   clear H
   have hnb24 := NB290_291.out
   have hnc24 := NB291_290.out
   obtain ⟨hcz25_0, hcz25_1, hcz25_2, hfz25_0, hfz25_1, hfz25_2⟩ := bc3f wc BK290.out
   go_wp2_with (first | ((with_reducible refine gate_callee (f := 55) rfl ?_); refine goesL_ (some 22) rfl rfl Try.func55 kr rfl #[.agg #[.slice A0_0 l0_0.length c0_0, .slice A0_1 l0_1.length c0_1, .slice A0_2 l0_2.length c0_2]] rfl Q10 ?_; (with_reducible refine (spec_l06Copy.calls kj2 _ _ l0_0 _ _ l0_1 _ _ l0_2 t302 t305 t308 _ ?side1 ?side2 ?side3 ?side4 ?side5 ?side6 A23.out).mono ?_); (case side1 => exact Q0); (case side2 => exact HC0_0.out); (case side3 => exact Q7); (case side4 => exact HC0_1.out); (case side5 => exact Q2); (case side6 => exact HC0_2.out); rintro e w26 ⟨v303, v306, v309, rfl, ho0, ho1, ho2, hb⟩; refine ⟨_, rfl, ?_⟩; have HO304 := am (Kd.R_lower ho0 (below_size Q6)); have HO307 := am (Kd.R_lower ho1 (below_size Q6)); have HO310 := am (Kd.R_lower ho2 (below_size Q6)); replace BK290 := am (bb_ BK290.out u7_8 hb); replace BK291 := am (bb_ BK291.out u7_9 hb); replace HB := am (below_step Q6 hb); (try clear hb); (try clear hb2); (try clear hk); (try clear hi); (try clear ho0); (try clear ho1); (try clear ho2)) | ((with_reducible refine gate_dst (N := 6) rfl ?_); (try (refine gate_guard (by rfl) ?_; dsimp only)); refine box_event ?hg (N := 6) ?hd (cs := #[.slice none 0 0, .slice none 0 0, .slice none 0 0]) (t := 26) ?hr ?_; (case hd => rfl); (case hg => rfl); (case hr => first | (go_simp; done) | (go_simp; rfl)); intro gb311 hg w27 hbox hb; replace HO304 := am (Kd.R_below u7_47 hb); replace HO307 := am (Kd.R_below u7_48 hb); replace HO310 := am (Kd.R_below u7_49 hb); have BK311 := am (hbox); have GW311 := am ((by rw [hg]; exact (below_size Q6) : w.heap.size ≤ gb311)); have GE311 := am ((by rw [hg]; exact (below_size Q6) : w.heap.size ≤ gb311)); replace HB := am (below_step Q6 hb); have NB290_311 := am ((by rw [hg]; exact Nat.ne_of_lt (blk_lt (g := gb290) (o := .cells #[.slice A0_0 l0_0.length c0_0, .slice A0_1 l0_1.length c0_1, .slice A0_2 l0_2.length c0_2] 26 (0, 0)) u7_8) : gb290 ≠ gb311)); have NB311_290 := am ((by rw [hg]; exact Nat.ne_of_gt (blk_lt (g := gb290) (o := .cells #[.slice A0_0 l0_0.length c0_0, .slice A0_1 l0_1.length c0_1, .slice A0_2 l0_2.length c0_2] 26 (0, 0)) u7_8) : gb311 ≠ gb290)); replace BK290 := am (bb_ BK290.out u7_8 hb); have NB291_311 := am ((by rw [hg]; exact Nat.ne_of_lt (blk_lt (g := gb291) (o := .cells #[.slice none 0 0, .slice none 0 0, .slice none 0 0] 26 (0, 0)) u7_9) : gb291 ≠ gb311)); have NB311_291 := am ((by rw [hg]; exact Nat.ne_of_gt (blk_lt (g := gb291) (o := .cells #[.slice none 0 0, .slice none 0 0, .slice none 0 0] 26 (0, 0)) u7_9) : gb311 ≠ gb291)); replace BK291 := am (bb_ BK291.out u7_9 hb); clear hb hbox hg; obtain ⟨Ao28, co28, eo28⟩ := Kd.R_slice HO304.out; subst eo28; have hnb29 := NB311_290.out; have hnc29 := NB290_311.out; have hnb30 := NB311_291.out; have hnc30 := NB291_311.out; obtain ⟨hcz31_0, hcz31_1, hcz31_2, hfz31_0, hfz31_1, hfz31_2⟩ := bc3f w27 BK311.out; obtain ⟨Ao32, co32, eo32⟩ := Kd.R_slice HO307.out; subst eo32; obtain ⟨Ao33, co33, eo33⟩ := Kd.R_slice HO310.out; subst eo33) | ((with_reducible refine gate_dst (N := 23) rfl ?_); (try (refine gate_guard (by rfl) ?_; dsimp only)); refine Kd.R_lit Kd.bool _ 4 ?hg (N := 23) ?hd (xs := ([] : List Bool)) (inner := []) (ok := fun _ => True) (okp := fun _ => True) ?hr ?hp (fun _ hk => hk) trivial (Below.refl _ _) (Nat.le_refl _) (by simp) ?_; (case hd => rfl); (case hg => rfl); (case hr => first | (go_simp; done) | (go_simp; rfl)); (case hp => exact (Reps.none _ _)); intro v313 w34 ho35 hb hg_ hnew_; clear hg_ hnew_; (first | rw [← Ny312.out] at ho35 | (simp only [Int.reduceToNat] at ho35; rw [← Ny312.out] at ho35)); replace HO304 := am (Kd.R_below (by (with_reducible repeat (first | apply r1_ | apply r2_ | apply r3_)); exact (Kd.R_mono (Kd.R_far (p := ⟨gb311, 2, none⟩) (Kd.R_far (p := ⟨gb311, 1, none⟩) (Kd.R_far (p := ⟨gb311, 0, none⟩) (Kd.R_types HO304.out BK311.out (by decide)) (fun _ hk => hk.2) (.slice Ao28 t302.length co28)) (fun _ hk => hk.2) (.slice Ao32 t305.length co32)) (fun _ hk => hk.2) (.slice Ao33 t308.length co33)) (fun _ h_ => h_.1))) hb); replace HO307 := am (Kd.R_below (by (with_reducible repeat (first | apply r1_ | apply r2_ | apply r3_)); exact (Kd.R_mono (Kd.R_far (p := ⟨gb311, 2, none⟩) (Kd.R_far (p := ⟨gb311, 1, none⟩) (Kd.R_far (p := ⟨gb311, 0, none⟩) (Kd.R_types HO307.out BK311.out (by decide)) (fun _ hk => hk.2) (.slice Ao28 t302.length co28)) (fun _ hk => hk.2) (.slice Ao32 t305.length co32)) (fun _ hk => hk.2) (.slice Ao33 t308.length co33)) (fun _ h_ => h_.1))) hb); replace HO310 := am (Kd.R_below (by (with_reducible repeat (first | apply r1_ | apply r2_ | apply r3_)); exact (Kd.R_mono (Kd.R_far (p := ⟨gb311, 2, none⟩) (Kd.R_far (p := ⟨gb311, 1, none⟩) (Kd.R_far (p := ⟨gb311, 0, none⟩) (Kd.R_types HO310.out BK311.out (by decide)) (fun _ hk => hk.2) (.slice Ao28 t302.length co28)) (fun _ hk => hk.2) (.slice Ao32 t305.length co32)) (fun _ hk => hk.2) (.slice Ao33 t308.length co33)) (fun _ h_ => h_.1))) hb); have HO314 := am (Kd.R_lower ho35 (below_size Q6)); replace BK290 := am (blk_below (g := gb290) (o := .cells #[.slice A0_0 l0_0.length c0_0, .slice A0_1 l0_1.length c0_1, .slice A0_2 l0_2.length c0_2] 26 (0, 0)) (by (with_reducible repeat (first | apply b1_ | apply b2_ | apply b3_)); refine blk_far ?_ NB290_311.out _; (with_reducible repeat (first | apply b1_ | apply b2_ | apply b3_)); refine blk_far ?_ NB290_311.out _; (with_reducible repeat (first | apply b1_ | apply b2_ | apply b3_)); refine blk_far ?_ NB290_311.out _; (with_reducible repeat (first | apply b1_ | apply b2_ | apply b3_)); exact BK290.out) hb); replace BK291 := am (blk_below (g := gb291) (o := .cells #[.slice none 0 0, .slice none 0 0, .slice none 0 0] 26 (0, 0)) (by (with_reducible repeat (first | apply b1_ | apply b2_ | apply b3_)); refine blk_far ?_ NB291_311.out _; (with_reducible repeat (first | apply b1_ | apply b2_ | apply b3_)); refine blk_far ?_ NB291_311.out _; (with_reducible repeat (first | apply b1_ | apply b2_ | apply b3_)); refine blk_far ?_ NB291_311.out _; (with_reducible repeat (first | apply b1_ | apply b2_ | apply b3_)); exact BK291.out) hb); replace BK311 := am (blk_below (g := gb311) (o := .cells #[.slice Ao28 t302.length co28, .slice Ao32 t305.length co32, .slice Ao33 t308.length co33] 26 (0, 0)) (by (with_reducible repeat (first | apply b1_ | apply b2_ | apply b3_)); refine blk_put (cs := #[.slice Ao28 t302.length co28, .slice Ao32 t305.length co32, .slice none 0 0]) ?_ 2 _ rfl; (with_reducible repeat (first | apply b1_ | apply b2_ | apply b3_)); refine blk_put (cs := #[.slice Ao28 t302.length co28, .slice none 0 0, .slice none 0 0]) ?_ 1 _ rfl; (with_reducible repeat (first | apply b1_ | apply b2_ | apply b3_)); refine blk_put (cs := #[.slice none 0 0, .slice none 0 0, .slice none 0 0]) ?_ 0 _ rfl; (with_reducible repeat (first | apply b1_ | apply b2_ | apply b3_)); exact BK311.out) hb); replace HB := am (below_step Q6 hb); clear hb ho35))
   go_loopg [7, 8] kj2 (fun kq v7 v8 w' => ∃ (x7_2 : List Bool) (x8_2 : Int) (x312000_2 : List Int) (x312001_2 : List Int) (x312002_2 : List Int) (u312000 : Value) (u312001 : Value) (u312002 : Value), v8 = .int .i64 x8_2 ∧ Aside0 (spec_PlayConf.l0 kq l1 x7_2 x8_2 x312000_2 x312001_2 x312002_2 = some (r1, r2, r3, r4)) ∧ Aside0 (kq ≤ kj2) ∧ Aside0 (Kd.R Kd.bool 4 w' w.heap.size (fun _ => True) v7 x7_2) ∧ Aside0 (Kd.R (Kd.int .i64) 3 w' w.heap.size (fun k_ => some k_ ≠ (u312001 : Value).ownBlock ∧ some k_ ≠ (u312002 : Value).ownBlock) u312000 x312000_2) ∧ Aside0 (Kd.R (Kd.int .i64) 3 w' w.heap.size (fun k_ => some k_ ≠ (u312000 : Value).ownBlock ∧ some k_ ≠ (u312002 : Value).ownBlock) u312001 x312001_2) ∧ Aside0 (Kd.R (Kd.int .i64) 3 w' w.heap.size (fun k_ => some k_ ≠ (u312000 : Value).ownBlock ∧ some k_ ≠ (u312001 : Value).ownBlock) u312002 x312002_2) ∧ Aside0 (w'.heap[gb290]? = some (.cells #[(.slice A0_0 l0_0.length c0_0), (.slice A0_1 l0_1.length c0_1), (.slice A0_2 l0_2.length c0_2)] 26 (0, 0))) ∧ Aside0 (w'.heap[gb291]? = some (.cells #[(.slice none 0 0), (.slice none 0 0), (.slice none 0 0)] 26 (0, 0))) ∧ Aside0 (w'.heap[gb311]? = some (.cells #[u312000, u312001, u312002] 26 (0, 0))) ∧ Aside0 (Below w.heap.size w w'))
   case atStart => exact ⟨(y312), (0), (t302), (t305), (t308), (.slice Ao28 t302.length co28), (.slice Ao32 t305.length co32), (.slice Ao33 t308.length co33), Q9, H', ⟨Nat.le_refl _⟩, ⟨(by (with_reducible repeat (first | apply r1_ | apply r2_ | apply r3_)); exact HO314.out)⟩, ⟨u7_47⟩, ⟨u7_48⟩, ⟨u7_49⟩, ⟨u7_8⟩, ⟨u7_9⟩, ⟨u7_27⟩, ⟨Q6⟩⟩
   clear H'
   try clear c1
   try clear c14
   try clear hcz25_0
   try clear hcz25_1
   try clear hcz25_2
   try clear hcz31_0
   try clear hcz31_1
   try clear hcz31_2
   try clear hfz25_0
   try clear hfz25_1
   try clear hfz25_2
   try clear hfz31_0
   try clear hfz31_1
   try clear hfz31_2
   obtain ⟨x7_2, x8_2, x312000_2, x312001_2, x312002_2, u312000, u312001, u312002, rfl, HA, HK2, HO_7, HO_312000, HO_312001, HO_312002, BK290, BK291, BK311, HB⟩ := hrel
   cases gk with
   | zero => exact absurd HA.out (by simp [spec_PlayConf.l0])
   | succ k2 =>
     have H := HA.out
     clear HA
     simp only [spec_PlayConf.l0] at H
     by_cases c36 : x8_2 < (l1.length : Int)
     rotate_left
     · rw [if_neg c36] at H
       have c36b0 : decide (x8_2 < (l1.length : Int)) = false := decide_eq_false c36
       clear c36
       simp only [Option.some.injEq, Prod.mk.injEq] at H
       obtain ⟨rfl, rfl, rfl, rfl⟩ := H
       have hnb134 := NB311_290.out
       have hnc134 := NB290_311.out
       have hnb135 := NB311_291.out
       have hnc135 := NB291_311.out
       obtain ⟨hcz136_0, hcz136_1, hcz136_2, hfz136_0, hfz136_1, hfz136_2⟩ := bc3f wr BK311.out
       obtain ⟨Ao137, co137, eo137⟩ := Kd.R_slice HO_312000.out
       subst eo137
       have hnb138 := NB291_290.out
       have hnc138 := NB290_291.out
       obtain ⟨hcz139_0, hcz139_1, hcz139_2, hfz139_0, hfz139_1, hfz139_2⟩ := bc3f wr BK291.out
       obtain ⟨Ao140, co140, eo140⟩ := Kd.R_slice HO_312001.out
       subst eo140
       obtain ⟨Ao141, co141, eo141⟩ := Kd.R_slice HO_312002.out
       subst eo141
       go_wp2
       refine bodyPost_ret (results_ct rfl _ _ gb291 26 #[.slice Ao137 x312000_2.length co137, .slice Ao140 x312001_2.length co140, .slice Ao141 x312002_2.length co141] (0, 0) _ rfl (by (with_reducible repeat (first | apply b1_ | apply b2_ | apply b3_)); refine blk_put (cs := #[.slice Ao137 x312000_2.length co137, .slice Ao140 x312001_2.length co140, .slice none 0 0]) ?_ 2 _ rfl; (with_reducible repeat (first | apply b1_ | apply b2_ | apply b3_)); refine blk_put (cs := #[.slice Ao137 x312000_2.length co137, .slice none 0 0, .slice none 0 0]) ?_ 1 _ rfl; (with_reducible repeat (first | apply b1_ | apply b2_ | apply b3_)); refine blk_put (cs := #[.slice none 0 0, .slice none 0 0, .slice none 0 0]) ?_ 0 _ rfl; (with_reducible repeat (first | apply b1_ | apply b2_ | apply b3_)); exact BK291.out) Try.underlying26 rfl kr) rfl ?_
       exact ⟨_, _, _, _, er, (by (with_reducible repeat (first | apply r1_ | apply r2_ | apply r3_)); exact Kd.R_mono (Kd.R_far (p := ⟨gb291, 2, none⟩) (Kd.R_far (p := ⟨gb291, 1, none⟩) (Kd.R_far (p := ⟨gb291, 0, none⟩) (Kd.R_types HO_312000.out BK291.out (by decide)) (fun _ hk => hk.2) (.slice Ao137 x312000_2.length co137)) (fun _ hk => hk.2) (.slice Ao140 x312001_2.length co140)) (fun _ hk => hk.2) (.slice Ao141 x312002_2.length co141)) (fun _ hk => ⟨hk.1.1, hk.1.2⟩)), (by (with_reducible repeat (first | apply r1_ | apply r2_ | apply r3_)); exact Kd.R_mono (Kd.R_far (p := ⟨gb291, 2, none⟩) (Kd.R_far (p := ⟨gb291, 1, none⟩) (Kd.R_far (p := ⟨gb291, 0, none⟩) (Kd.R_types HO_312001.out BK291.out (by decide)) (fun _ hk => hk.2) (.slice Ao137 x312000_2.length co137)) (fun _ hk => hk.2) (.slice Ao140 x312001_2.length co140)) (fun _ hk => hk.2) (.slice Ao141 x312002_2.length co141)) (fun _ hk => ⟨hk.1.1, hk.1.2⟩)), (by (with_reducible repeat (first | apply r1_ | apply r2_ | apply r3_)); exact Kd.R_mono (Kd.R_far (p := ⟨gb291, 2, none⟩) (Kd.R_far (p := ⟨gb291, 1, none⟩) (Kd.R_far (p := ⟨gb291, 0, none⟩) (Kd.R_types HO_312002.out BK291.out (by decide)) (fun _ hk => hk.2) (.slice Ao137 x312000_2.length co137)) (fun _ hk => hk.2) (.slice Ao140 x312001_2.length co140)) (fun _ hk => hk.2) (.slice Ao141 x312002_2.length co141)) (fun _ hk => ⟨hk.1.1, hk.1.2⟩)), (by (with_reducible repeat (first | apply r1_ | apply r2_ | apply r3_)); exact Kd.R_mono (Kd.R_far (p := ⟨gb291, 2, none⟩) (Kd.R_far (p := ⟨gb291, 1, none⟩) (Kd.R_far (p := ⟨gb291, 0, none⟩) (Kd.R_types HO_7.out BK291.out (by decide)) (fun _ hk => hk.2) (.slice Ao137 x312000_2.length co137)) (fun _ hk => hk.2) (.slice Ao140 x312001_2.length co140)) (fun _ hk => hk.2) (.slice Ao141 x312002_2.length co141)) (fun _ hk => trivial)), Q6⟩
     rw [if_pos c36] at H
     have c36b0 : decide (x8_2 < (l1.length : Int)) = true := decide_eq_true c36
     clear c36
     by_cases c37 : 0 ≤ x8_2
     rotate_left
     · rw [if_neg c37] at H
       exact absurd H (by simp)
     rw [if_pos c37] at H
     have c37b0 : decide (0 ≤ x8_2) = true := decide_eq_true c37
     clear c37
     have H9 := am H
     clear H
     have hnb38 := NB311_290.out
     have hnc38 := NB290_311.out
     have hnb39 := NB311_291.out
     have hnc39 := NB291_311.out
     obtain ⟨hcz40_0, hcz40_1, hcz40_2, hfz40_0, hfz40_1, hfz40_2⟩ := bc3f wr BK311.out
     go_upto_if 36 with (first | ((with_reducible refine gate_dst (N := 10) rfl ?_); (try (refine gate_guard (by rfl) ?_; dsimp only)); refine box_event ?hg (N := 10) ?hd (cs := #[.slice none 0 0, .slice none 0 0, .slice none 0 0]) (t := 26) ?hr ?_; (case hd => rfl); (case hg => rfl); (case hr => first | (go_simp; done) | (go_simp; rfl)); intro gb315 hg w41 hbox hb; replace HO_7 := am (Kd.R_below u7_37 hb); replace HO_312000 := am (Kd.R_below u7_14 hb); replace HO_312001 := am (Kd.R_below u7_15 hb); replace HO_312002 := am (Kd.R_below u7_16 hb); have BK315 := am (hbox); have GW315 := am ((by rw [hg]; exact (below_size Q6) : w.heap.size ≤ gb315)); have GE315 := am ((by rw [hg]; exact (below_size Q6) : w.heap.size ≤ gb315)); replace HB := am (below_step Q6 hb); have NB290_315 := am ((by rw [hg]; exact Nat.ne_of_lt (blk_lt (g := gb290) (o := .cells #[.slice A0_0 l0_0.length c0_0, .slice A0_1 l0_1.length c0_1, .slice A0_2 l0_2.length c0_2] 26 (0, 0)) u7_8) : gb290 ≠ gb315)); have NB315_290 := am ((by rw [hg]; exact Nat.ne_of_gt (blk_lt (g := gb290) (o := .cells #[.slice A0_0 l0_0.length c0_0, .slice A0_1 l0_1.length c0_1, .slice A0_2 l0_2.length c0_2] 26 (0, 0)) u7_8) : gb315 ≠ gb290)); replace BK290 := am (bb_ BK290.out u7_8 hb); have NB291_315 := am ((by rw [hg]; exact Nat.ne_of_lt (blk_lt (g := gb291) (o := .cells #[.slice none 0 0, .slice none 0 0, .slice none 0 0] 26 (0, 0)) u7_9) : gb291 ≠ gb315)); have NB315_291 := am ((by rw [hg]; exact Nat.ne_of_gt (blk_lt (g := gb291) (o := .cells #[.slice none 0 0, .slice none 0 0, .slice none 0 0] 26 (0, 0)) u7_9) : gb315 ≠ gb291)); replace BK291 := am (bb_ BK291.out u7_9 hb); have NB311_315 := am ((by rw [hg]; exact Nat.ne_of_lt (blk_lt (g := gb311) (o := .cells #[u312000, u312001, u312002] 26 (0, 0)) u7_27) : gb311 ≠ gb315)); have NB315_311 := am ((by rw [hg]; exact Nat.ne_of_gt (blk_lt (g := gb311) (o := .cells #[u312000, u312001, u312002] 26 (0, 0)) u7_27) : gb315 ≠ gb311)); replace BK311 := am (bb_ BK311.out u7_27 hb); clear hb hbox hg; obtain ⟨Ao42, co42, eo42⟩ := Kd.R_slice HO_312000.out; subst eo42; have hnb43 := NB315_290.out; have hnc43 := NB290_315.out; have hnb44 := NB315_291.out; have hnc44 := NB291_315.out; have hnb45 := NB315_311.out; have hnc45 := NB311_315.out; obtain ⟨hcz46_0, hcz46_1, hcz46_2, hfz46_0, hfz46_1, hfz46_2⟩ := bc3f w41 BK315.out; obtain ⟨Ao47, co47, eo47⟩ := Kd.R_slice HO_312001.out; subst eo47; obtain ⟨Ao48, co48, eo48⟩ := Kd.R_slice HO_312002.out; subst eo48; have p316 : 0 ≤ (x8_2 : Int) := of_decide_eq_true Q5; have q316 : x8_2 < (l1.length : Int) := of_decide_eq_true Q5; obtain ⟨ad316, A316_2, c316_2, e316, hx316_0, hx316_1, hx316_2, hl316_2, hi316_2⟩ := at_T77 HR1.out x8_2 p316 q316; cases e316; have hn316_0 : ad316.block ≠ gb315 := Nat.ne_of_lt (Nat.lt_of_lt_of_le u7_44 GW315.out); have hn316_1 : ad316.block ≠ gb315 := Nat.ne_of_lt (Nat.lt_of_lt_of_le u7_44 GW315.out); have hn316_2 : ad316.block ≠ gb315 := Nat.ne_of_lt (Nat.lt_of_lt_of_le u7_44 GW315.out); replace hx316_0 := cm HB.out hx316_0; replace hx316_1 := cm HB.out hx316_1; replace hx316_2 := cm HB.out hx316_2; have HR316_2 := am hi316_2; have HC316_2 := am hl316_2; clear hi316_2 hl316_2; replace hx316_0 := (cell_far (p := ⟨gb315, 0, none⟩) u7_40 (.slice Ao42 x312000_2.length co42)).trans hx316_0; replace hx316_1 := (cell_far (p := ⟨gb315, 0, none⟩) u7_40 (.slice Ao42 x312000_2.length co42)).trans hx316_1; replace hx316_2 := (cell_far (p := ⟨gb315, 0, none⟩) u7_40 (.slice Ao42 x312000_2.length co42)).trans hx316_2; replace hx316_0 := (cell_far (p := ⟨gb315, 1, none⟩) u7_41 (.slice Ao47 x312001_2.length co47)).trans hx316_0; replace hx316_1 := (cell_far (p := ⟨gb315, 1, none⟩) u7_41 (.slice Ao47 x312001_2.length co47)).trans hx316_1; replace hx316_2 := (cell_far (p := ⟨gb315, 1, none⟩) u7_41 (.slice Ao47 x312001_2.length co47)).trans hx316_2; replace hx316_0 := (cell_far (p := ⟨gb315, 2, none⟩) u7_42 (.slice Ao48 x312002_2.length co48)).trans hx316_0; replace hx316_1 := (cell_far (p := ⟨gb315, 2, none⟩) u7_42 (.slice Ao48 x312002_2.length co48)).trans hx316_1; replace hx316_2 := (cell_far (p := ⟨gb315, 2, none⟩) u7_42 (.slice Ao48 x312002_2.length co48)).trans hx316_2; clear hn316_0; clear hn316_1; clear hn316_2; replace p316 := eq_true p316; replace q316 := eq_true q316))
     have H := H9.out
     clear H9
     by_cases c49 : ((rd_T77 l1 x8_2).f0) = 0
     · rw [if_pos c49] at H
       have c49b0 : (((rd_T77 l1 x8_2).f0) == 0) = true := beq_iff_eq.mpr c49
       have c49b1 : (((rd_T77 l1 x8_2).f0) != 0) = false := bne_eq_false_iff_eq.mpr c49
       clear c49
       (first | rw [c49b0] | (simp only [i64_w, i32_w]; rw [c49b0]) | skip)
       replace H := Option.bind_eq_some_iff.mp H
       obtain ⟨⟨t318, t321, t324, t327⟩, A500, H⟩ := H
       (try dsimp only at H)
       have A50 := am A500
       clear A500
       by_cases c51 : x7_2.length < 140737488355328
       rotate_left
       · rw [if_neg c51] at H
         exact absurd H (by simp)
       rw [if_pos c51] at H
       have LMc51 := am c51
       clear c51
       obtain ⟨y328, hy328⟩ : ∃ y_ : List Bool, y_ = (x7_2 ++ [t327]) := ⟨_, rfl⟩
       replace H : (spec_PlayConf.l0 k2 l1 y328 (wrap64 (x8_2 + 1)) t318 t321 t324) = some (r1, r2, r3, r4) := by first | (rw [hy328]; with_reducible exact H) | (have H2_ := (Option.bind_some _ _).symm.trans H; rw [hy328]; with_reducible exact H2_) | (have H2_ := (Option.bind_some _ _).symm.trans H; with_reducible exact H2_) | with_reducible exact H | (rw [hy328]; exact H) | exact H
       have Ny328 := am hy328
       clear hy328
       have H' := am H
       clear H
       try go_wp2
       have n0_ : Aside0 (Kd.R Kd.bool 4 (((w41.setCell ⟨gb315, 0, none⟩ (.slice Ao42 x312000_2.length co42)).setCell ⟨gb315, 1, none⟩ (.slice Ao47 x312001_2.length co47)).setCell ⟨gb315, 2, none⟩ (.slice Ao48 x312002_2.length co48)) w.heap.size (fun _ => True) u7 x7_2) := ⟨by (with_reducible repeat (first | apply r1_ | apply r2_ | apply r3_)); exact Kd.R_mono (Kd.R_far (p := ⟨gb315, 2, none⟩) (Kd.R_far (p := ⟨gb315, 1, none⟩) (Kd.R_far (p := ⟨gb315, 0, none⟩) (Kd.R_types HO_7.out BK315.out (by decide)) (fun _ hk => hk.2) (.slice Ao42 x312000_2.length co42)) (fun _ hk => hk.2) (.slice Ao47 x312001_2.length co47)) (fun _ hk => hk.2) (.slice Ao48 x312002_2.length co48)) (fun _ hk => trivial)⟩
       have n1_ : Aside0 (Kd.R (Kd.int .i64) 3 (((w41.setCell ⟨gb315, 0, none⟩ (.slice Ao42 x312000_2.length co42)).setCell ⟨gb315, 1, none⟩ (.slice Ao47 x312001_2.length co47)).setCell ⟨gb315, 2, none⟩ (.slice Ao48 x312002_2.length co48)) w.heap.size (fun k_ => some k_ ≠ (.slice Ao47 x312001_2.length co47 : Value).ownBlock ∧ some k_ ≠ (.slice Ao48 x312002_2.length co48 : Value).ownBlock) (.slice Ao42 x312000_2.length co42) x312000_2) := ⟨by (with_reducible repeat (first | apply r1_ | apply r2_ | apply r3_)); exact Kd.R_mono (Kd.R_far (p := ⟨gb315, 2, none⟩) (Kd.R_far (p := ⟨gb315, 1, none⟩) (Kd.R_far (p := ⟨gb315, 0, none⟩) (Kd.R_types HO_312000.out BK315.out (by decide)) (fun _ hk => hk.2) (.slice Ao42 x312000_2.length co42)) (fun _ hk => hk.2) (.slice Ao47 x312001_2.length co47)) (fun _ hk => hk.2) (.slice Ao48 x312002_2.length co48)) (fun _ hk => ⟨hk.1.1, hk.1.2⟩)⟩
       have n2_ : Aside0 (Kd.R (Kd.int .i64) 3 (((w41.setCell ⟨gb315, 0, none⟩ (.slice Ao42 x312000_2.length co42)).setCell ⟨gb315, 1, none⟩ (.slice Ao47 x312001_2.length co47)).setCell ⟨gb315, 2, none⟩ (.slice Ao48 x312002_2.length co48)) w.heap.size (fun k_ => some k_ ≠ (.slice Ao42 x312000_2.length co42 : Value).ownBlock ∧ some k_ ≠ (.slice Ao48 x312002_2.length co48 : Value).ownBlock) (.slice Ao47 x312001_2.length co47) x312001_2) := ⟨by (with_reducible repeat (first | apply r1_ | apply r2_ | apply r3_)); exact Kd.R_mono (Kd.R_far (p := ⟨gb315, 2, none⟩) (Kd.R_far (p := ⟨gb315, 1, none⟩) (Kd.R_far (p := ⟨gb315, 0, none⟩) (Kd.R_types HO_312001.out BK315.out (by decide)) (fun _ hk => hk.2) (.slice Ao42 x312000_2.length co42)) (fun _ hk => hk.2) (.slice Ao47 x312001_2.length co47)) (fun _ hk => hk.2) (.slice Ao48 x312002_2.length co48)) (fun _ hk => ⟨hk.1.1, hk.1.2⟩)⟩
       have n3_ : Aside0 (Kd.R (Kd.int .i64) 3 (((w41.setCell ⟨gb315, 0, none⟩ (.slice Ao42 x312000_2.length co42)).setCell ⟨gb315, 1, none⟩ (.slice Ao47 x312001_2.length co47)).setCell ⟨gb315, 2, none⟩ (.slice Ao48 x312002_2.length co48)) w.heap.size (fun k_ => some k_ ≠ (.slice Ao42 x312000_2.length co42 : Value).ownBlock ∧ some k_ ≠ (.slice Ao47 x312001_2.length co47 : Value).ownBlock) (.slice Ao48 x312002_2.length co48) x312002_2) := ⟨by (with_reducible repeat (first | apply r1_ | apply r2_ | apply r3_)); exact Kd.R_mono (Kd.R_far (p := ⟨gb315, 2, none⟩) (Kd.R_far (p := ⟨gb315, 1, none⟩) (Kd.R_far (p := ⟨gb315, 0, none⟩) (Kd.R_types HO_312002.out BK315.out (by decide)) (fun _ hk => hk.2) (.slice Ao42 x312000_2.length co42)) (fun _ hk => hk.2) (.slice Ao47 x312001_2.length co47)) (fun _ hk => hk.2) (.slice Ao48 x312002_2.length co48)) (fun _ hk => ⟨hk.1.1, hk.1.2⟩)⟩
       have n4_ : Aside0 ((((w41.setCell ⟨gb315, 0, none⟩ (.slice Ao42 x312000_2.length co42)).setCell ⟨gb315, 1, none⟩ (.slice Ao47 x312001_2.length co47)).setCell ⟨gb315, 2, none⟩ (.slice Ao48 x312002_2.length co48)).heap[gb290]? = some (.cells #[.slice A0_0 l0_0.length c0_0, .slice A0_1 l0_1.length c0_1, .slice A0_2 l0_2.length c0_2] 26 (0, 0))) := ⟨by (with_reducible repeat (first | apply b1_ | apply b2_ | apply b3_)); refine blk_far ?_ NB290_315.out _; (with_reducible repeat (first | apply b1_ | apply b2_ | apply b3_)); refine blk_far ?_ NB290_315.out _; (with_reducible repeat (first | apply b1_ | apply b2_ | apply b3_)); refine blk_far ?_ NB290_315.out _; (with_reducible repeat (first | apply b1_ | apply b2_ | apply b3_)); exact BK290.out⟩
       have n5_ : Aside0 ((((w41.setCell ⟨gb315, 0, none⟩ (.slice Ao42 x312000_2.length co42)).setCell ⟨gb315, 1, none⟩ (.slice Ao47 x312001_2.length co47)).setCell ⟨gb315, 2, none⟩ (.slice Ao48 x312002_2.length co48)).heap[gb291]? = some (.cells #[.slice none 0 0, .slice none 0 0, .slice none 0 0] 26 (0, 0))) := ⟨by (with_reducible repeat (first | apply b1_ | apply b2_ | apply b3_)); refine blk_far ?_ NB291_315.out _; (with_reducible repeat (first | apply b1_ | apply b2_ | apply b3_)); refine blk_far ?_ NB291_315.out _; (with_reducible repeat (first | apply b1_ | apply b2_ | apply b3_)); refine blk_far ?_ NB291_315.out _; (with_reducible repeat (first | apply b1_ | apply b2_ | apply b3_)); exact BK291.out⟩
       have n6_ : Aside0 ((((w41.setCell ⟨gb315, 0, none⟩ (.slice Ao42 x312000_2.length co42)).setCell ⟨gb315, 1, none⟩ (.slice Ao47 x312001_2.length co47)).setCell ⟨gb315, 2, none⟩ (.slice Ao48 x312002_2.length co48)).heap[gb311]? = some (.cells #[.slice Ao42 x312000_2.length co42, .slice Ao47 x312001_2.length co47, .slice Ao48 x312002_2.length co48] 26 (0, 0))) := ⟨by (with_reducible repeat (first | apply b1_ | apply b2_ | apply b3_)); refine blk_far ?_ NB311_315.out _; (with_reducible repeat (first | apply b1_ | apply b2_ | apply b3_)); refine blk_far ?_ NB311_315.out _; (with_reducible repeat (first | apply b1_ | apply b2_ | apply b3_)); refine blk_far ?_ NB311_315.out _; (with_reducible repeat (first | apply b1_ | apply b2_ | apply b3_)); exact BK311.out⟩
       have n7_ : Aside0 ((((w41.setCell ⟨gb315, 0, none⟩ (.slice Ao42 x312000_2.length co42)).setCell ⟨gb315, 1, none⟩ (.slice Ao47 x312001_2.length co47)).setCell ⟨gb315, 2, none⟩ (.slice Ao48 x312002_2.length co48)).heap[gb315]? = some (.cells #[.slice Ao42 x312000_2.length co42, .slice Ao47 x312001_2.length co47, .slice Ao48 x312002_2.length co48] 26 (0, 0))) := ⟨by (with_reducible repeat (first | apply b1_ | apply b2_ | apply b3_)); refine blk_put (cs := #[.slice Ao42 x312000_2.length co42, .slice Ao47 x312001_2.length co47, .slice none 0 0]) ?_ 2 _ rfl; (with_reducible repeat (first | apply b1_ | apply b2_ | apply b3_)); refine blk_put (cs := #[.slice Ao42 x312000_2.length co42, .slice none 0 0, .slice none 0 0]) ?_ 1 _ rfl; (with_reducible repeat (first | apply b1_ | apply b2_ | apply b3_)); refine blk_put (cs := #[.slice none 0 0, .slice none 0 0, .slice none 0 0]) ?_ 0 _ rfl; (with_reducible repeat (first | apply b1_ | apply b2_ | apply b3_)); exact BK315.out⟩
       have n8_ : Aside0 (Below w.heap.size w (((w41.setCell ⟨gb315, 0, none⟩ (.slice Ao42 x312000_2.length co42)).setCell ⟨gb315, 1, none⟩ (.slice Ao47 x312001_2.length co47)).setCell ⟨gb315, 2, none⟩ (.slice Ao48 x312002_2.length co48))) := ⟨by repeat (first | (with_reducible first | exact HB.out | apply below_alloc | apply pw_below_drewN | apply below_drew1 | refine below_set ?_ GE290.out | refine below_set ?_ GE291.out | refine below_set ?_ GE311.out | refine below_set ?_ GE315.out) | exact HB.out)⟩
       (try clear HO_7)
       (try clear HO_312000)
       (try clear HO_312001)
       (try clear HO_312002)
       (try clear BK290)
       (try clear BK291)
       (try clear BK311)
       (try clear BK315)
       (try clear HB)
       generalize (((w41.setCell ⟨gb315, 0, none⟩ (.slice Ao42 x312000_2.length co42)).setCell ⟨gb315, 1, none⟩ (.slice Ao47 x312001_2.length co47)).setCell ⟨gb315, 2, none⟩ (.slice Ao48 x312002_2.length co48)) = w52 at n0_ n1_ n2_ n3_ n4_ n5_ n6_ n7_ n8_ ⊢
       have HO_7 := n0_
       have HO_312000 := n1_
       have HO_312001 := n2_
       have HO_312002 := n3_
       have BK290 := n4_
       have BK291 := n5_
       have BK311 := n6_
       have BK315 := n7_
       have HB := n8_
       clear n0_ n1_ n2_ n3_ n4_ n5_ n6_ n7_ n8_
       replace HO_7 := am (Kd.R_drew HO_7.out)
       replace HO_312000 := am (Kd.R_drew HO_312000.out)
       replace HO_312001 := am (Kd.R_drew HO_312001.out)
       replace HO_312002 := am (Kd.R_drew HO_312002.out)
       replace BK290 := am (blk_drew BK290.out)
       replace BK291 := am (blk_drew BK291.out)
       replace BK311 := am (blk_drew BK311.out)
       replace BK315 := am (blk_drew BK315.out)
       replace HB := am (below_drew1 HB.out)
       have p317 : 0 ≤ (x8_2 : Int) := of_decide_eq_true Q5
       have q317 : x8_2 < (l1.length : Int) := of_decide_eq_true Q5
       obtain ⟨ad317, A317_2, c317_2, e317, hx317_0, hx317_1, hx317_2, hl317_2, hi317_2⟩ := at_T77 HR1.out x8_2 p317 q317
       have hw317_2 := hx317_2
       have hw317_1 := hx317_1
       have hw317_0 := hx317_0
       obtain rfl : ad316 = ad317 := (by injection e317)
       replace hx317_0 := cm HB.out hx317_0
       replace hx317_1 := cm HB.out hx317_1
       replace hx317_2 := cm HB.out hx317_2
       have HR317_2 := am hi317_2
       have HC317_2 := am hl317_2
       clear hi317_2 hl317_2
       replace p317 := eq_true p317
       replace q317 := eq_true q317
       refine start_ (n := 12) (S := fun w' => w'.cell? ⟨gb311, 0, none⟩ = some (.slice Ao42 x312000_2.length co42) ∧ w'.cell? ⟨gb311, 1, none⟩ = some (.slice Ao47 x312001_2.length co47) ∧ w'.cell? ⟨gb311, 2, none⟩ = some (.slice Ao48 x312002_2.length co48) ∧ w'.cell? (ad316.add ((x8_2).toNat * 3)) = some (.int .i64 ((rd_T77 l1 x8_2).f0)) ∧ w'.cell? ⟨(ad316.add ((x8_2).toNat * 3)).block, (ad316.add ((x8_2).toNat * 3)).off + 1, none⟩ = some (.int .i64 ((rd_T77 l1 x8_2).f1)) ∧ w'.cell? ⟨(ad316.add ((x8_2).toNat * 3)).block, (ad316.add ((x8_2).toNat * 3)).off + 2, none⟩ = some (.slice A317_2 ((rd_T77 l1 x8_2).f2).length c317_2)) (ds := []) b0_12 kr rfl rfl ⟨(blk_cell BK311.out 0).trans rfl, (blk_cell BK311.out 1).trans rfl, (blk_cell BK311.out 2).trans rfl, (cm HB.out hw317_0), (cm HB.out hw317_1), (cm HB.out hw317_2)⟩ (fun hHeld => ?_); refine with_tabW spec_PlayConf.tab12 spec_PlayConf.bits12 (fun HT_ HW_ => ?_)
       generalize w52.drew = w53 at HO_7 HO_312000 HO_312001 HO_312002 BK290 BK291 BK311 BK315 HB HR317_2 hx317_0 hx317_1 hx317_2 hHeld ⊢
       refine pV 1 40 bx14 ?_
       refine pV 2 41 bx15 ?_
       refine pV 3 42 bx16 ?_
       refine pV 4 43 bx17 ?_
       refine tV 0 39 (bt 5 12) ?_
       refine tV 5 44 (bt 6 12) ?_
       refine one_ (i := 6) (N := some 45) b7_12 rfl rfl (one_of HT_.out kr) (by decide) (fun K hK => ?_)
       refine goes_ Try.func60 kr rfl #[.agg #[.slice Ao42 x312000_2.length co42, .slice Ao47 x312001_2.length co47, .slice Ao48 x312002_2.length co48], .slice A317_2 ((rd_T77 l1 x8_2).f2).length c317_2] (by rfl) rfl rfl Q10 ?_
       with_reducible refine (spec_Begin.calls k2 _ _ x312000_2 _ _ x312001_2 _ _ x312002_2 _ _ ((rd_T77 l1 x8_2).f2) t318 t321 t324 t327 _ ?side1 ?side2 ?side3 ?side4 ?side5 ?side6 ?side7 ?side8 A50.out).mono ?_
       (case side1 => exact u7_32)
       (case side2 => exact (Kd.R_reads' HO_312000.out).2.1)
       (case side3 => exact u7_33)
       (case side4 => exact (Kd.R_reads' HO_312001.out).2.1)
       (case side5 => exact u7_34)
       (case side6 => exact (Kd.R_reads' HO_312002.out).2.1)
       (case side7 => exact (by repeat (first | exact (Kd.C_below HR317_2.out HB.out) | (with_reducible refine Kd.C_alloc ?_ _) | (with_reducible refine Kd.C_drewN ?_ _) | (with_reducible refine Kd.C_drew ?_))))
       (case side8 => exact HC317_2.out)
       rintro e w54 ⟨v319, v322, v325, rfl, ho0, ho1, ho2, hb⟩
       refine ⟨_, rfl, ?_⟩
       replace HO_7 := am (Kd.R_below u7_37 hb)
       have HO320 := am (Kd.R_lower (Kd.R_new' (Kd.R_new' (Kd.R_new' ho0 (Kd.R_lt u7_14)) (Kd.R_lt u7_15)) (Kd.R_lt u7_16)) (below_size Q6))
       have HO323 := am (Kd.R_lower (Kd.R_new' (Kd.R_new' (Kd.R_new' ho1 (Kd.R_lt u7_14)) (Kd.R_lt u7_15)) (Kd.R_lt u7_16)) (below_size Q6))
       have HO326 := am (Kd.R_lower (Kd.R_new' (Kd.R_new' (Kd.R_new' ho2 (Kd.R_lt u7_14)) (Kd.R_lt u7_15)) (Kd.R_lt u7_16)) (below_size Q6))
       replace HO_312000 := am (Kd.R_mono (Kd.R_told (Kd.R_told (Kd.R_told (Kd.R_old u7_14 hb) (Kd.R_base ho0)) (Kd.R_base ho1)) (Kd.R_base ho2)) (fun _ h_ => h_.1))
       replace HO_312001 := am (Kd.R_mono (Kd.R_told (Kd.R_told (Kd.R_told (Kd.R_old u7_15 hb) (Kd.R_base ho0)) (Kd.R_base ho1)) (Kd.R_base ho2)) (fun _ h_ => h_.1))
       replace HO_312002 := am (Kd.R_mono (Kd.R_told (Kd.R_told (Kd.R_told (Kd.R_old u7_16 hb) (Kd.R_base ho0)) (Kd.R_base ho1)) (Kd.R_base ho2)) (fun _ h_ => h_.1))
       replace BK290 := am (bb_ BK290.out u7_8 hb)
       replace BK291 := am (bb_ BK291.out u7_9 hb)
       replace BK311 := am (bb_ BK311.out u7_27 hb)
       replace BK315 := am (bb_ BK315.out u7_43 hb)
       replace HB := am (below_step Q6 hb)
       (try clear hb)
       (try clear hb2)
       (try clear hk)
       (try clear hi)
       (try clear ho0)
       (try clear ho1)
       (try clear ho2)
       obtain ⟨Ao55, co55, eo55⟩ := Kd.R_slice HO320.out
       (first | subst eo55 | (injection eo55 with f1_ f2_ f3_; have f4_ := f1_.symm; have f5_ := f3_.symm; clear f1_ f2_ f3_; subst f4_; subst f5_))
       obtain ⟨Ao57, co57, eo57⟩ := Kd.R_slice HO323.out
       (first | subst eo57 | (injection eo57 with f1_ f2_ f3_; have f4_ := f1_.symm; have f5_ := f3_.symm; clear f1_ f2_ f3_; subst f4_; subst f5_))
       obtain ⟨Ao59, co59, eo59⟩ := Kd.R_slice HO326.out
       (first | subst eo59 | (injection eo59 with f1_ f2_ f3_; have f4_ := f1_.symm; have f5_ := f3_.symm; clear f1_ f2_ f3_; subst f4_; subst f5_))
       refine hK.out _ _ ⟨(blk_cell BK311.out 0).trans rfl, (blk_cell BK311.out 1).trans rfl, (blk_cell BK311.out 2).trans rfl, (cm HB.out hw317_0), (cm HB.out hw317_1), (cm HB.out hw317_2)⟩ (fun hHeld => ?_)
       clear hK K
       refine norm_ (a' := ?_) ?_ ?_
       rotate_left
       · show Act.put _ (some 45) _ = _
         simp only [Act.put, la, lb, lc, i64_w, i32_w]
         rfl
       refine pV 7 38 (bt 8 12) ?_
       refine pV 8 46 (bt 9 12) ?_
       refine pV 9 47 (bt 10 12) ?_
       refine one_ (i := 10) (N := none) b11_12 rfl rfl (one_of HT_.out kr) (by decide) (fun K hK => ?_)
       have hs56 : w54.cell? ⟨gb315, 0, none⟩ = some (.slice Ao42 x312000_2.length co42) := (blk_cell BK315.out 0).trans rfl
       have hfs56 := blk_frozen BK315.out 0
       have hns56_0 := NB290_315.out
       have hns56_1 := NB291_315.out
       have hns56_2 := NB311_315.out
       have hms56_0 := NB315_290.out
       have hms56_1 := NB315_291.out
       have hms56_2 := NB315_311.out
       have hs58 : w54.cell? ⟨gb315, 1, none⟩ = some (.slice Ao47 x312001_2.length co47) := (blk_cell BK315.out 1).trans rfl
       have hfs58 := blk_frozen BK315.out 1
       have hns58_0 := NB290_315.out
       have hns58_1 := NB291_315.out
       have hns58_2 := NB311_315.out
       have hms58_0 := NB315_290.out
       have hms58_1 := NB315_291.out
       have hms58_2 := NB315_311.out
       have hs60 : w54.cell? ⟨gb315, 2, none⟩ = some (.slice Ao48 x312002_2.length co48) := (blk_cell BK315.out 2).trans rfl
       have hfs60 := blk_frozen BK315.out 2
       have hns60_0 := NB290_315.out
       have hns60_1 := NB291_315.out
       have hns60_2 := NB311_315.out
       have hms60_0 := NB315_290.out
       have hms60_1 := NB315_291.out
       have hms60_2 := NB315_311.out
       refine skip_ (w1 := ?_) (by rfl) rfl ?_ ?_
       rotate_left
       · go_simp
         rfl
       refine hK.out _ _ ⟨((cell_far (p := ⟨gb315, _, none⟩) NB311_315.out _).trans (((cell_far (p := ⟨gb315, _, none⟩) NB311_315.out _).trans (((cell_far (p := ⟨gb315, _, none⟩) NB311_315.out _).trans (hHeld.1)))))), ((cell_far (p := ⟨gb315, _, none⟩) NB311_315.out _).trans (((cell_far (p := ⟨gb315, _, none⟩) NB311_315.out _).trans (((cell_far (p := ⟨gb315, _, none⟩) NB311_315.out _).trans (hHeld.2.1)))))), ((cell_far (p := ⟨gb315, _, none⟩) NB311_315.out _).trans (((cell_far (p := ⟨gb315, _, none⟩) NB311_315.out _).trans (((cell_far (p := ⟨gb315, _, none⟩) NB311_315.out _).trans (hHeld.2.2.1)))))), ((cell_far (p := ⟨gb315, _, none⟩) u7_18 _).trans (((cell_far (p := ⟨gb315, _, none⟩) u7_18 _).trans (((cell_far (p := ⟨gb315, _, none⟩) u7_18 _).trans (hHeld.2.2.2.1)))))), ((cell_far (p := ⟨gb315, _, none⟩) u7_19 _).trans (((cell_far (p := ⟨gb315, _, none⟩) u7_19 _).trans (((cell_far (p := ⟨gb315, _, none⟩) u7_19 _).trans (hHeld.2.2.2.2.1)))))), ((cell_far (p := ⟨gb315, _, none⟩) u7_20 _).trans (((cell_far (p := ⟨gb315, _, none⟩) u7_20 _).trans (((cell_far (p := ⟨gb315, _, none⟩) u7_20 _).trans (hHeld.2.2.2.2.2))))))⟩ (fun hHeld => ?_)
       clear hK K
       refine pV 11 9 (bt 12 12) ?_
       refine done_ (done_of HT_.out kr) ?_
       have hnb61 := NB315_290.out
       have hnc61 := NB290_315.out
       have hnb62 := NB315_291.out
       have hnc62 := NB291_315.out
       have hnb63 := NB315_311.out
       have hnc63 := NB311_315.out
       obtain ⟨hcz64_0, hcz64_1, hcz64_2, hfz64_0, hfz64_1, hfz64_2⟩ := bc3f w54 BK315.out
       have hnb65 := NB311_290.out
       have hnc65 := NB290_311.out
       have hnb66 := NB311_291.out
       have hnc66 := NB291_311.out
       obtain ⟨hcz67_0, hcz67_1, hcz67_2, hfz67_0, hfz67_1, hfz67_2⟩ := bc3f w54 BK311.out
       try go_wp2_with (first | ((with_reducible refine gate_builtin (b := .append) (xs := #[.tmp 80, .tmp 82]) rfl ?_); (try (refine gate_guard (by rfl) ?_; dsimp only)); at_builtin; refine Kd.R_append Kd.bool (w0 := w) w.heap.size rfl (.tmp 80) (.tmp 82) 48 4 (.bool false) 1 rfl Try.underlying48 info4 rfl (by decide) (by omega) u7 x7_2 t327 [.bool t327] (fun _ => True) (fun _ => False) rfl Q13 ?aP (fun _ hk => hk.elim) ?aF ?aO ?aB ?aS ?aL ?_; (case aP => exact rfl); (case aB => exact Q6); (case aF => exact (fun _ _ => trivial)); (case aO => exact (by (with_reducible repeat (first | apply r1_ | apply r2_ | apply r3_)); exact Kd.R_mono (Kd.R_far (p := ⟨gb311, 2, none⟩) (Kd.R_far (p := ⟨gb311, 1, none⟩) (Kd.R_far (p := ⟨gb311, 0, none⟩) (Kd.R_far (p := ⟨gb315, 2, none⟩) (Kd.R_far (p := ⟨gb315, 1, none⟩) (Kd.R_far (p := ⟨gb315, 0, none⟩) (Kd.R_types (Kd.R_types HO_7.out BK315.out (by decide)) BK311.out (by decide)) (fun _ hk => hk.1.2) (.slice Ao55 t318.length co55)) (fun _ hk => hk.1.2) (.slice Ao57 t321.length co57)) (fun _ hk => hk.1.2) (.slice Ao59 t324.length co59)) (fun _ hk => hk.2) (.slice Ao55 t318.length co55)) (fun _ hk => hk.2) (.slice Ao57 t321.length co57)) (fun _ hk => hk.2) (.slice Ao59 t324.length co59)) (fun _ hk => trivial))); (case aS => exact (below_size Q6)); (case aL => have := LMc51.out; omega); intro v329 w68 ho hb hg hat; rw [← Ny328.out] at ho; replace HO_312000 := am (Kd.R_over' (by (with_reducible repeat (first | apply r1_ | apply r2_ | apply r3_)); exact (Kd.R_mono (Kd.R_mono (Kd.R_far (p := ⟨gb311, 2, none⟩) (Kd.R_far (p := ⟨gb311, 1, none⟩) (Kd.R_far (p := ⟨gb311, 0, none⟩) (Kd.R_far (p := ⟨gb315, 2, none⟩) (Kd.R_far (p := ⟨gb315, 1, none⟩) (Kd.R_far (p := ⟨gb315, 0, none⟩) (Kd.R_types (Kd.R_types HO_312000.out BK315.out (by decide)) BK311.out (by decide)) (fun _ hk => hk.1.2) (.slice Ao55 t318.length co55)) (fun _ hk => hk.1.2) (.slice Ao57 t321.length co57)) (fun _ hk => hk.1.2) (.slice Ao59 t324.length co59)) (fun _ hk => hk.2) (.slice Ao55 t318.length co55)) (fun _ hk => hk.2) (.slice Ao57 t321.length co57)) (fun _ hk => hk.2) (.slice Ao59 t324.length co59)) (fun _ h_ => h_.1)) (fun _ h_ => h_.1))) (Kd.R_typed u7_4) (by decide) hg); replace HO_312001 := am (Kd.R_over' (by (with_reducible repeat (first | apply r1_ | apply r2_ | apply r3_)); exact (Kd.R_mono (Kd.R_mono (Kd.R_far (p := ⟨gb311, 2, none⟩) (Kd.R_far (p := ⟨gb311, 1, none⟩) (Kd.R_far (p := ⟨gb311, 0, none⟩) (Kd.R_far (p := ⟨gb315, 2, none⟩) (Kd.R_far (p := ⟨gb315, 1, none⟩) (Kd.R_far (p := ⟨gb315, 0, none⟩) (Kd.R_types (Kd.R_types HO_312001.out BK315.out (by decide)) BK311.out (by decide)) (fun _ hk => hk.1.2) (.slice Ao55 t318.length co55)) (fun _ hk => hk.1.2) (.slice Ao57 t321.length co57)) (fun _ hk => hk.1.2) (.slice Ao59 t324.length co59)) (fun _ hk => hk.2) (.slice Ao55 t318.length co55)) (fun _ hk => hk.2) (.slice Ao57 t321.length co57)) (fun _ hk => hk.2) (.slice Ao59 t324.length co59)) (fun _ h_ => h_.1)) (fun _ h_ => h_.1))) (Kd.R_typed u7_4) (by decide) hg); replace HO_312002 := am (Kd.R_over' (by (with_reducible repeat (first | apply r1_ | apply r2_ | apply r3_)); exact (Kd.R_mono (Kd.R_mono (Kd.R_far (p := ⟨gb311, 2, none⟩) (Kd.R_far (p := ⟨gb311, 1, none⟩) (Kd.R_far (p := ⟨gb311, 0, none⟩) (Kd.R_far (p := ⟨gb315, 2, none⟩) (Kd.R_far (p := ⟨gb315, 1, none⟩) (Kd.R_far (p := ⟨gb315, 0, none⟩) (Kd.R_types (Kd.R_types HO_312002.out BK315.out (by decide)) BK311.out (by decide)) (fun _ hk => hk.1.2) (.slice Ao55 t318.length co55)) (fun _ hk => hk.1.2) (.slice Ao57 t321.length co57)) (fun _ hk => hk.1.2) (.slice Ao59 t324.length co59)) (fun _ hk => hk.2) (.slice Ao55 t318.length co55)) (fun _ hk => hk.2) (.slice Ao57 t321.length co57)) (fun _ hk => hk.2) (.slice Ao59 t324.length co59)) (fun _ h_ => h_.1)) (fun _ h_ => h_.1))) (Kd.R_typed u7_4) (by decide) hg); replace BK290 := am (blk_grown (g := gb290) (o := .cells #[.slice A0_0 l0_0.length c0_0, .slice A0_1 l0_1.length c0_1, .slice A0_2 l0_2.length c0_2] 26 (0, 0)) u7_2 hg (Kd.R_ne HO_7.out BK290.out (by decide))); replace BK291 := am (blk_grown (g := gb291) (o := .cells #[.slice none 0 0, .slice none 0 0, .slice none 0 0] 26 (0, 0)) u7_3 hg (Kd.R_ne HO_7.out BK291.out (by decide))); replace HO320 := am (Kd.R_over' (by (with_reducible repeat (first | apply r1_ | apply r2_ | apply r3_)); exact (Kd.R_mono (Kd.R_mono (Kd.R_far (p := ⟨gb311, 2, none⟩) (Kd.R_far (p := ⟨gb311, 1, none⟩) (Kd.R_far (p := ⟨gb311, 0, none⟩) (Kd.R_far (p := ⟨gb315, 2, none⟩) (Kd.R_far (p := ⟨gb315, 1, none⟩) (Kd.R_far (p := ⟨gb315, 0, none⟩) (Kd.R_types (Kd.R_types HO320.out BK315.out (by decide)) BK311.out (by decide)) (fun _ hk => hk.1.2) (.slice Ao55 t318.length co55)) (fun _ hk => hk.1.2) (.slice Ao57 t321.length co57)) (fun _ hk => hk.1.2) (.slice Ao59 t324.length co59)) (fun _ hk => hk.2) (.slice Ao55 t318.length co55)) (fun _ hk => hk.2) (.slice Ao57 t321.length co57)) (fun _ hk => hk.2) (.slice Ao59 t324.length co59)) (fun _ h_ => h_.1)) (fun _ h_ => h_.1))) (Kd.R_typed u7_4) (by decide) hg); replace HO323 := am (Kd.R_over' (by (with_reducible repeat (first | apply r1_ | apply r2_ | apply r3_)); exact (Kd.R_mono (Kd.R_mono (Kd.R_far (p := ⟨gb311, 2, none⟩) (Kd.R_far (p := ⟨gb311, 1, none⟩) (Kd.R_far (p := ⟨gb311, 0, none⟩) (Kd.R_far (p := ⟨gb315, 2, none⟩) (Kd.R_far (p := ⟨gb315, 1, none⟩) (Kd.R_far (p := ⟨gb315, 0, none⟩) (Kd.R_types (Kd.R_types HO323.out BK315.out (by decide)) BK311.out (by decide)) (fun _ hk => hk.1.2) (.slice Ao55 t318.length co55)) (fun _ hk => hk.1.2) (.slice Ao57 t321.length co57)) (fun _ hk => hk.1.2) (.slice Ao59 t324.length co59)) (fun _ hk => hk.2) (.slice Ao55 t318.length co55)) (fun _ hk => hk.2) (.slice Ao57 t321.length co57)) (fun _ hk => hk.2) (.slice Ao59 t324.length co59)) (fun _ h_ => h_.1)) (fun _ h_ => h_.1))) (Kd.R_typed u7_4) (by decide) hg); replace HO326 := am (Kd.R_over' (by (with_reducible repeat (first | apply r1_ | apply r2_ | apply r3_)); exact (Kd.R_mono (Kd.R_mono (Kd.R_far (p := ⟨gb311, 2, none⟩) (Kd.R_far (p := ⟨gb311, 1, none⟩) (Kd.R_far (p := ⟨gb311, 0, none⟩) (Kd.R_far (p := ⟨gb315, 2, none⟩) (Kd.R_far (p := ⟨gb315, 1, none⟩) (Kd.R_far (p := ⟨gb315, 0, none⟩) (Kd.R_types (Kd.R_types HO326.out BK315.out (by decide)) BK311.out (by decide)) (fun _ hk => hk.1.2) (.slice Ao55 t318.length co55)) (fun _ hk => hk.1.2) (.slice Ao57 t321.length co57)) (fun _ hk => hk.1.2) (.slice Ao59 t324.length co59)) (fun _ hk => hk.2) (.slice Ao55 t318.length co55)) (fun _ hk => hk.2) (.slice Ao57 t321.length co57)) (fun _ hk => hk.2) (.slice Ao59 t324.length co59)) (fun _ h_ => h_.1)) (fun _ h_ => h_.1))) (Kd.R_typed u7_4) (by decide) hg); replace BK311 := am (blk_grown (g := gb311) (o := .cells #[.slice Ao55 t318.length co55, .slice Ao57 t321.length co57, .slice Ao59 t324.length co59] 26 (0, 0)) (by (with_reducible repeat (first | apply b1_ | apply b2_ | apply b3_)); refine blk_put (cs := #[.slice Ao55 t318.length co55, .slice Ao57 t321.length co57, .slice Ao48 x312002_2.length co48]) ?_ 2 _ rfl; (with_reducible repeat (first | apply b1_ | apply b2_ | apply b3_)); refine blk_put (cs := #[.slice Ao55 t318.length co55, .slice Ao47 x312001_2.length co47, .slice Ao48 x312002_2.length co48]) ?_ 1 _ rfl; (with_reducible repeat (first | apply b1_ | apply b2_ | apply b3_)); refine blk_put (cs := #[.slice Ao42 x312000_2.length co42, .slice Ao47 x312001_2.length co47, .slice Ao48 x312002_2.length co48]) ?_ 0 _ rfl; (with_reducible repeat (first | apply b1_ | apply b2_ | apply b3_)); refine blk_far ?_ NB311_315.out _; (with_reducible repeat (first | apply b1_ | apply b2_ | apply b3_)); refine blk_far ?_ NB311_315.out _; (with_reducible repeat (first | apply b1_ | apply b2_ | apply b3_)); refine blk_far ?_ NB311_315.out _; (with_reducible repeat (first | apply b1_ | apply b2_ | apply b3_)); exact BK311.out) hg (Kd.R_ne HO_7.out BK311.out (by decide))); replace BK315 := am (blk_grown (g := gb315) (o := .cells #[.slice Ao55 t318.length co55, .slice Ao57 t321.length co57, .slice Ao59 t324.length co59] 26 (0, 0)) (by (with_reducible repeat (first | apply b1_ | apply b2_ | apply b3_)); refine blk_far ?_ NB315_311.out _; (with_reducible repeat (first | apply b1_ | apply b2_ | apply b3_)); refine blk_far ?_ NB315_311.out _; (with_reducible repeat (first | apply b1_ | apply b2_ | apply b3_)); refine blk_far ?_ NB315_311.out _; (with_reducible repeat (first | apply b1_ | apply b2_ | apply b3_)); refine blk_put (cs := #[.slice Ao55 t318.length co55, .slice Ao57 t321.length co57, .slice Ao48 x312002_2.length co48]) ?_ 2 _ rfl; (with_reducible repeat (first | apply b1_ | apply b2_ | apply b3_)); refine blk_put (cs := #[.slice Ao55 t318.length co55, .slice Ao47 x312001_2.length co47, .slice Ao48 x312002_2.length co48]) ?_ 1 _ rfl; (with_reducible repeat (first | apply b1_ | apply b2_ | apply b3_)); refine blk_put (cs := #[.slice Ao42 x312000_2.length co42, .slice Ao47 x312001_2.length co47, .slice Ao48 x312002_2.length co48]) ?_ 0 _ rfl; (with_reducible repeat (first | apply b1_ | apply b2_ | apply b3_)); exact BK315.out) hg (Kd.R_ne HO_7.out BK315.out (by decide))); replace HB := am (hb); have HO330 := am (ho); clear HO_7; clear ho hb hg hat))
       go_roundg k2
       case measure => have := HJ2.out; have := HK2.out; omega
       case rel => exact ⟨(y328), (wrap64 (x8_2 + 1)), (t318), (t321), (t324), (.slice Ao55 t318.length co55), (.slice Ao57 t321.length co57), (.slice Ao59 t324.length co59), Q9, H', ⟨Q12⟩, ⟨(by (with_reducible repeat (first | apply r1_ | apply r2_ | apply r3_)); exact HO330.out)⟩, ⟨(by (with_reducible repeat (first | apply r1_ | apply r2_ | apply r3_)); exact Kd.R_mono HO320.out (fun _ hk => ⟨hk.1.1.1.1, hk.1.1.1.2⟩))⟩, ⟨(by (with_reducible repeat (first | apply r1_ | apply r2_ | apply r3_)); exact Kd.R_mono HO323.out (fun _ hk => ⟨hk.1.1.1.1, hk.1.1.1.2⟩))⟩, ⟨(by (with_reducible repeat (first | apply r1_ | apply r2_ | apply r3_)); exact Kd.R_mono HO326.out (fun _ hk => ⟨hk.1.1.1.1, hk.1.1.1.2⟩))⟩, ⟨u7_8⟩, ⟨u7_9⟩, ⟨u7_27⟩, ⟨Q6⟩⟩
     rw [if_neg c49] at H
     have c49b0 : (((rd_T77 l1 x8_2).f0) == 0) = false := beq_eq_false_iff_ne.mpr c49
     have c49b1 : (((rd_T77 l1 x8_2).f0) != 0) = true := bne_iff_ne.mpr c49
     (first | rw [c49b0] | (simp only [i64_w, i32_w]; rw [c49b0]) | skip)
     by_cases c69 : ((rd_T77 l1 x8_2).f0) = 1
     · rw [if_pos c69] at H
       have c69b0 : (((rd_T77 l1 x8_2).f0) == 1) = true := beq_iff_eq.mpr c69
       have c69b1 : (((rd_T77 l1 x8_2).f0) != 1) = false := bne_eq_false_iff_eq.mpr c69
       clear c69
       replace H := Option.bind_eq_some_iff.mp H
       obtain ⟨⟨t331, t334, t337, t340⟩, A700, H⟩ := H
       (try dsimp only at H)
       have A70 := am A700
       clear A700
       by_cases c71 : x7_2.length < 140737488355328
       rotate_left
       · rw [if_neg c71] at H
         exact absurd H (by simp)
       rw [if_pos c71] at H
       have LMc71 := am c71
       clear c71
       obtain ⟨y341, hy341⟩ : ∃ y_ : List Bool, y_ = (x7_2 ++ [t340]) := ⟨_, rfl⟩
       replace H : (spec_PlayConf.l0 k2 l1 y341 (wrap64 (x8_2 + 1)) t331 t334 t337) = some (r1, r2, r3, r4) := by first | (rw [hy341]; with_reducible exact H) | (have H2_ := (Option.bind_some _ _).symm.trans H; rw [hy341]; with_reducible exact H2_) | (have H2_ := (Option.bind_some _ _).symm.trans H; with_reducible exact H2_) | with_reducible exact H | (rw [hy341]; exact H) | exact H
       have Ny341 := am hy341
       clear hy341
       have H' := am H
       clear H
       have hnb72 := NB311_290.out
       have hnc72 := NB290_311.out
       have hnb73 := NB311_291.out
       have hnc73 := NB291_311.out
       have hnb74 := NB311_315.out
       have hnc74 := NB315_311.out
       obtain ⟨hcz75_0, hcz75_1, hcz75_2, hfz75_0, hfz75_1, hfz75_2⟩ := bc3f w41 BK311.out
       go_wp2_with (first | ((with_reducible refine gate_callee (f := 61) rfl ?_); refine goesL_ (some 52) rfl rfl Try.func61 kr rfl #[.agg #[.slice Ao42 x312000_2.length co42, .slice Ao47 x312001_2.length co47, .slice Ao48 x312002_2.length co48]] rfl Q10 ?_; (with_reducible refine (spec_Finish.calls k2 _ _ x312000_2 _ _ x312001_2 _ _ x312002_2 t331 t334 t337 t340 _ ?side1 ?side2 ?side3 ?side4 ?side5 ?side6 A70.out).mono ?_); (case side1 => exact (by refine (Kd.R_reads' (e := 3) (base := w.heap.size) (ok := fun k_ => (some k_ ≠ (.slice Ao47 x312001_2.length co47 : Value).ownBlock ∧ some k_ ≠ (.slice Ao48 x312002_2.length co48 : Value).ownBlock)) (n := x312000_2.length) (c := co42) ?_).2.2; exact u7_10)); (case side2 => exact (Kd.R_reads' HO_312000.out).2.1); (case side3 => exact (by refine (Kd.R_reads' (e := 3) (base := w.heap.size) (ok := fun k_ => (some k_ ≠ (.slice Ao42 x312000_2.length co42 : Value).ownBlock ∧ some k_ ≠ (.slice Ao48 x312002_2.length co48 : Value).ownBlock)) (n := x312001_2.length) (c := co47) ?_).2.2; exact u7_11)); (case side4 => exact (Kd.R_reads' HO_312001.out).2.1); (case side5 => exact (by refine (Kd.R_reads' (e := 3) (base := w.heap.size) (ok := fun k_ => (some k_ ≠ (.slice Ao42 x312000_2.length co42 : Value).ownBlock ∧ some k_ ≠ (.slice Ao47 x312001_2.length co47 : Value).ownBlock)) (n := x312002_2.length) (c := co48) ?_).2.2; exact u7_12)); (case side6 => exact (Kd.R_reads' HO_312002.out).2.1); rintro e w76 ⟨v332, v335, v338, rfl, ho0, ho1, ho2, hb⟩; refine ⟨_, rfl, ?_⟩; replace HO_7 := am (Kd.R_below (by (with_reducible repeat (first | apply r1_ | apply r2_ | apply r3_)); exact (Kd.R_mono (Kd.R_far (p := ⟨gb315, 2, none⟩) (Kd.R_far (p := ⟨gb315, 1, none⟩) (Kd.R_far (p := ⟨gb315, 0, none⟩) (Kd.R_types HO_7.out BK315.out (by decide)) (fun _ hk => hk.2) (.slice Ao42 x312000_2.length co42)) (fun _ hk => hk.2) (.slice Ao47 x312001_2.length co47)) (fun _ hk => hk.2) (.slice Ao48 x312002_2.length co48)) (fun _ h_ => h_.1))) hb); have HO333 := am (Kd.R_lower (Kd.R_new' (Kd.R_new' (Kd.R_new' ho0 (Kd.R_lt u7_10)) (Kd.R_lt u7_11)) (Kd.R_lt u7_12)) (below_size Q6)); have HO336 := am (Kd.R_lower (Kd.R_new' (Kd.R_new' (Kd.R_new' ho1 (Kd.R_lt u7_10)) (Kd.R_lt u7_11)) (Kd.R_lt u7_12)) (below_size Q6)); have HO339 := am (Kd.R_lower (Kd.R_new' (Kd.R_new' (Kd.R_new' ho2 (Kd.R_lt u7_10)) (Kd.R_lt u7_11)) (Kd.R_lt u7_12)) (below_size Q6)); replace HO_312000 := am (Kd.R_mono (Kd.R_told (Kd.R_told (Kd.R_told (Kd.R_old u7_10 hb) (Kd.R_base ho0)) (Kd.R_base ho1)) (Kd.R_base ho2)) (fun _ h_ => h_.1)); replace HO_312001 := am (Kd.R_mono (Kd.R_told (Kd.R_told (Kd.R_told (Kd.R_old u7_11 hb) (Kd.R_base ho0)) (Kd.R_base ho1)) (Kd.R_base ho2)) (fun _ h_ => h_.1)); replace HO_312002 := am (Kd.R_mono (Kd.R_told (Kd.R_told (Kd.R_told (Kd.R_old u7_12 hb) (Kd.R_base ho0)) (Kd.R_base ho1)) (Kd.R_base ho2)) (fun _ h_ => h_.1)); replace BK290 := am (blk_below (g := gb290) (o := .cells #[.slice A0_0 l0_0.length c0_0, .slice A0_1 l0_1.length c0_1, .slice A0_2 l0_2.length c0_2] 26 (0, 0)) (by (with_reducible repeat (first | apply b1_ | apply b2_ | apply b3_)); refine blk_far ?_ NB290_315.out _; (with_reducible repeat (first | apply b1_ | apply b2_ | apply b3_)); refine blk_far ?_ NB290_315.out _; (with_reducible repeat (first | apply b1_ | apply b2_ | apply b3_)); refine blk_far ?_ NB290_315.out _; (with_reducible repeat (first | apply b1_ | apply b2_ | apply b3_)); exact BK290.out) hb); replace BK291 := am (blk_below (g := gb291) (o := .cells #[.slice none 0 0, .slice none 0 0, .slice none 0 0] 26 (0, 0)) (by (with_reducible repeat (first | apply b1_ | apply b2_ | apply b3_)); refine blk_far ?_ NB291_315.out _; (with_reducible repeat (first | apply b1_ | apply b2_ | apply b3_)); refine blk_far ?_ NB291_315.out _; (with_reducible repeat (first | apply b1_ | apply b2_ | apply b3_)); refine blk_far ?_ NB291_315.out _; (with_reducible repeat (first | apply b1_ | apply b2_ | apply b3_)); exact BK291.out) hb); replace BK311 := am (blk_below (g := gb311) (o := .cells #[.slice Ao42 x312000_2.length co42, .slice Ao47 x312001_2.length co47, .slice Ao48 x312002_2.length co48] 26 (0, 0)) (by (with_reducible repeat (first | apply b1_ | apply b2_ | apply b3_)); refine blk_far ?_ NB311_315.out _; (with_reducible repeat (first | apply b1_ | apply b2_ | apply b3_)); refine blk_far ?_ NB311_315.out _; (with_reducible repeat (first | apply b1_ | apply b2_ | apply b3_)); refine blk_far ?_ NB311_315.out _; (with_reducible repeat (first | apply b1_ | apply b2_ | apply b3_)); exact BK311.out) hb); replace BK315 := am (blk_below (g := gb315) (o := .cells #[.slice Ao42 x312000_2.length co42, .slice Ao47 x312001_2.length co47, .slice Ao48 x312002_2.length co48] 26 (0, 0)) (by (with_reducible repeat (first | apply b1_ | apply b2_ | apply b3_)); refine blk_put (cs := #[.slice Ao42 x312000_2.length co42, .slice Ao47 x312001_2.length co47, .slice none 0 0]) ?_ 2 _ rfl; (with_reducible repeat (first | apply b1_ | apply b2_ | apply b3_)); refine blk_put (cs := #[.slice Ao42 x312000_2.length co42, .slice none 0 0, .slice none 0 0]) ?_ 1 _ rfl; (with_reducible repeat (first | apply b1_ | apply b2_ | apply b3_)); refine blk_put (cs := #[.slice none 0 0, .slice none 0 0, .slice none 0 0]) ?_ 0 _ rfl; (with_reducible repeat (first | apply b1_ | apply b2_ | apply b3_)); exact BK315.out) hb); replace HB := am (below_step Q6 hb); (try clear hb); (try clear hb2); (try clear hk); (try clear hi); (try clear ho0); (try clear ho1); (try clear ho2); obtain ⟨Ao77, co77, eo77⟩ := Kd.R_slice HO333.out; subst eo77; have hnb78 := NB315_290.out; have hnc78 := NB290_315.out; have hnb79 := NB315_291.out; have hnc79 := NB291_315.out; obtain ⟨hcz80_0, hcz80_1, hcz80_2, hfz80_0, hfz80_1, hfz80_2⟩ := bc3f w76 BK315.out; obtain ⟨Ao81, co81, eo81⟩ := Kd.R_slice HO336.out; subst eo81; obtain ⟨Ao82, co82, eo82⟩ := Kd.R_slice HO339.out; subst eo82; obtain ⟨hcz83_0, hcz83_1, hcz83_2, hfz83_0, hfz83_1, hfz83_2⟩ := bc3f w76 BK311.out) | ((with_reducible refine gate_builtin (b := .append) (xs := #[.tmp 80, .tmp 82]) rfl ?_); (try (refine gate_guard (by rfl) ?_; dsimp only)); at_builtin; refine Kd.R_append Kd.bool (w0 := w) w.heap.size rfl (.tmp 80) (.tmp 82) 48 4 (.bool false) 1 rfl Try.underlying48 info4 rfl (by decide) (by omega) u7 x7_2 t340 [.bool t340] (fun _ => True) (fun _ => False) rfl Q13 ?aP (fun _ hk => hk.elim) ?aF ?aO ?aB ?aS ?aL ?_; (case aP => exact rfl); (case aB => exact Q6); (case aF => exact (fun _ _ => trivial)); (case aO => exact (by (with_reducible repeat (first | apply r1_ | apply r2_ | apply r3_)); exact Kd.R_mono (Kd.R_far (p := ⟨gb311, 2, none⟩) (Kd.R_far (p := ⟨gb311, 1, none⟩) (Kd.R_far (p := ⟨gb311, 0, none⟩) (Kd.R_far (p := ⟨gb315, 2, none⟩) (Kd.R_far (p := ⟨gb315, 1, none⟩) (Kd.R_far (p := ⟨gb315, 0, none⟩) (Kd.R_types (Kd.R_types HO_7.out BK315.out (by decide)) BK311.out (by decide)) (fun _ hk => hk.1.2) (.slice Ao77 t331.length co77)) (fun _ hk => hk.1.2) (.slice Ao81 t334.length co81)) (fun _ hk => hk.1.2) (.slice Ao82 t337.length co82)) (fun _ hk => hk.2) (.slice Ao77 t331.length co77)) (fun _ hk => hk.2) (.slice Ao81 t334.length co81)) (fun _ hk => hk.2) (.slice Ao82 t337.length co82)) (fun _ hk => trivial))); (case aS => exact (below_size Q6)); (case aL => have := LMc71.out; omega); intro v342 w84 ho hb hg hat; rw [← Ny341.out] at ho; replace HO_312000 := am (Kd.R_over' (by (with_reducible repeat (first | apply r1_ | apply r2_ | apply r3_)); exact (Kd.R_mono (Kd.R_mono (Kd.R_far (p := ⟨gb311, 2, none⟩) (Kd.R_far (p := ⟨gb311, 1, none⟩) (Kd.R_far (p := ⟨gb311, 0, none⟩) (Kd.R_far (p := ⟨gb315, 2, none⟩) (Kd.R_far (p := ⟨gb315, 1, none⟩) (Kd.R_far (p := ⟨gb315, 0, none⟩) (Kd.R_types (Kd.R_types HO_312000.out BK315.out (by decide)) BK311.out (by decide)) (fun _ hk => hk.1.2) (.slice Ao77 t331.length co77)) (fun _ hk => hk.1.2) (.slice Ao81 t334.length co81)) (fun _ hk => hk.1.2) (.slice Ao82 t337.length co82)) (fun _ hk => hk.2) (.slice Ao77 t331.length co77)) (fun _ hk => hk.2) (.slice Ao81 t334.length co81)) (fun _ hk => hk.2) (.slice Ao82 t337.length co82)) (fun _ h_ => h_.1)) (fun _ h_ => h_.1))) (Kd.R_typed u7_5) (by decide) hg); replace HO_312001 := am (Kd.R_over' (by (with_reducible repeat (first | apply r1_ | apply r2_ | apply r3_)); exact (Kd.R_mono (Kd.R_mono (Kd.R_far (p := ⟨gb311, 2, none⟩) (Kd.R_far (p := ⟨gb311, 1, none⟩) (Kd.R_far (p := ⟨gb311, 0, none⟩) (Kd.R_far (p := ⟨gb315, 2, none⟩) (Kd.R_far (p := ⟨gb315, 1, none⟩) (Kd.R_far (p := ⟨gb315, 0, none⟩) (Kd.R_types (Kd.R_types HO_312001.out BK315.out (by decide)) BK311.out (by decide)) (fun _ hk => hk.1.2) (.slice Ao77 t331.length co77)) (fun _ hk => hk.1.2) (.slice Ao81 t334.length co81)) (fun _ hk => hk.1.2) (.slice Ao82 t337.length co82)) (fun _ hk => hk.2) (.slice Ao77 t331.length co77)) (fun _ hk => hk.2) (.slice Ao81 t334.length co81)) (fun _ hk => hk.2) (.slice Ao82 t337.length co82)) (fun _ h_ => h_.1)) (fun _ h_ => h_.1))) (Kd.R_typed u7_5) (by decide) hg); replace HO_312002 := am (Kd.R_over' (by (with_reducible repeat (first | apply r1_ | apply r2_ | apply r3_)); exact (Kd.R_mono (Kd.R_mono (Kd.R_far (p := ⟨gb311, 2, none⟩) (Kd.R_far (p := ⟨gb311, 1, none⟩) (Kd.R_far (p := ⟨gb311, 0, none⟩) (Kd.R_far (p := ⟨gb315, 2, none⟩) (Kd.R_far (p := ⟨gb315, 1, none⟩) (Kd.R_far (p := ⟨gb315, 0, none⟩) (Kd.R_types (Kd.R_types HO_312002.out BK315.out (by decide)) BK311.out (by decide)) (fun _ hk => hk.1.2) (.slice Ao77 t331.length co77)) (fun _ hk => hk.1.2) (.slice Ao81 t334.length co81)) (fun _ hk => hk.1.2) (.slice Ao82 t337.length co82)) (fun _ hk => hk.2) (.slice Ao77 t331.length co77)) (fun _ hk => hk.2) (.slice Ao81 t334.length co81)) (fun _ hk => hk.2) (.slice Ao82 t337.length co82)) (fun _ h_ => h_.1)) (fun _ h_ => h_.1))) (Kd.R_typed u7_5) (by decide) hg); replace BK290 := am (blk_grown (g := gb290) (o := .cells #[.slice A0_0 l0_0.length c0_0, .slice A0_1 l0_1.length c0_1, .slice A0_2 l0_2.length c0_2] 26 (0, 0)) u7_2 hg (Kd.R_ne HO_7.out BK290.out (by decide))); replace BK291 := am (blk_grown (g := gb291) (o := .cells #[.slice none 0 0, .slice none 0 0, .slice none 0 0] 26 (0, 0)) u7_3 hg (Kd.R_ne HO_7.out BK291.out (by decide))); replace HO333 := am (Kd.R_over' (by (with_reducible repeat (first | apply r1_ | apply r2_ | apply r3_)); exact (Kd.R_mono (Kd.R_mono (Kd.R_far (p := ⟨gb311, 2, none⟩) (Kd.R_far (p := ⟨gb311, 1, none⟩) (Kd.R_far (p := ⟨gb311, 0, none⟩) (Kd.R_far (p := ⟨gb315, 2, none⟩) (Kd.R_far (p := ⟨gb315, 1, none⟩) (Kd.R_far (p := ⟨gb315, 0, none⟩) (Kd.R_types (Kd.R_types HO333.out BK315.out (by decide)) BK311.out (by decide)) (fun _ hk => hk.1.2) (.slice Ao77 t331.length co77)) (fun _ hk => hk.1.2) (.slice Ao81 t334.length co81)) (fun _ hk => hk.1.2) (.slice Ao82 t337.length co82)) (fun _ hk => hk.2) (.slice Ao77 t331.length co77)) (fun _ hk => hk.2) (.slice Ao81 t334.length co81)) (fun _ hk => hk.2) (.slice Ao82 t337.length co82)) (fun _ h_ => h_.1)) (fun _ h_ => h_.1))) (Kd.R_typed u7_5) (by decide) hg); replace HO336 := am (Kd.R_over' (by (with_reducible repeat (first | apply r1_ | apply r2_ | apply r3_)); exact (Kd.R_mono (Kd.R_mono (Kd.R_far (p := ⟨gb311, 2, none⟩) (Kd.R_far (p := ⟨gb311, 1, none⟩) (Kd.R_far (p := ⟨gb311, 0, none⟩) (Kd.R_far (p := ⟨gb315, 2, none⟩) (Kd.R_far (p := ⟨gb315, 1, none⟩) (Kd.R_far (p := ⟨gb315, 0, none⟩) (Kd.R_types (Kd.R_types HO336.out BK315.out (by decide)) BK311.out (by decide)) (fun _ hk => hk.1.2) (.slice Ao77 t331.length co77)) (fun _ hk => hk.1.2) (.slice Ao81 t334.length co81)) (fun _ hk => hk.1.2) (.slice Ao82 t337.length co82)) (fun _ hk => hk.2) (.slice Ao77 t331.length co77)) (fun _ hk => hk.2) (.slice Ao81 t334.length co81)) (fun _ hk => hk.2) (.slice Ao82 t337.length co82)) (fun _ h_ => h_.1)) (fun _ h_ => h_.1))) (Kd.R_typed u7_5) (by decide) hg); replace HO339 := am (Kd.R_over' (by (with_reducible repeat (first | apply r1_ | apply r2_ | apply r3_)); exact (Kd.R_mono (Kd.R_mono (Kd.R_far (p := ⟨gb311, 2, none⟩) (Kd.R_far (p := ⟨gb311, 1, none⟩) (Kd.R_far (p := ⟨gb311, 0, none⟩) (Kd.R_far (p := ⟨gb315, 2, none⟩) (Kd.R_far (p := ⟨gb315, 1, none⟩) (Kd.R_far (p := ⟨gb315, 0, none⟩) (Kd.R_types (Kd.R_types HO339.out BK315.out (by decide)) BK311.out (by decide)) (fun _ hk => hk.1.2) (.slice Ao77 t331.length co77)) (fun _ hk => hk.1.2) (.slice Ao81 t334.length co81)) (fun _ hk => hk.1.2) (.slice Ao82 t337.length co82)) (fun _ hk => hk.2) (.slice Ao77 t331.length co77)) (fun _ hk => hk.2) (.slice Ao81 t334.length co81)) (fun _ hk => hk.2) (.slice Ao82 t337.length co82)) (fun _ h_ => h_.1)) (fun _ h_ => h_.1))) (Kd.R_typed u7_5) (by decide) hg); replace BK311 := am (blk_grown (g := gb311) (o := .cells #[.slice Ao77 t331.length co77, .slice Ao81 t334.length co81, .slice Ao82 t337.length co82] 26 (0, 0)) (by (with_reducible repeat (first | apply b1_ | apply b2_ | apply b3_)); refine blk_put (cs := #[.slice Ao77 t331.length co77, .slice Ao81 t334.length co81, .slice Ao48 x312002_2.length co48]) ?_ 2 _ rfl; (with_reducible repeat (first | apply b1_ | apply b2_ | apply b3_)); refine blk_put (cs := #[.slice Ao77 t331.length co77, .slice Ao47 x312001_2.length co47, .slice Ao48 x312002_2.length co48]) ?_ 1 _ rfl; (with_reducible repeat (first | apply b1_ | apply b2_ | apply b3_)); refine blk_put (cs := #[.slice Ao42 x312000_2.length co42, .slice Ao47 x312001_2.length co47, .slice Ao48 x312002_2.length co48]) ?_ 0 _ rfl; (with_reducible repeat (first | apply b1_ | apply b2_ | apply b3_)); refine blk_far ?_ NB311_315.out _; (with_reducible repeat (first | apply b1_ | apply b2_ | apply b3_)); refine blk_far ?_ NB311_315.out _; (with_reducible repeat (first | apply b1_ | apply b2_ | apply b3_)); refine blk_far ?_ NB311_315.out _; (with_reducible repeat (first | apply b1_ | apply b2_ | apply b3_)); exact BK311.out) hg (Kd.R_ne HO_7.out BK311.out (by decide))); replace BK315 := am (blk_grown (g := gb315) (o := .cells #[.slice Ao77 t331.length co77, .slice Ao81 t334.length co81, .slice Ao82 t337.length co82] 26 (0, 0)) (by (with_reducible repeat (first | apply b1_ | apply b2_ | apply b3_)); refine blk_far ?_ NB315_311.out _; (with_reducible repeat (first | apply b1_ | apply b2_ | apply b3_)); refine blk_far ?_ NB315_311.out _; (with_reducible repeat (first | apply b1_ | apply b2_ | apply b3_)); refine blk_far ?_ NB315_311.out _; (with_reducible repeat (first | apply b1_ | apply b2_ | apply b3_)); refine blk_put (cs := #[.slice Ao77 t331.length co77, .slice Ao81 t334.length co81, .slice Ao48 x312002_2.length co48]) ?_ 2 _ rfl; (with_reducible repeat (first | apply b1_ | apply b2_ | apply b3_)); refine blk_put (cs := #[.slice Ao77 t331.length co77, .slice Ao47 x312001_2.length co47, .slice Ao48 x312002_2.length co48]) ?_ 1 _ rfl; (with_reducible repeat (first | apply b1_ | apply b2_ | apply b3_)); refine blk_put (cs := #[.slice Ao42 x312000_2.length co42, .slice Ao47 x312001_2.length co47, .slice Ao48 x312002_2.length co48]) ?_ 0 _ rfl; (with_reducible repeat (first | apply b1_ | apply b2_ | apply b3_)); exact BK315.out) hg (Kd.R_ne HO_7.out BK315.out (by decide))); replace HB := am (hb); have HO343 := am (ho); clear HO_7; clear ho hb hg hat))
       go_roundg k2
       case measure => have := HJ2.out; have := HK2.out; omega
       case rel => exact ⟨(y341), (wrap64 (x8_2 + 1)), (t331), (t334), (t337), (.slice Ao77 t331.length co77), (.slice Ao81 t334.length co81), (.slice Ao82 t337.length co82), Q9, H', ⟨Q12⟩, ⟨(by (with_reducible repeat (first | apply r1_ | apply r2_ | apply r3_)); exact HO343.out)⟩, ⟨(by (with_reducible repeat (first | apply r1_ | apply r2_ | apply r3_)); exact Kd.R_mono HO333.out (fun _ hk => ⟨hk.1.1.1.1, hk.1.1.1.2⟩))⟩, ⟨(by (with_reducible repeat (first | apply r1_ | apply r2_ | apply r3_)); exact Kd.R_mono HO336.out (fun _ hk => ⟨hk.1.1.1.1, hk.1.1.1.2⟩))⟩, ⟨(by (with_reducible repeat (first | apply r1_ | apply r2_ | apply r3_)); exact Kd.R_mono HO339.out (fun _ hk => ⟨hk.1.1.1.1, hk.1.1.1.2⟩))⟩, ⟨u7_8⟩, ⟨u7_9⟩, ⟨u7_27⟩, ⟨Q6⟩⟩
     rw [if_neg c69] at H
     have c69b0 : (((rd_T77 l1 x8_2).f0) == 1) = false := beq_eq_false_iff_ne.mpr c69
     have c69b1 : (((rd_T77 l1 x8_2).f0) != 1) = true := bne_iff_ne.mpr c69
     by_cases c85 : ((rd_T77 l1 x8_2).f0) = 2
     · rw [if_pos c85] at H
       have c85b0 : (((rd_T77 l1 x8_2).f0) == 2) = true := beq_iff_eq.mpr c85
       have c85b1 : (((rd_T77 l1 x8_2).f0) != 2) = false := bne_eq_false_iff_eq.mpr c85
       clear c85
       replace H := Option.bind_eq_some_iff.mp H
       obtain ⟨⟨t345, t348, t351, t354⟩, A860, H⟩ := H
       (try dsimp only at H)
       have A86 := am A860
       clear A860
       by_cases c87 : x7_2.length < 140737488355328
       rotate_left
       · rw [if_neg c87] at H
         exact absurd H (by simp)
       rw [if_pos c87] at H
       have LMc87 := am c87
       clear c87
       obtain ⟨y355, hy355⟩ : ∃ y_ : List Bool, y_ = (x7_2 ++ [t354]) := ⟨_, rfl⟩
       replace H : (spec_PlayConf.l0 k2 l1 y355 (wrap64 (x8_2 + 1)) t345 t348 t351) = some (r1, r2, r3, r4) := by first | (rw [hy355]; with_reducible exact H) | (have H2_ := (Option.bind_some _ _).symm.trans H; rw [hy355]; with_reducible exact H2_) | (have H2_ := (Option.bind_some _ _).symm.trans H; with_reducible exact H2_) | with_reducible exact H | (rw [hy355]; exact H) | exact H
       have Ny355 := am hy355
       clear hy355
       have H' := am H
       clear H
       try go_wp2
       have n0_ : Aside0 (Kd.R Kd.bool 4 (((w41.setCell ⟨gb315, 0, none⟩ (.slice Ao42 x312000_2.length co42)).setCell ⟨gb315, 1, none⟩ (.slice Ao47 x312001_2.length co47)).setCell ⟨gb315, 2, none⟩ (.slice Ao48 x312002_2.length co48)) w.heap.size (fun _ => True) u7 x7_2) := ⟨by (with_reducible repeat (first | apply r1_ | apply r2_ | apply r3_)); exact Kd.R_mono (Kd.R_far (p := ⟨gb315, 2, none⟩) (Kd.R_far (p := ⟨gb315, 1, none⟩) (Kd.R_far (p := ⟨gb315, 0, none⟩) (Kd.R_types HO_7.out BK315.out (by decide)) (fun _ hk => hk.2) (.slice Ao42 x312000_2.length co42)) (fun _ hk => hk.2) (.slice Ao47 x312001_2.length co47)) (fun _ hk => hk.2) (.slice Ao48 x312002_2.length co48)) (fun _ hk => trivial)⟩
       have n1_ : Aside0 (Kd.R (Kd.int .i64) 3 (((w41.setCell ⟨gb315, 0, none⟩ (.slice Ao42 x312000_2.length co42)).setCell ⟨gb315, 1, none⟩ (.slice Ao47 x312001_2.length co47)).setCell ⟨gb315, 2, none⟩ (.slice Ao48 x312002_2.length co48)) w.heap.size (fun k_ => some k_ ≠ (.slice Ao47 x312001_2.length co47 : Value).ownBlock ∧ some k_ ≠ (.slice Ao48 x312002_2.length co48 : Value).ownBlock) (.slice Ao42 x312000_2.length co42) x312000_2) := ⟨by (with_reducible repeat (first | apply r1_ | apply r2_ | apply r3_)); exact Kd.R_mono (Kd.R_far (p := ⟨gb315, 2, none⟩) (Kd.R_far (p := ⟨gb315, 1, none⟩) (Kd.R_far (p := ⟨gb315, 0, none⟩) (Kd.R_types HO_312000.out BK315.out (by decide)) (fun _ hk => hk.2) (.slice Ao42 x312000_2.length co42)) (fun _ hk => hk.2) (.slice Ao47 x312001_2.length co47)) (fun _ hk => hk.2) (.slice Ao48 x312002_2.length co48)) (fun _ hk => ⟨hk.1.1, hk.1.2⟩)⟩
       have n2_ : Aside0 (Kd.R (Kd.int .i64) 3 (((w41.setCell ⟨gb315, 0, none⟩ (.slice Ao42 x312000_2.length co42)).setCell ⟨gb315, 1, none⟩ (.slice Ao47 x312001_2.length co47)).setCell ⟨gb315, 2, none⟩ (.slice Ao48 x312002_2.length co48)) w.heap.size (fun k_ => some k_ ≠ (.slice Ao42 x312000_2.length co42 : Value).ownBlock ∧ some k_ ≠ (.slice Ao48 x312002_2.length co48 : Value).ownBlock) (.slice Ao47 x312001_2.length co47) x312001_2) := ⟨by (with_reducible repeat (first | apply r1_ | apply r2_ | apply r3_)); exact Kd.R_mono (Kd.R_far (p := ⟨gb315, 2, none⟩) (Kd.R_far (p := ⟨gb315, 1, none⟩) (Kd.R_far (p := ⟨gb315, 0, none⟩) (Kd.R_types HO_312001.out BK315.out (by decide)) (fun _ hk => hk.2) (.slice Ao42 x312000_2.length co42)) (fun _ hk => hk.2) (.slice Ao47 x312001_2.length co47)) (fun _ hk => hk.2) (.slice Ao48 x312002_2.length co48)) (fun _ hk => ⟨hk.1.1, hk.1.2⟩)⟩
       have n3_ : Aside0 (Kd.R (Kd.int .i64) 3 (((w41.setCell ⟨gb315, 0, none⟩ (.slice Ao42 x312000_2.length co42)).setCell ⟨gb315, 1, none⟩ (.slice Ao47 x312001_2.length co47)).setCell ⟨gb315, 2, none⟩ (.slice Ao48 x312002_2.length co48)) w.heap.size (fun k_ => some k_ ≠ (.slice Ao42 x312000_2.length co42 : Value).ownBlock ∧ some k_ ≠ (.slice Ao47 x312001_2.length co47 : Value).ownBlock) (.slice Ao48 x312002_2.length co48) x312002_2) := ⟨by (with_reducible repeat (first | apply r1_ | apply r2_ | apply r3_)); exact Kd.R_mono (Kd.R_far (p := ⟨gb315, 2, none⟩) (Kd.R_far (p := ⟨gb315, 1, none⟩) (Kd.R_far (p := ⟨gb315, 0, none⟩) (Kd.R_types HO_312002.out BK315.out (by decide)) (fun _ hk => hk.2) (.slice Ao42 x312000_2.length co42)) (fun _ hk => hk.2) (.slice Ao47 x312001_2.length co47)) (fun _ hk => hk.2) (.slice Ao48 x312002_2.length co48)) (fun _ hk => ⟨hk.1.1, hk.1.2⟩)⟩
       have n4_ : Aside0 ((((w41.setCell ⟨gb315, 0, none⟩ (.slice Ao42 x312000_2.length co42)).setCell ⟨gb315, 1, none⟩ (.slice Ao47 x312001_2.length co47)).setCell ⟨gb315, 2, none⟩ (.slice Ao48 x312002_2.length co48)).heap[gb290]? = some (.cells #[.slice A0_0 l0_0.length c0_0, .slice A0_1 l0_1.length c0_1, .slice A0_2 l0_2.length c0_2] 26 (0, 0))) := ⟨by (with_reducible repeat (first | apply b1_ | apply b2_ | apply b3_)); refine blk_far ?_ NB290_315.out _; (with_reducible repeat (first | apply b1_ | apply b2_ | apply b3_)); refine blk_far ?_ NB290_315.out _; (with_reducible repeat (first | apply b1_ | apply b2_ | apply b3_)); refine blk_far ?_ NB290_315.out _; (with_reducible repeat (first | apply b1_ | apply b2_ | apply b3_)); exact BK290.out⟩
       have n5_ : Aside0 ((((w41.setCell ⟨gb315, 0, none⟩ (.slice Ao42 x312000_2.length co42)).setCell ⟨gb315, 1, none⟩ (.slice Ao47 x312001_2.length co47)).setCell ⟨gb315, 2, none⟩ (.slice Ao48 x312002_2.length co48)).heap[gb291]? = some (.cells #[.slice none 0 0, .slice none 0 0, .slice none 0 0] 26 (0, 0))) := ⟨by (with_reducible repeat (first | apply b1_ | apply b2_ | apply b3_)); refine blk_far ?_ NB291_315.out _; (with_reducible repeat (first | apply b1_ | apply b2_ | apply b3_)); refine blk_far ?_ NB291_315.out _; (with_reducible repeat (first | apply b1_ | apply b2_ | apply b3_)); refine blk_far ?_ NB291_315.out _; (with_reducible repeat (first | apply b1_ | apply b2_ | apply b3_)); exact BK291.out⟩
       have n6_ : Aside0 ((((w41.setCell ⟨gb315, 0, none⟩ (.slice Ao42 x312000_2.length co42)).setCell ⟨gb315, 1, none⟩ (.slice Ao47 x312001_2.length co47)).setCell ⟨gb315, 2, none⟩ (.slice Ao48 x312002_2.length co48)).heap[gb311]? = some (.cells #[.slice Ao42 x312000_2.length co42, .slice Ao47 x312001_2.length co47, .slice Ao48 x312002_2.length co48] 26 (0, 0))) := ⟨by (with_reducible repeat (first | apply b1_ | apply b2_ | apply b3_)); refine blk_far ?_ NB311_315.out _; (with_reducible repeat (first | apply b1_ | apply b2_ | apply b3_)); refine blk_far ?_ NB311_315.out _; (with_reducible repeat (first | apply b1_ | apply b2_ | apply b3_)); refine blk_far ?_ NB311_315.out _; (with_reducible repeat (first | apply b1_ | apply b2_ | apply b3_)); exact BK311.out⟩
       have n7_ : Aside0 ((((w41.setCell ⟨gb315, 0, none⟩ (.slice Ao42 x312000_2.length co42)).setCell ⟨gb315, 1, none⟩ (.slice Ao47 x312001_2.length co47)).setCell ⟨gb315, 2, none⟩ (.slice Ao48 x312002_2.length co48)).heap[gb315]? = some (.cells #[.slice Ao42 x312000_2.length co42, .slice Ao47 x312001_2.length co47, .slice Ao48 x312002_2.length co48] 26 (0, 0))) := ⟨by (with_reducible repeat (first | apply b1_ | apply b2_ | apply b3_)); refine blk_put (cs := #[.slice Ao42 x312000_2.length co42, .slice Ao47 x312001_2.length co47, .slice none 0 0]) ?_ 2 _ rfl; (with_reducible repeat (first | apply b1_ | apply b2_ | apply b3_)); refine blk_put (cs := #[.slice Ao42 x312000_2.length co42, .slice none 0 0, .slice none 0 0]) ?_ 1 _ rfl; (with_reducible repeat (first | apply b1_ | apply b2_ | apply b3_)); refine blk_put (cs := #[.slice none 0 0, .slice none 0 0, .slice none 0 0]) ?_ 0 _ rfl; (with_reducible repeat (first | apply b1_ | apply b2_ | apply b3_)); exact BK315.out⟩
       have n8_ : Aside0 (Below w.heap.size w (((w41.setCell ⟨gb315, 0, none⟩ (.slice Ao42 x312000_2.length co42)).setCell ⟨gb315, 1, none⟩ (.slice Ao47 x312001_2.length co47)).setCell ⟨gb315, 2, none⟩ (.slice Ao48 x312002_2.length co48))) := ⟨by repeat (first | (with_reducible first | exact HB.out | apply below_alloc | apply pw_below_drewN | apply below_drew1 | refine below_set ?_ GE290.out | refine below_set ?_ GE291.out | refine below_set ?_ GE311.out | refine below_set ?_ GE315.out) | exact HB.out)⟩
       (try clear HO_7)
       (try clear HO_312000)
       (try clear HO_312001)
       (try clear HO_312002)
       (try clear BK290)
       (try clear BK291)
       (try clear BK311)
       (try clear BK315)
       (try clear HB)
       generalize (((w41.setCell ⟨gb315, 0, none⟩ (.slice Ao42 x312000_2.length co42)).setCell ⟨gb315, 1, none⟩ (.slice Ao47 x312001_2.length co47)).setCell ⟨gb315, 2, none⟩ (.slice Ao48 x312002_2.length co48)) = w88 at n0_ n1_ n2_ n3_ n4_ n5_ n6_ n7_ n8_ ⊢
       have HO_7 := n0_
       have HO_312000 := n1_
       have HO_312001 := n2_
       have HO_312002 := n3_
       have BK290 := n4_
       have BK291 := n5_
       have BK311 := n6_
       have BK315 := n7_
       have HB := n8_
       clear n0_ n1_ n2_ n3_ n4_ n5_ n6_ n7_ n8_
       replace HO_7 := am (Kd.R_drew HO_7.out)
       replace HO_312000 := am (Kd.R_drew HO_312000.out)
       replace HO_312001 := am (Kd.R_drew HO_312001.out)
       replace HO_312002 := am (Kd.R_drew HO_312002.out)
       replace BK290 := am (blk_drew BK290.out)
       replace BK291 := am (blk_drew BK291.out)
       replace BK311 := am (blk_drew BK311.out)
       replace BK315 := am (blk_drew BK315.out)
       replace HB := am (below_drew1 HB.out)
       have p344 : 0 ≤ (x8_2 : Int) := of_decide_eq_true Q5
       have q344 : x8_2 < (l1.length : Int) := of_decide_eq_true Q5
       obtain ⟨ad344, A344_2, c344_2, e344, hx344_0, hx344_1, hx344_2, hl344_2, hi344_2⟩ := at_T77 HR1.out x8_2 p344 q344
       (try clear hx317_2)
       have hw344_2 := hx344_2
       have hw344_1 := hx344_1
       have hw344_0 := hx344_0
       obtain rfl : ad316 = ad344 := (by injection e344)
       replace hx344_0 := cm HB.out hx344_0
       replace hx344_1 := cm HB.out hx344_1
       replace hx344_2 := cm HB.out hx344_2
       have HR344_2 := am hi344_2
       have HC344_2 := am hl344_2
       clear hi344_2 hl344_2
       replace p344 := eq_true p344
       replace q344 := eq_true q344
       refine start_ (n := 12) (S := fun w' => w'.cell? ⟨gb311, 0, none⟩ = some (.slice Ao42 x312000_2.length co42) ∧ w'.cell? ⟨gb311, 1, none⟩ = some (.slice Ao47 x312001_2.length co47) ∧ w'.cell? ⟨gb311, 2, none⟩ = some (.slice Ao48 x312002_2.length co48) ∧ w'.cell? (ad316.add ((x8_2).toNat * 3)) = some (.int .i64 ((rd_T77 l1 x8_2).f0)) ∧ w'.cell? ⟨(ad316.add ((x8_2).toNat * 3)).block, (ad316.add ((x8_2).toNat * 3)).off + 1, none⟩ = some (.int .i64 ((rd_T77 l1 x8_2).f1)) ∧ w'.cell? ⟨(ad316.add ((x8_2).toNat * 3)).block, (ad316.add ((x8_2).toNat * 3)).off + 2, none⟩ = some (.slice A344_2 ((rd_T77 l1 x8_2).f2).length c344_2)) (ds := []) b0_12 kr rfl rfl ⟨(blk_cell BK311.out 0).trans rfl, (blk_cell BK311.out 1).trans rfl, (blk_cell BK311.out 2).trans rfl, (cm HB.out hw344_0), (cm HB.out hw344_1), (cm HB.out hw344_2)⟩ (fun hHeld => ?_); refine with_tabW spec_PlayConf.tab16 spec_PlayConf.bits16 (fun HT_ HW_ => ?_)
       generalize w88.drew = w89 at HO_7 HO_312000 HO_312001 HO_312002 BK290 BK291 BK311 BK315 HB HR344_2 hx344_0 hx344_1 hx344_2 hHeld ⊢
       refine pV 1 59 bx14 ?_
       refine pV 2 60 bx15 ?_
       refine pV 3 61 bx16 ?_
       refine pV 4 62 bx17 ?_
       refine tV 0 58 (bt 5 12) ?_
       refine tV 5 63 (bt 6 12) ?_
       refine one_ (i := 6) (N := some 64) b7_12 rfl rfl (one_of HT_.out kr) (by decide) (fun K hK => ?_)
       refine goes_ Try.func21 kr rfl #[.agg #[.slice Ao42 x312000_2.length co42, .slice Ao47 x312001_2.length co47, .slice Ao48 x312002_2.length co48], .int .i64 ((rd_T77 l1 x8_2).f1), .bool true] (by rfl) rfl rfl Q10 ?_
       with_reducible refine (spec_Learner.calls k2 _ _ x312000_2 _ _ x312001_2 _ _ x312002_2 ((rd_T77 l1 x8_2).f1) true t345 t348 t351 t354 _ ?side1 ?side2 ?side3 ?side4 ?side5 ?side6 A86.out).mono ?_
       (case side1 => exact u7_32)
       (case side2 => exact (Kd.R_reads' HO_312000.out).2.1)
       (case side3 => exact u7_33)
       (case side4 => exact (Kd.R_reads' HO_312001.out).2.1)
       (case side5 => exact u7_34)
       (case side6 => exact (Kd.R_reads' HO_312002.out).2.1)
       rintro e w90 ⟨v346, v349, v352, rfl, ho0, ho1, ho2, hb⟩
       refine ⟨_, rfl, ?_⟩
       replace HO_7 := am (Kd.R_below u7_37 hb)
       have HO347 := am (Kd.R_lower (Kd.R_new' (Kd.R_new' (Kd.R_new' ho0 (Kd.R_lt u7_14)) (Kd.R_lt u7_15)) (Kd.R_lt u7_16)) (below_size Q6))
       have HO350 := am (Kd.R_lower (Kd.R_new' (Kd.R_new' (Kd.R_new' ho1 (Kd.R_lt u7_14)) (Kd.R_lt u7_15)) (Kd.R_lt u7_16)) (below_size Q6))
       have HO353 := am (Kd.R_lower (Kd.R_new' (Kd.R_new' (Kd.R_new' ho2 (Kd.R_lt u7_14)) (Kd.R_lt u7_15)) (Kd.R_lt u7_16)) (below_size Q6))
       replace HO_312000 := am (Kd.R_mono (Kd.R_told (Kd.R_told (Kd.R_told (Kd.R_old u7_14 hb) (Kd.R_base ho0)) (Kd.R_base ho1)) (Kd.R_base ho2)) (fun _ h_ => h_.1))
       replace HO_312001 := am (Kd.R_mono (Kd.R_told (Kd.R_told (Kd.R_told (Kd.R_old u7_15 hb) (Kd.R_base ho0)) (Kd.R_base ho1)) (Kd.R_base ho2)) (fun _ h_ => h_.1))
       replace HO_312002 := am (Kd.R_mono (Kd.R_told (Kd.R_told (Kd.R_told (Kd.R_old u7_16 hb) (Kd.R_base ho0)) (Kd.R_base ho1)) (Kd.R_base ho2)) (fun _ h_ => h_.1))
       replace BK290 := am (bb_ BK290.out u7_8 hb)
       replace BK291 := am (bb_ BK291.out u7_9 hb)
       replace BK311 := am (bb_ BK311.out u7_27 hb)
       replace BK315 := am (bb_ BK315.out u7_43 hb)
       replace HB := am (below_step Q6 hb)
       (try clear hb)
       (try clear hb2)
       (try clear hk)
       (try clear hi)
       (try clear ho0)
       (try clear ho1)
       (try clear ho2)
       obtain ⟨Ao91, co91, eo91⟩ := Kd.R_slice HO347.out
       (first | subst eo91 | (injection eo91 with f1_ f2_ f3_; have f4_ := f1_.symm; have f5_ := f3_.symm; clear f1_ f2_ f3_; subst f4_; subst f5_))
       obtain ⟨Ao93, co93, eo93⟩ := Kd.R_slice HO350.out
       (first | subst eo93 | (injection eo93 with f1_ f2_ f3_; have f4_ := f1_.symm; have f5_ := f3_.symm; clear f1_ f2_ f3_; subst f4_; subst f5_))
       obtain ⟨Ao95, co95, eo95⟩ := Kd.R_slice HO353.out
       (first | subst eo95 | (injection eo95 with f1_ f2_ f3_; have f4_ := f1_.symm; have f5_ := f3_.symm; clear f1_ f2_ f3_; subst f4_; subst f5_))
       refine hK.out _ _ ⟨(blk_cell BK311.out 0).trans rfl, (blk_cell BK311.out 1).trans rfl, (blk_cell BK311.out 2).trans rfl, (cm HB.out hw344_0), (cm HB.out hw344_1), (cm HB.out hw344_2)⟩ (fun hHeld => ?_)
       clear hK K
       refine norm_ (a' := ?_) ?_ ?_
       rotate_left
       · show Act.put _ (some 64) _ = _
         simp only [Act.put, la, lb, lc, i64_w, i32_w]
         rfl
       refine pV 7 57 (bt 8 12) ?_
       refine pV 8 65 (bt 9 12) ?_
       refine pV 9 66 (bt 10 12) ?_
       refine one_ (i := 10) (N := none) b11_12 rfl rfl (one_of HT_.out kr) (by decide) (fun K hK => ?_)
       have hs92 : w90.cell? ⟨gb315, 0, none⟩ = some (.slice Ao42 x312000_2.length co42) := (blk_cell BK315.out 0).trans rfl
       have hfs92 := blk_frozen BK315.out 0
       have hns92_0 := NB290_315.out
       have hns92_1 := NB291_315.out
       have hns92_2 := NB311_315.out
       have hms92_0 := NB315_290.out
       have hms92_1 := NB315_291.out
       have hms92_2 := NB315_311.out
       have hs94 : w90.cell? ⟨gb315, 1, none⟩ = some (.slice Ao47 x312001_2.length co47) := (blk_cell BK315.out 1).trans rfl
       have hfs94 := blk_frozen BK315.out 1
       have hns94_0 := NB290_315.out
       have hns94_1 := NB291_315.out
       have hns94_2 := NB311_315.out
       have hms94_0 := NB315_290.out
       have hms94_1 := NB315_291.out
       have hms94_2 := NB315_311.out
       have hs96 : w90.cell? ⟨gb315, 2, none⟩ = some (.slice Ao48 x312002_2.length co48) := (blk_cell BK315.out 2).trans rfl
       have hfs96 := blk_frozen BK315.out 2
       have hns96_0 := NB290_315.out
       have hns96_1 := NB291_315.out
       have hns96_2 := NB311_315.out
       have hms96_0 := NB315_290.out
       have hms96_1 := NB315_291.out
       have hms96_2 := NB315_311.out
       refine skip_ (w1 := ?_) (by rfl) rfl ?_ ?_
       rotate_left
       · go_simp
         rfl
       refine hK.out _ _ ⟨((cell_far (p := ⟨gb315, _, none⟩) NB311_315.out _).trans (((cell_far (p := ⟨gb315, _, none⟩) NB311_315.out _).trans (((cell_far (p := ⟨gb315, _, none⟩) NB311_315.out _).trans (hHeld.1)))))), ((cell_far (p := ⟨gb315, _, none⟩) NB311_315.out _).trans (((cell_far (p := ⟨gb315, _, none⟩) NB311_315.out _).trans (((cell_far (p := ⟨gb315, _, none⟩) NB311_315.out _).trans (hHeld.2.1)))))), ((cell_far (p := ⟨gb315, _, none⟩) NB311_315.out _).trans (((cell_far (p := ⟨gb315, _, none⟩) NB311_315.out _).trans (((cell_far (p := ⟨gb315, _, none⟩) NB311_315.out _).trans (hHeld.2.2.1)))))), ((cell_far (p := ⟨gb315, _, none⟩) u7_21 _).trans (((cell_far (p := ⟨gb315, _, none⟩) u7_21 _).trans (((cell_far (p := ⟨gb315, _, none⟩) u7_21 _).trans (hHeld.2.2.2.1)))))), ((cell_far (p := ⟨gb315, _, none⟩) u7_22 _).trans (((cell_far (p := ⟨gb315, _, none⟩) u7_22 _).trans (((cell_far (p := ⟨gb315, _, none⟩) u7_22 _).trans (hHeld.2.2.2.2.1)))))), ((cell_far (p := ⟨gb315, _, none⟩) u7_23 _).trans (((cell_far (p := ⟨gb315, _, none⟩) u7_23 _).trans (((cell_far (p := ⟨gb315, _, none⟩) u7_23 _).trans (hHeld.2.2.2.2.2))))))⟩ (fun hHeld => ?_)
       clear hK K
       refine pV 11 9 (bt 12 12) ?_
       refine done_ (done_of HT_.out kr) ?_
       have hnb97 := NB315_290.out
       have hnc97 := NB290_315.out
       have hnb98 := NB315_291.out
       have hnc98 := NB291_315.out
       have hnb99 := NB315_311.out
       have hnc99 := NB311_315.out
       obtain ⟨hcz100_0, hcz100_1, hcz100_2, hfz100_0, hfz100_1, hfz100_2⟩ := bc3f w90 BK315.out
       have hnb101 := NB311_290.out
       have hnc101 := NB290_311.out
       have hnb102 := NB311_291.out
       have hnc102 := NB291_311.out
       obtain ⟨hcz103_0, hcz103_1, hcz103_2, hfz103_0, hfz103_1, hfz103_2⟩ := bc3f w90 BK311.out
       try go_wp2_with (first | ((with_reducible refine gate_builtin (b := .append) (xs := #[.tmp 80, .tmp 82]) rfl ?_); (try (refine gate_guard (by rfl) ?_; dsimp only)); at_builtin; refine Kd.R_append Kd.bool (w0 := w) w.heap.size rfl (.tmp 80) (.tmp 82) 48 4 (.bool false) 1 rfl Try.underlying48 info4 rfl (by decide) (by omega) u7 x7_2 t354 [.bool t354] (fun _ => True) (fun _ => False) rfl Q13 ?aP (fun _ hk => hk.elim) ?aF ?aO ?aB ?aS ?aL ?_; (case aP => exact rfl); (case aB => exact Q6); (case aF => exact (fun _ _ => trivial)); (case aO => exact (by (with_reducible repeat (first | apply r1_ | apply r2_ | apply r3_)); exact Kd.R_mono (Kd.R_far (p := ⟨gb311, 2, none⟩) (Kd.R_far (p := ⟨gb311, 1, none⟩) (Kd.R_far (p := ⟨gb311, 0, none⟩) (Kd.R_far (p := ⟨gb315, 2, none⟩) (Kd.R_far (p := ⟨gb315, 1, none⟩) (Kd.R_far (p := ⟨gb315, 0, none⟩) (Kd.R_types (Kd.R_types HO_7.out BK315.out (by decide)) BK311.out (by decide)) (fun _ hk => hk.1.2) (.slice Ao91 t345.length co91)) (fun _ hk => hk.1.2) (.slice Ao93 t348.length co93)) (fun _ hk => hk.1.2) (.slice Ao95 t351.length co95)) (fun _ hk => hk.2) (.slice Ao91 t345.length co91)) (fun _ hk => hk.2) (.slice Ao93 t348.length co93)) (fun _ hk => hk.2) (.slice Ao95 t351.length co95)) (fun _ hk => trivial))); (case aS => exact (below_size Q6)); (case aL => have := LMc87.out; omega); intro v356 w104 ho hb hg hat; rw [← Ny355.out] at ho; replace HO_312000 := am (Kd.R_over' (by (with_reducible repeat (first | apply r1_ | apply r2_ | apply r3_)); exact (Kd.R_mono (Kd.R_mono (Kd.R_far (p := ⟨gb311, 2, none⟩) (Kd.R_far (p := ⟨gb311, 1, none⟩) (Kd.R_far (p := ⟨gb311, 0, none⟩) (Kd.R_far (p := ⟨gb315, 2, none⟩) (Kd.R_far (p := ⟨gb315, 1, none⟩) (Kd.R_far (p := ⟨gb315, 0, none⟩) (Kd.R_types (Kd.R_types HO_312000.out BK315.out (by decide)) BK311.out (by decide)) (fun _ hk => hk.1.2) (.slice Ao91 t345.length co91)) (fun _ hk => hk.1.2) (.slice Ao93 t348.length co93)) (fun _ hk => hk.1.2) (.slice Ao95 t351.length co95)) (fun _ hk => hk.2) (.slice Ao91 t345.length co91)) (fun _ hk => hk.2) (.slice Ao93 t348.length co93)) (fun _ hk => hk.2) (.slice Ao95 t351.length co95)) (fun _ h_ => h_.1)) (fun _ h_ => h_.1))) (Kd.R_typed u7_6) (by decide) hg); replace HO_312001 := am (Kd.R_over' (by (with_reducible repeat (first | apply r1_ | apply r2_ | apply r3_)); exact (Kd.R_mono (Kd.R_mono (Kd.R_far (p := ⟨gb311, 2, none⟩) (Kd.R_far (p := ⟨gb311, 1, none⟩) (Kd.R_far (p := ⟨gb311, 0, none⟩) (Kd.R_far (p := ⟨gb315, 2, none⟩) (Kd.R_far (p := ⟨gb315, 1, none⟩) (Kd.R_far (p := ⟨gb315, 0, none⟩) (Kd.R_types (Kd.R_types HO_312001.out BK315.out (by decide)) BK311.out (by decide)) (fun _ hk => hk.1.2) (.slice Ao91 t345.length co91)) (fun _ hk => hk.1.2) (.slice Ao93 t348.length co93)) (fun _ hk => hk.1.2) (.slice Ao95 t351.length co95)) (fun _ hk => hk.2) (.slice Ao91 t345.length co91)) (fun _ hk => hk.2) (.slice Ao93 t348.length co93)) (fun _ hk => hk.2) (.slice Ao95 t351.length co95)) (fun _ h_ => h_.1)) (fun _ h_ => h_.1))) (Kd.R_typed u7_6) (by decide) hg); replace HO_312002 := am (Kd.R_over' (by (with_reducible repeat (first | apply r1_ | apply r2_ | apply r3_)); exact (Kd.R_mono (Kd.R_mono (Kd.R_far (p := ⟨gb311, 2, none⟩) (Kd.R_far (p := ⟨gb311, 1, none⟩) (Kd.R_far (p := ⟨gb311, 0, none⟩) (Kd.R_far (p := ⟨gb315, 2, none⟩) (Kd.R_far (p := ⟨gb315, 1, none⟩) (Kd.R_far (p := ⟨gb315, 0, none⟩) (Kd.R_types (Kd.R_types HO_312002.out BK315.out (by decide)) BK311.out (by decide)) (fun _ hk => hk.1.2) (.slice Ao91 t345.length co91)) (fun _ hk => hk.1.2) (.slice Ao93 t348.length co93)) (fun _ hk => hk.1.2) (.slice Ao95 t351.length co95)) (fun _ hk => hk.2) (.slice Ao91 t345.length co91)) (fun _ hk => hk.2) (.slice Ao93 t348.length co93)) (fun _ hk => hk.2) (.slice Ao95 t351.length co95)) (fun _ h_ => h_.1)) (fun _ h_ => h_.1))) (Kd.R_typed u7_6) (by decide) hg); replace BK290 := am (blk_grown (g := gb290) (o := .cells #[.slice A0_0 l0_0.length c0_0, .slice A0_1 l0_1.length c0_1, .slice A0_2 l0_2.length c0_2] 26 (0, 0)) u7_2 hg (Kd.R_ne HO_7.out BK290.out (by decide))); replace BK291 := am (blk_grown (g := gb291) (o := .cells #[.slice none 0 0, .slice none 0 0, .slice none 0 0] 26 (0, 0)) u7_3 hg (Kd.R_ne HO_7.out BK291.out (by decide))); replace HO347 := am (Kd.R_over' (by (with_reducible repeat (first | apply r1_ | apply r2_ | apply r3_)); exact (Kd.R_mono (Kd.R_mono (Kd.R_far (p := ⟨gb311, 2, none⟩) (Kd.R_far (p := ⟨gb311, 1, none⟩) (Kd.R_far (p := ⟨gb311, 0, none⟩) (Kd.R_far (p := ⟨gb315, 2, none⟩) (Kd.R_far (p := ⟨gb315, 1, none⟩) (Kd.R_far (p := ⟨gb315, 0, none⟩) (Kd.R_types (Kd.R_types HO347.out BK315.out (by decide)) BK311.out (by decide)) (fun _ hk => hk.1.2) (.slice Ao91 t345.length co91)) (fun _ hk => hk.1.2) (.slice Ao93 t348.length co93)) (fun _ hk => hk.1.2) (.slice Ao95 t351.length co95)) (fun _ hk => hk.2) (.slice Ao91 t345.length co91)) (fun _ hk => hk.2) (.slice Ao93 t348.length co93)) (fun _ hk => hk.2) (.slice Ao95 t351.length co95)) (fun _ h_ => h_.1)) (fun _ h_ => h_.1))) (Kd.R_typed u7_6) (by decide) hg); replace HO350 := am (Kd.R_over' (by (with_reducible repeat (first | apply r1_ | apply r2_ | apply r3_)); exact (Kd.R_mono (Kd.R_mono (Kd.R_far (p := ⟨gb311, 2, none⟩) (Kd.R_far (p := ⟨gb311, 1, none⟩) (Kd.R_far (p := ⟨gb311, 0, none⟩) (Kd.R_far (p := ⟨gb315, 2, none⟩) (Kd.R_far (p := ⟨gb315, 1, none⟩) (Kd.R_far (p := ⟨gb315, 0, none⟩) (Kd.R_types (Kd.R_types HO350.out BK315.out (by decide)) BK311.out (by decide)) (fun _ hk => hk.1.2) (.slice Ao91 t345.length co91)) (fun _ hk => hk.1.2) (.slice Ao93 t348.length co93)) (fun _ hk => hk.1.2) (.slice Ao95 t351.length co95)) (fun _ hk => hk.2) (.slice Ao91 t345.length co91)) (fun _ hk => hk.2) (.slice Ao93 t348.length co93)) (fun _ hk => hk.2) (.slice Ao95 t351.length co95)) (fun _ h_ => h_.1)) (fun _ h_ => h_.1))) (Kd.R_typed u7_6) (by decide) hg); replace HO353 := am (Kd.R_over' (by (with_reducible repeat (first | apply r1_ | apply r2_ | apply r3_)); exact (Kd.R_mono (Kd.R_mono (Kd.R_far (p := ⟨gb311, 2, none⟩) (Kd.R_far (p := ⟨gb311, 1, none⟩) (Kd.R_far (p := ⟨gb311, 0, none⟩) (Kd.R_far (p := ⟨gb315, 2, none⟩) (Kd.R_far (p := ⟨gb315, 1, none⟩) (Kd.R_far (p := ⟨gb315, 0, none⟩) (Kd.R_types (Kd.R_types HO353.out BK315.out (by decide)) BK311.out (by decide)) (fun _ hk => hk.1.2) (.slice Ao91 t345.length co91)) (fun _ hk => hk.1.2) (.slice Ao93 t348.length co93)) (fun _ hk => hk.1.2) (.slice Ao95 t351.length co95)) (fun _ hk => hk.2) (.slice Ao91 t345.length co91)) (fun _ hk => hk.2) (.slice Ao93 t348.length co93)) (fun _ hk => hk.2) (.slice Ao95 t351.length co95)) (fun _ h_ => h_.1)) (fun _ h_ => h_.1))) (Kd.R_typed u7_6) (by decide) hg); replace BK311 := am (blk_grown (g := gb311) (o := .cells #[.slice Ao91 t345.length co91, .slice Ao93 t348.length co93, .slice Ao95 t351.length co95] 26 (0, 0)) (by (with_reducible repeat (first | apply b1_ | apply b2_ | apply b3_)); refine blk_put (cs := #[.slice Ao91 t345.length co91, .slice Ao93 t348.length co93, .slice Ao48 x312002_2.length co48]) ?_ 2 _ rfl; (with_reducible repeat (first | apply b1_ | apply b2_ | apply b3_)); refine blk_put (cs := #[.slice Ao91 t345.length co91, .slice Ao47 x312001_2.length co47, .slice Ao48 x312002_2.length co48]) ?_ 1 _ rfl; (with_reducible repeat (first | apply b1_ | apply b2_ | apply b3_)); refine blk_put (cs := #[.slice Ao42 x312000_2.length co42, .slice Ao47 x312001_2.length co47, .slice Ao48 x312002_2.length co48]) ?_ 0 _ rfl; (with_reducible repeat (first | apply b1_ | apply b2_ | apply b3_)); refine blk_far ?_ NB311_315.out _; (with_reducible repeat (first | apply b1_ | apply b2_ | apply b3_)); refine blk_far ?_ NB311_315.out _; (with_reducible repeat (first | apply b1_ | apply b2_ | apply b3_)); refine blk_far ?_ NB311_315.out _; (with_reducible repeat (first | apply b1_ | apply b2_ | apply b3_)); exact BK311.out) hg (Kd.R_ne HO_7.out BK311.out (by decide))); replace BK315 := am (blk_grown (g := gb315) (o := .cells #[.slice Ao91 t345.length co91, .slice Ao93 t348.length co93, .slice Ao95 t351.length co95] 26 (0, 0)) (by (with_reducible repeat (first | apply b1_ | apply b2_ | apply b3_)); refine blk_far ?_ NB315_311.out _; (with_reducible repeat (first | apply b1_ | apply b2_ | apply b3_)); refine blk_far ?_ NB315_311.out _; (with_reducible repeat (first | apply b1_ | apply b2_ | apply b3_)); refine blk_far ?_ NB315_311.out _; (with_reducible repeat (first | apply b1_ | apply b2_ | apply b3_)); refine blk_put (cs := #[.slice Ao91 t345.length co91, .slice Ao93 t348.length co93, .slice Ao48 x312002_2.length co48]) ?_ 2 _ rfl; (with_reducible repeat (first | apply b1_ | apply b2_ | apply b3_)); refine blk_put (cs := #[.slice Ao91 t345.length co91, .slice Ao47 x312001_2.length co47, .slice Ao48 x312002_2.length co48]) ?_ 1 _ rfl; (with_reducible repeat (first | apply b1_ | apply b2_ | apply b3_)); refine blk_put (cs := #[.slice Ao42 x312000_2.length co42, .slice Ao47 x312001_2.length co47, .slice Ao48 x312002_2.length co48]) ?_ 0 _ rfl; (with_reducible repeat (first | apply b1_ | apply b2_ | apply b3_)); exact BK315.out) hg (Kd.R_ne HO_7.out BK315.out (by decide))); replace HB := am (hb); have HO357 := am (ho); clear HO_7; clear ho hb hg hat))
       go_roundg k2
       case measure => have := HJ2.out; have := HK2.out; omega
       case rel => exact ⟨(y355), (wrap64 (x8_2 + 1)), (t345), (t348), (t351), (.slice Ao91 t345.length co91), (.slice Ao93 t348.length co93), (.slice Ao95 t351.length co95), Q9, H', ⟨Q12⟩, ⟨(by (with_reducible repeat (first | apply r1_ | apply r2_ | apply r3_)); exact HO357.out)⟩, ⟨(by (with_reducible repeat (first | apply r1_ | apply r2_ | apply r3_)); exact Kd.R_mono HO347.out (fun _ hk => ⟨hk.1.1.1.1, hk.1.1.1.2⟩))⟩, ⟨(by (with_reducible repeat (first | apply r1_ | apply r2_ | apply r3_)); exact Kd.R_mono HO350.out (fun _ hk => ⟨hk.1.1.1.1, hk.1.1.1.2⟩))⟩, ⟨(by (with_reducible repeat (first | apply r1_ | apply r2_ | apply r3_)); exact Kd.R_mono HO353.out (fun _ hk => ⟨hk.1.1.1.1, hk.1.1.1.2⟩))⟩, ⟨u7_8⟩, ⟨u7_9⟩, ⟨u7_27⟩, ⟨Q6⟩⟩
     rw [if_neg c85] at H
     have c85b0 : (((rd_T77 l1 x8_2).f0) == 2) = false := beq_eq_false_iff_ne.mpr c85
     have c85b1 : (((rd_T77 l1 x8_2).f0) != 2) = true := bne_iff_ne.mpr c85
     by_cases c105 : ((rd_T77 l1 x8_2).f0) = 3
     rotate_left
     · rw [if_neg c105] at H
       have c105b0 : (((rd_T77 l1 x8_2).f0) == 3) = false := beq_eq_false_iff_ne.mpr c105
       have c105b1 : (((rd_T77 l1 x8_2).f0) != 3) = true := bne_iff_ne.mpr c105
       by_cases c125 : x7_2.length < 140737488355328
       rotate_left
       · rw [if_neg c125] at H
         exact absurd H (by simp)
       rw [if_pos c125] at H
       have LMc125 := am c125
       clear c125
       obtain ⟨y372, hy372⟩ : ∃ y_ : List Bool, y_ = (x7_2 ++ [false]) := ⟨_, rfl⟩
       replace H : (spec_PlayConf.l0 k2 l1 y372 (wrap64 (x8_2 + 1)) x312000_2 x312001_2 x312002_2) = some (r1, r2, r3, r4) := by first | (rw [hy372]; with_reducible exact H) | (have H2_ := (Option.bind_some _ _).symm.trans H; rw [hy372]; with_reducible exact H2_) | (have H2_ := (Option.bind_some _ _).symm.trans H; with_reducible exact H2_) | with_reducible exact H | (rw [hy372]; exact H) | exact H
       have Ny372 := am hy372
       clear hy372
       have H' := am H
       clear H
       have hnb126 := NB315_290.out
       have hnc126 := NB290_315.out
       have hnb127 := NB315_291.out
       have hnc127 := NB291_315.out
       have hnb128 := NB315_311.out
       have hnc128 := NB311_315.out
       obtain ⟨hcz129_0, hcz129_1, hcz129_2, hfz129_0, hfz129_1, hfz129_2⟩ := bc3f w41 BK315.out
       have hnb130 := NB311_290.out
       have hnc130 := NB290_311.out
       have hnb131 := NB311_291.out
       have hnc131 := NB291_311.out
       obtain ⟨hcz132_0, hcz132_1, hcz132_2, hfz132_0, hfz132_1, hfz132_2⟩ := bc3f w41 BK311.out
       go_wp2_with (first | ((with_reducible refine gate_builtin (b := .append) (xs := #[.tmp 80, .tmp 82]) rfl ?_); (try (refine gate_guard (by rfl) ?_; dsimp only)); at_builtin; refine Kd.R_append Kd.bool (w0 := w) w.heap.size rfl (.tmp 80) (.tmp 82) 48 4 (.bool false) 1 rfl Try.underlying48 info4 rfl (by decide) (by omega) u7 x7_2 false [.bool false] (fun _ => True) (fun _ => False) rfl Q13 ?aP (fun _ hk => hk.elim) ?aF ?aO ?aB ?aS ?aL ?_; (case aP => exact rfl); (case aB => exact Q6); (case aF => exact (fun _ _ => trivial)); (case aO => exact (by (with_reducible repeat (first | apply r1_ | apply r2_ | apply r3_)); exact Kd.R_mono (Kd.R_far (p := ⟨gb311, 2, none⟩) (Kd.R_far (p := ⟨gb311, 1, none⟩) (Kd.R_far (p := ⟨gb311, 0, none⟩) (Kd.R_far (p := ⟨gb315, 2, none⟩) (Kd.R_far (p := ⟨gb315, 1, none⟩) (Kd.R_far (p := ⟨gb315, 0, none⟩) (Kd.R_types (Kd.R_types HO_7.out BK315.out (by decide)) BK311.out (by decide)) (fun _ hk => hk.1.2) (.slice Ao42 x312000_2.length co42)) (fun _ hk => hk.1.2) (.slice Ao47 x312001_2.length co47)) (fun _ hk => hk.1.2) (.slice Ao48 x312002_2.length co48)) (fun _ hk => hk.2) (.slice Ao42 x312000_2.length co42)) (fun _ hk => hk.2) (.slice Ao47 x312001_2.length co47)) (fun _ hk => hk.2) (.slice Ao48 x312002_2.length co48)) (fun _ hk => trivial))); (case aS => exact (below_size Q6)); (case aL => have := LMc125.out; omega); intro v373 w133 ho hb hg hat; rw [← Ny372.out] at ho; replace HO_312000 := am (Kd.R_over' (by (with_reducible repeat (first | apply r1_ | apply r2_ | apply r3_)); exact (Kd.R_mono (Kd.R_mono (Kd.R_far (p := ⟨gb311, 2, none⟩) (Kd.R_far (p := ⟨gb311, 1, none⟩) (Kd.R_far (p := ⟨gb311, 0, none⟩) (Kd.R_far (p := ⟨gb315, 2, none⟩) (Kd.R_far (p := ⟨gb315, 1, none⟩) (Kd.R_far (p := ⟨gb315, 0, none⟩) (Kd.R_types (Kd.R_types HO_312000.out BK315.out (by decide)) BK311.out (by decide)) (fun _ hk => hk.1.2) (.slice Ao42 x312000_2.length co42)) (fun _ hk => hk.1.2) (.slice Ao47 x312001_2.length co47)) (fun _ hk => hk.1.2) (.slice Ao48 x312002_2.length co48)) (fun _ hk => hk.2) (.slice Ao42 x312000_2.length co42)) (fun _ hk => hk.2) (.slice Ao47 x312001_2.length co47)) (fun _ hk => hk.2) (.slice Ao48 x312002_2.length co48)) (fun _ h_ => h_.1)) (fun _ h_ => h_.1))) (Kd.R_typed u7_13) (by decide) hg); replace HO_312001 := am (Kd.R_over' (by (with_reducible repeat (first | apply r1_ | apply r2_ | apply r3_)); exact (Kd.R_mono (Kd.R_mono (Kd.R_far (p := ⟨gb311, 2, none⟩) (Kd.R_far (p := ⟨gb311, 1, none⟩) (Kd.R_far (p := ⟨gb311, 0, none⟩) (Kd.R_far (p := ⟨gb315, 2, none⟩) (Kd.R_far (p := ⟨gb315, 1, none⟩) (Kd.R_far (p := ⟨gb315, 0, none⟩) (Kd.R_types (Kd.R_types HO_312001.out BK315.out (by decide)) BK311.out (by decide)) (fun _ hk => hk.1.2) (.slice Ao42 x312000_2.length co42)) (fun _ hk => hk.1.2) (.slice Ao47 x312001_2.length co47)) (fun _ hk => hk.1.2) (.slice Ao48 x312002_2.length co48)) (fun _ hk => hk.2) (.slice Ao42 x312000_2.length co42)) (fun _ hk => hk.2) (.slice Ao47 x312001_2.length co47)) (fun _ hk => hk.2) (.slice Ao48 x312002_2.length co48)) (fun _ h_ => h_.1)) (fun _ h_ => h_.1))) (Kd.R_typed u7_13) (by decide) hg); replace HO_312002 := am (Kd.R_over' (by (with_reducible repeat (first | apply r1_ | apply r2_ | apply r3_)); exact (Kd.R_mono (Kd.R_mono (Kd.R_far (p := ⟨gb311, 2, none⟩) (Kd.R_far (p := ⟨gb311, 1, none⟩) (Kd.R_far (p := ⟨gb311, 0, none⟩) (Kd.R_far (p := ⟨gb315, 2, none⟩) (Kd.R_far (p := ⟨gb315, 1, none⟩) (Kd.R_far (p := ⟨gb315, 0, none⟩) (Kd.R_types (Kd.R_types HO_312002.out BK315.out (by decide)) BK311.out (by decide)) (fun _ hk => hk.1.2) (.slice Ao42 x312000_2.length co42)) (fun _ hk => hk.1.2) (.slice Ao47 x312001_2.length co47)) (fun _ hk => hk.1.2) (.slice Ao48 x312002_2.length co48)) (fun _ hk => hk.2) (.slice Ao42 x312000_2.length co42)) (fun _ hk => hk.2) (.slice Ao47 x312001_2.length co47)) (fun _ hk => hk.2) (.slice Ao48 x312002_2.length co48)) (fun _ h_ => h_.1)) (fun _ h_ => h_.1))) (Kd.R_typed u7_13) (by decide) hg); replace BK290 := am (blk_grown (g := gb290) (o := .cells #[.slice A0_0 l0_0.length c0_0, .slice A0_1 l0_1.length c0_1, .slice A0_2 l0_2.length c0_2] 26 (0, 0)) u7_2 hg (Kd.R_ne HO_7.out BK290.out (by decide))); replace BK291 := am (blk_grown (g := gb291) (o := .cells #[.slice none 0 0, .slice none 0 0, .slice none 0 0] 26 (0, 0)) u7_3 hg (Kd.R_ne HO_7.out BK291.out (by decide))); replace BK311 := am (blk_grown (g := gb311) (o := .cells #[.slice Ao42 x312000_2.length co42, .slice Ao47 x312001_2.length co47, .slice Ao48 x312002_2.length co48] 26 (0, 0)) (by (with_reducible repeat (first | apply b1_ | apply b2_ | apply b3_)); refine blk_put (cs := #[.slice Ao42 x312000_2.length co42, .slice Ao47 x312001_2.length co47, .slice Ao48 x312002_2.length co48]) ?_ 2 _ rfl; (with_reducible repeat (first | apply b1_ | apply b2_ | apply b3_)); refine blk_put (cs := #[.slice Ao42 x312000_2.length co42, .slice Ao47 x312001_2.length co47, .slice Ao48 x312002_2.length co48]) ?_ 1 _ rfl; (with_reducible repeat (first | apply b1_ | apply b2_ | apply b3_)); refine blk_put (cs := #[.slice Ao42 x312000_2.length co42, .slice Ao47 x312001_2.length co47, .slice Ao48 x312002_2.length co48]) ?_ 0 _ rfl; (with_reducible repeat (first | apply b1_ | apply b2_ | apply b3_)); refine blk_far ?_ NB311_315.out _; (with_reducible repeat (first | apply b1_ | apply b2_ | apply b3_)); refine blk_far ?_ NB311_315.out _; (with_reducible repeat (first | apply b1_ | apply b2_ | apply b3_)); refine blk_far ?_ NB311_315.out _; (with_reducible repeat (first | apply b1_ | apply b2_ | apply b3_)); exact BK311.out) hg (Kd.R_ne HO_7.out BK311.out (by decide))); replace BK315 := am (blk_grown (g := gb315) (o := .cells #[.slice Ao42 x312000_2.length co42, .slice Ao47 x312001_2.length co47, .slice Ao48 x312002_2.length co48] 26 (0, 0)) (by (with_reducible repeat (first | apply b1_ | apply b2_ | apply b3_)); refine blk_far ?_ NB315_311.out _; (with_reducible repeat (first | apply b1_ | apply b2_ | apply b3_)); refine blk_far ?_ NB315_311.out _; (with_reducible repeat (first | apply b1_ | apply b2_ | apply b3_)); refine blk_far ?_ NB315_311.out _; (with_reducible repeat (first | apply b1_ | apply b2_ | apply b3_)); refine blk_put (cs := #[.slice Ao42 x312000_2.length co42, .slice Ao47 x312001_2.length co47, .slice none 0 0]) ?_ 2 _ rfl; (with_reducible repeat (first | apply b1_ | apply b2_ | apply b3_)); refine blk_put (cs := #[.slice Ao42 x312000_2.length co42, .slice none 0 0, .slice none 0 0]) ?_ 1 _ rfl; (with_reducible repeat (first | apply b1_ | apply b2_ | apply b3_)); refine blk_put (cs := #[.slice none 0 0, .slice none 0 0, .slice none 0 0]) ?_ 0 _ rfl; (with_reducible repeat (first | apply b1_ | apply b2_ | apply b3_)); exact BK315.out) hg (Kd.R_ne HO_7.out BK315.out (by decide))); replace HB := am (hb); have HO374 := am (ho); clear HO_7; clear ho hb hg hat))
       go_roundg k2
       case measure => have := HJ2.out; have := HK2.out; omega
       case rel => exact ⟨(y372), (wrap64 (x8_2 + 1)), (x312000_2), (x312001_2), (x312002_2), (.slice Ao42 x312000_2.length co42), (.slice Ao47 x312001_2.length co47), (.slice Ao48 x312002_2.length co48), Q9, H', ⟨Q12⟩, ⟨(by (with_reducible repeat (first | apply r1_ | apply r2_ | apply r3_)); exact HO374.out)⟩, ⟨u7_14⟩, ⟨u7_15⟩, ⟨u7_16⟩, ⟨u7_8⟩, ⟨u7_9⟩, ⟨u7_27⟩, ⟨Q6⟩⟩
     rw [if_pos c105] at H
     have c105b0 : (((rd_T77 l1 x8_2).f0) == 3) = true := beq_iff_eq.mpr c105
     have c105b1 : (((rd_T77 l1 x8_2).f0) != 3) = false := bne_eq_false_iff_eq.mpr c105
     clear c105
     replace H := Option.bind_eq_some_iff.mp H
     obtain ⟨⟨t359, t362, t365, t368⟩, A1060, H⟩ := H
     (try dsimp only at H)
     have A106 := am A1060
     clear A1060
     by_cases c107 : x7_2.length < 140737488355328
     rotate_left
     · rw [if_neg c107] at H
       exact absurd H (by simp)
     rw [if_pos c107] at H
     have LMc107 := am c107
     clear c107
     obtain ⟨y369, hy369⟩ : ∃ y_ : List Bool, y_ = (x7_2 ++ [t368]) := ⟨_, rfl⟩
     replace H : (spec_PlayConf.l0 k2 l1 y369 (wrap64 (x8_2 + 1)) t359 t362 t365) = some (r1, r2, r3, r4) := by first | (rw [hy369]; with_reducible exact H) | (have H2_ := (Option.bind_some _ _).symm.trans H; rw [hy369]; with_reducible exact H2_) | (have H2_ := (Option.bind_some _ _).symm.trans H; with_reducible exact H2_) | with_reducible exact H | (rw [hy369]; exact H) | exact H
     have Ny369 := am hy369
     clear hy369
     have H' := am H
     clear H
     try go_wp2
     have n0_ : Aside0 (Kd.R Kd.bool 4 (((w41.setCell ⟨gb315, 0, none⟩ (.slice Ao42 x312000_2.length co42)).setCell ⟨gb315, 1, none⟩ (.slice Ao47 x312001_2.length co47)).setCell ⟨gb315, 2, none⟩ (.slice Ao48 x312002_2.length co48)) w.heap.size (fun _ => True) u7 x7_2) := ⟨by (with_reducible repeat (first | apply r1_ | apply r2_ | apply r3_)); exact Kd.R_mono (Kd.R_far (p := ⟨gb315, 2, none⟩) (Kd.R_far (p := ⟨gb315, 1, none⟩) (Kd.R_far (p := ⟨gb315, 0, none⟩) (Kd.R_types HO_7.out BK315.out (by decide)) (fun _ hk => hk.2) (.slice Ao42 x312000_2.length co42)) (fun _ hk => hk.2) (.slice Ao47 x312001_2.length co47)) (fun _ hk => hk.2) (.slice Ao48 x312002_2.length co48)) (fun _ hk => trivial)⟩
     have n1_ : Aside0 (Kd.R (Kd.int .i64) 3 (((w41.setCell ⟨gb315, 0, none⟩ (.slice Ao42 x312000_2.length co42)).setCell ⟨gb315, 1, none⟩ (.slice Ao47 x312001_2.length co47)).setCell ⟨gb315, 2, none⟩ (.slice Ao48 x312002_2.length co48)) w.heap.size (fun k_ => some k_ ≠ (.slice Ao47 x312001_2.length co47 : Value).ownBlock ∧ some k_ ≠ (.slice Ao48 x312002_2.length co48 : Value).ownBlock) (.slice Ao42 x312000_2.length co42) x312000_2) := ⟨by (with_reducible repeat (first | apply r1_ | apply r2_ | apply r3_)); exact Kd.R_mono (Kd.R_far (p := ⟨gb315, 2, none⟩) (Kd.R_far (p := ⟨gb315, 1, none⟩) (Kd.R_far (p := ⟨gb315, 0, none⟩) (Kd.R_types HO_312000.out BK315.out (by decide)) (fun _ hk => hk.2) (.slice Ao42 x312000_2.length co42)) (fun _ hk => hk.2) (.slice Ao47 x312001_2.length co47)) (fun _ hk => hk.2) (.slice Ao48 x312002_2.length co48)) (fun _ hk => ⟨hk.1.1, hk.1.2⟩)⟩
     have n2_ : Aside0 (Kd.R (Kd.int .i64) 3 (((w41.setCell ⟨gb315, 0, none⟩ (.slice Ao42 x312000_2.length co42)).setCell ⟨gb315, 1, none⟩ (.slice Ao47 x312001_2.length co47)).setCell ⟨gb315, 2, none⟩ (.slice Ao48 x312002_2.length co48)) w.heap.size (fun k_ => some k_ ≠ (.slice Ao42 x312000_2.length co42 : Value).ownBlock ∧ some k_ ≠ (.slice Ao48 x312002_2.length co48 : Value).ownBlock) (.slice Ao47 x312001_2.length co47) x312001_2) := ⟨by (with_reducible repeat (first | apply r1_ | apply r2_ | apply r3_)); exact Kd.R_mono (Kd.R_far (p := ⟨gb315, 2, none⟩) (Kd.R_far (p := ⟨gb315, 1, none⟩) (Kd.R_far (p := ⟨gb315, 0, none⟩) (Kd.R_types HO_312001.out BK315.out (by decide)) (fun _ hk => hk.2) (.slice Ao42 x312000_2.length co42)) (fun _ hk => hk.2) (.slice Ao47 x312001_2.length co47)) (fun _ hk => hk.2) (.slice Ao48 x312002_2.length co48)) (fun _ hk => ⟨hk.1.1, hk.1.2⟩)⟩
     have n3_ : Aside0 (Kd.R (Kd.int .i64) 3 (((w41.setCell ⟨gb315, 0, none⟩ (.slice Ao42 x312000_2.length co42)).setCell ⟨gb315, 1, none⟩ (.slice Ao47 x312001_2.length co47)).setCell ⟨gb315, 2, none⟩ (.slice Ao48 x312002_2.length co48)) w.heap.size (fun k_ => some k_ ≠ (.slice Ao42 x312000_2.length co42 : Value).ownBlock ∧ some k_ ≠ (.slice Ao47 x312001_2.length co47 : Value).ownBlock) (.slice Ao48 x312002_2.length co48) x312002_2) := ⟨by (with_reducible repeat (first | apply r1_ | apply r2_ | apply r3_)); exact Kd.R_mono (Kd.R_far (p := ⟨gb315, 2, none⟩) (Kd.R_far (p := ⟨gb315, 1, none⟩) (Kd.R_far (p := ⟨gb315, 0, none⟩) (Kd.R_types HO_312002.out BK315.out (by decide)) (fun _ hk => hk.2) (.slice Ao42 x312000_2.length co42)) (fun _ hk => hk.2) (.slice Ao47 x312001_2.length co47)) (fun _ hk => hk.2) (.slice Ao48 x312002_2.length co48)) (fun _ hk => ⟨hk.1.1, hk.1.2⟩)⟩
     have n4_ : Aside0 ((((w41.setCell ⟨gb315, 0, none⟩ (.slice Ao42 x312000_2.length co42)).setCell ⟨gb315, 1, none⟩ (.slice Ao47 x312001_2.length co47)).setCell ⟨gb315, 2, none⟩ (.slice Ao48 x312002_2.length co48)).heap[gb290]? = some (.cells #[.slice A0_0 l0_0.length c0_0, .slice A0_1 l0_1.length c0_1, .slice A0_2 l0_2.length c0_2] 26 (0, 0))) := ⟨by (with_reducible repeat (first | apply b1_ | apply b2_ | apply b3_)); refine blk_far ?_ NB290_315.out _; (with_reducible repeat (first | apply b1_ | apply b2_ | apply b3_)); refine blk_far ?_ NB290_315.out _; (with_reducible repeat (first | apply b1_ | apply b2_ | apply b3_)); refine blk_far ?_ NB290_315.out _; (with_reducible repeat (first | apply b1_ | apply b2_ | apply b3_)); exact BK290.out⟩
     have n5_ : Aside0 ((((w41.setCell ⟨gb315, 0, none⟩ (.slice Ao42 x312000_2.length co42)).setCell ⟨gb315, 1, none⟩ (.slice Ao47 x312001_2.length co47)).setCell ⟨gb315, 2, none⟩ (.slice Ao48 x312002_2.length co48)).heap[gb291]? = some (.cells #[.slice none 0 0, .slice none 0 0, .slice none 0 0] 26 (0, 0))) := ⟨by (with_reducible repeat (first | apply b1_ | apply b2_ | apply b3_)); refine blk_far ?_ NB291_315.out _; (with_reducible repeat (first | apply b1_ | apply b2_ | apply b3_)); refine blk_far ?_ NB291_315.out _; (with_reducible repeat (first | apply b1_ | apply b2_ | apply b3_)); refine blk_far ?_ NB291_315.out _; (with_reducible repeat (first | apply b1_ | apply b2_ | apply b3_)); exact BK291.out⟩
     have n6_ : Aside0 ((((w41.setCell ⟨gb315, 0, none⟩ (.slice Ao42 x312000_2.length co42)).setCell ⟨gb315, 1, none⟩ (.slice Ao47 x312001_2.length co47)).setCell ⟨gb315, 2, none⟩ (.slice Ao48 x312002_2.length co48)).heap[gb311]? = some (.cells #[.slice Ao42 x312000_2.length co42, .slice Ao47 x312001_2.length co47, .slice Ao48 x312002_2.length co48] 26 (0, 0))) := ⟨by (with_reducible repeat (first | apply b1_ | apply b2_ | apply b3_)); refine blk_far ?_ NB311_315.out _; (with_reducible repeat (first | apply b1_ | apply b2_ | apply b3_)); refine blk_far ?_ NB311_315.out _; (with_reducible repeat (first | apply b1_ | apply b2_ | apply b3_)); refine blk_far ?_ NB311_315.out _; (with_reducible repeat (first | apply b1_ | apply b2_ | apply b3_)); exact BK311.out⟩
     have n7_ : Aside0 ((((w41.setCell ⟨gb315, 0, none⟩ (.slice Ao42 x312000_2.length co42)).setCell ⟨gb315, 1, none⟩ (.slice Ao47 x312001_2.length co47)).setCell ⟨gb315, 2, none⟩ (.slice Ao48 x312002_2.length co48)).heap[gb315]? = some (.cells #[.slice Ao42 x312000_2.length co42, .slice Ao47 x312001_2.length co47, .slice Ao48 x312002_2.length co48] 26 (0, 0))) := ⟨by (with_reducible repeat (first | apply b1_ | apply b2_ | apply b3_)); refine blk_put (cs := #[.slice Ao42 x312000_2.length co42, .slice Ao47 x312001_2.length co47, .slice none 0 0]) ?_ 2 _ rfl; (with_reducible repeat (first | apply b1_ | apply b2_ | apply b3_)); refine blk_put (cs := #[.slice Ao42 x312000_2.length co42, .slice none 0 0, .slice none 0 0]) ?_ 1 _ rfl; (with_reducible repeat (first | apply b1_ | apply b2_ | apply b3_)); refine blk_put (cs := #[.slice none 0 0, .slice none 0 0, .slice none 0 0]) ?_ 0 _ rfl; (with_reducible repeat (first | apply b1_ | apply b2_ | apply b3_)); exact BK315.out⟩
     have n8_ : Aside0 (Below w.heap.size w (((w41.setCell ⟨gb315, 0, none⟩ (.slice Ao42 x312000_2.length co42)).setCell ⟨gb315, 1, none⟩ (.slice Ao47 x312001_2.length co47)).setCell ⟨gb315, 2, none⟩ (.slice Ao48 x312002_2.length co48))) := ⟨by repeat (first | (with_reducible first | exact HB.out | apply below_alloc | apply pw_below_drewN | apply below_drew1 | refine below_set ?_ GE290.out | refine below_set ?_ GE291.out | refine below_set ?_ GE311.out | refine below_set ?_ GE315.out) | exact HB.out)⟩
     (try clear HO_7)
     (try clear HO_312000)
     (try clear HO_312001)
     (try clear HO_312002)
     (try clear BK290)
     (try clear BK291)
     (try clear BK311)
     (try clear BK315)
     (try clear HB)
     generalize (((w41.setCell ⟨gb315, 0, none⟩ (.slice Ao42 x312000_2.length co42)).setCell ⟨gb315, 1, none⟩ (.slice Ao47 x312001_2.length co47)).setCell ⟨gb315, 2, none⟩ (.slice Ao48 x312002_2.length co48)) = w108 at n0_ n1_ n2_ n3_ n4_ n5_ n6_ n7_ n8_ ⊢
     have HO_7 := n0_
     have HO_312000 := n1_
     have HO_312001 := n2_
     have HO_312002 := n3_
     have BK290 := n4_
     have BK291 := n5_
     have BK311 := n6_
     have BK315 := n7_
     have HB := n8_
     clear n0_ n1_ n2_ n3_ n4_ n5_ n6_ n7_ n8_
     replace HO_7 := am (Kd.R_drew HO_7.out)
     replace HO_312000 := am (Kd.R_drew HO_312000.out)
     replace HO_312001 := am (Kd.R_drew HO_312001.out)
     replace HO_312002 := am (Kd.R_drew HO_312002.out)
     replace BK290 := am (blk_drew BK290.out)
     replace BK291 := am (blk_drew BK291.out)
     replace BK311 := am (blk_drew BK311.out)
     replace BK315 := am (blk_drew BK315.out)
     replace HB := am (below_drew1 HB.out)
     have p358 : 0 ≤ (x8_2 : Int) := of_decide_eq_true Q5
     have q358 : x8_2 < (l1.length : Int) := of_decide_eq_true Q5
     obtain ⟨ad358, A358_2, c358_2, e358, hx358_0, hx358_1, hx358_2, hl358_2, hi358_2⟩ := at_T77 HR1.out x8_2 p358 q358
     (try clear hx344_2)
     have hw358_2 := hx358_2
     have hw358_1 := hx358_1
     have hw358_0 := hx358_0
     obtain rfl : ad316 = ad358 := (by injection e358)
     replace hx358_0 := cm HB.out hx358_0
     replace hx358_1 := cm HB.out hx358_1
     replace hx358_2 := cm HB.out hx358_2
     have HR358_2 := am hi358_2
     have HC358_2 := am hl358_2
     clear hi358_2 hl358_2
     replace p358 := eq_true p358
     replace q358 := eq_true q358
     refine start_ (n := 12) (S := fun w' => w'.cell? ⟨gb311, 0, none⟩ = some (.slice Ao42 x312000_2.length co42) ∧ w'.cell? ⟨gb311, 1, none⟩ = some (.slice Ao47 x312001_2.length co47) ∧ w'.cell? ⟨gb311, 2, none⟩ = some (.slice Ao48 x312002_2.length co48) ∧ w'.cell? (ad316.add ((x8_2).toNat * 3)) = some (.int .i64 ((rd_T77 l1 x8_2).f0)) ∧ w'.cell? ⟨(ad316.add ((x8_2).toNat * 3)).block, (ad316.add ((x8_2).toNat * 3)).off + 1, none⟩ = some (.int .i64 ((rd_T77 l1 x8_2).f1)) ∧ w'.cell? ⟨(ad316.add ((x8_2).toNat * 3)).block, (ad316.add ((x8_2).toNat * 3)).off + 2, none⟩ = some (.slice A358_2 ((rd_T77 l1 x8_2).f2).length c358_2)) (ds := []) b0_12 kr rfl rfl ⟨(blk_cell BK311.out 0).trans rfl, (blk_cell BK311.out 1).trans rfl, (blk_cell BK311.out 2).trans rfl, (cm HB.out hw358_0), (cm HB.out hw358_1), (cm HB.out hw358_2)⟩ (fun hHeld => ?_); refine with_tabW spec_PlayConf.tab18 spec_PlayConf.bits18 (fun HT_ HW_ => ?_)
     generalize w108.drew = w109 at HO_7 HO_312000 HO_312001 HO_312002 BK290 BK291 BK311 BK315 HB HR358_2 hx358_0 hx358_1 hx358_2 hHeld ⊢
     refine pV 1 71 bx14 ?_
     refine pV 2 72 bx15 ?_
     refine pV 3 73 bx16 ?_
     refine pV 4 74 bx17 ?_
     refine tV 0 70 (bt 5 12) ?_
     refine tV 5 75 (bt 6 12) ?_
     refine one_ (i := 6) (N := some 76) b7_12 rfl rfl (one_of HT_.out kr) (by decide) (fun K hK => ?_)
     refine goes_ Try.func21 kr rfl #[.agg #[.slice Ao42 x312000_2.length co42, .slice Ao47 x312001_2.length co47, .slice Ao48 x312002_2.length co48], .int .i64 ((rd_T77 l1 x8_2).f1), .bool false] (by rfl) rfl rfl Q10 ?_
     with_reducible refine (spec_Learner.calls k2 _ _ x312000_2 _ _ x312001_2 _ _ x312002_2 ((rd_T77 l1 x8_2).f1) false t359 t362 t365 t368 _ ?side1 ?side2 ?side3 ?side4 ?side5 ?side6 A106.out).mono ?_
     (case side1 => exact u7_32)
     (case side2 => exact (Kd.R_reads' HO_312000.out).2.1)
     (case side3 => exact u7_33)
     (case side4 => exact (Kd.R_reads' HO_312001.out).2.1)
     (case side5 => exact u7_34)
     (case side6 => exact (Kd.R_reads' HO_312002.out).2.1)
     rintro e w110 ⟨v360, v363, v366, rfl, ho0, ho1, ho2, hb⟩
     refine ⟨_, rfl, ?_⟩
     replace HO_7 := am (Kd.R_below u7_37 hb)
     have HO361 := am (Kd.R_lower (Kd.R_new' (Kd.R_new' (Kd.R_new' ho0 (Kd.R_lt u7_14)) (Kd.R_lt u7_15)) (Kd.R_lt u7_16)) (below_size Q6))
     have HO364 := am (Kd.R_lower (Kd.R_new' (Kd.R_new' (Kd.R_new' ho1 (Kd.R_lt u7_14)) (Kd.R_lt u7_15)) (Kd.R_lt u7_16)) (below_size Q6))
     have HO367 := am (Kd.R_lower (Kd.R_new' (Kd.R_new' (Kd.R_new' ho2 (Kd.R_lt u7_14)) (Kd.R_lt u7_15)) (Kd.R_lt u7_16)) (below_size Q6))
     replace HO_312000 := am (Kd.R_mono (Kd.R_told (Kd.R_told (Kd.R_told (Kd.R_old u7_14 hb) (Kd.R_base ho0)) (Kd.R_base ho1)) (Kd.R_base ho2)) (fun _ h_ => h_.1))
     replace HO_312001 := am (Kd.R_mono (Kd.R_told (Kd.R_told (Kd.R_told (Kd.R_old u7_15 hb) (Kd.R_base ho0)) (Kd.R_base ho1)) (Kd.R_base ho2)) (fun _ h_ => h_.1))
     replace HO_312002 := am (Kd.R_mono (Kd.R_told (Kd.R_told (Kd.R_told (Kd.R_old u7_16 hb) (Kd.R_base ho0)) (Kd.R_base ho1)) (Kd.R_base ho2)) (fun _ h_ => h_.1))
     replace BK290 := am (bb_ BK290.out u7_8 hb)
     replace BK291 := am (bb_ BK291.out u7_9 hb)
     replace BK311 := am (bb_ BK311.out u7_27 hb)
     replace BK315 := am (bb_ BK315.out u7_43 hb)
     replace HB := am (below_step Q6 hb)
     (try clear hb)
     (try clear hb2)
     (try clear hk)
     (try clear hi)
     (try clear ho0)
     (try clear ho1)
     (try clear ho2)
     obtain ⟨Ao111, co111, eo111⟩ := Kd.R_slice HO361.out
     (first | subst eo111 | (injection eo111 with f1_ f2_ f3_; have f4_ := f1_.symm; have f5_ := f3_.symm; clear f1_ f2_ f3_; subst f4_; subst f5_))
     obtain ⟨Ao113, co113, eo113⟩ := Kd.R_slice HO364.out
     (first | subst eo113 | (injection eo113 with f1_ f2_ f3_; have f4_ := f1_.symm; have f5_ := f3_.symm; clear f1_ f2_ f3_; subst f4_; subst f5_))
     obtain ⟨Ao115, co115, eo115⟩ := Kd.R_slice HO367.out
     (first | subst eo115 | (injection eo115 with f1_ f2_ f3_; have f4_ := f1_.symm; have f5_ := f3_.symm; clear f1_ f2_ f3_; subst f4_; subst f5_))
     refine hK.out _ _ ⟨(blk_cell BK311.out 0).trans rfl, (blk_cell BK311.out 1).trans rfl, (blk_cell BK311.out 2).trans rfl, (cm HB.out hw358_0), (cm HB.out hw358_1), (cm HB.out hw358_2)⟩ (fun hHeld => ?_)
     clear hK K
     refine norm_ (a' := ?_) ?_ ?_
     rotate_left
     · show Act.put _ (some 76) _ = _
       simp only [Act.put, la, lb, lc, i64_w, i32_w]
       rfl
     refine pV 7 69 (bt 8 12) ?_
     refine pV 8 77 (bt 9 12) ?_
     refine pV 9 78 (bt 10 12) ?_
     refine one_ (i := 10) (N := none) b11_12 rfl rfl (one_of HT_.out kr) (by decide) (fun K hK => ?_)
     have hs112 : w110.cell? ⟨gb315, 0, none⟩ = some (.slice Ao42 x312000_2.length co42) := (blk_cell BK315.out 0).trans rfl
     have hfs112 := blk_frozen BK315.out 0
     have hns112_0 := NB290_315.out
     have hns112_1 := NB291_315.out
     have hns112_2 := NB311_315.out
     have hms112_0 := NB315_290.out
     have hms112_1 := NB315_291.out
     have hms112_2 := NB315_311.out
     have hs114 : w110.cell? ⟨gb315, 1, none⟩ = some (.slice Ao47 x312001_2.length co47) := (blk_cell BK315.out 1).trans rfl
     have hfs114 := blk_frozen BK315.out 1
     have hns114_0 := NB290_315.out
     have hns114_1 := NB291_315.out
     have hns114_2 := NB311_315.out
     have hms114_0 := NB315_290.out
     have hms114_1 := NB315_291.out
     have hms114_2 := NB315_311.out
     have hs116 : w110.cell? ⟨gb315, 2, none⟩ = some (.slice Ao48 x312002_2.length co48) := (blk_cell BK315.out 2).trans rfl
     have hfs116 := blk_frozen BK315.out 2
     have hns116_0 := NB290_315.out
     have hns116_1 := NB291_315.out
     have hns116_2 := NB311_315.out
     have hms116_0 := NB315_290.out
     have hms116_1 := NB315_291.out
     have hms116_2 := NB315_311.out
     refine skip_ (w1 := ?_) (by rfl) rfl ?_ ?_
     rotate_left
     · go_simp
       rfl
     refine hK.out _ _ ⟨((cell_far (p := ⟨gb315, _, none⟩) NB311_315.out _).trans (((cell_far (p := ⟨gb315, _, none⟩) NB311_315.out _).trans (((cell_far (p := ⟨gb315, _, none⟩) NB311_315.out _).trans (hHeld.1)))))), ((cell_far (p := ⟨gb315, _, none⟩) NB311_315.out _).trans (((cell_far (p := ⟨gb315, _, none⟩) NB311_315.out _).trans (((cell_far (p := ⟨gb315, _, none⟩) NB311_315.out _).trans (hHeld.2.1)))))), ((cell_far (p := ⟨gb315, _, none⟩) NB311_315.out _).trans (((cell_far (p := ⟨gb315, _, none⟩) NB311_315.out _).trans (((cell_far (p := ⟨gb315, _, none⟩) NB311_315.out _).trans (hHeld.2.2.1)))))), ((cell_far (p := ⟨gb315, _, none⟩) u7_24 _).trans (((cell_far (p := ⟨gb315, _, none⟩) u7_24 _).trans (((cell_far (p := ⟨gb315, _, none⟩) u7_24 _).trans (hHeld.2.2.2.1)))))), ((cell_far (p := ⟨gb315, _, none⟩) u7_25 _).trans (((cell_far (p := ⟨gb315, _, none⟩) u7_25 _).trans (((cell_far (p := ⟨gb315, _, none⟩) u7_25 _).trans (hHeld.2.2.2.2.1)))))), ((cell_far (p := ⟨gb315, _, none⟩) u7_26 _).trans (((cell_far (p := ⟨gb315, _, none⟩) u7_26 _).trans (((cell_far (p := ⟨gb315, _, none⟩) u7_26 _).trans (hHeld.2.2.2.2.2))))))⟩ (fun hHeld => ?_)
     clear hK K
     refine pV 11 9 (bt 12 12) ?_
     refine done_ (done_of HT_.out kr) ?_
     have hnb117 := NB315_290.out
     have hnc117 := NB290_315.out
     have hnb118 := NB315_291.out
     have hnc118 := NB291_315.out
     have hnb119 := NB315_311.out
     have hnc119 := NB311_315.out
     obtain ⟨hcz120_0, hcz120_1, hcz120_2, hfz120_0, hfz120_1, hfz120_2⟩ := bc3f w110 BK315.out
     have hnb121 := NB311_290.out
     have hnc121 := NB290_311.out
     have hnb122 := NB311_291.out
     have hnc122 := NB291_311.out
     obtain ⟨hcz123_0, hcz123_1, hcz123_2, hfz123_0, hfz123_1, hfz123_2⟩ := bc3f w110 BK311.out
     try go_wp2_with (first | ((with_reducible refine gate_builtin (b := .append) (xs := #[.tmp 80, .tmp 82]) rfl ?_); (try (refine gate_guard (by rfl) ?_; dsimp only)); at_builtin; refine Kd.R_append Kd.bool (w0 := w) w.heap.size rfl (.tmp 80) (.tmp 82) 48 4 (.bool false) 1 rfl Try.underlying48 info4 rfl (by decide) (by omega) u7 x7_2 t368 [.bool t368] (fun _ => True) (fun _ => False) rfl Q13 ?aP (fun _ hk => hk.elim) ?aF ?aO ?aB ?aS ?aL ?_; (case aP => exact rfl); (case aB => exact Q6); (case aF => exact (fun _ _ => trivial)); (case aO => exact (by (with_reducible repeat (first | apply r1_ | apply r2_ | apply r3_)); exact Kd.R_mono (Kd.R_far (p := ⟨gb311, 2, none⟩) (Kd.R_far (p := ⟨gb311, 1, none⟩) (Kd.R_far (p := ⟨gb311, 0, none⟩) (Kd.R_far (p := ⟨gb315, 2, none⟩) (Kd.R_far (p := ⟨gb315, 1, none⟩) (Kd.R_far (p := ⟨gb315, 0, none⟩) (Kd.R_types (Kd.R_types HO_7.out BK315.out (by decide)) BK311.out (by decide)) (fun _ hk => hk.1.2) (.slice Ao111 t359.length co111)) (fun _ hk => hk.1.2) (.slice Ao113 t362.length co113)) (fun _ hk => hk.1.2) (.slice Ao115 t365.length co115)) (fun _ hk => hk.2) (.slice Ao111 t359.length co111)) (fun _ hk => hk.2) (.slice Ao113 t362.length co113)) (fun _ hk => hk.2) (.slice Ao115 t365.length co115)) (fun _ hk => trivial))); (case aS => exact (below_size Q6)); (case aL => have := LMc107.out; omega); intro v370 w124 ho hb hg hat; rw [← Ny369.out] at ho; replace HO_312000 := am (Kd.R_over' (by (with_reducible repeat (first | apply r1_ | apply r2_ | apply r3_)); exact (Kd.R_mono (Kd.R_mono (Kd.R_far (p := ⟨gb311, 2, none⟩) (Kd.R_far (p := ⟨gb311, 1, none⟩) (Kd.R_far (p := ⟨gb311, 0, none⟩) (Kd.R_far (p := ⟨gb315, 2, none⟩) (Kd.R_far (p := ⟨gb315, 1, none⟩) (Kd.R_far (p := ⟨gb315, 0, none⟩) (Kd.R_types (Kd.R_types HO_312000.out BK315.out (by decide)) BK311.out (by decide)) (fun _ hk => hk.1.2) (.slice Ao111 t359.length co111)) (fun _ hk => hk.1.2) (.slice Ao113 t362.length co113)) (fun _ hk => hk.1.2) (.slice Ao115 t365.length co115)) (fun _ hk => hk.2) (.slice Ao111 t359.length co111)) (fun _ hk => hk.2) (.slice Ao113 t362.length co113)) (fun _ hk => hk.2) (.slice Ao115 t365.length co115)) (fun _ h_ => h_.1)) (fun _ h_ => h_.1))) (Kd.R_typed u7_1) (by decide) hg); replace HO_312001 := am (Kd.R_over' (by (with_reducible repeat (first | apply r1_ | apply r2_ | apply r3_)); exact (Kd.R_mono (Kd.R_mono (Kd.R_far (p := ⟨gb311, 2, none⟩) (Kd.R_far (p := ⟨gb311, 1, none⟩) (Kd.R_far (p := ⟨gb311, 0, none⟩) (Kd.R_far (p := ⟨gb315, 2, none⟩) (Kd.R_far (p := ⟨gb315, 1, none⟩) (Kd.R_far (p := ⟨gb315, 0, none⟩) (Kd.R_types (Kd.R_types HO_312001.out BK315.out (by decide)) BK311.out (by decide)) (fun _ hk => hk.1.2) (.slice Ao111 t359.length co111)) (fun _ hk => hk.1.2) (.slice Ao113 t362.length co113)) (fun _ hk => hk.1.2) (.slice Ao115 t365.length co115)) (fun _ hk => hk.2) (.slice Ao111 t359.length co111)) (fun _ hk => hk.2) (.slice Ao113 t362.length co113)) (fun _ hk => hk.2) (.slice Ao115 t365.length co115)) (fun _ h_ => h_.1)) (fun _ h_ => h_.1))) (Kd.R_typed u7_1) (by decide) hg); replace HO_312002 := am (Kd.R_over' (by (with_reducible repeat (first | apply r1_ | apply r2_ | apply r3_)); exact (Kd.R_mono (Kd.R_mono (Kd.R_far (p := ⟨gb311, 2, none⟩) (Kd.R_far (p := ⟨gb311, 1, none⟩) (Kd.R_far (p := ⟨gb311, 0, none⟩) (Kd.R_far (p := ⟨gb315, 2, none⟩) (Kd.R_far (p := ⟨gb315, 1, none⟩) (Kd.R_far (p := ⟨gb315, 0, none⟩) (Kd.R_types (Kd.R_types HO_312002.out BK315.out (by decide)) BK311.out (by decide)) (fun _ hk => hk.1.2) (.slice Ao111 t359.length co111)) (fun _ hk => hk.1.2) (.slice Ao113 t362.length co113)) (fun _ hk => hk.1.2) (.slice Ao115 t365.length co115)) (fun _ hk => hk.2) (.slice Ao111 t359.length co111)) (fun _ hk => hk.2) (.slice Ao113 t362.length co113)) (fun _ hk => hk.2) (.slice Ao115 t365.length co115)) (fun _ h_ => h_.1)) (fun _ h_ => h_.1))) (Kd.R_typed u7_1) (by decide) hg); replace BK290 := am (blk_grown (g := gb290) (o := .cells #[.slice A0_0 l0_0.length c0_0, .slice A0_1 l0_1.length c0_1, .slice A0_2 l0_2.length c0_2] 26 (0, 0)) u7_2 hg (Kd.R_ne HO_7.out BK290.out (by decide))); replace BK291 := am (blk_grown (g := gb291) (o := .cells #[.slice none 0 0, .slice none 0 0, .slice none 0 0] 26 (0, 0)) u7_3 hg (Kd.R_ne HO_7.out BK291.out (by decide))); replace HO361 := am (Kd.R_over' (by (with_reducible repeat (first | apply r1_ | apply r2_ | apply r3_)); exact (Kd.R_mono (Kd.R_mono (Kd.R_far (p := ⟨gb311, 2, none⟩) (Kd.R_far (p := ⟨gb311, 1, none⟩) (Kd.R_far (p := ⟨gb311, 0, none⟩) (Kd.R_far (p := ⟨gb315, 2, none⟩) (Kd.R_far (p := ⟨gb315, 1, none⟩) (Kd.R_far (p := ⟨gb315, 0, none⟩) (Kd.R_types (Kd.R_types HO361.out BK315.out (by decide)) BK311.out (by decide)) (fun _ hk => hk.1.2) (.slice Ao111 t359.length co111)) (fun _ hk => hk.1.2) (.slice Ao113 t362.length co113)) (fun _ hk => hk.1.2) (.slice Ao115 t365.length co115)) (fun _ hk => hk.2) (.slice Ao111 t359.length co111)) (fun _ hk => hk.2) (.slice Ao113 t362.length co113)) (fun _ hk => hk.2) (.slice Ao115 t365.length co115)) (fun _ h_ => h_.1)) (fun _ h_ => h_.1))) (Kd.R_typed u7_1) (by decide) hg); replace HO364 := am (Kd.R_over' (by (with_reducible repeat (first | apply r1_ | apply r2_ | apply r3_)); exact (Kd.R_mono (Kd.R_mono (Kd.R_far (p := ⟨gb311, 2, none⟩) (Kd.R_far (p := ⟨gb311, 1, none⟩) (Kd.R_far (p := ⟨gb311, 0, none⟩) (Kd.R_far (p := ⟨gb315, 2, none⟩) (Kd.R_far (p := ⟨gb315, 1, none⟩) (Kd.R_far (p := ⟨gb315, 0, none⟩) (Kd.R_types (Kd.R_types HO364.out BK315.out (by decide)) BK311.out (by decide)) (fun _ hk => hk.1.2) (.slice Ao111 t359.length co111)) (fun _ hk => hk.1.2) (.slice Ao113 t362.length co113)) (fun _ hk => hk.1.2) (.slice Ao115 t365.length co115)) (fun _ hk => hk.2) (.slice Ao111 t359.length co111)) (fun _ hk => hk.2) (.slice Ao113 t362.length co113)) (fun _ hk => hk.2) (.slice Ao115 t365.length co115)) (fun _ h_ => h_.1)) (fun _ h_ => h_.1))) (Kd.R_typed u7_1) (by decide) hg); replace HO367 := am (Kd.R_over' (by (with_reducible repeat (first | apply r1_ | apply r2_ | apply r3_)); exact (Kd.R_mono (Kd.R_mono (Kd.R_far (p := ⟨gb311, 2, none⟩) (Kd.R_far (p := ⟨gb311, 1, none⟩) (Kd.R_far (p := ⟨gb311, 0, none⟩) (Kd.R_far (p := ⟨gb315, 2, none⟩) (Kd.R_far (p := ⟨gb315, 1, none⟩) (Kd.R_far (p := ⟨gb315, 0, none⟩) (Kd.R_types (Kd.R_types HO367.out BK315.out (by decide)) BK311.out (by decide)) (fun _ hk => hk.1.2) (.slice Ao111 t359.length co111)) (fun _ hk => hk.1.2) (.slice Ao113 t362.length co113)) (fun _ hk => hk.1.2) (.slice Ao115 t365.length co115)) (fun _ hk => hk.2) (.slice Ao111 t359.length co111)) (fun _ hk => hk.2) (.slice Ao113 t362.length co113)) (fun _ hk => hk.2) (.slice Ao115 t365.length co115)) (fun _ h_ => h_.1)) (fun _ h_ => h_.1))) (Kd.R_typed u7_1) (by decide) hg); replace BK311 := am (blk_grown (g := gb311) (o := .cells #[.slice Ao111 t359.length co111, .slice Ao113 t362.length co113, .slice Ao115 t365.length co115] 26 (0, 0)) (by (with_reducible repeat (first | apply b1_ | apply b2_ | apply b3_)); refine blk_put (cs := #[.slice Ao111 t359.length co111, .slice Ao113 t362.length co113, .slice Ao48 x312002_2.length co48]) ?_ 2 _ rfl; (with_reducible repeat (first | apply b1_ | apply b2_ | apply b3_)); refine blk_put (cs := #[.slice Ao111 t359.length co111, .slice Ao47 x312001_2.length co47, .slice Ao48 x312002_2.length co48]) ?_ 1 _ rfl; (with_reducible repeat (first | apply b1_ | apply b2_ | apply b3_)); refine blk_put (cs := #[.slice Ao42 x312000_2.length co42, .slice Ao47 x312001_2.length co47, .slice Ao48 x312002_2.length co48]) ?_ 0 _ rfl; (with_reducible repeat (first | apply b1_ | apply b2_ | apply b3_)); refine blk_far ?_ NB311_315.out _; (with_reducible repeat (first | apply b1_ | apply b2_ | apply b3_)); refine blk_far ?_ NB311_315.out _; (with_reducible repeat (first | apply b1_ | apply b2_ | apply b3_)); refine blk_far ?_ NB311_315.out _; (with_reducible repeat (first | apply b1_ | apply b2_ | apply b3_)); exact BK311.out) hg (Kd.R_ne HO_7.out BK311.out (by decide))); replace BK315 := am (blk_grown (g := gb315) (o := .cells #[.slice Ao111 t359.length co111, .slice Ao113 t362.length co113, .slice Ao115 t365.length co115] 26 (0, 0)) (by (with_reducible repeat (first | apply b1_ | apply b2_ | apply b3_)); refine blk_far ?_ NB315_311.out _; (with_reducible repeat (first | apply b1_ | apply b2_ | apply b3_)); refine blk_far ?_ NB315_311.out _; (with_reducible repeat (first | apply b1_ | apply b2_ | apply b3_)); refine blk_far ?_ NB315_311.out _; (with_reducible repeat (first | apply b1_ | apply b2_ | apply b3_)); refine blk_put (cs := #[.slice Ao111 t359.length co111, .slice Ao113 t362.length co113, .slice Ao48 x312002_2.length co48]) ?_ 2 _ rfl; (with_reducible repeat (first | apply b1_ | apply b2_ | apply b3_)); refine blk_put (cs := #[.slice Ao111 t359.length co111, .slice Ao47 x312001_2.length co47, .slice Ao48 x312002_2.length co48]) ?_ 1 _ rfl; (with_reducible repeat (first | apply b1_ | apply b2_ | apply b3_)); refine blk_put (cs := #[.slice Ao42 x312000_2.length co42, .slice Ao47 x312001_2.length co47, .slice Ao48 x312002_2.length co48]) ?_ 0 _ rfl; (with_reducible repeat (first | apply b1_ | apply b2_ | apply b3_)); exact BK315.out) hg (Kd.R_ne HO_7.out BK315.out (by decide))); replace HB := am (hb); have HO371 := am (ho); clear HO_7; clear ho hb hg hat))
     go_roundg k2
     case measure => have := HJ2.out; have := HK2.out; omega
     case rel => exact ⟨(y369), (wrap64 (x8_2 + 1)), (t359), (t362), (t365), (.slice Ao111 t359.length co111), (.slice Ao113 t362.length co113), (.slice Ao115 t365.length co115), Q9, H', ⟨Q12⟩, ⟨(by (with_reducible repeat (first | apply r1_ | apply r2_ | apply r3_)); exact HO371.out)⟩, ⟨(by (with_reducible repeat (first | apply r1_ | apply r2_ | apply r3_)); exact Kd.R_mono HO361.out (fun _ hk => ⟨hk.1.1.1.1, hk.1.1.1.2⟩))⟩, ⟨(by (with_reducible repeat (first | apply r1_ | apply r2_ | apply r3_)); exact Kd.R_mono HO364.out (fun _ hk => ⟨hk.1.1.1.1, hk.1.1.1.2⟩))⟩, ⟨(by (with_reducible repeat (first | apply r1_ | apply r2_ | apply r3_)); exact Kd.R_mono HO367.out (fun _ hk => ⟨hk.1.1.1.1, hk.1.1.1.2⟩))⟩, ⟨u7_8⟩, ⟨u7_9⟩, ⟨u7_27⟩, ⟨Q6⟩⟩
end Go.Proofs.Ytoemdmjdpikfbaa.QFnExactPlayConf
