-- Printed by the session's own program wip/prx.py.
import Derived.Test.YtoemdmjdpikfbaaSqFnQuorums
import Derived.Test.YtoemdmjdpikfbaaQFnQuorumsx0
import Derived.Test.YtoemdmjdpikfbaaQFnQuorumsx2
import Derived.Test.YtoemdmjdpikfbaaQFnQuorumsx4
import Derived.Test.YtoemdmjdpikfbaaQFnQuorumsx5
namespace Go.Proofs.Ytoemdmjdpikfbaa.QFnQuorums
open Go.RowKit Go.Proofs.YtoemdmjdpikfbaaW.PrintWords Go.Proofs.YtoemdmjdpikfbaaW.PrintLast Go.Proofs.YtoemdmjdpikfbaaW.PrintMore Go.Proofs.Ytoemdmjdpikfbaa.SqFnQuorums
attribute [local go_sem] max2_int min2_int max_two min_two max_three min_three max_four min_four Go.Proofs.Ytoemdmjdpikfbaa.Set.isSome_setCell
set_option linter.unusedVariables false
set_option linter.unusedSimpArgs false

-- squeezed
theorem u6_1 {P : Prop} (h : P := by (with_reducible repeat (first | apply Kd.R_alloc | apply Kd.R_drewN | apply Kd.R_drew)); exact (Kd.R_mono (Kd.R_mono (Kd.R_far (p := ⟨gb269, 2, none⟩) (Kd.R_far (p := ⟨gb269, 1, none⟩) (Kd.R_far (p := ⟨gb269, 0, none⟩) (Kd.R_far (p := ⟨gb273, 2, none⟩) (Kd.R_far (p := ⟨gb273, 1, none⟩) (Kd.R_far (p := ⟨gb273, 0, none⟩) (Kd.R_types (Kd.R_types HO_7.out BK273.out (by decide)) BK269.out (by decide)) (fun _ hk => hk.1.2) (.slice Ao111 t317.length co111)) (fun _ hk => hk.1.2) (.slice Ao113 t320.length co113)) (fun _ hk => hk.1.2) (.slice Ao115 t323.length co115)) (fun _ hk => hk.2) (.slice Ao111 t317.length co111)) (fun _ hk => hk.2) (.slice Ao113 t320.length co113)) (fun _ hk => hk.2) (.slice Ao115 t323.length co115)) (fun _ h_ => h_.1)) (fun _ h_ => h_.1))) : P := h
theorem u6_2 {P : Prop} (h : P := by (with_reducible repeat (first | refine blk_drewN ?_ _ | refine blk_drew ?_ | refine blk_alloc ?_ _)); refine blk_far ?_ NB248_269.out _; (with_reducible repeat (first | refine blk_drewN ?_ _ | refine blk_drew ?_ | refine blk_alloc ?_ _)); refine blk_far ?_ NB248_269.out _; (with_reducible repeat (first | refine blk_drewN ?_ _ | refine blk_drew ?_ | refine blk_alloc ?_ _)); refine blk_far ?_ NB248_269.out _; (with_reducible repeat (first | refine blk_drewN ?_ _ | refine blk_drew ?_ | refine blk_alloc ?_ _)); refine blk_far ?_ NB248_273.out _; (with_reducible repeat (first | refine blk_drewN ?_ _ | refine blk_drew ?_ | refine blk_alloc ?_ _)); refine blk_far ?_ NB248_273.out _; (with_reducible repeat (first | refine blk_drewN ?_ _ | refine blk_drew ?_ | refine blk_alloc ?_ _)); refine blk_far ?_ NB248_273.out _; (with_reducible repeat (first | refine blk_drewN ?_ _ | refine blk_drew ?_ | refine blk_alloc ?_ _)); exact BK248.out) : P := h
theorem u6_3 {P : Prop} (h : P := by (with_reducible repeat (first | refine blk_drewN ?_ _ | refine blk_drew ?_ | refine blk_alloc ?_ _)); refine blk_far ?_ NB249_269.out _; (with_reducible repeat (first | refine blk_drewN ?_ _ | refine blk_drew ?_ | refine blk_alloc ?_ _)); refine blk_far ?_ NB249_269.out _; (with_reducible repeat (first | refine blk_drewN ?_ _ | refine blk_drew ?_ | refine blk_alloc ?_ _)); refine blk_far ?_ NB249_269.out _; (with_reducible repeat (first | refine blk_drewN ?_ _ | refine blk_drew ?_ | refine blk_alloc ?_ _)); refine blk_far ?_ NB249_273.out _; (with_reducible repeat (first | refine blk_drewN ?_ _ | refine blk_drew ?_ | refine blk_alloc ?_ _)); refine blk_far ?_ NB249_273.out _; (with_reducible repeat (first | refine blk_drewN ?_ _ | refine blk_drew ?_ | refine blk_alloc ?_ _)); refine blk_far ?_ NB249_273.out _; (with_reducible repeat (first | refine blk_drewN ?_ _ | refine blk_drew ?_ | refine blk_alloc ?_ _)); exact BK249.out) : P := h
theorem u6_4 {P : Prop} (h : P := by (with_reducible repeat (first | apply Kd.R_alloc | apply Kd.R_drewN | apply Kd.R_drew)); exact (Kd.R_mono (Kd.R_mono (Kd.R_far (p := ⟨gb269, 2, none⟩) (Kd.R_far (p := ⟨gb269, 1, none⟩) (Kd.R_far (p := ⟨gb269, 0, none⟩) (Kd.R_far (p := ⟨gb273, 2, none⟩) (Kd.R_far (p := ⟨gb273, 1, none⟩) (Kd.R_far (p := ⟨gb273, 0, none⟩) (Kd.R_types (Kd.R_types HO_7.out BK273.out (by decide)) BK269.out (by decide)) (fun _ hk => hk.1.2) (.slice Ao55 t276.length co55)) (fun _ hk => hk.1.2) (.slice Ao57 t279.length co57)) (fun _ hk => hk.1.2) (.slice Ao59 t282.length co59)) (fun _ hk => hk.2) (.slice Ao55 t276.length co55)) (fun _ hk => hk.2) (.slice Ao57 t279.length co57)) (fun _ hk => hk.2) (.slice Ao59 t282.length co59)) (fun _ h_ => h_.1)) (fun _ h_ => h_.1))) : P := h
theorem u6_5 {P : Prop} (h : P := by (with_reducible repeat (first | apply Kd.R_alloc | apply Kd.R_drewN | apply Kd.R_drew)); exact (Kd.R_mono (Kd.R_mono (Kd.R_far (p := ⟨gb269, 2, none⟩) (Kd.R_far (p := ⟨gb269, 1, none⟩) (Kd.R_far (p := ⟨gb269, 0, none⟩) (Kd.R_far (p := ⟨gb273, 2, none⟩) (Kd.R_far (p := ⟨gb273, 1, none⟩) (Kd.R_far (p := ⟨gb273, 0, none⟩) (Kd.R_types (Kd.R_types HO_7.out BK273.out (by decide)) BK269.out (by decide)) (fun _ hk => hk.1.2) (.slice Ao77 t289.length co77)) (fun _ hk => hk.1.2) (.slice Ao81 t292.length co81)) (fun _ hk => hk.1.2) (.slice Ao82 t295.length co82)) (fun _ hk => hk.2) (.slice Ao77 t289.length co77)) (fun _ hk => hk.2) (.slice Ao81 t292.length co81)) (fun _ hk => hk.2) (.slice Ao82 t295.length co82)) (fun _ h_ => h_.1)) (fun _ h_ => h_.1))) : P := h
theorem u6_6 {P : Prop} (h : P := by (with_reducible repeat (first | apply Kd.R_alloc | apply Kd.R_drewN | apply Kd.R_drew)); exact (Kd.R_mono (Kd.R_mono (Kd.R_far (p := ⟨gb269, 2, none⟩) (Kd.R_far (p := ⟨gb269, 1, none⟩) (Kd.R_far (p := ⟨gb269, 0, none⟩) (Kd.R_far (p := ⟨gb273, 2, none⟩) (Kd.R_far (p := ⟨gb273, 1, none⟩) (Kd.R_far (p := ⟨gb273, 0, none⟩) (Kd.R_types (Kd.R_types HO_7.out BK273.out (by decide)) BK269.out (by decide)) (fun _ hk => hk.1.2) (.slice Ao91 t303.length co91)) (fun _ hk => hk.1.2) (.slice Ao93 t306.length co93)) (fun _ hk => hk.1.2) (.slice Ao95 t309.length co95)) (fun _ hk => hk.2) (.slice Ao91 t303.length co91)) (fun _ hk => hk.2) (.slice Ao93 t306.length co93)) (fun _ hk => hk.2) (.slice Ao95 t309.length co95)) (fun _ h_ => h_.1)) (fun _ h_ => h_.1))) : P := h
theorem u6_8 {P : Prop} (h : P := by (with_reducible repeat (first | refine blk_drewN ?_ _ | refine blk_drew ?_ | refine blk_alloc ?_ _)); exact BK248.out) : P := h
theorem u6_9 {P : Prop} (h : P := by (with_reducible repeat (first | refine blk_drewN ?_ _ | refine blk_drew ?_ | refine blk_alloc ?_ _)); exact BK249.out) : P := h
theorem u6_10 {P : Prop} (h : P := by (with_reducible repeat (first | apply Kd.R_alloc | apply Kd.R_drewN | apply Kd.R_drew)); exact (Kd.R_mono (Kd.R_far (p := ⟨gb273, 2, none⟩) (Kd.R_far (p := ⟨gb273, 1, none⟩) (Kd.R_far (p := ⟨gb273, 0, none⟩) (Kd.R_types HO_270000.out BK273.out (by decide)) (fun _ hk => hk.2) (.slice Ao42 x270000_2.length co42)) (fun _ hk => hk.2) (.slice Ao47 x270001_2.length co47)) (fun _ hk => hk.2) (.slice Ao48 x270002_2.length co48)) (fun _ h_ => h_.1))) : P := h
theorem u6_11 {P : Prop} (h : P := by (with_reducible repeat (first | apply Kd.R_alloc | apply Kd.R_drewN | apply Kd.R_drew)); exact (Kd.R_mono (Kd.R_far (p := ⟨gb273, 2, none⟩) (Kd.R_far (p := ⟨gb273, 1, none⟩) (Kd.R_far (p := ⟨gb273, 0, none⟩) (Kd.R_types HO_270001.out BK273.out (by decide)) (fun _ hk => hk.2) (.slice Ao42 x270000_2.length co42)) (fun _ hk => hk.2) (.slice Ao47 x270001_2.length co47)) (fun _ hk => hk.2) (.slice Ao48 x270002_2.length co48)) (fun _ h_ => h_.1))) : P := h
theorem u6_12 {P : Prop} (h : P := by (with_reducible repeat (first | apply Kd.R_alloc | apply Kd.R_drewN | apply Kd.R_drew)); exact (Kd.R_mono (Kd.R_far (p := ⟨gb273, 2, none⟩) (Kd.R_far (p := ⟨gb273, 1, none⟩) (Kd.R_far (p := ⟨gb273, 0, none⟩) (Kd.R_types HO_270002.out BK273.out (by decide)) (fun _ hk => hk.2) (.slice Ao42 x270000_2.length co42)) (fun _ hk => hk.2) (.slice Ao47 x270001_2.length co47)) (fun _ hk => hk.2) (.slice Ao48 x270002_2.length co48)) (fun _ h_ => h_.1))) : P := h
theorem u6_13 {P : Prop} (h : P := by (with_reducible repeat (first | apply Kd.R_alloc | apply Kd.R_drewN | apply Kd.R_drew)); exact (Kd.R_mono (Kd.R_mono (Kd.R_far (p := ⟨gb269, 2, none⟩) (Kd.R_far (p := ⟨gb269, 1, none⟩) (Kd.R_far (p := ⟨gb269, 0, none⟩) (Kd.R_far (p := ⟨gb273, 2, none⟩) (Kd.R_far (p := ⟨gb273, 1, none⟩) (Kd.R_far (p := ⟨gb273, 0, none⟩) (Kd.R_types (Kd.R_types HO_7.out BK273.out (by decide)) BK269.out (by decide)) (fun _ hk => hk.1.2) (.slice Ao42 x270000_2.length co42)) (fun _ hk => hk.1.2) (.slice Ao47 x270001_2.length co47)) (fun _ hk => hk.1.2) (.slice Ao48 x270002_2.length co48)) (fun _ hk => hk.2) (.slice Ao42 x270000_2.length co42)) (fun _ hk => hk.2) (.slice Ao47 x270001_2.length co47)) (fun _ hk => hk.2) (.slice Ao48 x270002_2.length co48)) (fun _ h_ => h_.1)) (fun _ h_ => h_.1))) : P := h
theorem u6_14 {P : Prop} (h : P := by (with_reducible repeat (first | apply Kd.R_alloc | apply Kd.R_drewN | apply Kd.R_drew)); exact HO_270000.out) : P := h
theorem u6_15 {P : Prop} (h : P := by (with_reducible repeat (first | apply Kd.R_alloc | apply Kd.R_drewN | apply Kd.R_drew)); exact HO_270001.out) : P := h
theorem u6_16 {P : Prop} (h : P := by (with_reducible repeat (first | apply Kd.R_alloc | apply Kd.R_drewN | apply Kd.R_drew)); exact HO_270002.out) : P := h
theorem u6_18 {P : Prop} (h : P := by first | exact Nat.ne_of_lt (Nat.lt_of_lt_of_le (by have := World.block_lt_of_cell? _ _ hw275_0; first | rwa [add_block] at this | exact this) GW273.out) | (rw [add_block]; exact Nat.ne_of_lt (Nat.lt_of_lt_of_le (by have := World.block_lt_of_cell? _ _ hw275_0; first | rwa [add_block] at this | exact this) GW273.out)) | (show (Addr.add _ _).block ≠ _; rw [add_block]; exact Nat.ne_of_lt (Nat.lt_of_lt_of_le (by have := World.block_lt_of_cell? _ _ hw275_0; first | rwa [add_block] at this | exact this) GW273.out)) | (dsimp only; exact Nat.ne_of_lt (Nat.lt_of_lt_of_le (by have := World.block_lt_of_cell? _ _ hw275_0; first | rwa [add_block] at this | exact this) GW273.out))) : P := h
theorem u6_19 {P : Prop} (h : P := by first | exact Nat.ne_of_lt (Nat.lt_of_lt_of_le (by have := World.block_lt_of_cell? _ _ hw275_1; first | rwa [add_block] at this | exact this) GW273.out) | (rw [add_block]; exact Nat.ne_of_lt (Nat.lt_of_lt_of_le (by have := World.block_lt_of_cell? _ _ hw275_1; first | rwa [add_block] at this | exact this) GW273.out)) | (show (Addr.add _ _).block ≠ _; rw [add_block]; exact Nat.ne_of_lt (Nat.lt_of_lt_of_le (by have := World.block_lt_of_cell? _ _ hw275_1; first | rwa [add_block] at this | exact this) GW273.out)) | (dsimp only; exact Nat.ne_of_lt (Nat.lt_of_lt_of_le (by have := World.block_lt_of_cell? _ _ hw275_1; first | rwa [add_block] at this | exact this) GW273.out))) : P := h
theorem u6_20 {P : Prop} (h : P := by first | exact Nat.ne_of_lt (Nat.lt_of_lt_of_le (by have := World.block_lt_of_cell? _ _ hw275_2; first | rwa [add_block] at this | exact this) GW273.out) | (rw [add_block]; exact Nat.ne_of_lt (Nat.lt_of_lt_of_le (by have := World.block_lt_of_cell? _ _ hw275_2; first | rwa [add_block] at this | exact this) GW273.out)) | (show (Addr.add _ _).block ≠ _; rw [add_block]; exact Nat.ne_of_lt (Nat.lt_of_lt_of_le (by have := World.block_lt_of_cell? _ _ hw275_2; first | rwa [add_block] at this | exact this) GW273.out)) | (dsimp only; exact Nat.ne_of_lt (Nat.lt_of_lt_of_le (by have := World.block_lt_of_cell? _ _ hw275_2; first | rwa [add_block] at this | exact this) GW273.out))) : P := h
theorem u6_21 {P : Prop} (h : P := by first | exact Nat.ne_of_lt (Nat.lt_of_lt_of_le (by have := World.block_lt_of_cell? _ _ hw302_0; first | rwa [add_block] at this | exact this) GW273.out) | (rw [add_block]; exact Nat.ne_of_lt (Nat.lt_of_lt_of_le (by have := World.block_lt_of_cell? _ _ hw302_0; first | rwa [add_block] at this | exact this) GW273.out)) | (show (Addr.add _ _).block ≠ _; rw [add_block]; exact Nat.ne_of_lt (Nat.lt_of_lt_of_le (by have := World.block_lt_of_cell? _ _ hw302_0; first | rwa [add_block] at this | exact this) GW273.out)) | (dsimp only; exact Nat.ne_of_lt (Nat.lt_of_lt_of_le (by have := World.block_lt_of_cell? _ _ hw302_0; first | rwa [add_block] at this | exact this) GW273.out))) : P := h
theorem u6_22 {P : Prop} (h : P := by first | exact Nat.ne_of_lt (Nat.lt_of_lt_of_le (by have := World.block_lt_of_cell? _ _ hw302_1; first | rwa [add_block] at this | exact this) GW273.out) | (rw [add_block]; exact Nat.ne_of_lt (Nat.lt_of_lt_of_le (by have := World.block_lt_of_cell? _ _ hw302_1; first | rwa [add_block] at this | exact this) GW273.out)) | (show (Addr.add _ _).block ≠ _; rw [add_block]; exact Nat.ne_of_lt (Nat.lt_of_lt_of_le (by have := World.block_lt_of_cell? _ _ hw302_1; first | rwa [add_block] at this | exact this) GW273.out)) | (dsimp only; exact Nat.ne_of_lt (Nat.lt_of_lt_of_le (by have := World.block_lt_of_cell? _ _ hw302_1; first | rwa [add_block] at this | exact this) GW273.out))) : P := h
theorem u6_23 {P : Prop} (h : P := by first | exact Nat.ne_of_lt (Nat.lt_of_lt_of_le (by have := World.block_lt_of_cell? _ _ hw302_2; first | rwa [add_block] at this | exact this) GW273.out) | (rw [add_block]; exact Nat.ne_of_lt (Nat.lt_of_lt_of_le (by have := World.block_lt_of_cell? _ _ hw302_2; first | rwa [add_block] at this | exact this) GW273.out)) | (show (Addr.add _ _).block ≠ _; rw [add_block]; exact Nat.ne_of_lt (Nat.lt_of_lt_of_le (by have := World.block_lt_of_cell? _ _ hw302_2; first | rwa [add_block] at this | exact this) GW273.out)) | (dsimp only; exact Nat.ne_of_lt (Nat.lt_of_lt_of_le (by have := World.block_lt_of_cell? _ _ hw302_2; first | rwa [add_block] at this | exact this) GW273.out))) : P := h
theorem u6_24 {P : Prop} (h : P := by first | exact Nat.ne_of_lt (Nat.lt_of_lt_of_le (by have := World.block_lt_of_cell? _ _ hw316_0; first | rwa [add_block] at this | exact this) GW273.out) | (rw [add_block]; exact Nat.ne_of_lt (Nat.lt_of_lt_of_le (by have := World.block_lt_of_cell? _ _ hw316_0; first | rwa [add_block] at this | exact this) GW273.out)) | (show (Addr.add _ _).block ≠ _; rw [add_block]; exact Nat.ne_of_lt (Nat.lt_of_lt_of_le (by have := World.block_lt_of_cell? _ _ hw316_0; first | rwa [add_block] at this | exact this) GW273.out)) | (dsimp only; exact Nat.ne_of_lt (Nat.lt_of_lt_of_le (by have := World.block_lt_of_cell? _ _ hw316_0; first | rwa [add_block] at this | exact this) GW273.out))) : P := h
theorem u6_25 {P : Prop} (h : P := by first | exact Nat.ne_of_lt (Nat.lt_of_lt_of_le (by have := World.block_lt_of_cell? _ _ hw316_1; first | rwa [add_block] at this | exact this) GW273.out) | (rw [add_block]; exact Nat.ne_of_lt (Nat.lt_of_lt_of_le (by have := World.block_lt_of_cell? _ _ hw316_1; first | rwa [add_block] at this | exact this) GW273.out)) | (show (Addr.add _ _).block ≠ _; rw [add_block]; exact Nat.ne_of_lt (Nat.lt_of_lt_of_le (by have := World.block_lt_of_cell? _ _ hw316_1; first | rwa [add_block] at this | exact this) GW273.out)) | (dsimp only; exact Nat.ne_of_lt (Nat.lt_of_lt_of_le (by have := World.block_lt_of_cell? _ _ hw316_1; first | rwa [add_block] at this | exact this) GW273.out))) : P := h
theorem u6_26 {P : Prop} (h : P := by first | exact Nat.ne_of_lt (Nat.lt_of_lt_of_le (by have := World.block_lt_of_cell? _ _ hw316_2; first | rwa [add_block] at this | exact this) GW273.out) | (rw [add_block]; exact Nat.ne_of_lt (Nat.lt_of_lt_of_le (by have := World.block_lt_of_cell? _ _ hw316_2; first | rwa [add_block] at this | exact this) GW273.out)) | (show (Addr.add _ _).block ≠ _; rw [add_block]; exact Nat.ne_of_lt (Nat.lt_of_lt_of_le (by have := World.block_lt_of_cell? _ _ hw316_2; first | rwa [add_block] at this | exact this) GW273.out)) | (dsimp only; exact Nat.ne_of_lt (Nat.lt_of_lt_of_le (by have := World.block_lt_of_cell? _ _ hw316_2; first | rwa [add_block] at this | exact this) GW273.out))) : P := h
theorem u6_27 {P : Prop} (h : P := by (with_reducible repeat (first | refine blk_drewN ?_ _ | refine blk_drew ?_ | refine blk_alloc ?_ _)); exact BK269.out) : P := h
theorem u6_32 {P : Prop} (h : P := by repeat (first | exact (Kd.R_reads' HO_270000.out).2.2 | (with_reducible refine Kd.C_alloc ?_ _) | (with_reducible refine Kd.C_drewN ?_ _) | (with_reducible refine Kd.C_drew ?_))) : P := h
theorem u6_33 {P : Prop} (h : P := by repeat (first | exact (Kd.R_reads' HO_270001.out).2.2 | (with_reducible refine Kd.C_alloc ?_ _) | (with_reducible refine Kd.C_drewN ?_ _) | (with_reducible refine Kd.C_drew ?_))) : P := h
theorem u6_34 {P : Prop} (h : P := by repeat (first | exact (Kd.R_reads' HO_270002.out).2.2 | (with_reducible refine Kd.C_alloc ?_ _) | (with_reducible refine Kd.C_drewN ?_ _) | (with_reducible refine Kd.C_drew ?_))) : P := h
theorem u6_37 {P : Prop} (h : P := by (with_reducible repeat (first | apply Kd.R_alloc | apply Kd.R_drewN | apply Kd.R_drew)); exact HO_7.out) : P := h
theorem u6_40 {P : Prop} (h : P := by first | (rw [add_block]; exact hn274_0) | (show (Addr.add _ _).block ≠ _; rw [add_block]; exact hn274_0) | exact hn274_0) : P := h
theorem u6_41 {P : Prop} (h : P := by first | (rw [add_block]; exact hn274_1) | (show (Addr.add _ _).block ≠ _; rw [add_block]; exact hn274_1) | exact hn274_1) : P := h
theorem u6_42 {P : Prop} (h : P := by first | (rw [add_block]; exact hn274_2) | (show (Addr.add _ _).block ≠ _; rw [add_block]; exact hn274_2) | exact hn274_2) : P := h
theorem u6_43 {P : Prop} (h : P := by (with_reducible repeat (first | refine blk_drewN ?_ _ | refine blk_drew ?_ | refine blk_alloc ?_ _)); exact BK273.out) : P := h
theorem u6_44 {P : Prop} (h : P := by have := World.block_lt_of_cell? _ _ hx274_0; first | rwa [add_block] at this | exact this) : P := h
theorem u6_45 {P : Prop} (h : P := by first | (go_simp; done) | (go_simp; rfl)) : P := h
theorem u6_46 {P : Prop} (h : P := by have := HJ2.out; have := HK2.out; omega) : P := h
theorem u6_47 {P : Prop} (h : P := by (with_reducible repeat (first | apply Kd.R_alloc | apply Kd.R_drewN | apply Kd.R_drew)); exact HO262.out) : P := h
theorem u6_48 {P : Prop} (h : P := by (with_reducible repeat (first | apply Kd.R_alloc | apply Kd.R_drewN | apply Kd.R_drew)); exact HO265.out) : P := h
theorem u6_49 {P : Prop} (h : P := by (with_reducible repeat (first | apply Kd.R_alloc | apply Kd.R_drewN | apply Kd.R_drew)); exact HO268.out) : P := h
/-! ### spec_PlayConf: function 31 -/
mutual
def spec_PlayConf.j0 : Nat → List (S77) → Bool → List Int → List Int → List Int → Option (List Int × List Int × List Int × List Bool)
 | 0, _, _, _, _, _ => none
 | k + 1, x1, x18, x249000, x249001, x249002 => if x18 = true then ((spec_l06Copy.f k x249000 x249001 x249002).bind fun bt251 => (some (bt251.1, bt251.2.1, bt251.2.2, ([] : List Bool)))) else ((spec_l06Copy.f k x249000 x249001 x249002).bind fun bt260 => (spec_PlayConf.l0 k x1 (([] : List Bool)) 0 bt260.1 bt260.2.1 bt260.2.2))
def spec_PlayConf.l0 : Nat → List (S77) → List Bool → Int → List Int → List Int → List Int → Option (List Int × List Int × List Int × List Bool)
 | 0, _, _, _, _, _, _ => none
 | k + 1, x1, x7, x8, x270000, x270001, x270002 => if x8 < (x1.length : Int) then (if 0 ≤ x8 then (if ((rd_T77 x1 x8).f0) = 0 then ((spec_Begin.f k x270000 x270001 x270002 ((rd_T77 x1 x8).f2)).bind fun bt276 => (if x7.length < 140737488355328 then (spec_PlayConf.l0 k x1 (x7 ++ [bt276.2.2.2]) (wrap64 (x8 + 1)) bt276.1 bt276.2.1 bt276.2.2.1) else (none))) else (if ((rd_T77 x1 x8).f0) = 1 then ((spec_Finish.f k x270000 x270001 x270002).bind fun bt289 => (if x7.length < 140737488355328 then (spec_PlayConf.l0 k x1 (x7 ++ [bt289.2.2.2]) (wrap64 (x8 + 1)) bt289.1 bt289.2.1 bt289.2.2.1) else (none))) else (if ((rd_T77 x1 x8).f0) = 2 then ((spec_Learner.f k x270000 x270001 x270002 ((rd_T77 x1 x8).f1) true).bind fun bt303 => (if x7.length < 140737488355328 then (spec_PlayConf.l0 k x1 (x7 ++ [bt303.2.2.2]) (wrap64 (x8 + 1)) bt303.1 bt303.2.1 bt303.2.2.1) else (none))) else (if ((rd_T77 x1 x8).f0) = 3 then ((spec_Learner.f k x270000 x270001 x270002 ((rd_T77 x1 x8).f1) false).bind fun bt317 => (if x7.length < 140737488355328 then (spec_PlayConf.l0 k x1 (x7 ++ [bt317.2.2.2]) (wrap64 (x8 + 1)) bt317.1 bt317.2.1 bt317.2.2.1) else (none))) else (if x7.length < 140737488355328 then (spec_PlayConf.l0 k x1 (x7 ++ [false]) (wrap64 (x8 + 1)) x270000 x270001 x270002) else (none)))))) else (none)) else (some (x270000, x270001, x270002, x7))
end
def spec_PlayConf.f (k : Nat) (l0_0 : List Int) (l0_1 : List Int) (l0_2 : List Int) (l1 : List (S77)) : Option (List Int × List Int × List Int × List Bool) := (spec_ConfOk.f k l0_0 l0_1 l0_2).bind fun t250 => (if t250 = true then (spec_PlayConf.j0 k l1 (decide ((l1.length : Int) > 100)) l0_0 l0_1 l0_2) else (spec_PlayConf.j0 k l1 true l0_0 l0_1 l0_2))
theorem spec_PlayConf.mono_l : ∀ k, (∀ y0 y1 y2 y3 y4, LeO (spec_PlayConf.j0 k y0 y1 y2 y3 y4) (spec_PlayConf.j0 (k + 1) y0 y1 y2 y3 y4)) ∧ (∀ y0 y1 y2 y3 y4 y5, LeO (spec_PlayConf.l0 k y0 y1 y2 y3 y4 y5) (spec_PlayConf.l0 (k + 1) y0 y1 y2 y3 y4 y5))
 | 0 => ⟨fun _ _ _ _ _ r h => by simp [spec_PlayConf.j0] at h, fun _ _ _ _ _ _ r h => by simp [spec_PlayConf.l0] at h⟩
 | k + 1 => by
   obtain ⟨ih0, ih1⟩ := spec_PlayConf.mono_l k
   refine ⟨?_, ?_⟩ <;> intros <;> (first | unfold spec_PlayConf.j0 | unfold spec_PlayConf.l0) <;> repeat' first
   | (with_reducible exact ih0 _ _ _ _ _)
   | (with_reducible exact ih1 _ _ _ _ _ _)
   | (with_reducible exact spec_Begin.mono _ _ _ _ _)
   | (with_reducible exact spec_ConfOk.mono _ _ _ _)
   | (with_reducible exact spec_Finish.mono _ _ _ _)
   | (with_reducible exact spec_Learner.mono _ _ _ _ _ _)
   | (with_reducible exact spec_l06Copy.mono _ _ _ _)
   | (with_reducible exact LeO.refl _)
   | (with_reducible exact LeO.none _)
   | (with_reducible refine LeO.ite ?_ ?_)
   | (with_reducible refine LeO.bind ?_ (fun _ => ?_))
   | exact ih0 _ _ _ _ _
   | exact ih1 _ _ _ _ _ _
   | exact spec_Begin.mono _ _ _ _ _
   | exact spec_ConfOk.mono _ _ _ _
   | exact spec_Finish.mono _ _ _ _
   | exact spec_Learner.mono _ _ _ _ _ _
   | exact spec_l06Copy.mono _ _ _ _
   | exact LeO.none _
   | refine LeO.ite ?_ ?_
   | refine LeO.bind ?_ (fun _ => ?_)
theorem spec_PlayConf.mono : ∀ a0 a1 a2 a3 k, LeO (spec_PlayConf.f k a0 a1 a2 a3) (spec_PlayConf.f (k + 1) a0 a1 a2 a3) := by
 intro a0 a1 a2 a3 k
 obtain ⟨ih0, ih1⟩ := spec_PlayConf.mono_l k
 unfold spec_PlayConf.f
 repeat' first
     | (with_reducible exact ih0 _ _ _ _ _)
     | (with_reducible exact ih1 _ _ _ _ _ _)
     | (with_reducible exact spec_Begin.mono _ _ _ _ _)
     | (with_reducible exact spec_ConfOk.mono _ _ _ _)
     | (with_reducible exact spec_Finish.mono _ _ _ _)
     | (with_reducible exact spec_Learner.mono _ _ _ _ _ _)
     | (with_reducible exact spec_l06Copy.mono _ _ _ _)
     | (with_reducible exact LeO.refl _)
     | (with_reducible exact LeO.none _)
     | (with_reducible refine LeO.ite ?_ ?_)
     | (with_reducible refine LeO.bind ?_ (fun _ => ?_))
     | exact ih0 _ _ _ _ _
     | exact ih1 _ _ _ _ _ _
     | exact spec_Begin.mono _ _ _ _ _
     | exact spec_ConfOk.mono _ _ _ _
     | exact spec_Finish.mono _ _ _ _
     | exact spec_Learner.mono _ _ _ _ _ _
     | exact spec_l06Copy.mono _ _ _ _
     | exact LeO.none _
     | refine LeO.ite ?_ ?_
     | refine LeO.bind ?_ (fun _ => ?_)
def spec_PlayConf.T12 : Bool × List (List Nat × List Nat) := (true, [([], []), ([], []), ([], []), ([1, 2], [1, 2]), ([3], [3]), ([4], [4]), ([0, 5], [0, 5]), ([6], [6]), ([7], [7]), ([7], [7]), ([8, 6, 0, 1, 2, 3, 4, 5, 6, 7, 8], [8]), ([9, 10, 0, 1, 2, 3, 4, 5, 6, 7, 8, 9, 10], [9])])
def spec_PlayConf.B12 : List Nat := [0, 0, 0, 6, 14, 30, 63, 127, 255, 255, 511, 2047]
theorem spec_PlayConf.tab12 : rtab .any (opsOf Try.f31 12) = spec_PlayConf.T12 := by kernel_rfl
theorem spec_PlayConf.bits12 : waitsOk spec_PlayConf.T12.2 spec_PlayConf.B12 = true := by kernel_rfl
def spec_PlayConf.T16 : Bool × List (List Nat × List Nat) := (true, [([], []), ([], []), ([], []), ([1, 2], [1, 2]), ([3], [3]), ([4], [4]), ([0, 5], [0, 5]), ([6], [6]), ([7], [7]), ([7], [7]), ([8, 6, 0, 1, 2, 3, 4, 5, 6, 7, 8], [8]), ([9, 10, 0, 1, 2, 3, 4, 5, 6, 7, 8, 9, 10], [9])])
def spec_PlayConf.B16 : List Nat := [0, 0, 0, 6, 14, 30, 63, 127, 255, 255, 511, 2047]
theorem spec_PlayConf.tab16 : rtab .any (opsOf Try.f31 16) = spec_PlayConf.T16 := by kernel_rfl
theorem spec_PlayConf.bits16 : waitsOk spec_PlayConf.T16.2 spec_PlayConf.B16 = true := by kernel_rfl
def spec_PlayConf.T18 : Bool × List (List Nat × List Nat) := (true, [([], []), ([], []), ([], []), ([1, 2], [1, 2]), ([3], [3]), ([4], [4]), ([0, 5], [0, 5]), ([6], [6]), ([7], [7]), ([7], [7]), ([8, 6, 0, 1, 2, 3, 4, 5, 6, 7, 8], [8]), ([9, 10, 0, 1, 2, 3, 4, 5, 6, 7, 8, 9, 10], [9])])
def spec_PlayConf.B18 : List Nat := [0, 0, 0, 6, 14, 30, 63, 127, 255, 255, 511, 2047]
theorem spec_PlayConf.tab18 : rtab .any (opsOf Try.f31 18) = spec_PlayConf.T18 := by kernel_rfl
theorem spec_PlayConf.bits18 : waitsOk spec_PlayConf.T18.2 spec_PlayConf.B18 = true := by kernel_rfl
set_option maxHeartbeats 8000000 in
set_option maxRecDepth 100000 in
theorem spec_PlayConf.calls (k : Nat) (A0_0 : Option Addr) (c0_0 : Nat) (l0_0 : List Int) (A0_1 : Option Addr) (c0_1 : Nat) (l0_1 : List Int) (A0_2 : Option Addr) (c0_2 : Nat) (l0_2 : List Int) (A1 : Option Addr) (c1 : Nat) (l1 : List (S77)) (r1 : List Int) (r2 : List Int) (r3 : List Int) (r4 : List Bool) (w : World) (hr0_0 : Kd.C (Kd.int .i64) w A0_0 l0_0.length l0_0) (hc0_0 : l0_0.length ≤ c0_0) (hr0_1 : Kd.C (Kd.int .i64) w A0_1 l0_1.length l0_1) (hc0_1 : l0_1.length ≤ c0_1) (hr0_2 : Kd.C (Kd.int .i64) w A0_2 l0_2.length l0_2) (hc0_2 : l0_2.length ≤ c0_2) (hr1 : Kd.C k77 w A1 l1.length l1) (hc1 : l1.length ≤ c1) (h : spec_PlayConf.f k l0_0 l0_1 l0_2 l1 = some (r1, r2, r3, r4)) :
   Calls Try.prog 31 #[.agg #[.slice A0_0 l0_0.length c0_0, .slice A0_1 l0_1.length c0_1, .slice A0_2 l0_2.length c0_2], .slice A1 l1.length c1] w fun e w' => ∃ v0_ v1_ v2_ v3_ : Value, e = .returned (.tuple #[.agg #[v0_, v1_, v2_], v3_]) ∧ Kd.R (Kd.int .i64) 3 w' w.heap.size (fun k_ => some k_ ≠ (v1_ : Value).ownBlock ∧ some k_ ≠ (v2_ : Value).ownBlock) v0_ r1 ∧ Kd.R (Kd.int .i64) 3 w' w.heap.size (fun k_ => some k_ ≠ (v0_ : Value).ownBlock ∧ some k_ ≠ (v2_ : Value).ownBlock) v1_ r2 ∧ Kd.R (Kd.int .i64) 3 w' w.heap.size (fun k_ => some k_ ≠ (v0_ : Value).ownBlock ∧ some k_ ≠ (v1_ : Value).ownBlock) v2_ r3 ∧ Kd.R Kd.bool 4 w' w.heap.size (fun _ => True) v3_ r4 ∧ Below w.heap.size w w' := by
 have hu26 := Try.underlying26
 have HR0_0 := am hr0_0
 have HC0_0 := am hc0_0
 clear hr0_0 hc0_0
 have HR0_1 := am hr0_1
 have HC0_1 := am hc0_1
 clear hr0_1 hc0_1
 have HR0_2 := am hr0_2
 have HC0_2 := am hc0_2
 clear hr0_2 hc0_2
 have HR1 := am hr1
 have HC1 := am hc1
 clear hr1 hc1
 have HB := am (Below.refl w.heap.size w)
 have H : ((spec_ConfOk.f k l0_0 l0_1 l0_2).bind fun t250 => (if t250 = true then (spec_PlayConf.j0 k l1 (decide ((l1.length : Int) > 100)) l0_0 l0_1 l0_2) else (spec_PlayConf.j0 k l1 true l0_0 l0_1 l0_2))) = some (r1, r2, r3, r4) := h
 clear h
 have HC3 := am H
 clear H
 go_enter Try.func31, Try.ntmps31
 go_upto_region 1 with (first | ((with_reducible refine gate_dst (N := 2) rfl ?_); (try (refine gate_guard (by rfl) ?_; dsimp only)); refine box_event ?hg (N := 2) ?hd (cs := #[.slice A0_0 l0_0.length c0_0, .slice A0_1 l0_1.length c0_1, .slice A0_2 l0_2.length c0_2]) (t := 26) ?hr ?_; (case hd => rfl); (case hg => rfl); (case hr => first | (go_simp; done) | (go_simp; rfl)); intro gb248 hg w4 hbox hb; have BK248 := am (hbox); have GW248 := am ((by rw [hg]; exact (below_size Q0) : w.heap.size ≤ gb248)); have GE248 := am ((by rw [hg]; exact (below_size Q0) : w.heap.size ≤ gb248)); replace HB := am (below_step Q0 hb); clear hb hbox hg) | ((with_reducible refine gate_dst (N := 4) rfl ?_); (try (refine gate_guard (by rfl) ?_; dsimp only)); refine box_event ?hg (N := 4) ?hd (cs := #[.slice none 0 0, .slice none 0 0, .slice none 0 0]) (t := 26) ?hr ?_; (case hd => rfl); (case hg => rfl); (case hr => first | (go_simp; done) | (go_simp; rfl)); intro gb249 hg w5 hbox hb; have BK249 := am (hbox); have GW249 := am ((by rw [hg]; exact (below_size Q0) : w.heap.size ≤ gb249)); have GE249 := am ((by rw [hg]; exact (below_size Q0) : w.heap.size ≤ gb249)); replace HB := am (below_step Q0 hb); have NB248_249 := am ((by rw [hg]; exact Nat.ne_of_lt (blk_lt (g := gb248) (o := .cells #[.slice A0_0 l0_0.length c0_0, .slice A0_1 l0_1.length c0_1, .slice A0_2 l0_2.length c0_2] 26 (0, 0)) u6_8) : gb248 ≠ gb249)); have NB249_248 := am ((by rw [hg]; exact Nat.ne_of_gt (blk_lt (g := gb248) (o := .cells #[.slice A0_0 l0_0.length c0_0, .slice A0_1 l0_1.length c0_1, .slice A0_2 l0_2.length c0_2] 26 (0, 0)) u6_8) : gb249 ≠ gb248)); replace BK248 := am (blk_below (g := gb248) (o := .cells #[.slice A0_0 l0_0.length c0_0, .slice A0_1 l0_1.length c0_1, .slice A0_2 l0_2.length c0_2] 26 (0, 0)) u6_8 hb); clear hb hbox hg))
 (try simp only [Act.put, la, lb, lc])
 go_cut [18] (fun v18 wc => ∃ (kq : Nat) (x18_2 : Bool), v18 = .bool x18_2 ∧ Aside0 (spec_PlayConf.j0 kq l1 x18_2 l0_0 l0_1 l0_2 = some (r1, r2, r3, r4)) ∧ Aside0 (kq ≤ k) ∧ Aside0 (wc.heap[gb248]? = some (.cells #[(.slice A0_0 l0_0.length c0_0), (.slice A0_1 l0_1.length c0_1), (.slice A0_2 l0_2.length c0_2)] 26 (0, 0))) ∧ Aside0 (wc.heap[gb249]? = some (.cells #[(.slice none 0 0), (.slice none 0 0), (.slice none 0 0)] 26 (0, 0))) ∧ Aside0 (Below w.heap.size w wc))
 case first =>
   have H := HC3.out
   clear HC3
   replace H := Option.bind_eq_some_iff.mp H
   obtain ⟨t250, A60, H⟩ := H
   have A6 := am A60
   clear A60
   by_cases c7 : t250 = true
   · subst c7
     rw [if_pos rfl] at H
     have H' := am H
     clear H
     have hnb8 := NB248_249.out
     have hnc8 := NB249_248.out
     obtain ⟨hcz9_0, hcz9_1, hcz9_2, hfz9_0, hfz9_1, hfz9_2⟩ := bc3f w5 BK248.out
     go_wp2_with (first | ((with_reducible refine gate_callee (f := 53) rfl ?_); refine goesL_ (some 12) rfl rfl Try.func53 kr rfl #[.agg #[.slice A0_0 l0_0.length c0_0, .slice A0_1 l0_1.length c0_1, .slice A0_2 l0_2.length c0_2]] rfl Q3 ?_; (with_reducible refine (spec_ConfOk.calls k _ _ l0_0 _ _ l0_1 _ _ l0_2 true _ ?side1 ?side2 ?side3 ?side4 ?side5 ?side6 A6.out).mono ?_); (case side1 => exact Q6); (case side2 => exact HC0_0.out); (case side3 => exact Q8); (case side4 => exact HC0_1.out); (case side5 => exact Q7); (case side6 => exact HC0_2.out); rintro e w10 ⟨rfl, hb⟩; refine ⟨_, rfl, ?_⟩; replace BK248 := am (blk_below (g := gb248) (o := .cells #[.slice A0_0 l0_0.length c0_0, .slice A0_1 l0_1.length c0_1, .slice A0_2 l0_2.length c0_2] 26 (0, 0)) u6_8 hb); replace BK249 := am (blk_below (g := gb249) (o := .cells #[.slice none 0 0, .slice none 0 0, .slice none 0 0] 26 (0, 0)) u6_9 hb); replace HB := am (below_step Q0 hb); (try clear hb); (try clear hb2); (try clear hk); (try clear hi)))
     go_meet
     case rel => exact ⟨_, (decide ((l1.length : Int) > 100)), Q1, H', ⟨by first | omega | exact Nat.le_refl _⟩, ⟨u6_8⟩, ⟨u6_9⟩, ⟨Q0⟩⟩
   replace c7 := Bool.eq_false_iff.mpr c7
   subst c7
   rw [nf] at H
   have H' := am H
   clear H
   have hnb11 := NB248_249.out
   have hnc11 := NB249_248.out
   obtain ⟨hcz12_0, hcz12_1, hcz12_2, hfz12_0, hfz12_1, hfz12_2⟩ := bc3f w5 BK248.out
   go_wp2_with (first | ((with_reducible refine gate_callee (f := 53) rfl ?_); refine goesL_ (some 12) rfl rfl Try.func53 kr rfl #[.agg #[.slice A0_0 l0_0.length c0_0, .slice A0_1 l0_1.length c0_1, .slice A0_2 l0_2.length c0_2]] rfl Q3 ?_; (with_reducible refine (spec_ConfOk.calls k _ _ l0_0 _ _ l0_1 _ _ l0_2 false _ ?side1 ?side2 ?side3 ?side4 ?side5 ?side6 A6.out).mono ?_); (case side1 => exact Q6); (case side2 => exact HC0_0.out); (case side3 => exact Q8); (case side4 => exact HC0_1.out); (case side5 => exact Q7); (case side6 => exact HC0_2.out); rintro e w13 ⟨rfl, hb⟩; refine ⟨_, rfl, ?_⟩; replace BK248 := am (blk_below (g := gb248) (o := .cells #[.slice A0_0 l0_0.length c0_0, .slice A0_1 l0_1.length c0_1, .slice A0_2 l0_2.length c0_2] 26 (0, 0)) u6_8 hb); replace BK249 := am (blk_below (g := gb249) (o := .cells #[.slice none 0 0, .slice none 0 0, .slice none 0 0] 26 (0, 0)) u6_9 hb); replace HB := am (below_step Q0 hb); (try clear hb); (try clear hb2); (try clear hk); (try clear hi)))
   go_meet
   case rel => exact ⟨_, (true), Q1, H', ⟨by first | omega | exact Nat.le_refl _⟩, ⟨u6_8⟩, ⟨u6_9⟩, ⟨Q0⟩⟩
 clear HC3
 try clear c1
 obtain ⟨kq, x18_2, rfl, HA, HJ2, BK248, BK249, HB⟩ := hcut
 cases kq with
 | zero => exact absurd HA.out (by simp [spec_PlayConf.j0])
 | succ kj2 =>
   have H := HA.out
   clear HA
   simp only [spec_PlayConf.j0] at H
   by_cases c14 : x18_2 = true
   · subst c14
     rw [if_pos rfl] at H
     replace H := Option.bind_eq_some_iff.mp H
     obtain ⟨⟨t251, t254, t257⟩, A150, H⟩ := H
     replace H : (some (t251, t254, t257, ([] : List Bool))) = some (r1, r2, r3, r4) := H
     have A15 := am A150
     clear A150
     simp only [Option.some.injEq, Prod.mk.injEq] at H
     obtain ⟨rfl, rfl, rfl, rfl⟩ := H
     have hnb16 := NB248_249.out
     have hnc16 := NB249_248.out
     obtain ⟨hcz17_0, hcz17_1, hcz17_2, hfz17_0, hfz17_1, hfz17_2⟩ := bc3f wc BK248.out
     go_wp2_with (first | ((with_reducible refine gate_callee (f := 55) rfl ?_); refine goesL_ (some 20) rfl rfl Try.func55 kr rfl #[.agg #[.slice A0_0 l0_0.length c0_0, .slice A0_1 l0_1.length c0_1, .slice A0_2 l0_2.length c0_2]] rfl Q3 ?_; (with_reducible refine (spec_l06Copy.calls kj2 _ _ l0_0 _ _ l0_1 _ _ l0_2 t251 t254 t257 _ ?side1 ?side2 ?side3 ?side4 ?side5 ?side6 A15.out).mono ?_); (case side1 => exact Q6); (case side2 => exact HC0_0.out); (case side3 => exact Q8); (case side4 => exact HC0_1.out); (case side5 => exact Q7); (case side6 => exact HC0_2.out); rintro e w18 ⟨v252, v255, v258, rfl, ho0, ho1, ho2, hb⟩; refine ⟨_, rfl, ?_⟩; have HO253 := am (Kd.R_lower ho0 (below_size Q0)); have HO256 := am (Kd.R_lower ho1 (below_size Q0)); have HO259 := am (Kd.R_lower ho2 (below_size Q0)); replace BK248 := am (blk_below (g := gb248) (o := .cells #[.slice A0_0 l0_0.length c0_0, .slice A0_1 l0_1.length c0_1, .slice A0_2 l0_2.length c0_2] 26 (0, 0)) u6_8 hb); replace BK249 := am (blk_below (g := gb249) (o := .cells #[.slice none 0 0, .slice none 0 0, .slice none 0 0] 26 (0, 0)) u6_9 hb); replace HB := am (below_step Q0 hb); (try clear hb); (try clear hb2); (try clear hk); (try clear hi); (try clear ho0); (try clear ho1); (try clear ho2); obtain ⟨Ao19, co19, eo19⟩ := Kd.R_slice HO253.out; subst eo19; obtain ⟨hcz20_0, hcz20_1, hcz20_2, hfz20_0, hfz20_1, hfz20_2⟩ := bc3f w18 BK249.out; obtain ⟨Ao21, co21, eo21⟩ := Kd.R_slice HO256.out; subst eo21; obtain ⟨Ao22, co22, eo22⟩ := Kd.R_slice HO259.out; subst eo22))
     refine bodyPost_ret (results_ct rfl _ _ gb249 26 #[.slice Ao19 t251.length co19, .slice Ao21 t254.length co21, .slice Ao22 t257.length co22] (0, 0) _ rfl (by (with_reducible repeat (first | refine blk_drewN ?_ _ | refine blk_drew ?_ | refine blk_alloc ?_ _)); refine blk_put (cs := #[.slice Ao19 t251.length co19, .slice Ao21 t254.length co21, .slice none 0 0]) ?_ 2 _ rfl; (with_reducible repeat (first | refine blk_drewN ?_ _ | refine blk_drew ?_ | refine blk_alloc ?_ _)); refine blk_put (cs := #[.slice Ao19 t251.length co19, .slice none 0 0, .slice none 0 0]) ?_ 1 _ rfl; (with_reducible repeat (first | refine blk_drewN ?_ _ | refine blk_drew ?_ | refine blk_alloc ?_ _)); refine blk_put (cs := #[.slice none 0 0, .slice none 0 0, .slice none 0 0]) ?_ 0 _ rfl; (with_reducible repeat (first | refine blk_drewN ?_ _ | refine blk_drew ?_ | refine blk_alloc ?_ _)); exact BK249.out) Try.underlying26 rfl kr) rfl ?_
     exact ⟨_, _, _, _, er, (by (with_reducible repeat (first | apply Kd.R_alloc | apply Kd.R_drewN | apply Kd.R_drew)); exact Kd.R_mono (Kd.R_far (p := ⟨gb249, 2, none⟩) (Kd.R_far (p := ⟨gb249, 1, none⟩) (Kd.R_far (p := ⟨gb249, 0, none⟩) (Kd.R_types HO253.out BK249.out (by decide)) (fun _ hk => hk.2) (.slice Ao19 t251.length co19)) (fun _ hk => hk.2) (.slice Ao21 t254.length co21)) (fun _ hk => hk.2) (.slice Ao22 t257.length co22)) (fun _ hk => ⟨hk.1.1, hk.1.2⟩)), (by (with_reducible repeat (first | apply Kd.R_alloc | apply Kd.R_drewN | apply Kd.R_drew)); exact Kd.R_mono (Kd.R_far (p := ⟨gb249, 2, none⟩) (Kd.R_far (p := ⟨gb249, 1, none⟩) (Kd.R_far (p := ⟨gb249, 0, none⟩) (Kd.R_types HO256.out BK249.out (by decide)) (fun _ hk => hk.2) (.slice Ao19 t251.length co19)) (fun _ hk => hk.2) (.slice Ao21 t254.length co21)) (fun _ hk => hk.2) (.slice Ao22 t257.length co22)) (fun _ hk => ⟨hk.1.1, hk.1.2⟩)), (by (with_reducible repeat (first | apply Kd.R_alloc | apply Kd.R_drewN | apply Kd.R_drew)); exact Kd.R_mono (Kd.R_far (p := ⟨gb249, 2, none⟩) (Kd.R_far (p := ⟨gb249, 1, none⟩) (Kd.R_far (p := ⟨gb249, 0, none⟩) (Kd.R_types HO259.out BK249.out (by decide)) (fun _ hk => hk.2) (.slice Ao19 t251.length co19)) (fun _ hk => hk.2) (.slice Ao21 t254.length co21)) (fun _ hk => hk.2) (.slice Ao22 t257.length co22)) (fun _ hk => ⟨hk.1.1, hk.1.2⟩)), (by first | exact Kd.R_nil _ _ _ _ _ | exact Kd.N_nil _ _ _ _ _ | exact Kd.V_nil _ _ _ _ _ | exact Kd.Q_nil _ _ _ _ _ | exact Kd.S_nil _ _ _ _ _), Q0⟩
   replace c14 := Bool.eq_false_iff.mpr c14
   subst c14
   rw [nf] at H
   replace H := Option.bind_eq_some_iff.mp H
   obtain ⟨⟨t260, t263, t266⟩, A230, H⟩ := H
   replace H : (spec_PlayConf.l0 kj2 l1 (([] : List Bool)) 0 t260 t263 t266) = some (r1, r2, r3, r4) := H
   have A23 := am A230
   clear A230
   obtain ⟨y270, hy270⟩ : ∃ y_ : List Bool, y_ = (([] : List Bool)) := ⟨_, rfl⟩
   replace H : (spec_PlayConf.l0 kj2 l1 y270 0 t260 t263 t266) = some (r1, r2, r3, r4) := by first | (rw [hy270]; with_reducible exact H) | (have H2_ := (Option.bind_some _ _).symm.trans H; rw [hy270]; with_reducible exact H2_) | (have H2_ := (Option.bind_some _ _).symm.trans H; with_reducible exact H2_) | with_reducible exact H | (rw [hy270]; exact H) | exact H
   have Ny270 := am hy270
   clear hy270
   have H' := am H
   clear H
   have hnb24 := NB248_249.out
   have hnc24 := NB249_248.out
   obtain ⟨hcz25_0, hcz25_1, hcz25_2, hfz25_0, hfz25_1, hfz25_2⟩ := bc3f wc BK248.out
   go_wp2_with (first | ((with_reducible refine gate_callee (f := 55) rfl ?_); refine goesL_ (some 22) rfl rfl Try.func55 kr rfl #[.agg #[.slice A0_0 l0_0.length c0_0, .slice A0_1 l0_1.length c0_1, .slice A0_2 l0_2.length c0_2]] rfl Q3 ?_; (with_reducible refine (spec_l06Copy.calls kj2 _ _ l0_0 _ _ l0_1 _ _ l0_2 t260 t263 t266 _ ?side1 ?side2 ?side3 ?side4 ?side5 ?side6 A23.out).mono ?_); (case side1 => exact Q6); (case side2 => exact HC0_0.out); (case side3 => exact Q8); (case side4 => exact HC0_1.out); (case side5 => exact Q7); (case side6 => exact HC0_2.out); rintro e w26 ⟨v261, v264, v267, rfl, ho0, ho1, ho2, hb⟩; refine ⟨_, rfl, ?_⟩; have HO262 := am (Kd.R_lower ho0 (below_size Q0)); have HO265 := am (Kd.R_lower ho1 (below_size Q0)); have HO268 := am (Kd.R_lower ho2 (below_size Q0)); replace BK248 := am (blk_below (g := gb248) (o := .cells #[.slice A0_0 l0_0.length c0_0, .slice A0_1 l0_1.length c0_1, .slice A0_2 l0_2.length c0_2] 26 (0, 0)) u6_8 hb); replace BK249 := am (blk_below (g := gb249) (o := .cells #[.slice none 0 0, .slice none 0 0, .slice none 0 0] 26 (0, 0)) u6_9 hb); replace HB := am (below_step Q0 hb); (try clear hb); (try clear hb2); (try clear hk); (try clear hi); (try clear ho0); (try clear ho1); (try clear ho2)) | ((with_reducible refine gate_dst (N := 6) rfl ?_); (try (refine gate_guard (by rfl) ?_; dsimp only)); refine box_event ?hg (N := 6) ?hd (cs := #[.slice none 0 0, .slice none 0 0, .slice none 0 0]) (t := 26) ?hr ?_; (case hd => rfl); (case hg => rfl); (case hr => first | (go_simp; done) | (go_simp; rfl)); intro gb269 hg w27 hbox hb; replace HO262 := am (Kd.R_below u6_47 hb); replace HO265 := am (Kd.R_below u6_48 hb); replace HO268 := am (Kd.R_below u6_49 hb); have BK269 := am (hbox); have GW269 := am ((by rw [hg]; exact (below_size Q0) : w.heap.size ≤ gb269)); have GE269 := am ((by rw [hg]; exact (below_size Q0) : w.heap.size ≤ gb269)); replace HB := am (below_step Q0 hb); have NB248_269 := am ((by rw [hg]; exact Nat.ne_of_lt (blk_lt (g := gb248) (o := .cells #[.slice A0_0 l0_0.length c0_0, .slice A0_1 l0_1.length c0_1, .slice A0_2 l0_2.length c0_2] 26 (0, 0)) u6_8) : gb248 ≠ gb269)); have NB269_248 := am ((by rw [hg]; exact Nat.ne_of_gt (blk_lt (g := gb248) (o := .cells #[.slice A0_0 l0_0.length c0_0, .slice A0_1 l0_1.length c0_1, .slice A0_2 l0_2.length c0_2] 26 (0, 0)) u6_8) : gb269 ≠ gb248)); replace BK248 := am (blk_below (g := gb248) (o := .cells #[.slice A0_0 l0_0.length c0_0, .slice A0_1 l0_1.length c0_1, .slice A0_2 l0_2.length c0_2] 26 (0, 0)) u6_8 hb); have NB249_269 := am ((by rw [hg]; exact Nat.ne_of_lt (blk_lt (g := gb249) (o := .cells #[.slice none 0 0, .slice none 0 0, .slice none 0 0] 26 (0, 0)) u6_9) : gb249 ≠ gb269)); have NB269_249 := am ((by rw [hg]; exact Nat.ne_of_gt (blk_lt (g := gb249) (o := .cells #[.slice none 0 0, .slice none 0 0, .slice none 0 0] 26 (0, 0)) u6_9) : gb269 ≠ gb249)); replace BK249 := am (blk_below (g := gb249) (o := .cells #[.slice none 0 0, .slice none 0 0, .slice none 0 0] 26 (0, 0)) u6_9 hb); clear hb hbox hg; obtain ⟨Ao28, co28, eo28⟩ := Kd.R_slice HO262.out; subst eo28; have hnb29 := NB269_248.out; have hnc29 := NB248_269.out; have hnb30 := NB269_249.out; have hnc30 := NB249_269.out; obtain ⟨hcz31_0, hcz31_1, hcz31_2, hfz31_0, hfz31_1, hfz31_2⟩ := bc3f w27 BK269.out; obtain ⟨Ao32, co32, eo32⟩ := Kd.R_slice HO265.out; subst eo32; obtain ⟨Ao33, co33, eo33⟩ := Kd.R_slice HO268.out; subst eo33) | ((with_reducible refine gate_dst (N := 23) rfl ?_); (try (refine gate_guard (by rfl) ?_; dsimp only)); refine Kd.R_lit Kd.bool _ 4 ?hg (N := 23) ?hd (xs := ([] : List Bool)) (inner := []) (ok := fun _ => True) (okp := fun _ => True) ?hr ?hp (fun _ hk => hk) trivial (Below.refl _ _) (Nat.le_refl _) (by simp) ?_; (case hd => rfl); (case hg => rfl); (case hr => first | (go_simp; done) | (go_simp; rfl)); (case hp => exact (Reps.none _ _)); intro v271 w34 ho35 hb hg_ hnew_; clear hg_ hnew_; (first | rw [← Ny270.out] at ho35 | (simp only [Int.reduceToNat] at ho35; rw [← Ny270.out] at ho35)); replace HO262 := am (Kd.R_below (by (with_reducible repeat (first | apply Kd.R_alloc | apply Kd.R_drewN | apply Kd.R_drew)); exact (Kd.R_mono (Kd.R_far (p := ⟨gb269, 2, none⟩) (Kd.R_far (p := ⟨gb269, 1, none⟩) (Kd.R_far (p := ⟨gb269, 0, none⟩) (Kd.R_types HO262.out BK269.out (by decide)) (fun _ hk => hk.2) (.slice Ao28 t260.length co28)) (fun _ hk => hk.2) (.slice Ao32 t263.length co32)) (fun _ hk => hk.2) (.slice Ao33 t266.length co33)) (fun _ h_ => h_.1))) hb); replace HO265 := am (Kd.R_below (by (with_reducible repeat (first | apply Kd.R_alloc | apply Kd.R_drewN | apply Kd.R_drew)); exact (Kd.R_mono (Kd.R_far (p := ⟨gb269, 2, none⟩) (Kd.R_far (p := ⟨gb269, 1, none⟩) (Kd.R_far (p := ⟨gb269, 0, none⟩) (Kd.R_types HO265.out BK269.out (by decide)) (fun _ hk => hk.2) (.slice Ao28 t260.length co28)) (fun _ hk => hk.2) (.slice Ao32 t263.length co32)) (fun _ hk => hk.2) (.slice Ao33 t266.length co33)) (fun _ h_ => h_.1))) hb); replace HO268 := am (Kd.R_below (by (with_reducible repeat (first | apply Kd.R_alloc | apply Kd.R_drewN | apply Kd.R_drew)); exact (Kd.R_mono (Kd.R_far (p := ⟨gb269, 2, none⟩) (Kd.R_far (p := ⟨gb269, 1, none⟩) (Kd.R_far (p := ⟨gb269, 0, none⟩) (Kd.R_types HO268.out BK269.out (by decide)) (fun _ hk => hk.2) (.slice Ao28 t260.length co28)) (fun _ hk => hk.2) (.slice Ao32 t263.length co32)) (fun _ hk => hk.2) (.slice Ao33 t266.length co33)) (fun _ h_ => h_.1))) hb); have HO272 := am (Kd.R_lower ho35 (below_size Q0)); replace BK248 := am (blk_below (g := gb248) (o := .cells #[.slice A0_0 l0_0.length c0_0, .slice A0_1 l0_1.length c0_1, .slice A0_2 l0_2.length c0_2] 26 (0, 0)) (by (with_reducible repeat (first | refine blk_drewN ?_ _ | refine blk_drew ?_ | refine blk_alloc ?_ _)); refine blk_far ?_ NB248_269.out _; (with_reducible repeat (first | refine blk_drewN ?_ _ | refine blk_drew ?_ | refine blk_alloc ?_ _)); refine blk_far ?_ NB248_269.out _; (with_reducible repeat (first | refine blk_drewN ?_ _ | refine blk_drew ?_ | refine blk_alloc ?_ _)); refine blk_far ?_ NB248_269.out _; (with_reducible repeat (first | refine blk_drewN ?_ _ | refine blk_drew ?_ | refine blk_alloc ?_ _)); exact BK248.out) hb); replace BK249 := am (blk_below (g := gb249) (o := .cells #[.slice none 0 0, .slice none 0 0, .slice none 0 0] 26 (0, 0)) (by (with_reducible repeat (first | refine blk_drewN ?_ _ | refine blk_drew ?_ | refine blk_alloc ?_ _)); refine blk_far ?_ NB249_269.out _; (with_reducible repeat (first | refine blk_drewN ?_ _ | refine blk_drew ?_ | refine blk_alloc ?_ _)); refine blk_far ?_ NB249_269.out _; (with_reducible repeat (first | refine blk_drewN ?_ _ | refine blk_drew ?_ | refine blk_alloc ?_ _)); refine blk_far ?_ NB249_269.out _; (with_reducible repeat (first | refine blk_drewN ?_ _ | refine blk_drew ?_ | refine blk_alloc ?_ _)); exact BK249.out) hb); replace BK269 := am (blk_below (g := gb269) (o := .cells #[.slice Ao28 t260.length co28, .slice Ao32 t263.length co32, .slice Ao33 t266.length co33] 26 (0, 0)) (by (with_reducible repeat (first | refine blk_drewN ?_ _ | refine blk_drew ?_ | refine blk_alloc ?_ _)); refine blk_put (cs := #[.slice Ao28 t260.length co28, .slice Ao32 t263.length co32, .slice none 0 0]) ?_ 2 _ rfl; (with_reducible repeat (first | refine blk_drewN ?_ _ | refine blk_drew ?_ | refine blk_alloc ?_ _)); refine blk_put (cs := #[.slice Ao28 t260.length co28, .slice none 0 0, .slice none 0 0]) ?_ 1 _ rfl; (with_reducible repeat (first | refine blk_drewN ?_ _ | refine blk_drew ?_ | refine blk_alloc ?_ _)); refine blk_put (cs := #[.slice none 0 0, .slice none 0 0, .slice none 0 0]) ?_ 0 _ rfl; (with_reducible repeat (first | refine blk_drewN ?_ _ | refine blk_drew ?_ | refine blk_alloc ?_ _)); exact BK269.out) hb); replace HB := am (below_step Q0 hb); clear hb ho35))
   go_loopg [7, 8] kj2 (fun kq v7 v8 w' => ∃ (x7_2 : List Bool) (x8_2 : Int) (x270000_2 : List Int) (x270001_2 : List Int) (x270002_2 : List Int) (u270000 : Value) (u270001 : Value) (u270002 : Value), v8 = .int .i64 x8_2 ∧ Aside0 (spec_PlayConf.l0 kq l1 x7_2 x8_2 x270000_2 x270001_2 x270002_2 = some (r1, r2, r3, r4)) ∧ Aside0 (kq ≤ kj2) ∧ Aside0 (Kd.R Kd.bool 4 w' w.heap.size (fun _ => True) v7 x7_2) ∧ Aside0 (Kd.R (Kd.int .i64) 3 w' w.heap.size (fun k_ => some k_ ≠ (u270001 : Value).ownBlock ∧ some k_ ≠ (u270002 : Value).ownBlock) u270000 x270000_2) ∧ Aside0 (Kd.R (Kd.int .i64) 3 w' w.heap.size (fun k_ => some k_ ≠ (u270000 : Value).ownBlock ∧ some k_ ≠ (u270002 : Value).ownBlock) u270001 x270001_2) ∧ Aside0 (Kd.R (Kd.int .i64) 3 w' w.heap.size (fun k_ => some k_ ≠ (u270000 : Value).ownBlock ∧ some k_ ≠ (u270001 : Value).ownBlock) u270002 x270002_2) ∧ Aside0 (w'.heap[gb248]? = some (.cells #[(.slice A0_0 l0_0.length c0_0), (.slice A0_1 l0_1.length c0_1), (.slice A0_2 l0_2.length c0_2)] 26 (0, 0))) ∧ Aside0 (w'.heap[gb249]? = some (.cells #[(.slice none 0 0), (.slice none 0 0), (.slice none 0 0)] 26 (0, 0))) ∧ Aside0 (w'.heap[gb269]? = some (.cells #[u270000, u270001, u270002] 26 (0, 0))) ∧ Aside0 (Below w.heap.size w w'))
   case atStart => exact ⟨(y270), (0), (t260), (t263), (t266), (.slice Ao28 t260.length co28), (.slice Ao32 t263.length co32), (.slice Ao33 t266.length co33), Q1, H', ⟨Nat.le_refl _⟩, ⟨(by (with_reducible repeat (first | apply Kd.R_alloc | apply Kd.R_drewN | apply Kd.R_drew)); exact HO272.out)⟩, ⟨u6_47⟩, ⟨u6_48⟩, ⟨u6_49⟩, ⟨u6_8⟩, ⟨u6_9⟩, ⟨u6_27⟩, ⟨Q0⟩⟩
   clear H'
   try clear c1
   try clear c14
   try clear hcz25_0
   try clear hcz25_1
   try clear hcz25_2
   try clear hcz31_0
   try clear hcz31_1
   try clear hcz31_2
   try clear hfz25_0
   try clear hfz25_1
   try clear hfz25_2
   try clear hfz31_0
   try clear hfz31_1
   try clear hfz31_2
   obtain ⟨x7_2, x8_2, x270000_2, x270001_2, x270002_2, u270000, u270001, u270002, rfl, HA, HK2, HO_7, HO_270000, HO_270001, HO_270002, BK248, BK249, BK269, HB⟩ := hrel
   cases gk with
   | zero => exact absurd HA.out (by simp [spec_PlayConf.l0])
   | succ k2 =>
     have H := HA.out
     clear HA
     simp only [spec_PlayConf.l0] at H
     by_cases c36 : x8_2 < (l1.length : Int)
     rotate_left
     · rw [if_neg c36] at H
       have c36b0 : decide (x8_2 < (l1.length : Int)) = false := decide_eq_false c36
       clear c36
       simp only [Option.some.injEq, Prod.mk.injEq] at H
       obtain ⟨rfl, rfl, rfl, rfl⟩ := H
       have hnb134 := NB269_248.out
       have hnc134 := NB248_269.out
       have hnb135 := NB269_249.out
       have hnc135 := NB249_269.out
       obtain ⟨hcz136_0, hcz136_1, hcz136_2, hfz136_0, hfz136_1, hfz136_2⟩ := bc3f wr BK269.out
       obtain ⟨Ao137, co137, eo137⟩ := Kd.R_slice HO_270000.out
       subst eo137
       have hnb138 := NB249_248.out
       have hnc138 := NB248_249.out
       obtain ⟨hcz139_0, hcz139_1, hcz139_2, hfz139_0, hfz139_1, hfz139_2⟩ := bc3f wr BK249.out
       obtain ⟨Ao140, co140, eo140⟩ := Kd.R_slice HO_270001.out
       subst eo140
       obtain ⟨Ao141, co141, eo141⟩ := Kd.R_slice HO_270002.out
       subst eo141
       go_wp2
       refine bodyPost_ret (results_ct rfl _ _ gb249 26 #[.slice Ao137 x270000_2.length co137, .slice Ao140 x270001_2.length co140, .slice Ao141 x270002_2.length co141] (0, 0) _ rfl (by (with_reducible repeat (first | refine blk_drewN ?_ _ | refine blk_drew ?_ | refine blk_alloc ?_ _)); refine blk_put (cs := #[.slice Ao137 x270000_2.length co137, .slice Ao140 x270001_2.length co140, .slice none 0 0]) ?_ 2 _ rfl; (with_reducible repeat (first | refine blk_drewN ?_ _ | refine blk_drew ?_ | refine blk_alloc ?_ _)); refine blk_put (cs := #[.slice Ao137 x270000_2.length co137, .slice none 0 0, .slice none 0 0]) ?_ 1 _ rfl; (with_reducible repeat (first | refine blk_drewN ?_ _ | refine blk_drew ?_ | refine blk_alloc ?_ _)); refine blk_put (cs := #[.slice none 0 0, .slice none 0 0, .slice none 0 0]) ?_ 0 _ rfl; (with_reducible repeat (first | refine blk_drewN ?_ _ | refine blk_drew ?_ | refine blk_alloc ?_ _)); exact BK249.out) Try.underlying26 rfl kr) rfl ?_
       exact ⟨_, _, _, _, er, (by (with_reducible repeat (first | apply Kd.R_alloc | apply Kd.R_drewN | apply Kd.R_drew)); exact Kd.R_mono (Kd.R_far (p := ⟨gb249, 2, none⟩) (Kd.R_far (p := ⟨gb249, 1, none⟩) (Kd.R_far (p := ⟨gb249, 0, none⟩) (Kd.R_types HO_270000.out BK249.out (by decide)) (fun _ hk => hk.2) (.slice Ao137 x270000_2.length co137)) (fun _ hk => hk.2) (.slice Ao140 x270001_2.length co140)) (fun _ hk => hk.2) (.slice Ao141 x270002_2.length co141)) (fun _ hk => ⟨hk.1.1, hk.1.2⟩)), (by (with_reducible repeat (first | apply Kd.R_alloc | apply Kd.R_drewN | apply Kd.R_drew)); exact Kd.R_mono (Kd.R_far (p := ⟨gb249, 2, none⟩) (Kd.R_far (p := ⟨gb249, 1, none⟩) (Kd.R_far (p := ⟨gb249, 0, none⟩) (Kd.R_types HO_270001.out BK249.out (by decide)) (fun _ hk => hk.2) (.slice Ao137 x270000_2.length co137)) (fun _ hk => hk.2) (.slice Ao140 x270001_2.length co140)) (fun _ hk => hk.2) (.slice Ao141 x270002_2.length co141)) (fun _ hk => ⟨hk.1.1, hk.1.2⟩)), (by (with_reducible repeat (first | apply Kd.R_alloc | apply Kd.R_drewN | apply Kd.R_drew)); exact Kd.R_mono (Kd.R_far (p := ⟨gb249, 2, none⟩) (Kd.R_far (p := ⟨gb249, 1, none⟩) (Kd.R_far (p := ⟨gb249, 0, none⟩) (Kd.R_types HO_270002.out BK249.out (by decide)) (fun _ hk => hk.2) (.slice Ao137 x270000_2.length co137)) (fun _ hk => hk.2) (.slice Ao140 x270001_2.length co140)) (fun _ hk => hk.2) (.slice Ao141 x270002_2.length co141)) (fun _ hk => ⟨hk.1.1, hk.1.2⟩)), (by (with_reducible repeat (first | apply Kd.R_alloc | apply Kd.R_drewN | apply Kd.R_drew)); exact Kd.R_mono (Kd.R_far (p := ⟨gb249, 2, none⟩) (Kd.R_far (p := ⟨gb249, 1, none⟩) (Kd.R_far (p := ⟨gb249, 0, none⟩) (Kd.R_types HO_7.out BK249.out (by decide)) (fun _ hk => hk.2) (.slice Ao137 x270000_2.length co137)) (fun _ hk => hk.2) (.slice Ao140 x270001_2.length co140)) (fun _ hk => hk.2) (.slice Ao141 x270002_2.length co141)) (fun _ hk => trivial)), Q0⟩
     rw [if_pos c36] at H
     have c36b0 : decide (x8_2 < (l1.length : Int)) = true := decide_eq_true c36
     clear c36
     by_cases c37 : 0 ≤ x8_2
     rotate_left
     · rw [if_neg c37] at H
       exact absurd H (by simp)
     rw [if_pos c37] at H
     have c37b0 : decide (0 ≤ x8_2) = true := decide_eq_true c37
     clear c37
     have H9 := am H
     clear H
     have hnb38 := NB269_248.out
     have hnc38 := NB248_269.out
     have hnb39 := NB269_249.out
     have hnc39 := NB249_269.out
     obtain ⟨hcz40_0, hcz40_1, hcz40_2, hfz40_0, hfz40_1, hfz40_2⟩ := bc3f wr BK269.out
     go_upto_if 36 with (first | ((with_reducible refine gate_dst (N := 10) rfl ?_); (try (refine gate_guard (by rfl) ?_; dsimp only)); refine box_event ?hg (N := 10) ?hd (cs := #[.slice none 0 0, .slice none 0 0, .slice none 0 0]) (t := 26) ?hr ?_; (case hd => rfl); (case hg => rfl); (case hr => first | (go_simp; done) | (go_simp; rfl)); intro gb273 hg w41 hbox hb; replace HO_7 := am (Kd.R_below u6_37 hb); replace HO_270000 := am (Kd.R_below u6_14 hb); replace HO_270001 := am (Kd.R_below u6_15 hb); replace HO_270002 := am (Kd.R_below u6_16 hb); have BK273 := am (hbox); have GW273 := am ((by rw [hg]; exact (below_size Q0) : w.heap.size ≤ gb273)); have GE273 := am ((by rw [hg]; exact (below_size Q0) : w.heap.size ≤ gb273)); replace HB := am (below_step Q0 hb); have NB248_273 := am ((by rw [hg]; exact Nat.ne_of_lt (blk_lt (g := gb248) (o := .cells #[.slice A0_0 l0_0.length c0_0, .slice A0_1 l0_1.length c0_1, .slice A0_2 l0_2.length c0_2] 26 (0, 0)) u6_8) : gb248 ≠ gb273)); have NB273_248 := am ((by rw [hg]; exact Nat.ne_of_gt (blk_lt (g := gb248) (o := .cells #[.slice A0_0 l0_0.length c0_0, .slice A0_1 l0_1.length c0_1, .slice A0_2 l0_2.length c0_2] 26 (0, 0)) u6_8) : gb273 ≠ gb248)); replace BK248 := am (blk_below (g := gb248) (o := .cells #[.slice A0_0 l0_0.length c0_0, .slice A0_1 l0_1.length c0_1, .slice A0_2 l0_2.length c0_2] 26 (0, 0)) u6_8 hb); have NB249_273 := am ((by rw [hg]; exact Nat.ne_of_lt (blk_lt (g := gb249) (o := .cells #[.slice none 0 0, .slice none 0 0, .slice none 0 0] 26 (0, 0)) u6_9) : gb249 ≠ gb273)); have NB273_249 := am ((by rw [hg]; exact Nat.ne_of_gt (blk_lt (g := gb249) (o := .cells #[.slice none 0 0, .slice none 0 0, .slice none 0 0] 26 (0, 0)) u6_9) : gb273 ≠ gb249)); replace BK249 := am (blk_below (g := gb249) (o := .cells #[.slice none 0 0, .slice none 0 0, .slice none 0 0] 26 (0, 0)) u6_9 hb); have NB269_273 := am ((by rw [hg]; exact Nat.ne_of_lt (blk_lt (g := gb269) (o := .cells #[u270000, u270001, u270002] 26 (0, 0)) u6_27) : gb269 ≠ gb273)); have NB273_269 := am ((by rw [hg]; exact Nat.ne_of_gt (blk_lt (g := gb269) (o := .cells #[u270000, u270001, u270002] 26 (0, 0)) u6_27) : gb273 ≠ gb269)); replace BK269 := am (blk_below (g := gb269) (o := .cells #[u270000, u270001, u270002] 26 (0, 0)) u6_27 hb); clear hb hbox hg; obtain ⟨Ao42, co42, eo42⟩ := Kd.R_slice HO_270000.out; subst eo42; have hnb43 := NB273_248.out; have hnc43 := NB248_273.out; have hnb44 := NB273_249.out; have hnc44 := NB249_273.out; have hnb45 := NB273_269.out; have hnc45 := NB269_273.out; obtain ⟨hcz46_0, hcz46_1, hcz46_2, hfz46_0, hfz46_1, hfz46_2⟩ := bc3f w41 BK273.out; obtain ⟨Ao47, co47, eo47⟩ := Kd.R_slice HO_270001.out; subst eo47; obtain ⟨Ao48, co48, eo48⟩ := Kd.R_slice HO_270002.out; subst eo48; have p274 : 0 ≤ (x8_2 : Int) := of_decide_eq_true Q2; have q274 : x8_2 < (l1.length : Int) := of_decide_eq_true Q2; obtain ⟨ad274, A274_2, c274_2, e274, hx274_0, hx274_1, hx274_2, hl274_2, hi274_2⟩ := at_T77 HR1.out x8_2 p274 q274; cases e274; have hn274_0 : ad274.block ≠ gb273 := Nat.ne_of_lt (Nat.lt_of_lt_of_le u6_44 GW273.out); have hn274_1 : ad274.block ≠ gb273 := Nat.ne_of_lt (Nat.lt_of_lt_of_le u6_44 GW273.out); have hn274_2 : ad274.block ≠ gb273 := Nat.ne_of_lt (Nat.lt_of_lt_of_le u6_44 GW273.out); replace hx274_0 := cm HB.out hx274_0; replace hx274_1 := cm HB.out hx274_1; replace hx274_2 := cm HB.out hx274_2; have HR274_2 := am hi274_2; have HC274_2 := am hl274_2; clear hi274_2 hl274_2; replace hx274_0 := (cell_far (p := ⟨gb273, 0, none⟩) u6_40 (.slice Ao42 x270000_2.length co42)).trans hx274_0; replace hx274_1 := (cell_far (p := ⟨gb273, 0, none⟩) u6_40 (.slice Ao42 x270000_2.length co42)).trans hx274_1; replace hx274_2 := (cell_far (p := ⟨gb273, 0, none⟩) u6_40 (.slice Ao42 x270000_2.length co42)).trans hx274_2; replace hx274_0 := (cell_far (p := ⟨gb273, 1, none⟩) u6_41 (.slice Ao47 x270001_2.length co47)).trans hx274_0; replace hx274_1 := (cell_far (p := ⟨gb273, 1, none⟩) u6_41 (.slice Ao47 x270001_2.length co47)).trans hx274_1; replace hx274_2 := (cell_far (p := ⟨gb273, 1, none⟩) u6_41 (.slice Ao47 x270001_2.length co47)).trans hx274_2; replace hx274_0 := (cell_far (p := ⟨gb273, 2, none⟩) u6_42 (.slice Ao48 x270002_2.length co48)).trans hx274_0; replace hx274_1 := (cell_far (p := ⟨gb273, 2, none⟩) u6_42 (.slice Ao48 x270002_2.length co48)).trans hx274_1; replace hx274_2 := (cell_far (p := ⟨gb273, 2, none⟩) u6_42 (.slice Ao48 x270002_2.length co48)).trans hx274_2; clear hn274_0; clear hn274_1; clear hn274_2; replace p274 := eq_true p274; replace q274 := eq_true q274))
     have H := H9.out
     clear H9
     by_cases c49 : ((rd_T77 l1 x8_2).f0) = 0
     · rw [if_pos c49] at H
       have c49b0 : (((rd_T77 l1 x8_2).f0) == 0) = true := beq_iff_eq.mpr c49
       have c49b1 : (((rd_T77 l1 x8_2).f0) != 0) = false := bne_eq_false_iff_eq.mpr c49
       clear c49
       (first | rw [c49b0] | (simp only [i64_w, i32_w]; rw [c49b0]) | skip)
       replace H := Option.bind_eq_some_iff.mp H
       obtain ⟨⟨t276, t279, t282, t285⟩, A500, H⟩ := H
       (try dsimp only at H)
       have A50 := am A500
       clear A500
       by_cases c51 : x7_2.length < 140737488355328
       rotate_left
       · rw [if_neg c51] at H
         exact absurd H (by simp)
       rw [if_pos c51] at H
       have LMc51 := am c51
       clear c51
       obtain ⟨y286, hy286⟩ : ∃ y_ : List Bool, y_ = (x7_2 ++ [t285]) := ⟨_, rfl⟩
       replace H : (spec_PlayConf.l0 k2 l1 y286 (wrap64 (x8_2 + 1)) t276 t279 t282) = some (r1, r2, r3, r4) := by first | (rw [hy286]; with_reducible exact H) | (have H2_ := (Option.bind_some _ _).symm.trans H; rw [hy286]; with_reducible exact H2_) | (have H2_ := (Option.bind_some _ _).symm.trans H; with_reducible exact H2_) | with_reducible exact H | (rw [hy286]; exact H) | exact H
       have Ny286 := am hy286
       clear hy286
       have H' := am H
       clear H
       try go_wp2
       have n0_ : Aside0 (Kd.R Kd.bool 4 (((w41.setCell ⟨gb273, 0, none⟩ (.slice Ao42 x270000_2.length co42)).setCell ⟨gb273, 1, none⟩ (.slice Ao47 x270001_2.length co47)).setCell ⟨gb273, 2, none⟩ (.slice Ao48 x270002_2.length co48)) w.heap.size (fun _ => True) u7 x7_2) := ⟨by (with_reducible repeat (first | apply Kd.R_alloc | apply Kd.R_drewN | apply Kd.R_drew)); exact Kd.R_mono (Kd.R_far (p := ⟨gb273, 2, none⟩) (Kd.R_far (p := ⟨gb273, 1, none⟩) (Kd.R_far (p := ⟨gb273, 0, none⟩) (Kd.R_types HO_7.out BK273.out (by decide)) (fun _ hk => hk.2) (.slice Ao42 x270000_2.length co42)) (fun _ hk => hk.2) (.slice Ao47 x270001_2.length co47)) (fun _ hk => hk.2) (.slice Ao48 x270002_2.length co48)) (fun _ hk => trivial)⟩
       have n1_ : Aside0 (Kd.R (Kd.int .i64) 3 (((w41.setCell ⟨gb273, 0, none⟩ (.slice Ao42 x270000_2.length co42)).setCell ⟨gb273, 1, none⟩ (.slice Ao47 x270001_2.length co47)).setCell ⟨gb273, 2, none⟩ (.slice Ao48 x270002_2.length co48)) w.heap.size (fun k_ => some k_ ≠ (.slice Ao47 x270001_2.length co47 : Value).ownBlock ∧ some k_ ≠ (.slice Ao48 x270002_2.length co48 : Value).ownBlock) (.slice Ao42 x270000_2.length co42) x270000_2) := ⟨by (with_reducible repeat (first | apply Kd.R_alloc | apply Kd.R_drewN | apply Kd.R_drew)); exact Kd.R_mono (Kd.R_far (p := ⟨gb273, 2, none⟩) (Kd.R_far (p := ⟨gb273, 1, none⟩) (Kd.R_far (p := ⟨gb273, 0, none⟩) (Kd.R_types HO_270000.out BK273.out (by decide)) (fun _ hk => hk.2) (.slice Ao42 x270000_2.length co42)) (fun _ hk => hk.2) (.slice Ao47 x270001_2.length co47)) (fun _ hk => hk.2) (.slice Ao48 x270002_2.length co48)) (fun _ hk => ⟨hk.1.1, hk.1.2⟩)⟩
       have n2_ : Aside0 (Kd.R (Kd.int .i64) 3 (((w41.setCell ⟨gb273, 0, none⟩ (.slice Ao42 x270000_2.length co42)).setCell ⟨gb273, 1, none⟩ (.slice Ao47 x270001_2.length co47)).setCell ⟨gb273, 2, none⟩ (.slice Ao48 x270002_2.length co48)) w.heap.size (fun k_ => some k_ ≠ (.slice Ao42 x270000_2.length co42 : Value).ownBlock ∧ some k_ ≠ (.slice Ao48 x270002_2.length co48 : Value).ownBlock) (.slice Ao47 x270001_2.length co47) x270001_2) := ⟨by (with_reducible repeat (first | apply Kd.R_alloc | apply Kd.R_drewN | apply Kd.R_drew)); exact Kd.R_mono (Kd.R_far (p := ⟨gb273, 2, none⟩) (Kd.R_far (p := ⟨gb273, 1, none⟩) (Kd.R_far (p := ⟨gb273, 0, none⟩) (Kd.R_types HO_270001.out BK273.out (by decide)) (fun _ hk => hk.2) (.slice Ao42 x270000_2.length co42)) (fun _ hk => hk.2) (.slice Ao47 x270001_2.length co47)) (fun _ hk => hk.2) (.slice Ao48 x270002_2.length co48)) (fun _ hk => ⟨hk.1.1, hk.1.2⟩)⟩
       have n3_ : Aside0 (Kd.R (Kd.int .i64) 3 (((w41.setCell ⟨gb273, 0, none⟩ (.slice Ao42 x270000_2.length co42)).setCell ⟨gb273, 1, none⟩ (.slice Ao47 x270001_2.length co47)).setCell ⟨gb273, 2, none⟩ (.slice Ao48 x270002_2.length co48)) w.heap.size (fun k_ => some k_ ≠ (.slice Ao42 x270000_2.length co42 : Value).ownBlock ∧ some k_ ≠ (.slice Ao47 x270001_2.length co47 : Value).ownBlock) (.slice Ao48 x270002_2.length co48) x270002_2) := ⟨by (with_reducible repeat (first | apply Kd.R_alloc | apply Kd.R_drewN | apply Kd.R_drew)); exact Kd.R_mono (Kd.R_far (p := ⟨gb273, 2, none⟩) (Kd.R_far (p := ⟨gb273, 1, none⟩) (Kd.R_far (p := ⟨gb273, 0, none⟩) (Kd.R_types HO_270002.out BK273.out (by decide)) (fun _ hk => hk.2) (.slice Ao42 x270000_2.length co42)) (fun _ hk => hk.2) (.slice Ao47 x270001_2.length co47)) (fun _ hk => hk.2) (.slice Ao48 x270002_2.length co48)) (fun _ hk => ⟨hk.1.1, hk.1.2⟩)⟩
       have n4_ : Aside0 ((((w41.setCell ⟨gb273, 0, none⟩ (.slice Ao42 x270000_2.length co42)).setCell ⟨gb273, 1, none⟩ (.slice Ao47 x270001_2.length co47)).setCell ⟨gb273, 2, none⟩ (.slice Ao48 x270002_2.length co48)).heap[gb248]? = some (.cells #[.slice A0_0 l0_0.length c0_0, .slice A0_1 l0_1.length c0_1, .slice A0_2 l0_2.length c0_2] 26 (0, 0))) := ⟨by (with_reducible repeat (first | refine blk_drewN ?_ _ | refine blk_drew ?_ | refine blk_alloc ?_ _)); refine blk_far ?_ NB248_273.out _; (with_reducible repeat (first | refine blk_drewN ?_ _ | refine blk_drew ?_ | refine blk_alloc ?_ _)); refine blk_far ?_ NB248_273.out _; (with_reducible repeat (first | refine blk_drewN ?_ _ | refine blk_drew ?_ | refine blk_alloc ?_ _)); refine blk_far ?_ NB248_273.out _; (with_reducible repeat (first | refine blk_drewN ?_ _ | refine blk_drew ?_ | refine blk_alloc ?_ _)); exact BK248.out⟩
       have n5_ : Aside0 ((((w41.setCell ⟨gb273, 0, none⟩ (.slice Ao42 x270000_2.length co42)).setCell ⟨gb273, 1, none⟩ (.slice Ao47 x270001_2.length co47)).setCell ⟨gb273, 2, none⟩ (.slice Ao48 x270002_2.length co48)).heap[gb249]? = some (.cells #[.slice none 0 0, .slice none 0 0, .slice none 0 0] 26 (0, 0))) := ⟨by (with_reducible repeat (first | refine blk_drewN ?_ _ | refine blk_drew ?_ | refine blk_alloc ?_ _)); refine blk_far ?_ NB249_273.out _; (with_reducible repeat (first | refine blk_drewN ?_ _ | refine blk_drew ?_ | refine blk_alloc ?_ _)); refine blk_far ?_ NB249_273.out _; (with_reducible repeat (first | refine blk_drewN ?_ _ | refine blk_drew ?_ | refine blk_alloc ?_ _)); refine blk_far ?_ NB249_273.out _; (with_reducible repeat (first | refine blk_drewN ?_ _ | refine blk_drew ?_ | refine blk_alloc ?_ _)); exact BK249.out⟩
       have n6_ : Aside0 ((((w41.setCell ⟨gb273, 0, none⟩ (.slice Ao42 x270000_2.length co42)).setCell ⟨gb273, 1, none⟩ (.slice Ao47 x270001_2.length co47)).setCell ⟨gb273, 2, none⟩ (.slice Ao48 x270002_2.length co48)).heap[gb269]? = some (.cells #[.slice Ao42 x270000_2.length co42, .slice Ao47 x270001_2.length co47, .slice Ao48 x270002_2.length co48] 26 (0, 0))) := ⟨by (with_reducible repeat (first | refine blk_drewN ?_ _ | refine blk_drew ?_ | refine blk_alloc ?_ _)); refine blk_far ?_ NB269_273.out _; (with_reducible repeat (first | refine blk_drewN ?_ _ | refine blk_drew ?_ | refine blk_alloc ?_ _)); refine blk_far ?_ NB269_273.out _; (with_reducible repeat (first | refine blk_drewN ?_ _ | refine blk_drew ?_ | refine blk_alloc ?_ _)); refine blk_far ?_ NB269_273.out _; (with_reducible repeat (first | refine blk_drewN ?_ _ | refine blk_drew ?_ | refine blk_alloc ?_ _)); exact BK269.out⟩
       have n7_ : Aside0 ((((w41.setCell ⟨gb273, 0, none⟩ (.slice Ao42 x270000_2.length co42)).setCell ⟨gb273, 1, none⟩ (.slice Ao47 x270001_2.length co47)).setCell ⟨gb273, 2, none⟩ (.slice Ao48 x270002_2.length co48)).heap[gb273]? = some (.cells #[.slice Ao42 x270000_2.length co42, .slice Ao47 x270001_2.length co47, .slice Ao48 x270002_2.length co48] 26 (0, 0))) := ⟨by (with_reducible repeat (first | refine blk_drewN ?_ _ | refine blk_drew ?_ | refine blk_alloc ?_ _)); refine blk_put (cs := #[.slice Ao42 x270000_2.length co42, .slice Ao47 x270001_2.length co47, .slice none 0 0]) ?_ 2 _ rfl; (with_reducible repeat (first | refine blk_drewN ?_ _ | refine blk_drew ?_ | refine blk_alloc ?_ _)); refine blk_put (cs := #[.slice Ao42 x270000_2.length co42, .slice none 0 0, .slice none 0 0]) ?_ 1 _ rfl; (with_reducible repeat (first | refine blk_drewN ?_ _ | refine blk_drew ?_ | refine blk_alloc ?_ _)); refine blk_put (cs := #[.slice none 0 0, .slice none 0 0, .slice none 0 0]) ?_ 0 _ rfl; (with_reducible repeat (first | refine blk_drewN ?_ _ | refine blk_drew ?_ | refine blk_alloc ?_ _)); exact BK273.out⟩
       have n8_ : Aside0 (Below w.heap.size w (((w41.setCell ⟨gb273, 0, none⟩ (.slice Ao42 x270000_2.length co42)).setCell ⟨gb273, 1, none⟩ (.slice Ao47 x270001_2.length co47)).setCell ⟨gb273, 2, none⟩ (.slice Ao48 x270002_2.length co48))) := ⟨by repeat (first | (with_reducible first | exact HB.out | apply below_alloc | apply pw_below_drewN | apply below_drew1 | refine below_set ?_ GE248.out | refine below_set ?_ GE249.out | refine below_set ?_ GE269.out | refine below_set ?_ GE273.out) | exact HB.out)⟩
       (try clear HO_7)
       (try clear HO_270000)
       (try clear HO_270001)
       (try clear HO_270002)
       (try clear BK248)
       (try clear BK249)
       (try clear BK269)
       (try clear BK273)
       (try clear HB)
       generalize (((w41.setCell ⟨gb273, 0, none⟩ (.slice Ao42 x270000_2.length co42)).setCell ⟨gb273, 1, none⟩ (.slice Ao47 x270001_2.length co47)).setCell ⟨gb273, 2, none⟩ (.slice Ao48 x270002_2.length co48)) = w52 at n0_ n1_ n2_ n3_ n4_ n5_ n6_ n7_ n8_ ⊢
       have HO_7 := n0_
       have HO_270000 := n1_
       have HO_270001 := n2_
       have HO_270002 := n3_
       have BK248 := n4_
       have BK249 := n5_
       have BK269 := n6_
       have BK273 := n7_
       have HB := n8_
       clear n0_ n1_ n2_ n3_ n4_ n5_ n6_ n7_ n8_
       replace HO_7 := am (Kd.R_drew HO_7.out)
       replace HO_270000 := am (Kd.R_drew HO_270000.out)
       replace HO_270001 := am (Kd.R_drew HO_270001.out)
       replace HO_270002 := am (Kd.R_drew HO_270002.out)
       replace BK248 := am (blk_drew BK248.out)
       replace BK249 := am (blk_drew BK249.out)
       replace BK269 := am (blk_drew BK269.out)
       replace BK273 := am (blk_drew BK273.out)
       replace HB := am (below_drew1 HB.out)
       have p275 : 0 ≤ (x8_2 : Int) := of_decide_eq_true Q2
       have q275 : x8_2 < (l1.length : Int) := of_decide_eq_true Q2
       obtain ⟨ad275, A275_2, c275_2, e275, hx275_0, hx275_1, hx275_2, hl275_2, hi275_2⟩ := at_T77 HR1.out x8_2 p275 q275
       have hw275_2 := hx275_2
       have hw275_1 := hx275_1
       have hw275_0 := hx275_0
       obtain rfl : ad274 = ad275 := (by injection e275)
       replace hx275_0 := cm HB.out hx275_0
       replace hx275_1 := cm HB.out hx275_1
       replace hx275_2 := cm HB.out hx275_2
       have HR275_2 := am hi275_2
       have HC275_2 := am hl275_2
       clear hi275_2 hl275_2
       replace p275 := eq_true p275
       replace q275 := eq_true q275
       refine start_ (n := 12) (S := fun w' => w'.cell? ⟨gb269, 0, none⟩ = some (.slice Ao42 x270000_2.length co42) ∧ w'.cell? ⟨gb269, 1, none⟩ = some (.slice Ao47 x270001_2.length co47) ∧ w'.cell? ⟨gb269, 2, none⟩ = some (.slice Ao48 x270002_2.length co48) ∧ w'.cell? (ad274.add ((x8_2).toNat * 3)) = some (.int .i64 ((rd_T77 l1 x8_2).f0)) ∧ w'.cell? ⟨(ad274.add ((x8_2).toNat * 3)).block, (ad274.add ((x8_2).toNat * 3)).off + 1, none⟩ = some (.int .i64 ((rd_T77 l1 x8_2).f1)) ∧ w'.cell? ⟨(ad274.add ((x8_2).toNat * 3)).block, (ad274.add ((x8_2).toNat * 3)).off + 2, none⟩ = some (.slice A275_2 ((rd_T77 l1 x8_2).f2).length c275_2)) (ds := []) b0_12 kr rfl rfl ⟨(blk_cell BK269.out 0).trans rfl, (blk_cell BK269.out 1).trans rfl, (blk_cell BK269.out 2).trans rfl, (cm HB.out hw275_0), (cm HB.out hw275_1), (cm HB.out hw275_2)⟩ (fun hHeld => ?_); refine with_tabW spec_PlayConf.tab12 spec_PlayConf.bits12 (fun HT_ HW_ => ?_)
       generalize w52.drew = w53 at HO_7 HO_270000 HO_270001 HO_270002 BK248 BK249 BK269 BK273 HB HR275_2 hx275_0 hx275_1 hx275_2 hHeld ⊢
       refine pV 1 40 bx6 ?_
       refine pV 2 41 bx7 ?_
       refine pV 3 42 bx8 ?_
       refine pV 4 43 bx9 ?_
       refine tV 0 39 (bt 5 12) ?_
       refine tV 5 44 (bt 6 12) ?_
       refine one_ (i := 6) (N := some 45) b7_12 rfl rfl (one_of HT_.out kr) (by decide) (fun K hK => ?_)
       refine goes_ Try.func60 kr rfl #[.agg #[.slice Ao42 x270000_2.length co42, .slice Ao47 x270001_2.length co47, .slice Ao48 x270002_2.length co48], .slice A275_2 ((rd_T77 l1 x8_2).f2).length c275_2] (by rfl) rfl rfl Q3 ?_
       with_reducible refine (spec_Begin.calls k2 _ _ x270000_2 _ _ x270001_2 _ _ x270002_2 _ _ ((rd_T77 l1 x8_2).f2) t276 t279 t282 t285 _ ?side1 ?side2 ?side3 ?side4 ?side5 ?side6 ?side7 ?side8 A50.out).mono ?_
       (case side1 => exact u6_32)
       (case side2 => exact (Kd.R_reads' HO_270000.out).2.1)
       (case side3 => exact u6_33)
       (case side4 => exact (Kd.R_reads' HO_270001.out).2.1)
       (case side5 => exact u6_34)
       (case side6 => exact (Kd.R_reads' HO_270002.out).2.1)
       (case side7 => exact (by repeat (first | exact (Kd.C_below HR275_2.out HB.out) | (with_reducible refine Kd.C_alloc ?_ _) | (with_reducible refine Kd.C_drewN ?_ _) | (with_reducible refine Kd.C_drew ?_))))
       (case side8 => exact HC275_2.out)
       rintro e w54 ⟨v277, v280, v283, rfl, ho0, ho1, ho2, hb⟩
       refine ⟨_, rfl, ?_⟩
       replace HO_7 := am (Kd.R_below u6_37 hb)
       have HO278 := am (Kd.R_lower (Kd.R_new' (Kd.R_new' (Kd.R_new' ho0 (Kd.R_lt u6_14)) (Kd.R_lt u6_15)) (Kd.R_lt u6_16)) (below_size Q0))
       have HO281 := am (Kd.R_lower (Kd.R_new' (Kd.R_new' (Kd.R_new' ho1 (Kd.R_lt u6_14)) (Kd.R_lt u6_15)) (Kd.R_lt u6_16)) (below_size Q0))
       have HO284 := am (Kd.R_lower (Kd.R_new' (Kd.R_new' (Kd.R_new' ho2 (Kd.R_lt u6_14)) (Kd.R_lt u6_15)) (Kd.R_lt u6_16)) (below_size Q0))
       replace HO_270000 := am (Kd.R_mono (Kd.R_told (Kd.R_told (Kd.R_told (Kd.R_old u6_14 hb) (Kd.R_base ho0)) (Kd.R_base ho1)) (Kd.R_base ho2)) (fun _ h_ => h_.1))
       replace HO_270001 := am (Kd.R_mono (Kd.R_told (Kd.R_told (Kd.R_told (Kd.R_old u6_15 hb) (Kd.R_base ho0)) (Kd.R_base ho1)) (Kd.R_base ho2)) (fun _ h_ => h_.1))
       replace HO_270002 := am (Kd.R_mono (Kd.R_told (Kd.R_told (Kd.R_told (Kd.R_old u6_16 hb) (Kd.R_base ho0)) (Kd.R_base ho1)) (Kd.R_base ho2)) (fun _ h_ => h_.1))
       replace BK248 := am (blk_below (g := gb248) (o := .cells #[.slice A0_0 l0_0.length c0_0, .slice A0_1 l0_1.length c0_1, .slice A0_2 l0_2.length c0_2] 26 (0, 0)) u6_8 hb)
       replace BK249 := am (blk_below (g := gb249) (o := .cells #[.slice none 0 0, .slice none 0 0, .slice none 0 0] 26 (0, 0)) u6_9 hb)
       replace BK269 := am (blk_below (g := gb269) (o := .cells #[.slice Ao42 x270000_2.length co42, .slice Ao47 x270001_2.length co47, .slice Ao48 x270002_2.length co48] 26 (0, 0)) u6_27 hb)
       replace BK273 := am (blk_below (g := gb273) (o := .cells #[.slice Ao42 x270000_2.length co42, .slice Ao47 x270001_2.length co47, .slice Ao48 x270002_2.length co48] 26 (0, 0)) u6_43 hb)
       replace HB := am (below_step Q0 hb)
       (try clear hb)
       (try clear hb2)
       (try clear hk)
       (try clear hi)
       (try clear ho0)
       (try clear ho1)
       (try clear ho2)
       obtain ⟨Ao55, co55, eo55⟩ := Kd.R_slice HO278.out
       (first | subst eo55 | (injection eo55 with f1_ f2_ f3_; have f4_ := f1_.symm; have f5_ := f3_.symm; clear f1_ f2_ f3_; subst f4_; subst f5_))
       obtain ⟨Ao57, co57, eo57⟩ := Kd.R_slice HO281.out
       (first | subst eo57 | (injection eo57 with f1_ f2_ f3_; have f4_ := f1_.symm; have f5_ := f3_.symm; clear f1_ f2_ f3_; subst f4_; subst f5_))
       obtain ⟨Ao59, co59, eo59⟩ := Kd.R_slice HO284.out
       (first | subst eo59 | (injection eo59 with f1_ f2_ f3_; have f4_ := f1_.symm; have f5_ := f3_.symm; clear f1_ f2_ f3_; subst f4_; subst f5_))
       refine hK.out _ _ ⟨(blk_cell BK269.out 0).trans rfl, (blk_cell BK269.out 1).trans rfl, (blk_cell BK269.out 2).trans rfl, (cm HB.out hw275_0), (cm HB.out hw275_1), (cm HB.out hw275_2)⟩ (fun hHeld => ?_)
       clear hK K
       refine norm_ (a' := ?_) ?_ ?_
       rotate_left
       · show Act.put _ (some 45) _ = _
         simp only [Act.put, la, lb, lc, i64_w, i32_w]
         rfl
       refine pV 7 38 (bt 8 12) ?_
       refine pV 8 46 (bt 9 12) ?_
       refine pV 9 47 (bt 10 12) ?_
       refine one_ (i := 10) (N := none) b11_12 rfl rfl (one_of HT_.out kr) (by decide) (fun K hK => ?_)
       have hs56 : w54.cell? ⟨gb273, 0, none⟩ = some (.slice Ao42 x270000_2.length co42) := (blk_cell BK273.out 0).trans rfl
       have hfs56 := blk_frozen BK273.out 0
       have hns56_0 := NB248_273.out
       have hns56_1 := NB249_273.out
       have hns56_2 := NB269_273.out
       have hms56_0 := NB273_248.out
       have hms56_1 := NB273_249.out
       have hms56_2 := NB273_269.out
       have hs58 : w54.cell? ⟨gb273, 1, none⟩ = some (.slice Ao47 x270001_2.length co47) := (blk_cell BK273.out 1).trans rfl
       have hfs58 := blk_frozen BK273.out 1
       have hns58_0 := NB248_273.out
       have hns58_1 := NB249_273.out
       have hns58_2 := NB269_273.out
       have hms58_0 := NB273_248.out
       have hms58_1 := NB273_249.out
       have hms58_2 := NB273_269.out
       have hs60 : w54.cell? ⟨gb273, 2, none⟩ = some (.slice Ao48 x270002_2.length co48) := (blk_cell BK273.out 2).trans rfl
       have hfs60 := blk_frozen BK273.out 2
       have hns60_0 := NB248_273.out
       have hns60_1 := NB249_273.out
       have hns60_2 := NB269_273.out
       have hms60_0 := NB273_248.out
       have hms60_1 := NB273_249.out
       have hms60_2 := NB273_269.out
       refine skip_ (w1 := ?_) (by rfl) rfl ?_ ?_
       rotate_left
       · go_simp
         rfl
       refine hK.out _ _ ⟨((cell_far (p := ⟨gb273, _, none⟩) NB269_273.out _).trans (((cell_far (p := ⟨gb273, _, none⟩) NB269_273.out _).trans (((cell_far (p := ⟨gb273, _, none⟩) NB269_273.out _).trans (hHeld.1)))))), ((cell_far (p := ⟨gb273, _, none⟩) NB269_273.out _).trans (((cell_far (p := ⟨gb273, _, none⟩) NB269_273.out _).trans (((cell_far (p := ⟨gb273, _, none⟩) NB269_273.out _).trans (hHeld.2.1)))))), ((cell_far (p := ⟨gb273, _, none⟩) NB269_273.out _).trans (((cell_far (p := ⟨gb273, _, none⟩) NB269_273.out _).trans (((cell_far (p := ⟨gb273, _, none⟩) NB269_273.out _).trans (hHeld.2.2.1)))))), ((cell_far (p := ⟨gb273, _, none⟩) u6_18 _).trans (((cell_far (p := ⟨gb273, _, none⟩) u6_18 _).trans (((cell_far (p := ⟨gb273, _, none⟩) u6_18 _).trans (hHeld.2.2.2.1)))))), ((cell_far (p := ⟨gb273, _, none⟩) u6_19 _).trans (((cell_far (p := ⟨gb273, _, none⟩) u6_19 _).trans (((cell_far (p := ⟨gb273, _, none⟩) u6_19 _).trans (hHeld.2.2.2.2.1)))))), ((cell_far (p := ⟨gb273, _, none⟩) u6_20 _).trans (((cell_far (p := ⟨gb273, _, none⟩) u6_20 _).trans (((cell_far (p := ⟨gb273, _, none⟩) u6_20 _).trans (hHeld.2.2.2.2.2))))))⟩ (fun hHeld => ?_)
       clear hK K
       refine pV 11 9 (bt 12 12) ?_
       refine done_ (done_of HT_.out kr) ?_
       have hnb61 := NB273_248.out
       have hnc61 := NB248_273.out
       have hnb62 := NB273_249.out
       have hnc62 := NB249_273.out
       have hnb63 := NB273_269.out
       have hnc63 := NB269_273.out
       obtain ⟨hcz64_0, hcz64_1, hcz64_2, hfz64_0, hfz64_1, hfz64_2⟩ := bc3f w54 BK273.out
       have hnb65 := NB269_248.out
       have hnc65 := NB248_269.out
       have hnb66 := NB269_249.out
       have hnc66 := NB249_269.out
       obtain ⟨hcz67_0, hcz67_1, hcz67_2, hfz67_0, hfz67_1, hfz67_2⟩ := bc3f w54 BK269.out
       try go_wp2_with (first | ((with_reducible refine gate_builtin (b := .append) (xs := #[.tmp 80, .tmp 82]) rfl ?_); (try (refine gate_guard (by rfl) ?_; dsimp only)); at_builtin; refine Kd.R_append Kd.bool (w0 := w) w.heap.size rfl (.tmp 80) (.tmp 82) 48 4 (.bool false) 1 rfl Try.underlying48 info4 rfl (by decide) (by omega) u7 x7_2 t285 [.bool t285] (fun _ => True) (fun _ => False) rfl u6_45 ?aP (fun _ hk => hk.elim) ?aF ?aO ?aB ?aS ?aL ?_; (case aP => exact rfl); (case aB => exact Q0); (case aF => exact (fun _ _ => trivial)); (case aO => exact (by (with_reducible repeat (first | apply Kd.R_alloc | apply Kd.R_drewN | apply Kd.R_drew)); exact Kd.R_mono (Kd.R_far (p := ⟨gb269, 2, none⟩) (Kd.R_far (p := ⟨gb269, 1, none⟩) (Kd.R_far (p := ⟨gb269, 0, none⟩) (Kd.R_far (p := ⟨gb273, 2, none⟩) (Kd.R_far (p := ⟨gb273, 1, none⟩) (Kd.R_far (p := ⟨gb273, 0, none⟩) (Kd.R_types (Kd.R_types HO_7.out BK273.out (by decide)) BK269.out (by decide)) (fun _ hk => hk.1.2) (.slice Ao55 t276.length co55)) (fun _ hk => hk.1.2) (.slice Ao57 t279.length co57)) (fun _ hk => hk.1.2) (.slice Ao59 t282.length co59)) (fun _ hk => hk.2) (.slice Ao55 t276.length co55)) (fun _ hk => hk.2) (.slice Ao57 t279.length co57)) (fun _ hk => hk.2) (.slice Ao59 t282.length co59)) (fun _ hk => trivial))); (case aS => exact (below_size Q0)); (case aL => have := LMc51.out; omega); intro v287 w68 ho hb hg hat; rw [← Ny286.out] at ho; replace HO_270000 := am (Kd.R_over' (by (with_reducible repeat (first | apply Kd.R_alloc | apply Kd.R_drewN | apply Kd.R_drew)); exact (Kd.R_mono (Kd.R_mono (Kd.R_far (p := ⟨gb269, 2, none⟩) (Kd.R_far (p := ⟨gb269, 1, none⟩) (Kd.R_far (p := ⟨gb269, 0, none⟩) (Kd.R_far (p := ⟨gb273, 2, none⟩) (Kd.R_far (p := ⟨gb273, 1, none⟩) (Kd.R_far (p := ⟨gb273, 0, none⟩) (Kd.R_types (Kd.R_types HO_270000.out BK273.out (by decide)) BK269.out (by decide)) (fun _ hk => hk.1.2) (.slice Ao55 t276.length co55)) (fun _ hk => hk.1.2) (.slice Ao57 t279.length co57)) (fun _ hk => hk.1.2) (.slice Ao59 t282.length co59)) (fun _ hk => hk.2) (.slice Ao55 t276.length co55)) (fun _ hk => hk.2) (.slice Ao57 t279.length co57)) (fun _ hk => hk.2) (.slice Ao59 t282.length co59)) (fun _ h_ => h_.1)) (fun _ h_ => h_.1))) (Kd.R_typed u6_4) (by decide) hg); replace HO_270001 := am (Kd.R_over' (by (with_reducible repeat (first | apply Kd.R_alloc | apply Kd.R_drewN | apply Kd.R_drew)); exact (Kd.R_mono (Kd.R_mono (Kd.R_far (p := ⟨gb269, 2, none⟩) (Kd.R_far (p := ⟨gb269, 1, none⟩) (Kd.R_far (p := ⟨gb269, 0, none⟩) (Kd.R_far (p := ⟨gb273, 2, none⟩) (Kd.R_far (p := ⟨gb273, 1, none⟩) (Kd.R_far (p := ⟨gb273, 0, none⟩) (Kd.R_types (Kd.R_types HO_270001.out BK273.out (by decide)) BK269.out (by decide)) (fun _ hk => hk.1.2) (.slice Ao55 t276.length co55)) (fun _ hk => hk.1.2) (.slice Ao57 t279.length co57)) (fun _ hk => hk.1.2) (.slice Ao59 t282.length co59)) (fun _ hk => hk.2) (.slice Ao55 t276.length co55)) (fun _ hk => hk.2) (.slice Ao57 t279.length co57)) (fun _ hk => hk.2) (.slice Ao59 t282.length co59)) (fun _ h_ => h_.1)) (fun _ h_ => h_.1))) (Kd.R_typed u6_4) (by decide) hg); replace HO_270002 := am (Kd.R_over' (by (with_reducible repeat (first | apply Kd.R_alloc | apply Kd.R_drewN | apply Kd.R_drew)); exact (Kd.R_mono (Kd.R_mono (Kd.R_far (p := ⟨gb269, 2, none⟩) (Kd.R_far (p := ⟨gb269, 1, none⟩) (Kd.R_far (p := ⟨gb269, 0, none⟩) (Kd.R_far (p := ⟨gb273, 2, none⟩) (Kd.R_far (p := ⟨gb273, 1, none⟩) (Kd.R_far (p := ⟨gb273, 0, none⟩) (Kd.R_types (Kd.R_types HO_270002.out BK273.out (by decide)) BK269.out (by decide)) (fun _ hk => hk.1.2) (.slice Ao55 t276.length co55)) (fun _ hk => hk.1.2) (.slice Ao57 t279.length co57)) (fun _ hk => hk.1.2) (.slice Ao59 t282.length co59)) (fun _ hk => hk.2) (.slice Ao55 t276.length co55)) (fun _ hk => hk.2) (.slice Ao57 t279.length co57)) (fun _ hk => hk.2) (.slice Ao59 t282.length co59)) (fun _ h_ => h_.1)) (fun _ h_ => h_.1))) (Kd.R_typed u6_4) (by decide) hg); replace BK248 := am (blk_grown (g := gb248) (o := .cells #[.slice A0_0 l0_0.length c0_0, .slice A0_1 l0_1.length c0_1, .slice A0_2 l0_2.length c0_2] 26 (0, 0)) u6_2 hg (Kd.R_ne HO_7.out BK248.out (by decide))); replace BK249 := am (blk_grown (g := gb249) (o := .cells #[.slice none 0 0, .slice none 0 0, .slice none 0 0] 26 (0, 0)) u6_3 hg (Kd.R_ne HO_7.out BK249.out (by decide))); replace HO278 := am (Kd.R_over' (by (with_reducible repeat (first | apply Kd.R_alloc | apply Kd.R_drewN | apply Kd.R_drew)); exact (Kd.R_mono (Kd.R_mono (Kd.R_far (p := ⟨gb269, 2, none⟩) (Kd.R_far (p := ⟨gb269, 1, none⟩) (Kd.R_far (p := ⟨gb269, 0, none⟩) (Kd.R_far (p := ⟨gb273, 2, none⟩) (Kd.R_far (p := ⟨gb273, 1, none⟩) (Kd.R_far (p := ⟨gb273, 0, none⟩) (Kd.R_types (Kd.R_types HO278.out BK273.out (by decide)) BK269.out (by decide)) (fun _ hk => hk.1.2) (.slice Ao55 t276.length co55)) (fun _ hk => hk.1.2) (.slice Ao57 t279.length co57)) (fun _ hk => hk.1.2) (.slice Ao59 t282.length co59)) (fun _ hk => hk.2) (.slice Ao55 t276.length co55)) (fun _ hk => hk.2) (.slice Ao57 t279.length co57)) (fun _ hk => hk.2) (.slice Ao59 t282.length co59)) (fun _ h_ => h_.1)) (fun _ h_ => h_.1))) (Kd.R_typed u6_4) (by decide) hg); replace HO281 := am (Kd.R_over' (by (with_reducible repeat (first | apply Kd.R_alloc | apply Kd.R_drewN | apply Kd.R_drew)); exact (Kd.R_mono (Kd.R_mono (Kd.R_far (p := ⟨gb269, 2, none⟩) (Kd.R_far (p := ⟨gb269, 1, none⟩) (Kd.R_far (p := ⟨gb269, 0, none⟩) (Kd.R_far (p := ⟨gb273, 2, none⟩) (Kd.R_far (p := ⟨gb273, 1, none⟩) (Kd.R_far (p := ⟨gb273, 0, none⟩) (Kd.R_types (Kd.R_types HO281.out BK273.out (by decide)) BK269.out (by decide)) (fun _ hk => hk.1.2) (.slice Ao55 t276.length co55)) (fun _ hk => hk.1.2) (.slice Ao57 t279.length co57)) (fun _ hk => hk.1.2) (.slice Ao59 t282.length co59)) (fun _ hk => hk.2) (.slice Ao55 t276.length co55)) (fun _ hk => hk.2) (.slice Ao57 t279.length co57)) (fun _ hk => hk.2) (.slice Ao59 t282.length co59)) (fun _ h_ => h_.1)) (fun _ h_ => h_.1))) (Kd.R_typed u6_4) (by decide) hg); replace HO284 := am (Kd.R_over' (by (with_reducible repeat (first | apply Kd.R_alloc | apply Kd.R_drewN | apply Kd.R_drew)); exact (Kd.R_mono (Kd.R_mono (Kd.R_far (p := ⟨gb269, 2, none⟩) (Kd.R_far (p := ⟨gb269, 1, none⟩) (Kd.R_far (p := ⟨gb269, 0, none⟩) (Kd.R_far (p := ⟨gb273, 2, none⟩) (Kd.R_far (p := ⟨gb273, 1, none⟩) (Kd.R_far (p := ⟨gb273, 0, none⟩) (Kd.R_types (Kd.R_types HO284.out BK273.out (by decide)) BK269.out (by decide)) (fun _ hk => hk.1.2) (.slice Ao55 t276.length co55)) (fun _ hk => hk.1.2) (.slice Ao57 t279.length co57)) (fun _ hk => hk.1.2) (.slice Ao59 t282.length co59)) (fun _ hk => hk.2) (.slice Ao55 t276.length co55)) (fun _ hk => hk.2) (.slice Ao57 t279.length co57)) (fun _ hk => hk.2) (.slice Ao59 t282.length co59)) (fun _ h_ => h_.1)) (fun _ h_ => h_.1))) (Kd.R_typed u6_4) (by decide) hg); replace BK269 := am (blk_grown (g := gb269) (o := .cells #[.slice Ao55 t276.length co55, .slice Ao57 t279.length co57, .slice Ao59 t282.length co59] 26 (0, 0)) (by (with_reducible repeat (first | refine blk_drewN ?_ _ | refine blk_drew ?_ | refine blk_alloc ?_ _)); refine blk_put (cs := #[.slice Ao55 t276.length co55, .slice Ao57 t279.length co57, .slice Ao48 x270002_2.length co48]) ?_ 2 _ rfl; (with_reducible repeat (first | refine blk_drewN ?_ _ | refine blk_drew ?_ | refine blk_alloc ?_ _)); refine blk_put (cs := #[.slice Ao55 t276.length co55, .slice Ao47 x270001_2.length co47, .slice Ao48 x270002_2.length co48]) ?_ 1 _ rfl; (with_reducible repeat (first | refine blk_drewN ?_ _ | refine blk_drew ?_ | refine blk_alloc ?_ _)); refine blk_put (cs := #[.slice Ao42 x270000_2.length co42, .slice Ao47 x270001_2.length co47, .slice Ao48 x270002_2.length co48]) ?_ 0 _ rfl; (with_reducible repeat (first | refine blk_drewN ?_ _ | refine blk_drew ?_ | refine blk_alloc ?_ _)); refine blk_far ?_ NB269_273.out _; (with_reducible repeat (first | refine blk_drewN ?_ _ | refine blk_drew ?_ | refine blk_alloc ?_ _)); refine blk_far ?_ NB269_273.out _; (with_reducible repeat (first | refine blk_drewN ?_ _ | refine blk_drew ?_ | refine blk_alloc ?_ _)); refine blk_far ?_ NB269_273.out _; (with_reducible repeat (first | refine blk_drewN ?_ _ | refine blk_drew ?_ | refine blk_alloc ?_ _)); exact BK269.out) hg (Kd.R_ne HO_7.out BK269.out (by decide))); replace BK273 := am (blk_grown (g := gb273) (o := .cells #[.slice Ao55 t276.length co55, .slice Ao57 t279.length co57, .slice Ao59 t282.length co59] 26 (0, 0)) (by (with_reducible repeat (first | refine blk_drewN ?_ _ | refine blk_drew ?_ | refine blk_alloc ?_ _)); refine blk_far ?_ NB273_269.out _; (with_reducible repeat (first | refine blk_drewN ?_ _ | refine blk_drew ?_ | refine blk_alloc ?_ _)); refine blk_far ?_ NB273_269.out _; (with_reducible repeat (first | refine blk_drewN ?_ _ | refine blk_drew ?_ | refine blk_alloc ?_ _)); refine blk_far ?_ NB273_269.out _; (with_reducible repeat (first | refine blk_drewN ?_ _ | refine blk_drew ?_ | refine blk_alloc ?_ _)); refine blk_put (cs := #[.slice Ao55 t276.length co55, .slice Ao57 t279.length co57, .slice Ao48 x270002_2.length co48]) ?_ 2 _ rfl; (with_reducible repeat (first | refine blk_drewN ?_ _ | refine blk_drew ?_ | refine blk_alloc ?_ _)); refine blk_put (cs := #[.slice Ao55 t276.length co55, .slice Ao47 x270001_2.length co47, .slice Ao48 x270002_2.length co48]) ?_ 1 _ rfl; (with_reducible repeat (first | refine blk_drewN ?_ _ | refine blk_drew ?_ | refine blk_alloc ?_ _)); refine blk_put (cs := #[.slice Ao42 x270000_2.length co42, .slice Ao47 x270001_2.length co47, .slice Ao48 x270002_2.length co48]) ?_ 0 _ rfl; (with_reducible repeat (first | refine blk_drewN ?_ _ | refine blk_drew ?_ | refine blk_alloc ?_ _)); exact BK273.out) hg (Kd.R_ne HO_7.out BK273.out (by decide))); replace HB := am (hb); have HO288 := am (ho); clear HO_7; clear ho hb hg hat))
       go_roundg k2
       case measure => have := HJ2.out; have := HK2.out; omega
       case rel => exact ⟨(y286), (wrap64 (x8_2 + 1)), (t276), (t279), (t282), (.slice Ao55 t276.length co55), (.slice Ao57 t279.length co57), (.slice Ao59 t282.length co59), Q1, H', ⟨u6_46⟩, ⟨(by (with_reducible repeat (first | apply Kd.R_alloc | apply Kd.R_drewN | apply Kd.R_drew)); exact HO288.out)⟩, ⟨(by (with_reducible repeat (first | apply Kd.R_alloc | apply Kd.R_drewN | apply Kd.R_drew)); exact Kd.R_mono HO278.out (fun _ hk => ⟨hk.1.1.1.1, hk.1.1.1.2⟩))⟩, ⟨(by (with_reducible repeat (first | apply Kd.R_alloc | apply Kd.R_drewN | apply Kd.R_drew)); exact Kd.R_mono HO281.out (fun _ hk => ⟨hk.1.1.1.1, hk.1.1.1.2⟩))⟩, ⟨(by (with_reducible repeat (first | apply Kd.R_alloc | apply Kd.R_drewN | apply Kd.R_drew)); exact Kd.R_mono HO284.out (fun _ hk => ⟨hk.1.1.1.1, hk.1.1.1.2⟩))⟩, ⟨u6_8⟩, ⟨u6_9⟩, ⟨u6_27⟩, ⟨Q0⟩⟩
     rw [if_neg c49] at H
     have c49b0 : (((rd_T77 l1 x8_2).f0) == 0) = false := beq_eq_false_iff_ne.mpr c49
     have c49b1 : (((rd_T77 l1 x8_2).f0) != 0) = true := bne_iff_ne.mpr c49
     (first | rw [c49b0] | (simp only [i64_w, i32_w]; rw [c49b0]) | skip)
     by_cases c69 : ((rd_T77 l1 x8_2).f0) = 1
     · rw [if_pos c69] at H
       have c69b0 : (((rd_T77 l1 x8_2).f0) == 1) = true := beq_iff_eq.mpr c69
       have c69b1 : (((rd_T77 l1 x8_2).f0) != 1) = false := bne_eq_false_iff_eq.mpr c69
       clear c69
       replace H := Option.bind_eq_some_iff.mp H
       obtain ⟨⟨t289, t292, t295, t298⟩, A700, H⟩ := H
       (try dsimp only at H)
       have A70 := am A700
       clear A700
       by_cases c71 : x7_2.length < 140737488355328
       rotate_left
       · rw [if_neg c71] at H
         exact absurd H (by simp)
       rw [if_pos c71] at H
       have LMc71 := am c71
       clear c71
       obtain ⟨y299, hy299⟩ : ∃ y_ : List Bool, y_ = (x7_2 ++ [t298]) := ⟨_, rfl⟩
       replace H : (spec_PlayConf.l0 k2 l1 y299 (wrap64 (x8_2 + 1)) t289 t292 t295) = some (r1, r2, r3, r4) := by first | (rw [hy299]; with_reducible exact H) | (have H2_ := (Option.bind_some _ _).symm.trans H; rw [hy299]; with_reducible exact H2_) | (have H2_ := (Option.bind_some _ _).symm.trans H; with_reducible exact H2_) | with_reducible exact H | (rw [hy299]; exact H) | exact H
       have Ny299 := am hy299
       clear hy299
       have H' := am H
       clear H
       have hnb72 := NB269_248.out
       have hnc72 := NB248_269.out
       have hnb73 := NB269_249.out
       have hnc73 := NB249_269.out
       have hnb74 := NB269_273.out
       have hnc74 := NB273_269.out
       obtain ⟨hcz75_0, hcz75_1, hcz75_2, hfz75_0, hfz75_1, hfz75_2⟩ := bc3f w41 BK269.out
       go_wp2_with (first | ((with_reducible refine gate_callee (f := 61) rfl ?_); refine goesL_ (some 52) rfl rfl Try.func61 kr rfl #[.agg #[.slice Ao42 x270000_2.length co42, .slice Ao47 x270001_2.length co47, .slice Ao48 x270002_2.length co48]] rfl Q3 ?_; (with_reducible refine (spec_Finish.calls k2 _ _ x270000_2 _ _ x270001_2 _ _ x270002_2 t289 t292 t295 t298 _ ?side1 ?side2 ?side3 ?side4 ?side5 ?side6 A70.out).mono ?_); (case side1 => exact (by refine (Kd.R_reads' (e := 3) (base := w.heap.size) (ok := fun k_ => (some k_ ≠ (.slice Ao47 x270001_2.length co47 : Value).ownBlock ∧ some k_ ≠ (.slice Ao48 x270002_2.length co48 : Value).ownBlock)) (n := x270000_2.length) (c := co42) ?_).2.2; exact u6_10)); (case side2 => exact (Kd.R_reads' HO_270000.out).2.1); (case side3 => exact (by refine (Kd.R_reads' (e := 3) (base := w.heap.size) (ok := fun k_ => (some k_ ≠ (.slice Ao42 x270000_2.length co42 : Value).ownBlock ∧ some k_ ≠ (.slice Ao48 x270002_2.length co48 : Value).ownBlock)) (n := x270001_2.length) (c := co47) ?_).2.2; exact u6_11)); (case side4 => exact (Kd.R_reads' HO_270001.out).2.1); (case side5 => exact (by refine (Kd.R_reads' (e := 3) (base := w.heap.size) (ok := fun k_ => (some k_ ≠ (.slice Ao42 x270000_2.length co42 : Value).ownBlock ∧ some k_ ≠ (.slice Ao47 x270001_2.length co47 : Value).ownBlock)) (n := x270002_2.length) (c := co48) ?_).2.2; exact u6_12)); (case side6 => exact (Kd.R_reads' HO_270002.out).2.1); rintro e w76 ⟨v290, v293, v296, rfl, ho0, ho1, ho2, hb⟩; refine ⟨_, rfl, ?_⟩; replace HO_7 := am (Kd.R_below (by (with_reducible repeat (first | apply Kd.R_alloc | apply Kd.R_drewN | apply Kd.R_drew)); exact (Kd.R_mono (Kd.R_far (p := ⟨gb273, 2, none⟩) (Kd.R_far (p := ⟨gb273, 1, none⟩) (Kd.R_far (p := ⟨gb273, 0, none⟩) (Kd.R_types HO_7.out BK273.out (by decide)) (fun _ hk => hk.2) (.slice Ao42 x270000_2.length co42)) (fun _ hk => hk.2) (.slice Ao47 x270001_2.length co47)) (fun _ hk => hk.2) (.slice Ao48 x270002_2.length co48)) (fun _ h_ => h_.1))) hb); have HO291 := am (Kd.R_lower (Kd.R_new' (Kd.R_new' (Kd.R_new' ho0 (Kd.R_lt u6_10)) (Kd.R_lt u6_11)) (Kd.R_lt u6_12)) (below_size Q0)); have HO294 := am (Kd.R_lower (Kd.R_new' (Kd.R_new' (Kd.R_new' ho1 (Kd.R_lt u6_10)) (Kd.R_lt u6_11)) (Kd.R_lt u6_12)) (below_size Q0)); have HO297 := am (Kd.R_lower (Kd.R_new' (Kd.R_new' (Kd.R_new' ho2 (Kd.R_lt u6_10)) (Kd.R_lt u6_11)) (Kd.R_lt u6_12)) (below_size Q0)); replace HO_270000 := am (Kd.R_mono (Kd.R_told (Kd.R_told (Kd.R_told (Kd.R_old u6_10 hb) (Kd.R_base ho0)) (Kd.R_base ho1)) (Kd.R_base ho2)) (fun _ h_ => h_.1)); replace HO_270001 := am (Kd.R_mono (Kd.R_told (Kd.R_told (Kd.R_told (Kd.R_old u6_11 hb) (Kd.R_base ho0)) (Kd.R_base ho1)) (Kd.R_base ho2)) (fun _ h_ => h_.1)); replace HO_270002 := am (Kd.R_mono (Kd.R_told (Kd.R_told (Kd.R_told (Kd.R_old u6_12 hb) (Kd.R_base ho0)) (Kd.R_base ho1)) (Kd.R_base ho2)) (fun _ h_ => h_.1)); replace BK248 := am (blk_below (g := gb248) (o := .cells #[.slice A0_0 l0_0.length c0_0, .slice A0_1 l0_1.length c0_1, .slice A0_2 l0_2.length c0_2] 26 (0, 0)) (by (with_reducible repeat (first | refine blk_drewN ?_ _ | refine blk_drew ?_ | refine blk_alloc ?_ _)); refine blk_far ?_ NB248_273.out _; (with_reducible repeat (first | refine blk_drewN ?_ _ | refine blk_drew ?_ | refine blk_alloc ?_ _)); refine blk_far ?_ NB248_273.out _; (with_reducible repeat (first | refine blk_drewN ?_ _ | refine blk_drew ?_ | refine blk_alloc ?_ _)); refine blk_far ?_ NB248_273.out _; (with_reducible repeat (first | refine blk_drewN ?_ _ | refine blk_drew ?_ | refine blk_alloc ?_ _)); exact BK248.out) hb); replace BK249 := am (blk_below (g := gb249) (o := .cells #[.slice none 0 0, .slice none 0 0, .slice none 0 0] 26 (0, 0)) (by (with_reducible repeat (first | refine blk_drewN ?_ _ | refine blk_drew ?_ | refine blk_alloc ?_ _)); refine blk_far ?_ NB249_273.out _; (with_reducible repeat (first | refine blk_drewN ?_ _ | refine blk_drew ?_ | refine blk_alloc ?_ _)); refine blk_far ?_ NB249_273.out _; (with_reducible repeat (first | refine blk_drewN ?_ _ | refine blk_drew ?_ | refine blk_alloc ?_ _)); refine blk_far ?_ NB249_273.out _; (with_reducible repeat (first | refine blk_drewN ?_ _ | refine blk_drew ?_ | refine blk_alloc ?_ _)); exact BK249.out) hb); replace BK269 := am (blk_below (g := gb269) (o := .cells #[.slice Ao42 x270000_2.length co42, .slice Ao47 x270001_2.length co47, .slice Ao48 x270002_2.length co48] 26 (0, 0)) (by (with_reducible repeat (first | refine blk_drewN ?_ _ | refine blk_drew ?_ | refine blk_alloc ?_ _)); refine blk_far ?_ NB269_273.out _; (with_reducible repeat (first | refine blk_drewN ?_ _ | refine blk_drew ?_ | refine blk_alloc ?_ _)); refine blk_far ?_ NB269_273.out _; (with_reducible repeat (first | refine blk_drewN ?_ _ | refine blk_drew ?_ | refine blk_alloc ?_ _)); refine blk_far ?_ NB269_273.out _; (with_reducible repeat (first | refine blk_drewN ?_ _ | refine blk_drew ?_ | refine blk_alloc ?_ _)); exact BK269.out) hb); replace BK273 := am (blk_below (g := gb273) (o := .cells #[.slice Ao42 x270000_2.length co42, .slice Ao47 x270001_2.length co47, .slice Ao48 x270002_2.length co48] 26 (0, 0)) (by (with_reducible repeat (first | refine blk_drewN ?_ _ | refine blk_drew ?_ | refine blk_alloc ?_ _)); refine blk_put (cs := #[.slice Ao42 x270000_2.length co42, .slice Ao47 x270001_2.length co47, .slice none 0 0]) ?_ 2 _ rfl; (with_reducible repeat (first | refine blk_drewN ?_ _ | refine blk_drew ?_ | refine blk_alloc ?_ _)); refine blk_put (cs := #[.slice Ao42 x270000_2.length co42, .slice none 0 0, .slice none 0 0]) ?_ 1 _ rfl; (with_reducible repeat (first | refine blk_drewN ?_ _ | refine blk_drew ?_ | refine blk_alloc ?_ _)); refine blk_put (cs := #[.slice none 0 0, .slice none 0 0, .slice none 0 0]) ?_ 0 _ rfl; (with_reducible repeat (first | refine blk_drewN ?_ _ | refine blk_drew ?_ | refine blk_alloc ?_ _)); exact BK273.out) hb); replace HB := am (below_step Q0 hb); (try clear hb); (try clear hb2); (try clear hk); (try clear hi); (try clear ho0); (try clear ho1); (try clear ho2); obtain ⟨Ao77, co77, eo77⟩ := Kd.R_slice HO291.out; subst eo77; have hnb78 := NB273_248.out; have hnc78 := NB248_273.out; have hnb79 := NB273_249.out; have hnc79 := NB249_273.out; obtain ⟨hcz80_0, hcz80_1, hcz80_2, hfz80_0, hfz80_1, hfz80_2⟩ := bc3f w76 BK273.out; obtain ⟨Ao81, co81, eo81⟩ := Kd.R_slice HO294.out; subst eo81; obtain ⟨Ao82, co82, eo82⟩ := Kd.R_slice HO297.out; subst eo82; obtain ⟨hcz83_0, hcz83_1, hcz83_2, hfz83_0, hfz83_1, hfz83_2⟩ := bc3f w76 BK269.out) | ((with_reducible refine gate_builtin (b := .append) (xs := #[.tmp 80, .tmp 82]) rfl ?_); (try (refine gate_guard (by rfl) ?_; dsimp only)); at_builtin; refine Kd.R_append Kd.bool (w0 := w) w.heap.size rfl (.tmp 80) (.tmp 82) 48 4 (.bool false) 1 rfl Try.underlying48 info4 rfl (by decide) (by omega) u7 x7_2 t298 [.bool t298] (fun _ => True) (fun _ => False) rfl u6_45 ?aP (fun _ hk => hk.elim) ?aF ?aO ?aB ?aS ?aL ?_; (case aP => exact rfl); (case aB => exact Q0); (case aF => exact (fun _ _ => trivial)); (case aO => exact (by (with_reducible repeat (first | apply Kd.R_alloc | apply Kd.R_drewN | apply Kd.R_drew)); exact Kd.R_mono (Kd.R_far (p := ⟨gb269, 2, none⟩) (Kd.R_far (p := ⟨gb269, 1, none⟩) (Kd.R_far (p := ⟨gb269, 0, none⟩) (Kd.R_far (p := ⟨gb273, 2, none⟩) (Kd.R_far (p := ⟨gb273, 1, none⟩) (Kd.R_far (p := ⟨gb273, 0, none⟩) (Kd.R_types (Kd.R_types HO_7.out BK273.out (by decide)) BK269.out (by decide)) (fun _ hk => hk.1.2) (.slice Ao77 t289.length co77)) (fun _ hk => hk.1.2) (.slice Ao81 t292.length co81)) (fun _ hk => hk.1.2) (.slice Ao82 t295.length co82)) (fun _ hk => hk.2) (.slice Ao77 t289.length co77)) (fun _ hk => hk.2) (.slice Ao81 t292.length co81)) (fun _ hk => hk.2) (.slice Ao82 t295.length co82)) (fun _ hk => trivial))); (case aS => exact (below_size Q0)); (case aL => have := LMc71.out; omega); intro v300 w84 ho hb hg hat; rw [← Ny299.out] at ho; replace HO_270000 := am (Kd.R_over' (by (with_reducible repeat (first | apply Kd.R_alloc | apply Kd.R_drewN | apply Kd.R_drew)); exact (Kd.R_mono (Kd.R_mono (Kd.R_far (p := ⟨gb269, 2, none⟩) (Kd.R_far (p := ⟨gb269, 1, none⟩) (Kd.R_far (p := ⟨gb269, 0, none⟩) (Kd.R_far (p := ⟨gb273, 2, none⟩) (Kd.R_far (p := ⟨gb273, 1, none⟩) (Kd.R_far (p := ⟨gb273, 0, none⟩) (Kd.R_types (Kd.R_types HO_270000.out BK273.out (by decide)) BK269.out (by decide)) (fun _ hk => hk.1.2) (.slice Ao77 t289.length co77)) (fun _ hk => hk.1.2) (.slice Ao81 t292.length co81)) (fun _ hk => hk.1.2) (.slice Ao82 t295.length co82)) (fun _ hk => hk.2) (.slice Ao77 t289.length co77)) (fun _ hk => hk.2) (.slice Ao81 t292.length co81)) (fun _ hk => hk.2) (.slice Ao82 t295.length co82)) (fun _ h_ => h_.1)) (fun _ h_ => h_.1))) (Kd.R_typed u6_5) (by decide) hg); replace HO_270001 := am (Kd.R_over' (by (with_reducible repeat (first | apply Kd.R_alloc | apply Kd.R_drewN | apply Kd.R_drew)); exact (Kd.R_mono (Kd.R_mono (Kd.R_far (p := ⟨gb269, 2, none⟩) (Kd.R_far (p := ⟨gb269, 1, none⟩) (Kd.R_far (p := ⟨gb269, 0, none⟩) (Kd.R_far (p := ⟨gb273, 2, none⟩) (Kd.R_far (p := ⟨gb273, 1, none⟩) (Kd.R_far (p := ⟨gb273, 0, none⟩) (Kd.R_types (Kd.R_types HO_270001.out BK273.out (by decide)) BK269.out (by decide)) (fun _ hk => hk.1.2) (.slice Ao77 t289.length co77)) (fun _ hk => hk.1.2) (.slice Ao81 t292.length co81)) (fun _ hk => hk.1.2) (.slice Ao82 t295.length co82)) (fun _ hk => hk.2) (.slice Ao77 t289.length co77)) (fun _ hk => hk.2) (.slice Ao81 t292.length co81)) (fun _ hk => hk.2) (.slice Ao82 t295.length co82)) (fun _ h_ => h_.1)) (fun _ h_ => h_.1))) (Kd.R_typed u6_5) (by decide) hg); replace HO_270002 := am (Kd.R_over' (by (with_reducible repeat (first | apply Kd.R_alloc | apply Kd.R_drewN | apply Kd.R_drew)); exact (Kd.R_mono (Kd.R_mono (Kd.R_far (p := ⟨gb269, 2, none⟩) (Kd.R_far (p := ⟨gb269, 1, none⟩) (Kd.R_far (p := ⟨gb269, 0, none⟩) (Kd.R_far (p := ⟨gb273, 2, none⟩) (Kd.R_far (p := ⟨gb273, 1, none⟩) (Kd.R_far (p := ⟨gb273, 0, none⟩) (Kd.R_types (Kd.R_types HO_270002.out BK273.out (by decide)) BK269.out (by decide)) (fun _ hk => hk.1.2) (.slice Ao77 t289.length co77)) (fun _ hk => hk.1.2) (.slice Ao81 t292.length co81)) (fun _ hk => hk.1.2) (.slice Ao82 t295.length co82)) (fun _ hk => hk.2) (.slice Ao77 t289.length co77)) (fun _ hk => hk.2) (.slice Ao81 t292.length co81)) (fun _ hk => hk.2) (.slice Ao82 t295.length co82)) (fun _ h_ => h_.1)) (fun _ h_ => h_.1))) (Kd.R_typed u6_5) (by decide) hg); replace BK248 := am (blk_grown (g := gb248) (o := .cells #[.slice A0_0 l0_0.length c0_0, .slice A0_1 l0_1.length c0_1, .slice A0_2 l0_2.length c0_2] 26 (0, 0)) u6_2 hg (Kd.R_ne HO_7.out BK248.out (by decide))); replace BK249 := am (blk_grown (g := gb249) (o := .cells #[.slice none 0 0, .slice none 0 0, .slice none 0 0] 26 (0, 0)) u6_3 hg (Kd.R_ne HO_7.out BK249.out (by decide))); replace HO291 := am (Kd.R_over' (by (with_reducible repeat (first | apply Kd.R_alloc | apply Kd.R_drewN | apply Kd.R_drew)); exact (Kd.R_mono (Kd.R_mono (Kd.R_far (p := ⟨gb269, 2, none⟩) (Kd.R_far (p := ⟨gb269, 1, none⟩) (Kd.R_far (p := ⟨gb269, 0, none⟩) (Kd.R_far (p := ⟨gb273, 2, none⟩) (Kd.R_far (p := ⟨gb273, 1, none⟩) (Kd.R_far (p := ⟨gb273, 0, none⟩) (Kd.R_types (Kd.R_types HO291.out BK273.out (by decide)) BK269.out (by decide)) (fun _ hk => hk.1.2) (.slice Ao77 t289.length co77)) (fun _ hk => hk.1.2) (.slice Ao81 t292.length co81)) (fun _ hk => hk.1.2) (.slice Ao82 t295.length co82)) (fun _ hk => hk.2) (.slice Ao77 t289.length co77)) (fun _ hk => hk.2) (.slice Ao81 t292.length co81)) (fun _ hk => hk.2) (.slice Ao82 t295.length co82)) (fun _ h_ => h_.1)) (fun _ h_ => h_.1))) (Kd.R_typed u6_5) (by decide) hg); replace HO294 := am (Kd.R_over' (by (with_reducible repeat (first | apply Kd.R_alloc | apply Kd.R_drewN | apply Kd.R_drew)); exact (Kd.R_mono (Kd.R_mono (Kd.R_far (p := ⟨gb269, 2, none⟩) (Kd.R_far (p := ⟨gb269, 1, none⟩) (Kd.R_far (p := ⟨gb269, 0, none⟩) (Kd.R_far (p := ⟨gb273, 2, none⟩) (Kd.R_far (p := ⟨gb273, 1, none⟩) (Kd.R_far (p := ⟨gb273, 0, none⟩) (Kd.R_types (Kd.R_types HO294.out BK273.out (by decide)) BK269.out (by decide)) (fun _ hk => hk.1.2) (.slice Ao77 t289.length co77)) (fun _ hk => hk.1.2) (.slice Ao81 t292.length co81)) (fun _ hk => hk.1.2) (.slice Ao82 t295.length co82)) (fun _ hk => hk.2) (.slice Ao77 t289.length co77)) (fun _ hk => hk.2) (.slice Ao81 t292.length co81)) (fun _ hk => hk.2) (.slice Ao82 t295.length co82)) (fun _ h_ => h_.1)) (fun _ h_ => h_.1))) (Kd.R_typed u6_5) (by decide) hg); replace HO297 := am (Kd.R_over' (by (with_reducible repeat (first | apply Kd.R_alloc | apply Kd.R_drewN | apply Kd.R_drew)); exact (Kd.R_mono (Kd.R_mono (Kd.R_far (p := ⟨gb269, 2, none⟩) (Kd.R_far (p := ⟨gb269, 1, none⟩) (Kd.R_far (p := ⟨gb269, 0, none⟩) (Kd.R_far (p := ⟨gb273, 2, none⟩) (Kd.R_far (p := ⟨gb273, 1, none⟩) (Kd.R_far (p := ⟨gb273, 0, none⟩) (Kd.R_types (Kd.R_types HO297.out BK273.out (by decide)) BK269.out (by decide)) (fun _ hk => hk.1.2) (.slice Ao77 t289.length co77)) (fun _ hk => hk.1.2) (.slice Ao81 t292.length co81)) (fun _ hk => hk.1.2) (.slice Ao82 t295.length co82)) (fun _ hk => hk.2) (.slice Ao77 t289.length co77)) (fun _ hk => hk.2) (.slice Ao81 t292.length co81)) (fun _ hk => hk.2) (.slice Ao82 t295.length co82)) (fun _ h_ => h_.1)) (fun _ h_ => h_.1))) (Kd.R_typed u6_5) (by decide) hg); replace BK269 := am (blk_grown (g := gb269) (o := .cells #[.slice Ao77 t289.length co77, .slice Ao81 t292.length co81, .slice Ao82 t295.length co82] 26 (0, 0)) (by (with_reducible repeat (first | refine blk_drewN ?_ _ | refine blk_drew ?_ | refine blk_alloc ?_ _)); refine blk_put (cs := #[.slice Ao77 t289.length co77, .slice Ao81 t292.length co81, .slice Ao48 x270002_2.length co48]) ?_ 2 _ rfl; (with_reducible repeat (first | refine blk_drewN ?_ _ | refine blk_drew ?_ | refine blk_alloc ?_ _)); refine blk_put (cs := #[.slice Ao77 t289.length co77, .slice Ao47 x270001_2.length co47, .slice Ao48 x270002_2.length co48]) ?_ 1 _ rfl; (with_reducible repeat (first | refine blk_drewN ?_ _ | refine blk_drew ?_ | refine blk_alloc ?_ _)); refine blk_put (cs := #[.slice Ao42 x270000_2.length co42, .slice Ao47 x270001_2.length co47, .slice Ao48 x270002_2.length co48]) ?_ 0 _ rfl; (with_reducible repeat (first | refine blk_drewN ?_ _ | refine blk_drew ?_ | refine blk_alloc ?_ _)); refine blk_far ?_ NB269_273.out _; (with_reducible repeat (first | refine blk_drewN ?_ _ | refine blk_drew ?_ | refine blk_alloc ?_ _)); refine blk_far ?_ NB269_273.out _; (with_reducible repeat (first | refine blk_drewN ?_ _ | refine blk_drew ?_ | refine blk_alloc ?_ _)); refine blk_far ?_ NB269_273.out _; (with_reducible repeat (first | refine blk_drewN ?_ _ | refine blk_drew ?_ | refine blk_alloc ?_ _)); exact BK269.out) hg (Kd.R_ne HO_7.out BK269.out (by decide))); replace BK273 := am (blk_grown (g := gb273) (o := .cells #[.slice Ao77 t289.length co77, .slice Ao81 t292.length co81, .slice Ao82 t295.length co82] 26 (0, 0)) (by (with_reducible repeat (first | refine blk_drewN ?_ _ | refine blk_drew ?_ | refine blk_alloc ?_ _)); refine blk_far ?_ NB273_269.out _; (with_reducible repeat (first | refine blk_drewN ?_ _ | refine blk_drew ?_ | refine blk_alloc ?_ _)); refine blk_far ?_ NB273_269.out _; (with_reducible repeat (first | refine blk_drewN ?_ _ | refine blk_drew ?_ | refine blk_alloc ?_ _)); refine blk_far ?_ NB273_269.out _; (with_reducible repeat (first | refine blk_drewN ?_ _ | refine blk_drew ?_ | refine blk_alloc ?_ _)); refine blk_put (cs := #[.slice Ao77 t289.length co77, .slice Ao81 t292.length co81, .slice Ao48 x270002_2.length co48]) ?_ 2 _ rfl; (with_reducible repeat (first | refine blk_drewN ?_ _ | refine blk_drew ?_ | refine blk_alloc ?_ _)); refine blk_put (cs := #[.slice Ao77 t289.length co77, .slice Ao47 x270001_2.length co47, .slice Ao48 x270002_2.length co48]) ?_ 1 _ rfl; (with_reducible repeat (first | refine blk_drewN ?_ _ | refine blk_drew ?_ | refine blk_alloc ?_ _)); refine blk_put (cs := #[.slice Ao42 x270000_2.length co42, .slice Ao47 x270001_2.length co47, .slice Ao48 x270002_2.length co48]) ?_ 0 _ rfl; (with_reducible repeat (first | refine blk_drewN ?_ _ | refine blk_drew ?_ | refine blk_alloc ?_ _)); exact BK273.out) hg (Kd.R_ne HO_7.out BK273.out (by decide))); replace HB := am (hb); have HO301 := am (ho); clear HO_7; clear ho hb hg hat))
       go_roundg k2
       case measure => have := HJ2.out; have := HK2.out; omega
       case rel => exact ⟨(y299), (wrap64 (x8_2 + 1)), (t289), (t292), (t295), (.slice Ao77 t289.length co77), (.slice Ao81 t292.length co81), (.slice Ao82 t295.length co82), Q1, H', ⟨u6_46⟩, ⟨(by (with_reducible repeat (first | apply Kd.R_alloc | apply Kd.R_drewN | apply Kd.R_drew)); exact HO301.out)⟩, ⟨(by (with_reducible repeat (first | apply Kd.R_alloc | apply Kd.R_drewN | apply Kd.R_drew)); exact Kd.R_mono HO291.out (fun _ hk => ⟨hk.1.1.1.1, hk.1.1.1.2⟩))⟩, ⟨(by (with_reducible repeat (first | apply Kd.R_alloc | apply Kd.R_drewN | apply Kd.R_drew)); exact Kd.R_mono HO294.out (fun _ hk => ⟨hk.1.1.1.1, hk.1.1.1.2⟩))⟩, ⟨(by (with_reducible repeat (first | apply Kd.R_alloc | apply Kd.R_drewN | apply Kd.R_drew)); exact Kd.R_mono HO297.out (fun _ hk => ⟨hk.1.1.1.1, hk.1.1.1.2⟩))⟩, ⟨u6_8⟩, ⟨u6_9⟩, ⟨u6_27⟩, ⟨Q0⟩⟩
     rw [if_neg c69] at H
     have c69b0 : (((rd_T77 l1 x8_2).f0) == 1) = false := beq_eq_false_iff_ne.mpr c69
     have c69b1 : (((rd_T77 l1 x8_2).f0) != 1) = true := bne_iff_ne.mpr c69
     by_cases c85 : ((rd_T77 l1 x8_2).f0) = 2
     · rw [if_pos c85] at H
       have c85b0 : (((rd_T77 l1 x8_2).f0) == 2) = true := beq_iff_eq.mpr c85
       have c85b1 : (((rd_T77 l1 x8_2).f0) != 2) = false := bne_eq_false_iff_eq.mpr c85
       clear c85
       replace H := Option.bind_eq_some_iff.mp H
       obtain ⟨⟨t303, t306, t309, t312⟩, A860, H⟩ := H
       (try dsimp only at H)
       have A86 := am A860
       clear A860
       by_cases c87 : x7_2.length < 140737488355328
       rotate_left
       · rw [if_neg c87] at H
         exact absurd H (by simp)
       rw [if_pos c87] at H
       have LMc87 := am c87
       clear c87
       obtain ⟨y313, hy313⟩ : ∃ y_ : List Bool, y_ = (x7_2 ++ [t312]) := ⟨_, rfl⟩
       replace H : (spec_PlayConf.l0 k2 l1 y313 (wrap64 (x8_2 + 1)) t303 t306 t309) = some (r1, r2, r3, r4) := by first | (rw [hy313]; with_reducible exact H) | (have H2_ := (Option.bind_some _ _).symm.trans H; rw [hy313]; with_reducible exact H2_) | (have H2_ := (Option.bind_some _ _).symm.trans H; with_reducible exact H2_) | with_reducible exact H | (rw [hy313]; exact H) | exact H
       have Ny313 := am hy313
       clear hy313
       have H' := am H
       clear H
       try go_wp2
       have n0_ : Aside0 (Kd.R Kd.bool 4 (((w41.setCell ⟨gb273, 0, none⟩ (.slice Ao42 x270000_2.length co42)).setCell ⟨gb273, 1, none⟩ (.slice Ao47 x270001_2.length co47)).setCell ⟨gb273, 2, none⟩ (.slice Ao48 x270002_2.length co48)) w.heap.size (fun _ => True) u7 x7_2) := ⟨by (with_reducible repeat (first | apply Kd.R_alloc | apply Kd.R_drewN | apply Kd.R_drew)); exact Kd.R_mono (Kd.R_far (p := ⟨gb273, 2, none⟩) (Kd.R_far (p := ⟨gb273, 1, none⟩) (Kd.R_far (p := ⟨gb273, 0, none⟩) (Kd.R_types HO_7.out BK273.out (by decide)) (fun _ hk => hk.2) (.slice Ao42 x270000_2.length co42)) (fun _ hk => hk.2) (.slice Ao47 x270001_2.length co47)) (fun _ hk => hk.2) (.slice Ao48 x270002_2.length co48)) (fun _ hk => trivial)⟩
       have n1_ : Aside0 (Kd.R (Kd.int .i64) 3 (((w41.setCell ⟨gb273, 0, none⟩ (.slice Ao42 x270000_2.length co42)).setCell ⟨gb273, 1, none⟩ (.slice Ao47 x270001_2.length co47)).setCell ⟨gb273, 2, none⟩ (.slice Ao48 x270002_2.length co48)) w.heap.size (fun k_ => some k_ ≠ (.slice Ao47 x270001_2.length co47 : Value).ownBlock ∧ some k_ ≠ (.slice Ao48 x270002_2.length co48 : Value).ownBlock) (.slice Ao42 x270000_2.length co42) x270000_2) := ⟨by (with_reducible repeat (first | apply Kd.R_alloc | apply Kd.R_drewN | apply Kd.R_drew)); exact Kd.R_mono (Kd.R_far (p := ⟨gb273, 2, none⟩) (Kd.R_far (p := ⟨gb273, 1, none⟩) (Kd.R_far (p := ⟨gb273, 0, none⟩) (Kd.R_types HO_270000.out BK273.out (by decide)) (fun _ hk => hk.2) (.slice Ao42 x270000_2.length co42)) (fun _ hk => hk.2) (.slice Ao47 x270001_2.length co47)) (fun _ hk => hk.2) (.slice Ao48 x270002_2.length co48)) (fun _ hk => ⟨hk.1.1, hk.1.2⟩)⟩
       have n2_ : Aside0 (Kd.R (Kd.int .i64) 3 (((w41.setCell ⟨gb273, 0, none⟩ (.slice Ao42 x270000_2.length co42)).setCell ⟨gb273, 1, none⟩ (.slice Ao47 x270001_2.length co47)).setCell ⟨gb273, 2, none⟩ (.slice Ao48 x270002_2.length co48)) w.heap.size (fun k_ => some k_ ≠ (.slice Ao42 x270000_2.length co42 : Value).ownBlock ∧ some k_ ≠ (.slice Ao48 x270002_2.length co48 : Value).ownBlock) (.slice Ao47 x270001_2.length co47) x270001_2) := ⟨by (with_reducible repeat (first | apply Kd.R_alloc | apply Kd.R_drewN | apply Kd.R_drew)); exact Kd.R_mono (Kd.R_far (p := ⟨gb273, 2, none⟩) (Kd.R_far (p := ⟨gb273, 1, none⟩) (Kd.R_far (p := ⟨gb273, 0, none⟩) (Kd.R_types HO_270001.out BK273.out (by decide)) (fun _ hk => hk.2) (.slice Ao42 x270000_2.length co42)) (fun _ hk => hk.2) (.slice Ao47 x270001_2.length co47)) (fun _ hk => hk.2) (.slice Ao48 x270002_2.length co48)) (fun _ hk => ⟨hk.1.1, hk.1.2⟩)⟩
       have n3_ : Aside0 (Kd.R (Kd.int .i64) 3 (((w41.setCell ⟨gb273, 0, none⟩ (.slice Ao42 x270000_2.length co42)).setCell ⟨gb273, 1, none⟩ (.slice Ao47 x270001_2.length co47)).setCell ⟨gb273, 2, none⟩ (.slice Ao48 x270002_2.length co48)) w.heap.size (fun k_ => some k_ ≠ (.slice Ao42 x270000_2.length co42 : Value).ownBlock ∧ some k_ ≠ (.slice Ao47 x270001_2.length co47 : Value).ownBlock) (.slice Ao48 x270002_2.length co48) x270002_2) := ⟨by (with_reducible repeat (first | apply Kd.R_alloc | apply Kd.R_drewN | apply Kd.R_drew)); exact Kd.R_mono (Kd.R_far (p := ⟨gb273, 2, none⟩) (Kd.R_far (p := ⟨gb273, 1, none⟩) (Kd.R_far (p := ⟨gb273, 0, none⟩) (Kd.R_types HO_270002.out BK273.out (by decide)) (fun _ hk => hk.2) (.slice Ao42 x270000_2.length co42)) (fun _ hk => hk.2) (.slice Ao47 x270001_2.length co47)) (fun _ hk => hk.2) (.slice Ao48 x270002_2.length co48)) (fun _ hk => ⟨hk.1.1, hk.1.2⟩)⟩
       have n4_ : Aside0 ((((w41.setCell ⟨gb273, 0, none⟩ (.slice Ao42 x270000_2.length co42)).setCell ⟨gb273, 1, none⟩ (.slice Ao47 x270001_2.length co47)).setCell ⟨gb273, 2, none⟩ (.slice Ao48 x270002_2.length co48)).heap[gb248]? = some (.cells #[.slice A0_0 l0_0.length c0_0, .slice A0_1 l0_1.length c0_1, .slice A0_2 l0_2.length c0_2] 26 (0, 0))) := ⟨by (with_reducible repeat (first | refine blk_drewN ?_ _ | refine blk_drew ?_ | refine blk_alloc ?_ _)); refine blk_far ?_ NB248_273.out _; (with_reducible repeat (first | refine blk_drewN ?_ _ | refine blk_drew ?_ | refine blk_alloc ?_ _)); refine blk_far ?_ NB248_273.out _; (with_reducible repeat (first | refine blk_drewN ?_ _ | refine blk_drew ?_ | refine blk_alloc ?_ _)); refine blk_far ?_ NB248_273.out _; (with_reducible repeat (first | refine blk_drewN ?_ _ | refine blk_drew ?_ | refine blk_alloc ?_ _)); exact BK248.out⟩
       have n5_ : Aside0 ((((w41.setCell ⟨gb273, 0, none⟩ (.slice Ao42 x270000_2.length co42)).setCell ⟨gb273, 1, none⟩ (.slice Ao47 x270001_2.length co47)).setCell ⟨gb273, 2, none⟩ (.slice Ao48 x270002_2.length co48)).heap[gb249]? = some (.cells #[.slice none 0 0, .slice none 0 0, .slice none 0 0] 26 (0, 0))) := ⟨by (with_reducible repeat (first | refine blk_drewN ?_ _ | refine blk_drew ?_ | refine blk_alloc ?_ _)); refine blk_far ?_ NB249_273.out _; (with_reducible repeat (first | refine blk_drewN ?_ _ | refine blk_drew ?_ | refine blk_alloc ?_ _)); refine blk_far ?_ NB249_273.out _; (with_reducible repeat (first | refine blk_drewN ?_ _ | refine blk_drew ?_ | refine blk_alloc ?_ _)); refine blk_far ?_ NB249_273.out _; (with_reducible repeat (first | refine blk_drewN ?_ _ | refine blk_drew ?_ | refine blk_alloc ?_ _)); exact BK249.out⟩
       have n6_ : Aside0 ((((w41.setCell ⟨gb273, 0, none⟩ (.slice Ao42 x270000_2.length co42)).setCell ⟨gb273, 1, none⟩ (.slice Ao47 x270001_2.length co47)).setCell ⟨gb273, 2, none⟩ (.slice Ao48 x270002_2.length co48)).heap[gb269]? = some (.cells #[.slice Ao42 x270000_2.length co42, .slice Ao47 x270001_2.length co47, .slice Ao48 x270002_2.length co48] 26 (0, 0))) := ⟨by (with_reducible repeat (first | refine blk_drewN ?_ _ | refine blk_drew ?_ | refine blk_alloc ?_ _)); refine blk_far ?_ NB269_273.out _; (with_reducible repeat (first | refine blk_drewN ?_ _ | refine blk_drew ?_ | refine blk_alloc ?_ _)); refine blk_far ?_ NB269_273.out _; (with_reducible repeat (first | refine blk_drewN ?_ _ | refine blk_drew ?_ | refine blk_alloc ?_ _)); refine blk_far ?_ NB269_273.out _; (with_reducible repeat (first | refine blk_drewN ?_ _ | refine blk_drew ?_ | refine blk_alloc ?_ _)); exact BK269.out⟩
       have n7_ : Aside0 ((((w41.setCell ⟨gb273, 0, none⟩ (.slice Ao42 x270000_2.length co42)).setCell ⟨gb273, 1, none⟩ (.slice Ao47 x270001_2.length co47)).setCell ⟨gb273, 2, none⟩ (.slice Ao48 x270002_2.length co48)).heap[gb273]? = some (.cells #[.slice Ao42 x270000_2.length co42, .slice Ao47 x270001_2.length co47, .slice Ao48 x270002_2.length co48] 26 (0, 0))) := ⟨by (with_reducible repeat (first | refine blk_drewN ?_ _ | refine blk_drew ?_ | refine blk_alloc ?_ _)); refine blk_put (cs := #[.slice Ao42 x270000_2.length co42, .slice Ao47 x270001_2.length co47, .slice none 0 0]) ?_ 2 _ rfl; (with_reducible repeat (first | refine blk_drewN ?_ _ | refine blk_drew ?_ | refine blk_alloc ?_ _)); refine blk_put (cs := #[.slice Ao42 x270000_2.length co42, .slice none 0 0, .slice none 0 0]) ?_ 1 _ rfl; (with_reducible repeat (first | refine blk_drewN ?_ _ | refine blk_drew ?_ | refine blk_alloc ?_ _)); refine blk_put (cs := #[.slice none 0 0, .slice none 0 0, .slice none 0 0]) ?_ 0 _ rfl; (with_reducible repeat (first | refine blk_drewN ?_ _ | refine blk_drew ?_ | refine blk_alloc ?_ _)); exact BK273.out⟩
       have n8_ : Aside0 (Below w.heap.size w (((w41.setCell ⟨gb273, 0, none⟩ (.slice Ao42 x270000_2.length co42)).setCell ⟨gb273, 1, none⟩ (.slice Ao47 x270001_2.length co47)).setCell ⟨gb273, 2, none⟩ (.slice Ao48 x270002_2.length co48))) := ⟨by repeat (first | (with_reducible first | exact HB.out | apply below_alloc | apply pw_below_drewN | apply below_drew1 | refine below_set ?_ GE248.out | refine below_set ?_ GE249.out | refine below_set ?_ GE269.out | refine below_set ?_ GE273.out) | exact HB.out)⟩
       (try clear HO_7)
       (try clear HO_270000)
       (try clear HO_270001)
       (try clear HO_270002)
       (try clear BK248)
       (try clear BK249)
       (try clear BK269)
       (try clear BK273)
       (try clear HB)
       generalize (((w41.setCell ⟨gb273, 0, none⟩ (.slice Ao42 x270000_2.length co42)).setCell ⟨gb273, 1, none⟩ (.slice Ao47 x270001_2.length co47)).setCell ⟨gb273, 2, none⟩ (.slice Ao48 x270002_2.length co48)) = w88 at n0_ n1_ n2_ n3_ n4_ n5_ n6_ n7_ n8_ ⊢
       have HO_7 := n0_
       have HO_270000 := n1_
       have HO_270001 := n2_
       have HO_270002 := n3_
       have BK248 := n4_
       have BK249 := n5_
       have BK269 := n6_
       have BK273 := n7_
       have HB := n8_
       clear n0_ n1_ n2_ n3_ n4_ n5_ n6_ n7_ n8_
       replace HO_7 := am (Kd.R_drew HO_7.out)
       replace HO_270000 := am (Kd.R_drew HO_270000.out)
       replace HO_270001 := am (Kd.R_drew HO_270001.out)
       replace HO_270002 := am (Kd.R_drew HO_270002.out)
       replace BK248 := am (blk_drew BK248.out)
       replace BK249 := am (blk_drew BK249.out)
       replace BK269 := am (blk_drew BK269.out)
       replace BK273 := am (blk_drew BK273.out)
       replace HB := am (below_drew1 HB.out)
       have p302 : 0 ≤ (x8_2 : Int) := of_decide_eq_true Q2
       have q302 : x8_2 < (l1.length : Int) := of_decide_eq_true Q2
       obtain ⟨ad302, A302_2, c302_2, e302, hx302_0, hx302_1, hx302_2, hl302_2, hi302_2⟩ := at_T77 HR1.out x8_2 p302 q302
       (try clear hx275_2)
       have hw302_2 := hx302_2
       have hw302_1 := hx302_1
       have hw302_0 := hx302_0
       obtain rfl : ad274 = ad302 := (by injection e302)
       replace hx302_0 := cm HB.out hx302_0
       replace hx302_1 := cm HB.out hx302_1
       replace hx302_2 := cm HB.out hx302_2
       have HR302_2 := am hi302_2
       have HC302_2 := am hl302_2
       clear hi302_2 hl302_2
       replace p302 := eq_true p302
       replace q302 := eq_true q302
       refine start_ (n := 12) (S := fun w' => w'.cell? ⟨gb269, 0, none⟩ = some (.slice Ao42 x270000_2.length co42) ∧ w'.cell? ⟨gb269, 1, none⟩ = some (.slice Ao47 x270001_2.length co47) ∧ w'.cell? ⟨gb269, 2, none⟩ = some (.slice Ao48 x270002_2.length co48) ∧ w'.cell? (ad274.add ((x8_2).toNat * 3)) = some (.int .i64 ((rd_T77 l1 x8_2).f0)) ∧ w'.cell? ⟨(ad274.add ((x8_2).toNat * 3)).block, (ad274.add ((x8_2).toNat * 3)).off + 1, none⟩ = some (.int .i64 ((rd_T77 l1 x8_2).f1)) ∧ w'.cell? ⟨(ad274.add ((x8_2).toNat * 3)).block, (ad274.add ((x8_2).toNat * 3)).off + 2, none⟩ = some (.slice A302_2 ((rd_T77 l1 x8_2).f2).length c302_2)) (ds := []) b0_12 kr rfl rfl ⟨(blk_cell BK269.out 0).trans rfl, (blk_cell BK269.out 1).trans rfl, (blk_cell BK269.out 2).trans rfl, (cm HB.out hw302_0), (cm HB.out hw302_1), (cm HB.out hw302_2)⟩ (fun hHeld => ?_); refine with_tabW spec_PlayConf.tab16 spec_PlayConf.bits16 (fun HT_ HW_ => ?_)
       generalize w88.drew = w89 at HO_7 HO_270000 HO_270001 HO_270002 BK248 BK249 BK269 BK273 HB HR302_2 hx302_0 hx302_1 hx302_2 hHeld ⊢
       refine pV 1 59 bx6 ?_
       refine pV 2 60 bx7 ?_
       refine pV 3 61 bx8 ?_
       refine pV 4 62 bx9 ?_
       refine tV 0 58 (bt 5 12) ?_
       refine tV 5 63 (bt 6 12) ?_
       refine one_ (i := 6) (N := some 64) b7_12 rfl rfl (one_of HT_.out kr) (by decide) (fun K hK => ?_)
       refine goes_ Try.func21 kr rfl #[.agg #[.slice Ao42 x270000_2.length co42, .slice Ao47 x270001_2.length co47, .slice Ao48 x270002_2.length co48], .int .i64 ((rd_T77 l1 x8_2).f1), .bool true] (by rfl) rfl rfl Q3 ?_
       with_reducible refine (spec_Learner.calls k2 _ _ x270000_2 _ _ x270001_2 _ _ x270002_2 ((rd_T77 l1 x8_2).f1) true t303 t306 t309 t312 _ ?side1 ?side2 ?side3 ?side4 ?side5 ?side6 A86.out).mono ?_
       (case side1 => exact u6_32)
       (case side2 => exact (Kd.R_reads' HO_270000.out).2.1)
       (case side3 => exact u6_33)
       (case side4 => exact (Kd.R_reads' HO_270001.out).2.1)
       (case side5 => exact u6_34)
       (case side6 => exact (Kd.R_reads' HO_270002.out).2.1)
       rintro e w90 ⟨v304, v307, v310, rfl, ho0, ho1, ho2, hb⟩
       refine ⟨_, rfl, ?_⟩
       replace HO_7 := am (Kd.R_below u6_37 hb)
       have HO305 := am (Kd.R_lower (Kd.R_new' (Kd.R_new' (Kd.R_new' ho0 (Kd.R_lt u6_14)) (Kd.R_lt u6_15)) (Kd.R_lt u6_16)) (below_size Q0))
       have HO308 := am (Kd.R_lower (Kd.R_new' (Kd.R_new' (Kd.R_new' ho1 (Kd.R_lt u6_14)) (Kd.R_lt u6_15)) (Kd.R_lt u6_16)) (below_size Q0))
       have HO311 := am (Kd.R_lower (Kd.R_new' (Kd.R_new' (Kd.R_new' ho2 (Kd.R_lt u6_14)) (Kd.R_lt u6_15)) (Kd.R_lt u6_16)) (below_size Q0))
       replace HO_270000 := am (Kd.R_mono (Kd.R_told (Kd.R_told (Kd.R_told (Kd.R_old u6_14 hb) (Kd.R_base ho0)) (Kd.R_base ho1)) (Kd.R_base ho2)) (fun _ h_ => h_.1))
       replace HO_270001 := am (Kd.R_mono (Kd.R_told (Kd.R_told (Kd.R_told (Kd.R_old u6_15 hb) (Kd.R_base ho0)) (Kd.R_base ho1)) (Kd.R_base ho2)) (fun _ h_ => h_.1))
       replace HO_270002 := am (Kd.R_mono (Kd.R_told (Kd.R_told (Kd.R_told (Kd.R_old u6_16 hb) (Kd.R_base ho0)) (Kd.R_base ho1)) (Kd.R_base ho2)) (fun _ h_ => h_.1))
       replace BK248 := am (blk_below (g := gb248) (o := .cells #[.slice A0_0 l0_0.length c0_0, .slice A0_1 l0_1.length c0_1, .slice A0_2 l0_2.length c0_2] 26 (0, 0)) u6_8 hb)
       replace BK249 := am (blk_below (g := gb249) (o := .cells #[.slice none 0 0, .slice none 0 0, .slice none 0 0] 26 (0, 0)) u6_9 hb)
       replace BK269 := am (blk_below (g := gb269) (o := .cells #[.slice Ao42 x270000_2.length co42, .slice Ao47 x270001_2.length co47, .slice Ao48 x270002_2.length co48] 26 (0, 0)) u6_27 hb)
       replace BK273 := am (blk_below (g := gb273) (o := .cells #[.slice Ao42 x270000_2.length co42, .slice Ao47 x270001_2.length co47, .slice Ao48 x270002_2.length co48] 26 (0, 0)) u6_43 hb)
       replace HB := am (below_step Q0 hb)
       (try clear hb)
       (try clear hb2)
       (try clear hk)
       (try clear hi)
       (try clear ho0)
       (try clear ho1)
       (try clear ho2)
       obtain ⟨Ao91, co91, eo91⟩ := Kd.R_slice HO305.out
       (first | subst eo91 | (injection eo91 with f1_ f2_ f3_; have f4_ := f1_.symm; have f5_ := f3_.symm; clear f1_ f2_ f3_; subst f4_; subst f5_))
       obtain ⟨Ao93, co93, eo93⟩ := Kd.R_slice HO308.out
       (first | subst eo93 | (injection eo93 with f1_ f2_ f3_; have f4_ := f1_.symm; have f5_ := f3_.symm; clear f1_ f2_ f3_; subst f4_; subst f5_))
       obtain ⟨Ao95, co95, eo95⟩ := Kd.R_slice HO311.out
       (first | subst eo95 | (injection eo95 with f1_ f2_ f3_; have f4_ := f1_.symm; have f5_ := f3_.symm; clear f1_ f2_ f3_; subst f4_; subst f5_))
       refine hK.out _ _ ⟨(blk_cell BK269.out 0).trans rfl, (blk_cell BK269.out 1).trans rfl, (blk_cell BK269.out 2).trans rfl, (cm HB.out hw302_0), (cm HB.out hw302_1), (cm HB.out hw302_2)⟩ (fun hHeld => ?_)
       clear hK K
       refine norm_ (a' := ?_) ?_ ?_
       rotate_left
       · show Act.put _ (some 64) _ = _
         simp only [Act.put, la, lb, lc, i64_w, i32_w]
         rfl
       refine pV 7 57 (bt 8 12) ?_
       refine pV 8 65 (bt 9 12) ?_
       refine pV 9 66 (bt 10 12) ?_
       refine one_ (i := 10) (N := none) b11_12 rfl rfl (one_of HT_.out kr) (by decide) (fun K hK => ?_)
       have hs92 : w90.cell? ⟨gb273, 0, none⟩ = some (.slice Ao42 x270000_2.length co42) := (blk_cell BK273.out 0).trans rfl
       have hfs92 := blk_frozen BK273.out 0
       have hns92_0 := NB248_273.out
       have hns92_1 := NB249_273.out
       have hns92_2 := NB269_273.out
       have hms92_0 := NB273_248.out
       have hms92_1 := NB273_249.out
       have hms92_2 := NB273_269.out
       have hs94 : w90.cell? ⟨gb273, 1, none⟩ = some (.slice Ao47 x270001_2.length co47) := (blk_cell BK273.out 1).trans rfl
       have hfs94 := blk_frozen BK273.out 1
       have hns94_0 := NB248_273.out
       have hns94_1 := NB249_273.out
       have hns94_2 := NB269_273.out
       have hms94_0 := NB273_248.out
       have hms94_1 := NB273_249.out
       have hms94_2 := NB273_269.out
       have hs96 : w90.cell? ⟨gb273, 2, none⟩ = some (.slice Ao48 x270002_2.length co48) := (blk_cell BK273.out 2).trans rfl
       have hfs96 := blk_frozen BK273.out 2
       have hns96_0 := NB248_273.out
       have hns96_1 := NB249_273.out
       have hns96_2 := NB269_273.out
       have hms96_0 := NB273_248.out
       have hms96_1 := NB273_249.out
       have hms96_2 := NB273_269.out
       refine skip_ (w1 := ?_) (by rfl) rfl ?_ ?_
       rotate_left
       · go_simp
         rfl
       refine hK.out _ _ ⟨((cell_far (p := ⟨gb273, _, none⟩) NB269_273.out _).trans (((cell_far (p := ⟨gb273, _, none⟩) NB269_273.out _).trans (((cell_far (p := ⟨gb273, _, none⟩) NB269_273.out _).trans (hHeld.1)))))), ((cell_far (p := ⟨gb273, _, none⟩) NB269_273.out _).trans (((cell_far (p := ⟨gb273, _, none⟩) NB269_273.out _).trans (((cell_far (p := ⟨gb273, _, none⟩) NB269_273.out _).trans (hHeld.2.1)))))), ((cell_far (p := ⟨gb273, _, none⟩) NB269_273.out _).trans (((cell_far (p := ⟨gb273, _, none⟩) NB269_273.out _).trans (((cell_far (p := ⟨gb273, _, none⟩) NB269_273.out _).trans (hHeld.2.2.1)))))), ((cell_far (p := ⟨gb273, _, none⟩) u6_21 _).trans (((cell_far (p := ⟨gb273, _, none⟩) u6_21 _).trans (((cell_far (p := ⟨gb273, _, none⟩) u6_21 _).trans (hHeld.2.2.2.1)))))), ((cell_far (p := ⟨gb273, _, none⟩) u6_22 _).trans (((cell_far (p := ⟨gb273, _, none⟩) u6_22 _).trans (((cell_far (p := ⟨gb273, _, none⟩) u6_22 _).trans (hHeld.2.2.2.2.1)))))), ((cell_far (p := ⟨gb273, _, none⟩) u6_23 _).trans (((cell_far (p := ⟨gb273, _, none⟩) u6_23 _).trans (((cell_far (p := ⟨gb273, _, none⟩) u6_23 _).trans (hHeld.2.2.2.2.2))))))⟩ (fun hHeld => ?_)
       clear hK K
       refine pV 11 9 (bt 12 12) ?_
       refine done_ (done_of HT_.out kr) ?_
       have hnb97 := NB273_248.out
       have hnc97 := NB248_273.out
       have hnb98 := NB273_249.out
       have hnc98 := NB249_273.out
       have hnb99 := NB273_269.out
       have hnc99 := NB269_273.out
       obtain ⟨hcz100_0, hcz100_1, hcz100_2, hfz100_0, hfz100_1, hfz100_2⟩ := bc3f w90 BK273.out
       have hnb101 := NB269_248.out
       have hnc101 := NB248_269.out
       have hnb102 := NB269_249.out
       have hnc102 := NB249_269.out
       obtain ⟨hcz103_0, hcz103_1, hcz103_2, hfz103_0, hfz103_1, hfz103_2⟩ := bc3f w90 BK269.out
       try go_wp2_with (first | ((with_reducible refine gate_builtin (b := .append) (xs := #[.tmp 80, .tmp 82]) rfl ?_); (try (refine gate_guard (by rfl) ?_; dsimp only)); at_builtin; refine Kd.R_append Kd.bool (w0 := w) w.heap.size rfl (.tmp 80) (.tmp 82) 48 4 (.bool false) 1 rfl Try.underlying48 info4 rfl (by decide) (by omega) u7 x7_2 t312 [.bool t312] (fun _ => True) (fun _ => False) rfl u6_45 ?aP (fun _ hk => hk.elim) ?aF ?aO ?aB ?aS ?aL ?_; (case aP => exact rfl); (case aB => exact Q0); (case aF => exact (fun _ _ => trivial)); (case aO => exact (by (with_reducible repeat (first | apply Kd.R_alloc | apply Kd.R_drewN | apply Kd.R_drew)); exact Kd.R_mono (Kd.R_far (p := ⟨gb269, 2, none⟩) (Kd.R_far (p := ⟨gb269, 1, none⟩) (Kd.R_far (p := ⟨gb269, 0, none⟩) (Kd.R_far (p := ⟨gb273, 2, none⟩) (Kd.R_far (p := ⟨gb273, 1, none⟩) (Kd.R_far (p := ⟨gb273, 0, none⟩) (Kd.R_types (Kd.R_types HO_7.out BK273.out (by decide)) BK269.out (by decide)) (fun _ hk => hk.1.2) (.slice Ao91 t303.length co91)) (fun _ hk => hk.1.2) (.slice Ao93 t306.length co93)) (fun _ hk => hk.1.2) (.slice Ao95 t309.length co95)) (fun _ hk => hk.2) (.slice Ao91 t303.length co91)) (fun _ hk => hk.2) (.slice Ao93 t306.length co93)) (fun _ hk => hk.2) (.slice Ao95 t309.length co95)) (fun _ hk => trivial))); (case aS => exact (below_size Q0)); (case aL => have := LMc87.out; omega); intro v314 w104 ho hb hg hat; rw [← Ny313.out] at ho; replace HO_270000 := am (Kd.R_over' (by (with_reducible repeat (first | apply Kd.R_alloc | apply Kd.R_drewN | apply Kd.R_drew)); exact (Kd.R_mono (Kd.R_mono (Kd.R_far (p := ⟨gb269, 2, none⟩) (Kd.R_far (p := ⟨gb269, 1, none⟩) (Kd.R_far (p := ⟨gb269, 0, none⟩) (Kd.R_far (p := ⟨gb273, 2, none⟩) (Kd.R_far (p := ⟨gb273, 1, none⟩) (Kd.R_far (p := ⟨gb273, 0, none⟩) (Kd.R_types (Kd.R_types HO_270000.out BK273.out (by decide)) BK269.out (by decide)) (fun _ hk => hk.1.2) (.slice Ao91 t303.length co91)) (fun _ hk => hk.1.2) (.slice Ao93 t306.length co93)) (fun _ hk => hk.1.2) (.slice Ao95 t309.length co95)) (fun _ hk => hk.2) (.slice Ao91 t303.length co91)) (fun _ hk => hk.2) (.slice Ao93 t306.length co93)) (fun _ hk => hk.2) (.slice Ao95 t309.length co95)) (fun _ h_ => h_.1)) (fun _ h_ => h_.1))) (Kd.R_typed u6_6) (by decide) hg); replace HO_270001 := am (Kd.R_over' (by (with_reducible repeat (first | apply Kd.R_alloc | apply Kd.R_drewN | apply Kd.R_drew)); exact (Kd.R_mono (Kd.R_mono (Kd.R_far (p := ⟨gb269, 2, none⟩) (Kd.R_far (p := ⟨gb269, 1, none⟩) (Kd.R_far (p := ⟨gb269, 0, none⟩) (Kd.R_far (p := ⟨gb273, 2, none⟩) (Kd.R_far (p := ⟨gb273, 1, none⟩) (Kd.R_far (p := ⟨gb273, 0, none⟩) (Kd.R_types (Kd.R_types HO_270001.out BK273.out (by decide)) BK269.out (by decide)) (fun _ hk => hk.1.2) (.slice Ao91 t303.length co91)) (fun _ hk => hk.1.2) (.slice Ao93 t306.length co93)) (fun _ hk => hk.1.2) (.slice Ao95 t309.length co95)) (fun _ hk => hk.2) (.slice Ao91 t303.length co91)) (fun _ hk => hk.2) (.slice Ao93 t306.length co93)) (fun _ hk => hk.2) (.slice Ao95 t309.length co95)) (fun _ h_ => h_.1)) (fun _ h_ => h_.1))) (Kd.R_typed u6_6) (by decide) hg); replace HO_270002 := am (Kd.R_over' (by (with_reducible repeat (first | apply Kd.R_alloc | apply Kd.R_drewN | apply Kd.R_drew)); exact (Kd.R_mono (Kd.R_mono (Kd.R_far (p := ⟨gb269, 2, none⟩) (Kd.R_far (p := ⟨gb269, 1, none⟩) (Kd.R_far (p := ⟨gb269, 0, none⟩) (Kd.R_far (p := ⟨gb273, 2, none⟩) (Kd.R_far (p := ⟨gb273, 1, none⟩) (Kd.R_far (p := ⟨gb273, 0, none⟩) (Kd.R_types (Kd.R_types HO_270002.out BK273.out (by decide)) BK269.out (by decide)) (fun _ hk => hk.1.2) (.slice Ao91 t303.length co91)) (fun _ hk => hk.1.2) (.slice Ao93 t306.length co93)) (fun _ hk => hk.1.2) (.slice Ao95 t309.length co95)) (fun _ hk => hk.2) (.slice Ao91 t303.length co91)) (fun _ hk => hk.2) (.slice Ao93 t306.length co93)) (fun _ hk => hk.2) (.slice Ao95 t309.length co95)) (fun _ h_ => h_.1)) (fun _ h_ => h_.1))) (Kd.R_typed u6_6) (by decide) hg); replace BK248 := am (blk_grown (g := gb248) (o := .cells #[.slice A0_0 l0_0.length c0_0, .slice A0_1 l0_1.length c0_1, .slice A0_2 l0_2.length c0_2] 26 (0, 0)) u6_2 hg (Kd.R_ne HO_7.out BK248.out (by decide))); replace BK249 := am (blk_grown (g := gb249) (o := .cells #[.slice none 0 0, .slice none 0 0, .slice none 0 0] 26 (0, 0)) u6_3 hg (Kd.R_ne HO_7.out BK249.out (by decide))); replace HO305 := am (Kd.R_over' (by (with_reducible repeat (first | apply Kd.R_alloc | apply Kd.R_drewN | apply Kd.R_drew)); exact (Kd.R_mono (Kd.R_mono (Kd.R_far (p := ⟨gb269, 2, none⟩) (Kd.R_far (p := ⟨gb269, 1, none⟩) (Kd.R_far (p := ⟨gb269, 0, none⟩) (Kd.R_far (p := ⟨gb273, 2, none⟩) (Kd.R_far (p := ⟨gb273, 1, none⟩) (Kd.R_far (p := ⟨gb273, 0, none⟩) (Kd.R_types (Kd.R_types HO305.out BK273.out (by decide)) BK269.out (by decide)) (fun _ hk => hk.1.2) (.slice Ao91 t303.length co91)) (fun _ hk => hk.1.2) (.slice Ao93 t306.length co93)) (fun _ hk => hk.1.2) (.slice Ao95 t309.length co95)) (fun _ hk => hk.2) (.slice Ao91 t303.length co91)) (fun _ hk => hk.2) (.slice Ao93 t306.length co93)) (fun _ hk => hk.2) (.slice Ao95 t309.length co95)) (fun _ h_ => h_.1)) (fun _ h_ => h_.1))) (Kd.R_typed u6_6) (by decide) hg); replace HO308 := am (Kd.R_over' (by (with_reducible repeat (first | apply Kd.R_alloc | apply Kd.R_drewN | apply Kd.R_drew)); exact (Kd.R_mono (Kd.R_mono (Kd.R_far (p := ⟨gb269, 2, none⟩) (Kd.R_far (p := ⟨gb269, 1, none⟩) (Kd.R_far (p := ⟨gb269, 0, none⟩) (Kd.R_far (p := ⟨gb273, 2, none⟩) (Kd.R_far (p := ⟨gb273, 1, none⟩) (Kd.R_far (p := ⟨gb273, 0, none⟩) (Kd.R_types (Kd.R_types HO308.out BK273.out (by decide)) BK269.out (by decide)) (fun _ hk => hk.1.2) (.slice Ao91 t303.length co91)) (fun _ hk => hk.1.2) (.slice Ao93 t306.length co93)) (fun _ hk => hk.1.2) (.slice Ao95 t309.length co95)) (fun _ hk => hk.2) (.slice Ao91 t303.length co91)) (fun _ hk => hk.2) (.slice Ao93 t306.length co93)) (fun _ hk => hk.2) (.slice Ao95 t309.length co95)) (fun _ h_ => h_.1)) (fun _ h_ => h_.1))) (Kd.R_typed u6_6) (by decide) hg); replace HO311 := am (Kd.R_over' (by (with_reducible repeat (first | apply Kd.R_alloc | apply Kd.R_drewN | apply Kd.R_drew)); exact (Kd.R_mono (Kd.R_mono (Kd.R_far (p := ⟨gb269, 2, none⟩) (Kd.R_far (p := ⟨gb269, 1, none⟩) (Kd.R_far (p := ⟨gb269, 0, none⟩) (Kd.R_far (p := ⟨gb273, 2, none⟩) (Kd.R_far (p := ⟨gb273, 1, none⟩) (Kd.R_far (p := ⟨gb273, 0, none⟩) (Kd.R_types (Kd.R_types HO311.out BK273.out (by decide)) BK269.out (by decide)) (fun _ hk => hk.1.2) (.slice Ao91 t303.length co91)) (fun _ hk => hk.1.2) (.slice Ao93 t306.length co93)) (fun _ hk => hk.1.2) (.slice Ao95 t309.length co95)) (fun _ hk => hk.2) (.slice Ao91 t303.length co91)) (fun _ hk => hk.2) (.slice Ao93 t306.length co93)) (fun _ hk => hk.2) (.slice Ao95 t309.length co95)) (fun _ h_ => h_.1)) (fun _ h_ => h_.1))) (Kd.R_typed u6_6) (by decide) hg); replace BK269 := am (blk_grown (g := gb269) (o := .cells #[.slice Ao91 t303.length co91, .slice Ao93 t306.length co93, .slice Ao95 t309.length co95] 26 (0, 0)) (by (with_reducible repeat (first | refine blk_drewN ?_ _ | refine blk_drew ?_ | refine blk_alloc ?_ _)); refine blk_put (cs := #[.slice Ao91 t303.length co91, .slice Ao93 t306.length co93, .slice Ao48 x270002_2.length co48]) ?_ 2 _ rfl; (with_reducible repeat (first | refine blk_drewN ?_ _ | refine blk_drew ?_ | refine blk_alloc ?_ _)); refine blk_put (cs := #[.slice Ao91 t303.length co91, .slice Ao47 x270001_2.length co47, .slice Ao48 x270002_2.length co48]) ?_ 1 _ rfl; (with_reducible repeat (first | refine blk_drewN ?_ _ | refine blk_drew ?_ | refine blk_alloc ?_ _)); refine blk_put (cs := #[.slice Ao42 x270000_2.length co42, .slice Ao47 x270001_2.length co47, .slice Ao48 x270002_2.length co48]) ?_ 0 _ rfl; (with_reducible repeat (first | refine blk_drewN ?_ _ | refine blk_drew ?_ | refine blk_alloc ?_ _)); refine blk_far ?_ NB269_273.out _; (with_reducible repeat (first | refine blk_drewN ?_ _ | refine blk_drew ?_ | refine blk_alloc ?_ _)); refine blk_far ?_ NB269_273.out _; (with_reducible repeat (first | refine blk_drewN ?_ _ | refine blk_drew ?_ | refine blk_alloc ?_ _)); refine blk_far ?_ NB269_273.out _; (with_reducible repeat (first | refine blk_drewN ?_ _ | refine blk_drew ?_ | refine blk_alloc ?_ _)); exact BK269.out) hg (Kd.R_ne HO_7.out BK269.out (by decide))); replace BK273 := am (blk_grown (g := gb273) (o := .cells #[.slice Ao91 t303.length co91, .slice Ao93 t306.length co93, .slice Ao95 t309.length co95] 26 (0, 0)) (by (with_reducible repeat (first | refine blk_drewN ?_ _ | refine blk_drew ?_ | refine blk_alloc ?_ _)); refine blk_far ?_ NB273_269.out _; (with_reducible repeat (first | refine blk_drewN ?_ _ | refine blk_drew ?_ | refine blk_alloc ?_ _)); refine blk_far ?_ NB273_269.out _; (with_reducible repeat (first | refine blk_drewN ?_ _ | refine blk_drew ?_ | refine blk_alloc ?_ _)); refine blk_far ?_ NB273_269.out _; (with_reducible repeat (first | refine blk_drewN ?_ _ | refine blk_drew ?_ | refine blk_alloc ?_ _)); refine blk_put (cs := #[.slice Ao91 t303.length co91, .slice Ao93 t306.length co93, .slice Ao48 x270002_2.length co48]) ?_ 2 _ rfl; (with_reducible repeat (first | refine blk_drewN ?_ _ | refine blk_drew ?_ | refine blk_alloc ?_ _)); refine blk_put (cs := #[.slice Ao91 t303.length co91, .slice Ao47 x270001_2.length co47, .slice Ao48 x270002_2.length co48]) ?_ 1 _ rfl; (with_reducible repeat (first | refine blk_drewN ?_ _ | refine blk_drew ?_ | refine blk_alloc ?_ _)); refine blk_put (cs := #[.slice Ao42 x270000_2.length co42, .slice Ao47 x270001_2.length co47, .slice Ao48 x270002_2.length co48]) ?_ 0 _ rfl; (with_reducible repeat (first | refine blk_drewN ?_ _ | refine blk_drew ?_ | refine blk_alloc ?_ _)); exact BK273.out) hg (Kd.R_ne HO_7.out BK273.out (by decide))); replace HB := am (hb); have HO315 := am (ho); clear HO_7; clear ho hb hg hat))
       go_roundg k2
       case measure => have := HJ2.out; have := HK2.out; omega
       case rel => exact ⟨(y313), (wrap64 (x8_2 + 1)), (t303), (t306), (t309), (.slice Ao91 t303.length co91), (.slice Ao93 t306.length co93), (.slice Ao95 t309.length co95), Q1, H', ⟨u6_46⟩, ⟨(by (with_reducible repeat (first | apply Kd.R_alloc | apply Kd.R_drewN | apply Kd.R_drew)); exact HO315.out)⟩, ⟨(by (with_reducible repeat (first | apply Kd.R_alloc | apply Kd.R_drewN | apply Kd.R_drew)); exact Kd.R_mono HO305.out (fun _ hk => ⟨hk.1.1.1.1, hk.1.1.1.2⟩))⟩, ⟨(by (with_reducible repeat (first | apply Kd.R_alloc | apply Kd.R_drewN | apply Kd.R_drew)); exact Kd.R_mono HO308.out (fun _ hk => ⟨hk.1.1.1.1, hk.1.1.1.2⟩))⟩, ⟨(by (with_reducible repeat (first | apply Kd.R_alloc | apply Kd.R_drewN | apply Kd.R_drew)); exact Kd.R_mono HO311.out (fun _ hk => ⟨hk.1.1.1.1, hk.1.1.1.2⟩))⟩, ⟨u6_8⟩, ⟨u6_9⟩, ⟨u6_27⟩, ⟨Q0⟩⟩
     rw [if_neg c85] at H
     have c85b0 : (((rd_T77 l1 x8_2).f0) == 2) = false := beq_eq_false_iff_ne.mpr c85
     have c85b1 : (((rd_T77 l1 x8_2).f0) != 2) = true := bne_iff_ne.mpr c85
     by_cases c105 : ((rd_T77 l1 x8_2).f0) = 3
     rotate_left
     · rw [if_neg c105] at H
       have c105b0 : (((rd_T77 l1 x8_2).f0) == 3) = false := beq_eq_false_iff_ne.mpr c105
       have c105b1 : (((rd_T77 l1 x8_2).f0) != 3) = true := bne_iff_ne.mpr c105
       by_cases c125 : x7_2.length < 140737488355328
       rotate_left
       · rw [if_neg c125] at H
         exact absurd H (by simp)
       rw [if_pos c125] at H
       have LMc125 := am c125
       clear c125
       obtain ⟨y330, hy330⟩ : ∃ y_ : List Bool, y_ = (x7_2 ++ [false]) := ⟨_, rfl⟩
       replace H : (spec_PlayConf.l0 k2 l1 y330 (wrap64 (x8_2 + 1)) x270000_2 x270001_2 x270002_2) = some (r1, r2, r3, r4) := by first | (rw [hy330]; with_reducible exact H) | (have H2_ := (Option.bind_some _ _).symm.trans H; rw [hy330]; with_reducible exact H2_) | (have H2_ := (Option.bind_some _ _).symm.trans H; with_reducible exact H2_) | with_reducible exact H | (rw [hy330]; exact H) | exact H
       have Ny330 := am hy330
       clear hy330
       have H' := am H
       clear H
       have hnb126 := NB273_248.out
       have hnc126 := NB248_273.out
       have hnb127 := NB273_249.out
       have hnc127 := NB249_273.out
       have hnb128 := NB273_269.out
       have hnc128 := NB269_273.out
       obtain ⟨hcz129_0, hcz129_1, hcz129_2, hfz129_0, hfz129_1, hfz129_2⟩ := bc3f w41 BK273.out
       have hnb130 := NB269_248.out
       have hnc130 := NB248_269.out
       have hnb131 := NB269_249.out
       have hnc131 := NB249_269.out
       obtain ⟨hcz132_0, hcz132_1, hcz132_2, hfz132_0, hfz132_1, hfz132_2⟩ := bc3f w41 BK269.out
       go_wp2_with (first | ((with_reducible refine gate_builtin (b := .append) (xs := #[.tmp 80, .tmp 82]) rfl ?_); (try (refine gate_guard (by rfl) ?_; dsimp only)); at_builtin; refine Kd.R_append Kd.bool (w0 := w) w.heap.size rfl (.tmp 80) (.tmp 82) 48 4 (.bool false) 1 rfl Try.underlying48 info4 rfl (by decide) (by omega) u7 x7_2 false [.bool false] (fun _ => True) (fun _ => False) rfl u6_45 ?aP (fun _ hk => hk.elim) ?aF ?aO ?aB ?aS ?aL ?_; (case aP => exact rfl); (case aB => exact Q0); (case aF => exact (fun _ _ => trivial)); (case aO => exact (by (with_reducible repeat (first | apply Kd.R_alloc | apply Kd.R_drewN | apply Kd.R_drew)); exact Kd.R_mono (Kd.R_far (p := ⟨gb269, 2, none⟩) (Kd.R_far (p := ⟨gb269, 1, none⟩) (Kd.R_far (p := ⟨gb269, 0, none⟩) (Kd.R_far (p := ⟨gb273, 2, none⟩) (Kd.R_far (p := ⟨gb273, 1, none⟩) (Kd.R_far (p := ⟨gb273, 0, none⟩) (Kd.R_types (Kd.R_types HO_7.out BK273.out (by decide)) BK269.out (by decide)) (fun _ hk => hk.1.2) (.slice Ao42 x270000_2.length co42)) (fun _ hk => hk.1.2) (.slice Ao47 x270001_2.length co47)) (fun _ hk => hk.1.2) (.slice Ao48 x270002_2.length co48)) (fun _ hk => hk.2) (.slice Ao42 x270000_2.length co42)) (fun _ hk => hk.2) (.slice Ao47 x270001_2.length co47)) (fun _ hk => hk.2) (.slice Ao48 x270002_2.length co48)) (fun _ hk => trivial))); (case aS => exact (below_size Q0)); (case aL => have := LMc125.out; omega); intro v331 w133 ho hb hg hat; rw [← Ny330.out] at ho; replace HO_270000 := am (Kd.R_over' (by (with_reducible repeat (first | apply Kd.R_alloc | apply Kd.R_drewN | apply Kd.R_drew)); exact (Kd.R_mono (Kd.R_mono (Kd.R_far (p := ⟨gb269, 2, none⟩) (Kd.R_far (p := ⟨gb269, 1, none⟩) (Kd.R_far (p := ⟨gb269, 0, none⟩) (Kd.R_far (p := ⟨gb273, 2, none⟩) (Kd.R_far (p := ⟨gb273, 1, none⟩) (Kd.R_far (p := ⟨gb273, 0, none⟩) (Kd.R_types (Kd.R_types HO_270000.out BK273.out (by decide)) BK269.out (by decide)) (fun _ hk => hk.1.2) (.slice Ao42 x270000_2.length co42)) (fun _ hk => hk.1.2) (.slice Ao47 x270001_2.length co47)) (fun _ hk => hk.1.2) (.slice Ao48 x270002_2.length co48)) (fun _ hk => hk.2) (.slice Ao42 x270000_2.length co42)) (fun _ hk => hk.2) (.slice Ao47 x270001_2.length co47)) (fun _ hk => hk.2) (.slice Ao48 x270002_2.length co48)) (fun _ h_ => h_.1)) (fun _ h_ => h_.1))) (Kd.R_typed u6_13) (by decide) hg); replace HO_270001 := am (Kd.R_over' (by (with_reducible repeat (first | apply Kd.R_alloc | apply Kd.R_drewN | apply Kd.R_drew)); exact (Kd.R_mono (Kd.R_mono (Kd.R_far (p := ⟨gb269, 2, none⟩) (Kd.R_far (p := ⟨gb269, 1, none⟩) (Kd.R_far (p := ⟨gb269, 0, none⟩) (Kd.R_far (p := ⟨gb273, 2, none⟩) (Kd.R_far (p := ⟨gb273, 1, none⟩) (Kd.R_far (p := ⟨gb273, 0, none⟩) (Kd.R_types (Kd.R_types HO_270001.out BK273.out (by decide)) BK269.out (by decide)) (fun _ hk => hk.1.2) (.slice Ao42 x270000_2.length co42)) (fun _ hk => hk.1.2) (.slice Ao47 x270001_2.length co47)) (fun _ hk => hk.1.2) (.slice Ao48 x270002_2.length co48)) (fun _ hk => hk.2) (.slice Ao42 x270000_2.length co42)) (fun _ hk => hk.2) (.slice Ao47 x270001_2.length co47)) (fun _ hk => hk.2) (.slice Ao48 x270002_2.length co48)) (fun _ h_ => h_.1)) (fun _ h_ => h_.1))) (Kd.R_typed u6_13) (by decide) hg); replace HO_270002 := am (Kd.R_over' (by (with_reducible repeat (first | apply Kd.R_alloc | apply Kd.R_drewN | apply Kd.R_drew)); exact (Kd.R_mono (Kd.R_mono (Kd.R_far (p := ⟨gb269, 2, none⟩) (Kd.R_far (p := ⟨gb269, 1, none⟩) (Kd.R_far (p := ⟨gb269, 0, none⟩) (Kd.R_far (p := ⟨gb273, 2, none⟩) (Kd.R_far (p := ⟨gb273, 1, none⟩) (Kd.R_far (p := ⟨gb273, 0, none⟩) (Kd.R_types (Kd.R_types HO_270002.out BK273.out (by decide)) BK269.out (by decide)) (fun _ hk => hk.1.2) (.slice Ao42 x270000_2.length co42)) (fun _ hk => hk.1.2) (.slice Ao47 x270001_2.length co47)) (fun _ hk => hk.1.2) (.slice Ao48 x270002_2.length co48)) (fun _ hk => hk.2) (.slice Ao42 x270000_2.length co42)) (fun _ hk => hk.2) (.slice Ao47 x270001_2.length co47)) (fun _ hk => hk.2) (.slice Ao48 x270002_2.length co48)) (fun _ h_ => h_.1)) (fun _ h_ => h_.1))) (Kd.R_typed u6_13) (by decide) hg); replace BK248 := am (blk_grown (g := gb248) (o := .cells #[.slice A0_0 l0_0.length c0_0, .slice A0_1 l0_1.length c0_1, .slice A0_2 l0_2.length c0_2] 26 (0, 0)) u6_2 hg (Kd.R_ne HO_7.out BK248.out (by decide))); replace BK249 := am (blk_grown (g := gb249) (o := .cells #[.slice none 0 0, .slice none 0 0, .slice none 0 0] 26 (0, 0)) u6_3 hg (Kd.R_ne HO_7.out BK249.out (by decide))); replace BK269 := am (blk_grown (g := gb269) (o := .cells #[.slice Ao42 x270000_2.length co42, .slice Ao47 x270001_2.length co47, .slice Ao48 x270002_2.length co48] 26 (0, 0)) (by (with_reducible repeat (first | refine blk_drewN ?_ _ | refine blk_drew ?_ | refine blk_alloc ?_ _)); refine blk_put (cs := #[.slice Ao42 x270000_2.length co42, .slice Ao47 x270001_2.length co47, .slice Ao48 x270002_2.length co48]) ?_ 2 _ rfl; (with_reducible repeat (first | refine blk_drewN ?_ _ | refine blk_drew ?_ | refine blk_alloc ?_ _)); refine blk_put (cs := #[.slice Ao42 x270000_2.length co42, .slice Ao47 x270001_2.length co47, .slice Ao48 x270002_2.length co48]) ?_ 1 _ rfl; (with_reducible repeat (first | refine blk_drewN ?_ _ | refine blk_drew ?_ | refine blk_alloc ?_ _)); refine blk_put (cs := #[.slice Ao42 x270000_2.length co42, .slice Ao47 x270001_2.length co47, .slice Ao48 x270002_2.length co48]) ?_ 0 _ rfl; (with_reducible repeat (first | refine blk_drewN ?_ _ | refine blk_drew ?_ | refine blk_alloc ?_ _)); refine blk_far ?_ NB269_273.out _; (with_reducible repeat (first | refine blk_drewN ?_ _ | refine blk_drew ?_ | refine blk_alloc ?_ _)); refine blk_far ?_ NB269_273.out _; (with_reducible repeat (first | refine blk_drewN ?_ _ | refine blk_drew ?_ | refine blk_alloc ?_ _)); refine blk_far ?_ NB269_273.out _; (with_reducible repeat (first | refine blk_drewN ?_ _ | refine blk_drew ?_ | refine blk_alloc ?_ _)); exact BK269.out) hg (Kd.R_ne HO_7.out BK269.out (by decide))); replace BK273 := am (blk_grown (g := gb273) (o := .cells #[.slice Ao42 x270000_2.length co42, .slice Ao47 x270001_2.length co47, .slice Ao48 x270002_2.length co48] 26 (0, 0)) (by (with_reducible repeat (first | refine blk_drewN ?_ _ | refine blk_drew ?_ | refine blk_alloc ?_ _)); refine blk_far ?_ NB273_269.out _; (with_reducible repeat (first | refine blk_drewN ?_ _ | refine blk_drew ?_ | refine blk_alloc ?_ _)); refine blk_far ?_ NB273_269.out _; (with_reducible repeat (first | refine blk_drewN ?_ _ | refine blk_drew ?_ | refine blk_alloc ?_ _)); refine blk_far ?_ NB273_269.out _; (with_reducible repeat (first | refine blk_drewN ?_ _ | refine blk_drew ?_ | refine blk_alloc ?_ _)); refine blk_put (cs := #[.slice Ao42 x270000_2.length co42, .slice Ao47 x270001_2.length co47, .slice none 0 0]) ?_ 2 _ rfl; (with_reducible repeat (first | refine blk_drewN ?_ _ | refine blk_drew ?_ | refine blk_alloc ?_ _)); refine blk_put (cs := #[.slice Ao42 x270000_2.length co42, .slice none 0 0, .slice none 0 0]) ?_ 1 _ rfl; (with_reducible repeat (first | refine blk_drewN ?_ _ | refine blk_drew ?_ | refine blk_alloc ?_ _)); refine blk_put (cs := #[.slice none 0 0, .slice none 0 0, .slice none 0 0]) ?_ 0 _ rfl; (with_reducible repeat (first | refine blk_drewN ?_ _ | refine blk_drew ?_ | refine blk_alloc ?_ _)); exact BK273.out) hg (Kd.R_ne HO_7.out BK273.out (by decide))); replace HB := am (hb); have HO332 := am (ho); clear HO_7; clear ho hb hg hat))
       go_roundg k2
       case measure => have := HJ2.out; have := HK2.out; omega
       case rel => exact ⟨(y330), (wrap64 (x8_2 + 1)), (x270000_2), (x270001_2), (x270002_2), (.slice Ao42 x270000_2.length co42), (.slice Ao47 x270001_2.length co47), (.slice Ao48 x270002_2.length co48), Q1, H', ⟨u6_46⟩, ⟨(by (with_reducible repeat (first | apply Kd.R_alloc | apply Kd.R_drewN | apply Kd.R_drew)); exact HO332.out)⟩, ⟨u6_14⟩, ⟨u6_15⟩, ⟨u6_16⟩, ⟨u6_8⟩, ⟨u6_9⟩, ⟨u6_27⟩, ⟨Q0⟩⟩
     rw [if_pos c105] at H
     have c105b0 : (((rd_T77 l1 x8_2).f0) == 3) = true := beq_iff_eq.mpr c105
     have c105b1 : (((rd_T77 l1 x8_2).f0) != 3) = false := bne_eq_false_iff_eq.mpr c105
     clear c105
     replace H := Option.bind_eq_some_iff.mp H
     obtain ⟨⟨t317, t320, t323, t326⟩, A1060, H⟩ := H
     (try dsimp only at H)
     have A106 := am A1060
     clear A1060
     by_cases c107 : x7_2.length < 140737488355328
     rotate_left
     · rw [if_neg c107] at H
       exact absurd H (by simp)
     rw [if_pos c107] at H
     have LMc107 := am c107
     clear c107
     obtain ⟨y327, hy327⟩ : ∃ y_ : List Bool, y_ = (x7_2 ++ [t326]) := ⟨_, rfl⟩
     replace H : (spec_PlayConf.l0 k2 l1 y327 (wrap64 (x8_2 + 1)) t317 t320 t323) = some (r1, r2, r3, r4) := by first | (rw [hy327]; with_reducible exact H) | (have H2_ := (Option.bind_some _ _).symm.trans H; rw [hy327]; with_reducible exact H2_) | (have H2_ := (Option.bind_some _ _).symm.trans H; with_reducible exact H2_) | with_reducible exact H | (rw [hy327]; exact H) | exact H
     have Ny327 := am hy327
     clear hy327
     have H' := am H
     clear H
     try go_wp2
     have n0_ : Aside0 (Kd.R Kd.bool 4 (((w41.setCell ⟨gb273, 0, none⟩ (.slice Ao42 x270000_2.length co42)).setCell ⟨gb273, 1, none⟩ (.slice Ao47 x270001_2.length co47)).setCell ⟨gb273, 2, none⟩ (.slice Ao48 x270002_2.length co48)) w.heap.size (fun _ => True) u7 x7_2) := ⟨by (with_reducible repeat (first | apply Kd.R_alloc | apply Kd.R_drewN | apply Kd.R_drew)); exact Kd.R_mono (Kd.R_far (p := ⟨gb273, 2, none⟩) (Kd.R_far (p := ⟨gb273, 1, none⟩) (Kd.R_far (p := ⟨gb273, 0, none⟩) (Kd.R_types HO_7.out BK273.out (by decide)) (fun _ hk => hk.2) (.slice Ao42 x270000_2.length co42)) (fun _ hk => hk.2) (.slice Ao47 x270001_2.length co47)) (fun _ hk => hk.2) (.slice Ao48 x270002_2.length co48)) (fun _ hk => trivial)⟩
     have n1_ : Aside0 (Kd.R (Kd.int .i64) 3 (((w41.setCell ⟨gb273, 0, none⟩ (.slice Ao42 x270000_2.length co42)).setCell ⟨gb273, 1, none⟩ (.slice Ao47 x270001_2.length co47)).setCell ⟨gb273, 2, none⟩ (.slice Ao48 x270002_2.length co48)) w.heap.size (fun k_ => some k_ ≠ (.slice Ao47 x270001_2.length co47 : Value).ownBlock ∧ some k_ ≠ (.slice Ao48 x270002_2.length co48 : Value).ownBlock) (.slice Ao42 x270000_2.length co42) x270000_2) := ⟨by (with_reducible repeat (first | apply Kd.R_alloc | apply Kd.R_drewN | apply Kd.R_drew)); exact Kd.R_mono (Kd.R_far (p := ⟨gb273, 2, none⟩) (Kd.R_far (p := ⟨gb273, 1, none⟩) (Kd.R_far (p := ⟨gb273, 0, none⟩) (Kd.R_types HO_270000.out BK273.out (by decide)) (fun _ hk => hk.2) (.slice Ao42 x270000_2.length co42)) (fun _ hk => hk.2) (.slice Ao47 x270001_2.length co47)) (fun _ hk => hk.2) (.slice Ao48 x270002_2.length co48)) (fun _ hk => ⟨hk.1.1, hk.1.2⟩)⟩
     have n2_ : Aside0 (Kd.R (Kd.int .i64) 3 (((w41.setCell ⟨gb273, 0, none⟩ (.slice Ao42 x270000_2.length co42)).setCell ⟨gb273, 1, none⟩ (.slice Ao47 x270001_2.length co47)).setCell ⟨gb273, 2, none⟩ (.slice Ao48 x270002_2.length co48)) w.heap.size (fun k_ => some k_ ≠ (.slice Ao42 x270000_2.length co42 : Value).ownBlock ∧ some k_ ≠ (.slice Ao48 x270002_2.length co48 : Value).ownBlock) (.slice Ao47 x270001_2.length co47) x270001_2) := ⟨by (with_reducible repeat (first | apply Kd.R_alloc | apply Kd.R_drewN | apply Kd.R_drew)); exact Kd.R_mono (Kd.R_far (p := ⟨gb273, 2, none⟩) (Kd.R_far (p := ⟨gb273, 1, none⟩) (Kd.R_far (p := ⟨gb273, 0, none⟩) (Kd.R_types HO_270001.out BK273.out (by decide)) (fun _ hk => hk.2) (.slice Ao42 x270000_2.length co42)) (fun _ hk => hk.2) (.slice Ao47 x270001_2.length co47)) (fun _ hk => hk.2) (.slice Ao48 x270002_2.length co48)) (fun _ hk => ⟨hk.1.1, hk.1.2⟩)⟩
     have n3_ : Aside0 (Kd.R (Kd.int .i64) 3 (((w41.setCell ⟨gb273, 0, none⟩ (.slice Ao42 x270000_2.length co42)).setCell ⟨gb273, 1, none⟩ (.slice Ao47 x270001_2.length co47)).setCell ⟨gb273, 2, none⟩ (.slice Ao48 x270002_2.length co48)) w.heap.size (fun k_ => some k_ ≠ (.slice Ao42 x270000_2.length co42 : Value).ownBlock ∧ some k_ ≠ (.slice Ao47 x270001_2.length co47 : Value).ownBlock) (.slice Ao48 x270002_2.length co48) x270002_2) := ⟨by (with_reducible repeat (first | apply Kd.R_alloc | apply Kd.R_drewN | apply Kd.R_drew)); exact Kd.R_mono (Kd.R_far (p := ⟨gb273, 2, none⟩) (Kd.R_far (p := ⟨gb273, 1, none⟩) (Kd.R_far (p := ⟨gb273, 0, none⟩) (Kd.R_types HO_270002.out BK273.out (by decide)) (fun _ hk => hk.2) (.slice Ao42 x270000_2.length co42)) (fun _ hk => hk.2) (.slice Ao47 x270001_2.length co47)) (fun _ hk => hk.2) (.slice Ao48 x270002_2.length co48)) (fun _ hk => ⟨hk.1.1, hk.1.2⟩)⟩
     have n4_ : Aside0 ((((w41.setCell ⟨gb273, 0, none⟩ (.slice Ao42 x270000_2.length co42)).setCell ⟨gb273, 1, none⟩ (.slice Ao47 x270001_2.length co47)).setCell ⟨gb273, 2, none⟩ (.slice Ao48 x270002_2.length co48)).heap[gb248]? = some (.cells #[.slice A0_0 l0_0.length c0_0, .slice A0_1 l0_1.length c0_1, .slice A0_2 l0_2.length c0_2] 26 (0, 0))) := ⟨by (with_reducible repeat (first | refine blk_drewN ?_ _ | refine blk_drew ?_ | refine blk_alloc ?_ _)); refine blk_far ?_ NB248_273.out _; (with_reducible repeat (first | refine blk_drewN ?_ _ | refine blk_drew ?_ | refine blk_alloc ?_ _)); refine blk_far ?_ NB248_273.out _; (with_reducible repeat (first | refine blk_drewN ?_ _ | refine blk_drew ?_ | refine blk_alloc ?_ _)); refine blk_far ?_ NB248_273.out _; (with_reducible repeat (first | refine blk_drewN ?_ _ | refine blk_drew ?_ | refine blk_alloc ?_ _)); exact BK248.out⟩
     have n5_ : Aside0 ((((w41.setCell ⟨gb273, 0, none⟩ (.slice Ao42 x270000_2.length co42)).setCell ⟨gb273, 1, none⟩ (.slice Ao47 x270001_2.length co47)).setCell ⟨gb273, 2, none⟩ (.slice Ao48 x270002_2.length co48)).heap[gb249]? = some (.cells #[.slice none 0 0, .slice none 0 0, .slice none 0 0] 26 (0, 0))) := ⟨by (with_reducible repeat (first | refine blk_drewN ?_ _ | refine blk_drew ?_ | refine blk_alloc ?_ _)); refine blk_far ?_ NB249_273.out _; (with_reducible repeat (first | refine blk_drewN ?_ _ | refine blk_drew ?_ | refine blk_alloc ?_ _)); refine blk_far ?_ NB249_273.out _; (with_reducible repeat (first | refine blk_drewN ?_ _ | refine blk_drew ?_ | refine blk_alloc ?_ _)); refine blk_far ?_ NB249_273.out _; (with_reducible repeat (first | refine blk_drewN ?_ _ | refine blk_drew ?_ | refine blk_alloc ?_ _)); exact BK249.out⟩
     have n6_ : Aside0 ((((w41.setCell ⟨gb273, 0, none⟩ (.slice Ao42 x270000_2.length co42)).setCell ⟨gb273, 1, none⟩ (.slice Ao47 x270001_2.length co47)).setCell ⟨gb273, 2, none⟩ (.slice Ao48 x270002_2.length co48)).heap[gb269]? = some (.cells #[.slice Ao42 x270000_2.length co42, .slice Ao47 x270001_2.length co47, .slice Ao48 x270002_2.length co48] 26 (0, 0))) := ⟨by (with_reducible repeat (first | refine blk_drewN ?_ _ | refine blk_drew ?_ | refine blk_alloc ?_ _)); refine blk_far ?_ NB269_273.out _; (with_reducible repeat (first | refine blk_drewN ?_ _ | refine blk_drew ?_ | refine blk_alloc ?_ _)); refine blk_far ?_ NB269_273.out _; (with_reducible repeat (first | refine blk_drewN ?_ _ | refine blk_drew ?_ | refine blk_alloc ?_ _)); refine blk_far ?_ NB269_273.out _; (with_reducible repeat (first | refine blk_drewN ?_ _ | refine blk_drew ?_ | refine blk_alloc ?_ _)); exact BK269.out⟩
     have n7_ : Aside0 ((((w41.setCell ⟨gb273, 0, none⟩ (.slice Ao42 x270000_2.length co42)).setCell ⟨gb273, 1, none⟩ (.slice Ao47 x270001_2.length co47)).setCell ⟨gb273, 2, none⟩ (.slice Ao48 x270002_2.length co48)).heap[gb273]? = some (.cells #[.slice Ao42 x270000_2.length co42, .slice Ao47 x270001_2.length co47, .slice Ao48 x270002_2.length co48] 26 (0, 0))) := ⟨by (with_reducible repeat (first | refine blk_drewN ?_ _ | refine blk_drew ?_ | refine blk_alloc ?_ _)); refine blk_put (cs := #[.slice Ao42 x270000_2.length co42, .slice Ao47 x270001_2.length co47, .slice none 0 0]) ?_ 2 _ rfl; (with_reducible repeat (first | refine blk_drewN ?_ _ | refine blk_drew ?_ | refine blk_alloc ?_ _)); refine blk_put (cs := #[.slice Ao42 x270000_2.length co42, .slice none 0 0, .slice none 0 0]) ?_ 1 _ rfl; (with_reducible repeat (first | refine blk_drewN ?_ _ | refine blk_drew ?_ | refine blk_alloc ?_ _)); refine blk_put (cs := #[.slice none 0 0, .slice none 0 0, .slice none 0 0]) ?_ 0 _ rfl; (with_reducible repeat (first | refine blk_drewN ?_ _ | refine blk_drew ?_ | refine blk_alloc ?_ _)); exact BK273.out⟩
     have n8_ : Aside0 (Below w.heap.size w (((w41.setCell ⟨gb273, 0, none⟩ (.slice Ao42 x270000_2.length co42)).setCell ⟨gb273, 1, none⟩ (.slice Ao47 x270001_2.length co47)).setCell ⟨gb273, 2, none⟩ (.slice Ao48 x270002_2.length co48))) := ⟨by repeat (first | (with_reducible first | exact HB.out | apply below_alloc | apply pw_below_drewN | apply below_drew1 | refine below_set ?_ GE248.out | refine below_set ?_ GE249.out | refine below_set ?_ GE269.out | refine below_set ?_ GE273.out) | exact HB.out)⟩
     (try clear HO_7)
     (try clear HO_270000)
     (try clear HO_270001)
     (try clear HO_270002)
     (try clear BK248)
     (try clear BK249)
     (try clear BK269)
     (try clear BK273)
     (try clear HB)
     generalize (((w41.setCell ⟨gb273, 0, none⟩ (.slice Ao42 x270000_2.length co42)).setCell ⟨gb273, 1, none⟩ (.slice Ao47 x270001_2.length co47)).setCell ⟨gb273, 2, none⟩ (.slice Ao48 x270002_2.length co48)) = w108 at n0_ n1_ n2_ n3_ n4_ n5_ n6_ n7_ n8_ ⊢
     have HO_7 := n0_
     have HO_270000 := n1_
     have HO_270001 := n2_
     have HO_270002 := n3_
     have BK248 := n4_
     have BK249 := n5_
     have BK269 := n6_
     have BK273 := n7_
     have HB := n8_
     clear n0_ n1_ n2_ n3_ n4_ n5_ n6_ n7_ n8_
     replace HO_7 := am (Kd.R_drew HO_7.out)
     replace HO_270000 := am (Kd.R_drew HO_270000.out)
     replace HO_270001 := am (Kd.R_drew HO_270001.out)
     replace HO_270002 := am (Kd.R_drew HO_270002.out)
     replace BK248 := am (blk_drew BK248.out)
     replace BK249 := am (blk_drew BK249.out)
     replace BK269 := am (blk_drew BK269.out)
     replace BK273 := am (blk_drew BK273.out)
     replace HB := am (below_drew1 HB.out)
     have p316 : 0 ≤ (x8_2 : Int) := of_decide_eq_true Q2
     have q316 : x8_2 < (l1.length : Int) := of_decide_eq_true Q2
     obtain ⟨ad316, A316_2, c316_2, e316, hx316_0, hx316_1, hx316_2, hl316_2, hi316_2⟩ := at_T77 HR1.out x8_2 p316 q316
     (try clear hx302_2)
     have hw316_2 := hx316_2
     have hw316_1 := hx316_1
     have hw316_0 := hx316_0
     obtain rfl : ad274 = ad316 := (by injection e316)
     replace hx316_0 := cm HB.out hx316_0
     replace hx316_1 := cm HB.out hx316_1
     replace hx316_2 := cm HB.out hx316_2
     have HR316_2 := am hi316_2
     have HC316_2 := am hl316_2
     clear hi316_2 hl316_2
     replace p316 := eq_true p316
     replace q316 := eq_true q316
     refine start_ (n := 12) (S := fun w' => w'.cell? ⟨gb269, 0, none⟩ = some (.slice Ao42 x270000_2.length co42) ∧ w'.cell? ⟨gb269, 1, none⟩ = some (.slice Ao47 x270001_2.length co47) ∧ w'.cell? ⟨gb269, 2, none⟩ = some (.slice Ao48 x270002_2.length co48) ∧ w'.cell? (ad274.add ((x8_2).toNat * 3)) = some (.int .i64 ((rd_T77 l1 x8_2).f0)) ∧ w'.cell? ⟨(ad274.add ((x8_2).toNat * 3)).block, (ad274.add ((x8_2).toNat * 3)).off + 1, none⟩ = some (.int .i64 ((rd_T77 l1 x8_2).f1)) ∧ w'.cell? ⟨(ad274.add ((x8_2).toNat * 3)).block, (ad274.add ((x8_2).toNat * 3)).off + 2, none⟩ = some (.slice A316_2 ((rd_T77 l1 x8_2).f2).length c316_2)) (ds := []) b0_12 kr rfl rfl ⟨(blk_cell BK269.out 0).trans rfl, (blk_cell BK269.out 1).trans rfl, (blk_cell BK269.out 2).trans rfl, (cm HB.out hw316_0), (cm HB.out hw316_1), (cm HB.out hw316_2)⟩ (fun hHeld => ?_); refine with_tabW spec_PlayConf.tab18 spec_PlayConf.bits18 (fun HT_ HW_ => ?_)
     generalize w108.drew = w109 at HO_7 HO_270000 HO_270001 HO_270002 BK248 BK249 BK269 BK273 HB HR316_2 hx316_0 hx316_1 hx316_2 hHeld ⊢
     refine pV 1 71 bx6 ?_
     refine pV 2 72 bx7 ?_
     refine pV 3 73 bx8 ?_
     refine pV 4 74 bx9 ?_
     refine tV 0 70 (bt 5 12) ?_
     refine tV 5 75 (bt 6 12) ?_
     refine one_ (i := 6) (N := some 76) b7_12 rfl rfl (one_of HT_.out kr) (by decide) (fun K hK => ?_)
     refine goes_ Try.func21 kr rfl #[.agg #[.slice Ao42 x270000_2.length co42, .slice Ao47 x270001_2.length co47, .slice Ao48 x270002_2.length co48], .int .i64 ((rd_T77 l1 x8_2).f1), .bool false] (by rfl) rfl rfl Q3 ?_
     with_reducible refine (spec_Learner.calls k2 _ _ x270000_2 _ _ x270001_2 _ _ x270002_2 ((rd_T77 l1 x8_2).f1) false t317 t320 t323 t326 _ ?side1 ?side2 ?side3 ?side4 ?side5 ?side6 A106.out).mono ?_
     (case side1 => exact u6_32)
     (case side2 => exact (Kd.R_reads' HO_270000.out).2.1)
     (case side3 => exact u6_33)
     (case side4 => exact (Kd.R_reads' HO_270001.out).2.1)
     (case side5 => exact u6_34)
     (case side6 => exact (Kd.R_reads' HO_270002.out).2.1)
     rintro e w110 ⟨v318, v321, v324, rfl, ho0, ho1, ho2, hb⟩
     refine ⟨_, rfl, ?_⟩
     replace HO_7 := am (Kd.R_below u6_37 hb)
     have HO319 := am (Kd.R_lower (Kd.R_new' (Kd.R_new' (Kd.R_new' ho0 (Kd.R_lt u6_14)) (Kd.R_lt u6_15)) (Kd.R_lt u6_16)) (below_size Q0))
     have HO322 := am (Kd.R_lower (Kd.R_new' (Kd.R_new' (Kd.R_new' ho1 (Kd.R_lt u6_14)) (Kd.R_lt u6_15)) (Kd.R_lt u6_16)) (below_size Q0))
     have HO325 := am (Kd.R_lower (Kd.R_new' (Kd.R_new' (Kd.R_new' ho2 (Kd.R_lt u6_14)) (Kd.R_lt u6_15)) (Kd.R_lt u6_16)) (below_size Q0))
     replace HO_270000 := am (Kd.R_mono (Kd.R_told (Kd.R_told (Kd.R_told (Kd.R_old u6_14 hb) (Kd.R_base ho0)) (Kd.R_base ho1)) (Kd.R_base ho2)) (fun _ h_ => h_.1))
     replace HO_270001 := am (Kd.R_mono (Kd.R_told (Kd.R_told (Kd.R_told (Kd.R_old u6_15 hb) (Kd.R_base ho0)) (Kd.R_base ho1)) (Kd.R_base ho2)) (fun _ h_ => h_.1))
     replace HO_270002 := am (Kd.R_mono (Kd.R_told (Kd.R_told (Kd.R_told (Kd.R_old u6_16 hb) (Kd.R_base ho0)) (Kd.R_base ho1)) (Kd.R_base ho2)) (fun _ h_ => h_.1))
     replace BK248 := am (blk_below (g := gb248) (o := .cells #[.slice A0_0 l0_0.length c0_0, .slice A0_1 l0_1.length c0_1, .slice A0_2 l0_2.length c0_2] 26 (0, 0)) u6_8 hb)
     replace BK249 := am (blk_below (g := gb249) (o := .cells #[.slice none 0 0, .slice none 0 0, .slice none 0 0] 26 (0, 0)) u6_9 hb)
     replace BK269 := am (blk_below (g := gb269) (o := .cells #[.slice Ao42 x270000_2.length co42, .slice Ao47 x270001_2.length co47, .slice Ao48 x270002_2.length co48] 26 (0, 0)) u6_27 hb)
     replace BK273 := am (blk_below (g := gb273) (o := .cells #[.slice Ao42 x270000_2.length co42, .slice Ao47 x270001_2.length co47, .slice Ao48 x270002_2.length co48] 26 (0, 0)) u6_43 hb)
     replace HB := am (below_step Q0 hb)
     (try clear hb)
     (try clear hb2)
     (try clear hk)
     (try clear hi)
     (try clear ho0)
     (try clear ho1)
     (try clear ho2)
     obtain ⟨Ao111, co111, eo111⟩ := Kd.R_slice HO319.out
     (first | subst eo111 | (injection eo111 with f1_ f2_ f3_; have f4_ := f1_.symm; have f5_ := f3_.symm; clear f1_ f2_ f3_; subst f4_; subst f5_))
     obtain ⟨Ao113, co113, eo113⟩ := Kd.R_slice HO322.out
     (first | subst eo113 | (injection eo113 with f1_ f2_ f3_; have f4_ := f1_.symm; have f5_ := f3_.symm; clear f1_ f2_ f3_; subst f4_; subst f5_))
     obtain ⟨Ao115, co115, eo115⟩ := Kd.R_slice HO325.out
     (first | subst eo115 | (injection eo115 with f1_ f2_ f3_; have f4_ := f1_.symm; have f5_ := f3_.symm; clear f1_ f2_ f3_; subst f4_; subst f5_))
     refine hK.out _ _ ⟨(blk_cell BK269.out 0).trans rfl, (blk_cell BK269.out 1).trans rfl, (blk_cell BK269.out 2).trans rfl, (cm HB.out hw316_0), (cm HB.out hw316_1), (cm HB.out hw316_2)⟩ (fun hHeld => ?_)
     clear hK K
     refine norm_ (a' := ?_) ?_ ?_
     rotate_left
     · show Act.put _ (some 76) _ = _
       simp only [Act.put, la, lb, lc, i64_w, i32_w]
       rfl
     refine pV 7 69 (bt 8 12) ?_
     refine pV 8 77 (bt 9 12) ?_
     refine pV 9 78 (bt 10 12) ?_
     refine one_ (i := 10) (N := none) b11_12 rfl rfl (one_of HT_.out kr) (by decide) (fun K hK => ?_)
     have hs112 : w110.cell? ⟨gb273, 0, none⟩ = some (.slice Ao42 x270000_2.length co42) := (blk_cell BK273.out 0).trans rfl
     have hfs112 := blk_frozen BK273.out 0
     have hns112_0 := NB248_273.out
     have hns112_1 := NB249_273.out
     have hns112_2 := NB269_273.out
     have hms112_0 := NB273_248.out
     have hms112_1 := NB273_249.out
     have hms112_2 := NB273_269.out
     have hs114 : w110.cell? ⟨gb273, 1, none⟩ = some (.slice Ao47 x270001_2.length co47) := (blk_cell BK273.out 1).trans rfl
     have hfs114 := blk_frozen BK273.out 1
     have hns114_0 := NB248_273.out
     have hns114_1 := NB249_273.out
     have hns114_2 := NB269_273.out
     have hms114_0 := NB273_248.out
     have hms114_1 := NB273_249.out
     have hms114_2 := NB273_269.out
     have hs116 : w110.cell? ⟨gb273, 2, none⟩ = some (.slice Ao48 x270002_2.length co48) := (blk_cell BK273.out 2).trans rfl
     have hfs116 := blk_frozen BK273.out 2
     have hns116_0 := NB248_273.out
     have hns116_1 := NB249_273.out
     have hns116_2 := NB269_273.out
     have hms116_0 := NB273_248.out
     have hms116_1 := NB273_249.out
     have hms116_2 := NB273_269.out
     refine skip_ (w1 := ?_) (by rfl) rfl ?_ ?_
     rotate_left
     · go_simp
       rfl
     refine hK.out _ _ ⟨((cell_far (p := ⟨gb273, _, none⟩) NB269_273.out _).trans (((cell_far (p := ⟨gb273, _, none⟩) NB269_273.out _).trans (((cell_far (p := ⟨gb273, _, none⟩) NB269_273.out _).trans (hHeld.1)))))), ((cell_far (p := ⟨gb273, _, none⟩) NB269_273.out _).trans (((cell_far (p := ⟨gb273, _, none⟩) NB269_273.out _).trans (((cell_far (p := ⟨gb273, _, none⟩) NB269_273.out _).trans (hHeld.2.1)))))), ((cell_far (p := ⟨gb273, _, none⟩) NB269_273.out _).trans (((cell_far (p := ⟨gb273, _, none⟩) NB269_273.out _).trans (((cell_far (p := ⟨gb273, _, none⟩) NB269_273.out _).trans (hHeld.2.2.1)))))), ((cell_far (p := ⟨gb273, _, none⟩) u6_24 _).trans (((cell_far (p := ⟨gb273, _, none⟩) u6_24 _).trans (((cell_far (p := ⟨gb273, _, none⟩) u6_24 _).trans (hHeld.2.2.2.1)))))), ((cell_far (p := ⟨gb273, _, none⟩) u6_25 _).trans (((cell_far (p := ⟨gb273, _, none⟩) u6_25 _).trans (((cell_far (p := ⟨gb273, _, none⟩) u6_25 _).trans (hHeld.2.2.2.2.1)))))), ((cell_far (p := ⟨gb273, _, none⟩) u6_26 _).trans (((cell_far (p := ⟨gb273, _, none⟩) u6_26 _).trans (((cell_far (p := ⟨gb273, _, none⟩) u6_26 _).trans (hHeld.2.2.2.2.2))))))⟩ (fun hHeld => ?_)
     clear hK K
     refine pV 11 9 (bt 12 12) ?_
     refine done_ (done_of HT_.out kr) ?_
     have hnb117 := NB273_248.out
     have hnc117 := NB248_273.out
     have hnb118 := NB273_249.out
     have hnc118 := NB249_273.out
     have hnb119 := NB273_269.out
     have hnc119 := NB269_273.out
     obtain ⟨hcz120_0, hcz120_1, hcz120_2, hfz120_0, hfz120_1, hfz120_2⟩ := bc3f w110 BK273.out
     have hnb121 := NB269_248.out
     have hnc121 := NB248_269.out
     have hnb122 := NB269_249.out
     have hnc122 := NB249_269.out
     obtain ⟨hcz123_0, hcz123_1, hcz123_2, hfz123_0, hfz123_1, hfz123_2⟩ := bc3f w110 BK269.out
     try go_wp2_with (first | ((with_reducible refine gate_builtin (b := .append) (xs := #[.tmp 80, .tmp 82]) rfl ?_); (try (refine gate_guard (by rfl) ?_; dsimp only)); at_builtin; refine Kd.R_append Kd.bool (w0 := w) w.heap.size rfl (.tmp 80) (.tmp 82) 48 4 (.bool false) 1 rfl Try.underlying48 info4 rfl (by decide) (by omega) u7 x7_2 t326 [.bool t326] (fun _ => True) (fun _ => False) rfl u6_45 ?aP (fun _ hk => hk.elim) ?aF ?aO ?aB ?aS ?aL ?_; (case aP => exact rfl); (case aB => exact Q0); (case aF => exact (fun _ _ => trivial)); (case aO => exact (by (with_reducible repeat (first | apply Kd.R_alloc | apply Kd.R_drewN | apply Kd.R_drew)); exact Kd.R_mono (Kd.R_far (p := ⟨gb269, 2, none⟩) (Kd.R_far (p := ⟨gb269, 1, none⟩) (Kd.R_far (p := ⟨gb269, 0, none⟩) (Kd.R_far (p := ⟨gb273, 2, none⟩) (Kd.R_far (p := ⟨gb273, 1, none⟩) (Kd.R_far (p := ⟨gb273, 0, none⟩) (Kd.R_types (Kd.R_types HO_7.out BK273.out (by decide)) BK269.out (by decide)) (fun _ hk => hk.1.2) (.slice Ao111 t317.length co111)) (fun _ hk => hk.1.2) (.slice Ao113 t320.length co113)) (fun _ hk => hk.1.2) (.slice Ao115 t323.length co115)) (fun _ hk => hk.2) (.slice Ao111 t317.length co111)) (fun _ hk => hk.2) (.slice Ao113 t320.length co113)) (fun _ hk => hk.2) (.slice Ao115 t323.length co115)) (fun _ hk => trivial))); (case aS => exact (below_size Q0)); (case aL => have := LMc107.out; omega); intro v328 w124 ho hb hg hat; rw [← Ny327.out] at ho; replace HO_270000 := am (Kd.R_over' (by (with_reducible repeat (first | apply Kd.R_alloc | apply Kd.R_drewN | apply Kd.R_drew)); exact (Kd.R_mono (Kd.R_mono (Kd.R_far (p := ⟨gb269, 2, none⟩) (Kd.R_far (p := ⟨gb269, 1, none⟩) (Kd.R_far (p := ⟨gb269, 0, none⟩) (Kd.R_far (p := ⟨gb273, 2, none⟩) (Kd.R_far (p := ⟨gb273, 1, none⟩) (Kd.R_far (p := ⟨gb273, 0, none⟩) (Kd.R_types (Kd.R_types HO_270000.out BK273.out (by decide)) BK269.out (by decide)) (fun _ hk => hk.1.2) (.slice Ao111 t317.length co111)) (fun _ hk => hk.1.2) (.slice Ao113 t320.length co113)) (fun _ hk => hk.1.2) (.slice Ao115 t323.length co115)) (fun _ hk => hk.2) (.slice Ao111 t317.length co111)) (fun _ hk => hk.2) (.slice Ao113 t320.length co113)) (fun _ hk => hk.2) (.slice Ao115 t323.length co115)) (fun _ h_ => h_.1)) (fun _ h_ => h_.1))) (Kd.R_typed u6_1) (by decide) hg); replace HO_270001 := am (Kd.R_over' (by (with_reducible repeat (first | apply Kd.R_alloc | apply Kd.R_drewN | apply Kd.R_drew)); exact (Kd.R_mono (Kd.R_mono (Kd.R_far (p := ⟨gb269, 2, none⟩) (Kd.R_far (p := ⟨gb269, 1, none⟩) (Kd.R_far (p := ⟨gb269, 0, none⟩) (Kd.R_far (p := ⟨gb273, 2, none⟩) (Kd.R_far (p := ⟨gb273, 1, none⟩) (Kd.R_far (p := ⟨gb273, 0, none⟩) (Kd.R_types (Kd.R_types HO_270001.out BK273.out (by decide)) BK269.out (by decide)) (fun _ hk => hk.1.2) (.slice Ao111 t317.length co111)) (fun _ hk => hk.1.2) (.slice Ao113 t320.length co113)) (fun _ hk => hk.1.2) (.slice Ao115 t323.length co115)) (fun _ hk => hk.2) (.slice Ao111 t317.length co111)) (fun _ hk => hk.2) (.slice Ao113 t320.length co113)) (fun _ hk => hk.2) (.slice Ao115 t323.length co115)) (fun _ h_ => h_.1)) (fun _ h_ => h_.1))) (Kd.R_typed u6_1) (by decide) hg); replace HO_270002 := am (Kd.R_over' (by (with_reducible repeat (first | apply Kd.R_alloc | apply Kd.R_drewN | apply Kd.R_drew)); exact (Kd.R_mono (Kd.R_mono (Kd.R_far (p := ⟨gb269, 2, none⟩) (Kd.R_far (p := ⟨gb269, 1, none⟩) (Kd.R_far (p := ⟨gb269, 0, none⟩) (Kd.R_far (p := ⟨gb273, 2, none⟩) (Kd.R_far (p := ⟨gb273, 1, none⟩) (Kd.R_far (p := ⟨gb273, 0, none⟩) (Kd.R_types (Kd.R_types HO_270002.out BK273.out (by decide)) BK269.out (by decide)) (fun _ hk => hk.1.2) (.slice Ao111 t317.length co111)) (fun _ hk => hk.1.2) (.slice Ao113 t320.length co113)) (fun _ hk => hk.1.2) (.slice Ao115 t323.length co115)) (fun _ hk => hk.2) (.slice Ao111 t317.length co111)) (fun _ hk => hk.2) (.slice Ao113 t320.length co113)) (fun _ hk => hk.2) (.slice Ao115 t323.length co115)) (fun _ h_ => h_.1)) (fun _ h_ => h_.1))) (Kd.R_typed u6_1) (by decide) hg); replace BK248 := am (blk_grown (g := gb248) (o := .cells #[.slice A0_0 l0_0.length c0_0, .slice A0_1 l0_1.length c0_1, .slice A0_2 l0_2.length c0_2] 26 (0, 0)) u6_2 hg (Kd.R_ne HO_7.out BK248.out (by decide))); replace BK249 := am (blk_grown (g := gb249) (o := .cells #[.slice none 0 0, .slice none 0 0, .slice none 0 0] 26 (0, 0)) u6_3 hg (Kd.R_ne HO_7.out BK249.out (by decide))); replace HO319 := am (Kd.R_over' (by (with_reducible repeat (first | apply Kd.R_alloc | apply Kd.R_drewN | apply Kd.R_drew)); exact (Kd.R_mono (Kd.R_mono (Kd.R_far (p := ⟨gb269, 2, none⟩) (Kd.R_far (p := ⟨gb269, 1, none⟩) (Kd.R_far (p := ⟨gb269, 0, none⟩) (Kd.R_far (p := ⟨gb273, 2, none⟩) (Kd.R_far (p := ⟨gb273, 1, none⟩) (Kd.R_far (p := ⟨gb273, 0, none⟩) (Kd.R_types (Kd.R_types HO319.out BK273.out (by decide)) BK269.out (by decide)) (fun _ hk => hk.1.2) (.slice Ao111 t317.length co111)) (fun _ hk => hk.1.2) (.slice Ao113 t320.length co113)) (fun _ hk => hk.1.2) (.slice Ao115 t323.length co115)) (fun _ hk => hk.2) (.slice Ao111 t317.length co111)) (fun _ hk => hk.2) (.slice Ao113 t320.length co113)) (fun _ hk => hk.2) (.slice Ao115 t323.length co115)) (fun _ h_ => h_.1)) (fun _ h_ => h_.1))) (Kd.R_typed u6_1) (by decide) hg); replace HO322 := am (Kd.R_over' (by (with_reducible repeat (first | apply Kd.R_alloc | apply Kd.R_drewN | apply Kd.R_drew)); exact (Kd.R_mono (Kd.R_mono (Kd.R_far (p := ⟨gb269, 2, none⟩) (Kd.R_far (p := ⟨gb269, 1, none⟩) (Kd.R_far (p := ⟨gb269, 0, none⟩) (Kd.R_far (p := ⟨gb273, 2, none⟩) (Kd.R_far (p := ⟨gb273, 1, none⟩) (Kd.R_far (p := ⟨gb273, 0, none⟩) (Kd.R_types (Kd.R_types HO322.out BK273.out (by decide)) BK269.out (by decide)) (fun _ hk => hk.1.2) (.slice Ao111 t317.length co111)) (fun _ hk => hk.1.2) (.slice Ao113 t320.length co113)) (fun _ hk => hk.1.2) (.slice Ao115 t323.length co115)) (fun _ hk => hk.2) (.slice Ao111 t317.length co111)) (fun _ hk => hk.2) (.slice Ao113 t320.length co113)) (fun _ hk => hk.2) (.slice Ao115 t323.length co115)) (fun _ h_ => h_.1)) (fun _ h_ => h_.1))) (Kd.R_typed u6_1) (by decide) hg); replace HO325 := am (Kd.R_over' (by (with_reducible repeat (first | apply Kd.R_alloc | apply Kd.R_drewN | apply Kd.R_drew)); exact (Kd.R_mono (Kd.R_mono (Kd.R_far (p := ⟨gb269, 2, none⟩) (Kd.R_far (p := ⟨gb269, 1, none⟩) (Kd.R_far (p := ⟨gb269, 0, none⟩) (Kd.R_far (p := ⟨gb273, 2, none⟩) (Kd.R_far (p := ⟨gb273, 1, none⟩) (Kd.R_far (p := ⟨gb273, 0, none⟩) (Kd.R_types (Kd.R_types HO325.out BK273.out (by decide)) BK269.out (by decide)) (fun _ hk => hk.1.2) (.slice Ao111 t317.length co111)) (fun _ hk => hk.1.2) (.slice Ao113 t320.length co113)) (fun _ hk => hk.1.2) (.slice Ao115 t323.length co115)) (fun _ hk => hk.2) (.slice Ao111 t317.length co111)) (fun _ hk => hk.2) (.slice Ao113 t320.length co113)) (fun _ hk => hk.2) (.slice Ao115 t323.length co115)) (fun _ h_ => h_.1)) (fun _ h_ => h_.1))) (Kd.R_typed u6_1) (by decide) hg); replace BK269 := am (blk_grown (g := gb269) (o := .cells #[.slice Ao111 t317.length co111, .slice Ao113 t320.length co113, .slice Ao115 t323.length co115] 26 (0, 0)) (by (with_reducible repeat (first | refine blk_drewN ?_ _ | refine blk_drew ?_ | refine blk_alloc ?_ _)); refine blk_put (cs := #[.slice Ao111 t317.length co111, .slice Ao113 t320.length co113, .slice Ao48 x270002_2.length co48]) ?_ 2 _ rfl; (with_reducible repeat (first | refine blk_drewN ?_ _ | refine blk_drew ?_ | refine blk_alloc ?_ _)); refine blk_put (cs := #[.slice Ao111 t317.length co111, .slice Ao47 x270001_2.length co47, .slice Ao48 x270002_2.length co48]) ?_ 1 _ rfl; (with_reducible repeat (first | refine blk_drewN ?_ _ | refine blk_drew ?_ | refine blk_alloc ?_ _)); refine blk_put (cs := #[.slice Ao42 x270000_2.length co42, .slice Ao47 x270001_2.length co47, .slice Ao48 x270002_2.length co48]) ?_ 0 _ rfl; (with_reducible repeat (first | refine blk_drewN ?_ _ | refine blk_drew ?_ | refine blk_alloc ?_ _)); refine blk_far ?_ NB269_273.out _; (with_reducible repeat (first | refine blk_drewN ?_ _ | refine blk_drew ?_ | refine blk_alloc ?_ _)); refine blk_far ?_ NB269_273.out _; (with_reducible repeat (first | refine blk_drewN ?_ _ | refine blk_drew ?_ | refine blk_alloc ?_ _)); refine blk_far ?_ NB269_273.out _; (with_reducible repeat (first | refine blk_drewN ?_ _ | refine blk_drew ?_ | refine blk_alloc ?_ _)); exact BK269.out) hg (Kd.R_ne HO_7.out BK269.out (by decide))); replace BK273 := am (blk_grown (g := gb273) (o := .cells #[.slice Ao111 t317.length co111, .slice Ao113 t320.length co113, .slice Ao115 t323.length co115] 26 (0, 0)) (by (with_reducible repeat (first | refine blk_drewN ?_ _ | refine blk_drew ?_ | refine blk_alloc ?_ _)); refine blk_far ?_ NB273_269.out _; (with_reducible repeat (first | refine blk_drewN ?_ _ | refine blk_drew ?_ | refine blk_alloc ?_ _)); refine blk_far ?_ NB273_269.out _; (with_reducible repeat (first | refine blk_drewN ?_ _ | refine blk_drew ?_ | refine blk_alloc ?_ _)); refine blk_far ?_ NB273_269.out _; (with_reducible repeat (first | refine blk_drewN ?_ _ | refine blk_drew ?_ | refine blk_alloc ?_ _)); refine blk_put (cs := #[.slice Ao111 t317.length co111, .slice Ao113 t320.length co113, .slice Ao48 x270002_2.length co48]) ?_ 2 _ rfl; (with_reducible repeat (first | refine blk_drewN ?_ _ | refine blk_drew ?_ | refine blk_alloc ?_ _)); refine blk_put (cs := #[.slice Ao111 t317.length co111, .slice Ao47 x270001_2.length co47, .slice Ao48 x270002_2.length co48]) ?_ 1 _ rfl; (with_reducible repeat (first | refine blk_drewN ?_ _ | refine blk_drew ?_ | refine blk_alloc ?_ _)); refine blk_put (cs := #[.slice Ao42 x270000_2.length co42, .slice Ao47 x270001_2.length co47, .slice Ao48 x270002_2.length co48]) ?_ 0 _ rfl; (with_reducible repeat (first | refine blk_drewN ?_ _ | refine blk_drew ?_ | refine blk_alloc ?_ _)); exact BK273.out) hg (Kd.R_ne HO_7.out BK273.out (by decide))); replace HB := am (hb); have HO329 := am (ho); clear HO_7; clear ho hb hg hat))
     go_roundg k2
     case measure => have := HJ2.out; have := HK2.out; omega
     case rel => exact ⟨(y327), (wrap64 (x8_2 + 1)), (t317), (t320), (t323), (.slice Ao111 t317.length co111), (.slice Ao113 t320.length co113), (.slice Ao115 t323.length co115), Q1, H', ⟨u6_46⟩, ⟨(by (with_reducible repeat (first | apply Kd.R_alloc | apply Kd.R_drewN | apply Kd.R_drew)); exact HO329.out)⟩, ⟨(by (with_reducible repeat (first | apply Kd.R_alloc | apply Kd.R_drewN | apply Kd.R_drew)); exact Kd.R_mono HO319.out (fun _ hk => ⟨hk.1.1.1.1, hk.1.1.1.2⟩))⟩, ⟨(by (with_reducible repeat (first | apply Kd.R_alloc | apply Kd.R_drewN | apply Kd.R_drew)); exact Kd.R_mono HO322.out (fun _ hk => ⟨hk.1.1.1.1, hk.1.1.1.2⟩))⟩, ⟨(by (with_reducible repeat (first | apply Kd.R_alloc | apply Kd.R_drewN | apply Kd.R_drew)); exact Kd.R_mono HO325.out (fun _ hk => ⟨hk.1.1.1.1, hk.1.1.1.2⟩))⟩, ⟨u6_8⟩, ⟨u6_9⟩, ⟨u6_27⟩, ⟨Q0⟩⟩

end Go.Proofs.Ytoemdmjdpikfbaa.QFnQuorums
