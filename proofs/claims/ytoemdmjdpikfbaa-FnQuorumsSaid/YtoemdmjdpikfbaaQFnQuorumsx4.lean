-- Printed by the session's own program wip/prx.py.
import Derived.Test.YtoemdmjdpikfbaaSqFnQuorums
import Derived.Test.YtoemdmjdpikfbaaQFnQuorumsx0
import Derived.Test.YtoemdmjdpikfbaaQFnQuorumsx1
import Derived.Test.YtoemdmjdpikfbaaQFnQuorumsx2
import Derived.Test.YtoemdmjdpikfbaaQFnQuorumsx3
namespace Go.Proofs.Ytoemdmjdpikfbaa.QFnQuorums
open Go.RowKit Go.Proofs.YtoemdmjdpikfbaaW.PrintWords Go.Proofs.YtoemdmjdpikfbaaW.PrintLast Go.Proofs.YtoemdmjdpikfbaaW.PrintMore Go.Proofs.Ytoemdmjdpikfbaa.SqFnQuorums
attribute [local go_sem] max2_int min2_int max_two min_two max_three min_three max_four min_four Go.Proofs.Ytoemdmjdpikfbaa.Set.isSome_setCell
set_option linter.unusedVariables false
set_option linter.unusedSimpArgs false

-- squeezed
theorem u4_2 {P : Prop} (h : P := by (with_reducible repeat (first | refine blk_drewN ?_ _ | refine blk_drew ?_ | refine blk_alloc ?_ _)); exact BK148.out) : P := h
theorem u4_3 {P : Prop} (h : P := by (with_reducible repeat (first | refine blk_drewN ?_ _ | refine blk_drew ?_ | refine blk_alloc ?_ _)); exact BK149.out) : P := h
theorem u4_4 {P : Prop} (h : P := by (with_reducible repeat (first | apply Kd.R_alloc | apply Kd.R_drewN | apply Kd.R_drew)); exact HO_171000.out) : P := h
theorem u4_5 {P : Prop} (h : P := by (with_reducible repeat (first | apply Kd.R_alloc | apply Kd.R_drewN | apply Kd.R_drew)); exact HO_171001.out) : P := h
theorem u4_7 {P : Prop} (h : P := by (with_reducible repeat (first | apply Kd.R_alloc | apply Kd.R_drewN | apply Kd.R_drew)); exact HO_171002.out) : P := h
theorem u4_9 {P : Prop} (h : P := by (with_reducible repeat (first | refine blk_drewN ?_ _ | refine blk_drew ?_ | refine blk_alloc ?_ _)); refine blk_far ?_ NB148_170.out _; (with_reducible repeat (first | refine blk_drewN ?_ _ | refine blk_drew ?_ | refine blk_alloc ?_ _)); exact BK148.out) : P := h
theorem u4_10 {P : Prop} (h : P := by (with_reducible repeat (first | refine blk_drewN ?_ _ | refine blk_drew ?_ | refine blk_alloc ?_ _)); refine blk_far ?_ NB149_170.out _; (with_reducible repeat (first | refine blk_drewN ?_ _ | refine blk_drew ?_ | refine blk_alloc ?_ _)); exact BK149.out) : P := h
theorem u4_11 {P : Prop} (h : P := by (with_reducible repeat (first | refine blk_drewN ?_ _ | refine blk_drew ?_ | refine blk_alloc ?_ _)); exact BK170.out) : P := h
theorem u4_14 {P : Prop} (h : P := by (with_reducible repeat (first | apply Kd.R_alloc | apply Kd.R_drewN | apply Kd.R_drew)); exact (Kd.R_mono (Kd.R_far (p := ⟨gb170, 2, none⟩) (Kd.R_far (p := ⟨gb170, 1, none⟩) (Kd.R_far (p := ⟨gb170, 0, none⟩) (Kd.R_types HO163.out BK170.out (by decide)) (fun _ hk => hk.2) (.slice Ao33 t161.length co33)) (fun _ hk => hk.2) (.slice Ao37 t164.length co37)) (fun _ hk => hk.2) (.slice Ao38 t167.length co38)) (fun _ h_ => h_.1))) : P := h
theorem u4_15 {P : Prop} (h : P := by (with_reducible repeat (first | apply Kd.R_alloc | apply Kd.R_drewN | apply Kd.R_drew)); exact (Kd.R_mono (Kd.R_far (p := ⟨gb170, 2, none⟩) (Kd.R_far (p := ⟨gb170, 1, none⟩) (Kd.R_far (p := ⟨gb170, 0, none⟩) (Kd.R_types HO166.out BK170.out (by decide)) (fun _ hk => hk.2) (.slice Ao33 t161.length co33)) (fun _ hk => hk.2) (.slice Ao37 t164.length co37)) (fun _ hk => hk.2) (.slice Ao38 t167.length co38)) (fun _ h_ => h_.1))) : P := h
theorem u4_16 {P : Prop} (h : P := by (with_reducible repeat (first | apply Kd.R_alloc | apply Kd.R_drewN | apply Kd.R_drew)); exact (Kd.R_mono (Kd.R_far (p := ⟨gb170, 2, none⟩) (Kd.R_far (p := ⟨gb170, 1, none⟩) (Kd.R_far (p := ⟨gb170, 0, none⟩) (Kd.R_types HO169.out BK170.out (by decide)) (fun _ hk => hk.2) (.slice Ao33 t161.length co33)) (fun _ hk => hk.2) (.slice Ao37 t164.length co37)) (fun _ hk => hk.2) (.slice Ao38 t167.length co38)) (fun _ h_ => h_.1))) : P := h
theorem u4_17 {P : Prop} (h : P := by repeat (first | exact (Kd.R_reads' HO_171002.out).2.2 | (with_reducible refine Kd.C_alloc ?_ _) | (with_reducible refine Kd.C_drewN ?_ _) | (with_reducible refine Kd.C_drew ?_))) : P := h
theorem u4_18 {P : Prop} (h : P := by (with_reducible repeat (first | refine blk_drewN ?_ _ | refine blk_drew ?_ | refine blk_alloc ?_ _)); refine blk_put (cs := #[.slice Ao33 t161.length co33, .slice Ao37 t164.length co37, .slice Ao38 t167.length co38]) ?_ 2 _ rfl; (with_reducible repeat (first | refine blk_drewN ?_ _ | refine blk_drew ?_ | refine blk_alloc ?_ _)); exact BK170.out) : P := h
theorem u4_20 {P : Prop} (h : P := by (with_reducible repeat (first | refine blk_drewN ?_ _ | refine blk_drew ?_ | refine blk_alloc ?_ _)); refine blk_put (cs := #[.slice Ao33 t161.length co33, .slice Ao37 t164.length co37, u171002]) ?_ 2 _ rfl; (with_reducible repeat (first | refine blk_drewN ?_ _ | refine blk_drew ?_ | refine blk_alloc ?_ _)); exact BK170.out) : P := h
theorem u4_22 {P : Prop} (h : P := by (with_reducible repeat (first | apply Kd.R_alloc | apply Kd.R_drewN | apply Kd.R_drew)); exact (Kd.R_mono (Kd.R_far (p := ⟨gb170, 2, none⟩) (Kd.R_types HO163.out BK170.out (by decide)) (fun _ hk => hk.2) (.slice Ao44 t174.length co44)) (fun _ h_ => h_.1))) : P := h
theorem u4_23 {P : Prop} (h : P := by (with_reducible repeat (first | apply Kd.R_alloc | apply Kd.R_drewN | apply Kd.R_drew)); exact (Kd.R_mono (Kd.R_far (p := ⟨gb170, 2, none⟩) (Kd.R_types HO166.out BK170.out (by decide)) (fun _ hk => hk.2) (.slice Ao44 t174.length co44)) (fun _ h_ => h_.1))) : P := h
theorem u4_24 {P : Prop} (h : P := by (with_reducible repeat (first | apply Kd.R_alloc | apply Kd.R_drewN | apply Kd.R_drew)); exact (Kd.R_mono (Kd.R_far (p := ⟨gb170, 2, none⟩) (Kd.R_types HO169.out BK170.out (by decide)) (fun _ hk => hk.2) (.slice Ao44 t174.length co44)) (fun _ h_ => h_.1))) : P := h
theorem u4_25 {P : Prop} (h : P := by (with_reducible repeat (first | apply Kd.R_alloc | apply Kd.R_drewN | apply Kd.R_drew)); exact (Kd.R_mono (Kd.R_far (p := ⟨gb170, 2, none⟩) (Kd.R_types HO173.out BK170.out (by decide)) (fun _ hk => hk.2) (.slice Ao44 t174.length co44)) (fun _ h_ => h_.1))) : P := h
theorem u4_26 {P : Prop} (h : P := by (with_reducible repeat (first | apply Kd.R_alloc | apply Kd.R_drewN | apply Kd.R_drew)); exact (Kd.R_mono (Kd.R_far (p := ⟨gb170, 2, none⟩) (Kd.R_types HO176.out BK170.out (by decide)) (fun _ hk => hk.2) (.slice Ao44 t174.length co44)) (fun _ h_ => h_.1))) : P := h
theorem u4_28 {P : Prop} (h : P := by (with_reducible repeat (first | apply Kd.R_alloc | apply Kd.R_drewN | apply Kd.R_drew)); exact HO163.out) : P := h
theorem u4_29 {P : Prop} (h : P := by (with_reducible repeat (first | apply Kd.R_alloc | apply Kd.R_drewN | apply Kd.R_drew)); exact HO166.out) : P := h
theorem u4_30 {P : Prop} (h : P := by (with_reducible repeat (first | apply Kd.R_alloc | apply Kd.R_drewN | apply Kd.R_drew)); exact HO169.out) : P := h
theorem u4_31 {P : Prop} (h : P := by repeat (first | exact (Kd.R_reads' HO_171000.out).2.2 | (with_reducible refine Kd.C_alloc ?_ _) | (with_reducible refine Kd.C_drewN ?_ _) | (with_reducible refine Kd.C_drew ?_))) : P := h
theorem u4_32 {P : Prop} (h : P := by repeat (first | exact (Kd.R_reads' HO_171001.out).2.2 | (with_reducible refine Kd.C_alloc ?_ _) | (with_reducible refine Kd.C_drewN ?_ _) | (with_reducible refine Kd.C_drew ?_))) : P := h
theorem u4_33 {P : Prop} (h : P := by (with_reducible repeat (first | apply Kd.R_alloc | apply Kd.R_drewN | apply Kd.R_drew)); exact HO173.out) : P := h
theorem u4_34 {P : Prop} (h : P := by have := HJ3.out; have := HK2.out; omega) : P := h
/-! ### spec_Learner: function 21 -/
mutual
def spec_Learner.j0 : Nat → Int → Bool → Bool → List Int → List Int → List Int → Option (List Int × List Int × List Int × Bool)
 | 0, _, _, _, _, _, _ => none
 | k + 1, x1, x2, x20, x149000, x149001, x149002 => if x20 = true then ((spec_l06Copy.f k x149000 x149001 x149002).bind fun bt152 => (some (bt152.1, bt152.2.1, bt152.2.2, false))) else ((spec_l06Copy.f k x149000 x149001 x149002).bind fun bt161 => ((spec_l06Less.f k x149002 (([x1] : List Int))).bind fun t174 => (if x2 = true then (spec_Learner.l0 k x1 0 x149000 x149001 x149002 bt161.1 bt161.2.1 (([] : List Int))) else (spec_Learner.j2 k x149000 x149001 x149002 bt161.1 bt161.2.1 t174))))
def spec_Learner.j2 : Nat → List Int → List Int → List Int → List Int → List Int → List Int → Option (List Int × List Int × List Int × Bool)
 | 0, _, _, _, _, _, _ => none
 | k + 1, x149000, x149001, x149002, x171000, x171001, x171002 => (spec_ConfOk.f k x171000 x171001 x171002).bind fun t187 => (if t187 = true then ((spec_l06Same.f k x171002 x149002).bind fun t188 => (if t188 = true then ((spec_l06Copy.f k x149000 x149001 x149002).bind fun bt189 => (some (bt189.1, bt189.2.1, bt189.2.2, false))) else (some (x171000, x171001, x171002, true)))) else ((spec_l06Copy.f k x149000 x149001 x149002).bind fun bt198 => (some (bt198.1, bt198.2.1, bt198.2.2, false))))
def spec_Learner.l0 : Nat → Int → Int → List Int → List Int → List Int → List Int → List Int → List Int → Option (List Int × List Int × List Int × Bool)
 | 0, _, _, _, _, _, _, _, _ => none
 | k + 1, x1, x9, x149000, x149001, x149002, x171000, x171001, x171002 => if x9 < 100 then (if x9 = x1 then (if x171002.length < 17592186044416 then (spec_Learner.l0 k x1 (wrap64 (x9 + 1)) x149000 x149001 x149002 x171000 x171001 (x171002 ++ [x9])) else (none)) else ((spec_l01Has.f k x149002 x9).bind fun t183 => (if t183 = true then (if x171002.length < 17592186044416 then (spec_Learner.l0 k x1 (wrap64 (x9 + 1)) x149000 x149001 x149002 x171000 x171001 (x171002 ++ [x9])) else (none)) else (spec_Learner.l0 k x1 (wrap64 (x9 + 1)) x149000 x149001 x149002 x171000 x171001 x171002)))) else (spec_Learner.j2 k x149000 x149001 x149002 x171000 x171001 x171002)
end
def spec_Learner.f (k : Nat) (l0_0 : List Int) (l0_1 : List Int) (l0_2 : List Int) (a1 : Int) (a2 : Bool) : Option (List Int × List Int × List Int × Bool) := (spec_ConfOk.f k l0_0 l0_1 l0_2).bind fun t150 => (if t150 = true then ((spec_l01Has.f k l0_2 a1).bind fun t151 => (spec_Learner.j0 k a1 a2 (t151 == a2) l0_0 l0_1 l0_2)) else (spec_Learner.j0 k a1 a2 true l0_0 l0_1 l0_2))
theorem spec_Learner.mono_l : ∀ k, (∀ y0 y1 y2 y3 y4 y5, LeO (spec_Learner.j0 k y0 y1 y2 y3 y4 y5) (spec_Learner.j0 (k + 1) y0 y1 y2 y3 y4 y5)) ∧ (∀ y0 y1 y2 y3 y4 y5, LeO (spec_Learner.j2 k y0 y1 y2 y3 y4 y5) (spec_Learner.j2 (k + 1) y0 y1 y2 y3 y4 y5)) ∧ (∀ y0 y1 y2 y3 y4 y5 y6 y7, LeO (spec_Learner.l0 k y0 y1 y2 y3 y4 y5 y6 y7) (spec_Learner.l0 (k + 1) y0 y1 y2 y3 y4 y5 y6 y7))
 | 0 => ⟨fun _ _ _ _ _ _ r h => by simp [spec_Learner.j0] at h, fun _ _ _ _ _ _ r h => by simp [spec_Learner.j2] at h, fun _ _ _ _ _ _ _ _ r h => by simp [spec_Learner.l0] at h⟩
 | k + 1 => by
   obtain ⟨ih0, ih1, ih2⟩ := spec_Learner.mono_l k
   refine ⟨?_, ?_, ?_⟩ <;> intros <;> (first | unfold spec_Learner.j0 | unfold spec_Learner.j2 | unfold spec_Learner.l0) <;> repeat' first
   | (with_reducible exact ih0 _ _ _ _ _ _)
   | (with_reducible exact ih1 _ _ _ _ _ _)
   | (with_reducible exact ih2 _ _ _ _ _ _ _ _)
   | (with_reducible exact spec_ConfOk.mono _ _ _ _)
   | (with_reducible exact spec_l01Has.mono _ _ _)
   | (with_reducible exact spec_l06Copy.mono _ _ _ _)
   | (with_reducible exact spec_l06Less.mono _ _ _)
   | (with_reducible exact spec_l06Same.mono _ _ _)
   | (with_reducible exact LeO.refl _)
   | (with_reducible exact LeO.none _)
   | (with_reducible refine LeO.ite ?_ ?_)
   | (with_reducible refine LeO.bind ?_ (fun _ => ?_))
   | exact ih0 _ _ _ _ _ _
   | exact ih1 _ _ _ _ _ _
   | exact ih2 _ _ _ _ _ _ _ _
   | exact spec_ConfOk.mono _ _ _ _
   | exact spec_l01Has.mono _ _ _
   | exact spec_l06Copy.mono _ _ _ _
   | exact spec_l06Less.mono _ _ _
   | exact spec_l06Same.mono _ _ _
   | exact LeO.none _
   | refine LeO.ite ?_ ?_
   | refine LeO.bind ?_ (fun _ => ?_)
theorem spec_Learner.mono : ∀ a0 a1 a2 a3 a4 k, LeO (spec_Learner.f k a0 a1 a2 a3 a4) (spec_Learner.f (k + 1) a0 a1 a2 a3 a4) := by
 intro a0 a1 a2 a3 a4 k
 obtain ⟨ih0, ih1, ih2⟩ := spec_Learner.mono_l k
 unfold spec_Learner.f
 repeat' first
     | (with_reducible exact ih0 _ _ _ _ _ _)
     | (with_reducible exact ih1 _ _ _ _ _ _)
     | (with_reducible exact ih2 _ _ _ _ _ _ _ _)
     | (with_reducible exact spec_ConfOk.mono _ _ _ _)
     | (with_reducible exact spec_l01Has.mono _ _ _)
     | (with_reducible exact spec_l06Copy.mono _ _ _ _)
     | (with_reducible exact spec_l06Less.mono _ _ _)
     | (with_reducible exact spec_l06Same.mono _ _ _)
     | (with_reducible exact LeO.refl _)
     | (with_reducible exact LeO.none _)
     | (with_reducible refine LeO.ite ?_ ?_)
     | (with_reducible refine LeO.bind ?_ (fun _ => ?_))
     | exact ih0 _ _ _ _ _ _
     | exact ih1 _ _ _ _ _ _
     | exact ih2 _ _ _ _ _ _ _ _
     | exact spec_ConfOk.mono _ _ _ _
     | exact spec_l01Has.mono _ _ _
     | exact spec_l06Copy.mono _ _ _ _
     | exact spec_l06Less.mono _ _ _
     | exact spec_l06Same.mono _ _ _
     | exact LeO.none _
     | refine LeO.ite ?_ ?_
     | refine LeO.bind ?_ (fun _ => ?_)
set_option maxHeartbeats 8000000 in
set_option maxRecDepth 100000 in
theorem spec_Learner.calls (k : Nat) (A0_0 : Option Addr) (c0_0 : Nat) (l0_0 : List Int) (A0_1 : Option Addr) (c0_1 : Nat) (l0_1 : List Int) (A0_2 : Option Addr) (c0_2 : Nat) (l0_2 : List Int) (a1 : Int) (a2 : Bool) (r1 : List Int) (r2 : List Int) (r3 : List Int) (r4 : Bool) (w : World) (hr0_0 : Kd.C (Kd.int .i64) w A0_0 l0_0.length l0_0) (hc0_0 : l0_0.length ≤ c0_0) (hr0_1 : Kd.C (Kd.int .i64) w A0_1 l0_1.length l0_1) (hc0_1 : l0_1.length ≤ c0_1) (hr0_2 : Kd.C (Kd.int .i64) w A0_2 l0_2.length l0_2) (hc0_2 : l0_2.length ≤ c0_2) (h : spec_Learner.f k l0_0 l0_1 l0_2 a1 a2 = some (r1, r2, r3, r4)) :
   Calls Try.prog 21 #[.agg #[.slice A0_0 l0_0.length c0_0, .slice A0_1 l0_1.length c0_1, .slice A0_2 l0_2.length c0_2], .int .i64 a1, .bool a2] w fun e w' => ∃ v0_ v1_ v2_ : Value, e = .returned (.tuple #[.agg #[v0_, v1_, v2_], .bool r4]) ∧ Kd.R (Kd.int .i64) 3 w' w.heap.size (fun k_ => some k_ ≠ (v1_ : Value).ownBlock ∧ some k_ ≠ (v2_ : Value).ownBlock) v0_ r1 ∧ Kd.R (Kd.int .i64) 3 w' w.heap.size (fun k_ => some k_ ≠ (v0_ : Value).ownBlock ∧ some k_ ≠ (v2_ : Value).ownBlock) v1_ r2 ∧ Kd.R (Kd.int .i64) 3 w' w.heap.size (fun k_ => some k_ ≠ (v0_ : Value).ownBlock ∧ some k_ ≠ (v1_ : Value).ownBlock) v2_ r3 ∧ Below w.heap.size w w' := by
 have hu26 := Try.underlying26
 have HR0_0 := am hr0_0
 have HC0_0 := am hc0_0
 clear hr0_0 hc0_0
 have HR0_1 := am hr0_1
 have HC0_1 := am hc0_1
 clear hr0_1 hc0_1
 have HR0_2 := am hr0_2
 have HC0_2 := am hc0_2
 clear hr0_2 hc0_2
 have HB := am (Below.refl w.heap.size w)
 have H : ((spec_ConfOk.f k l0_0 l0_1 l0_2).bind fun t150 => (if t150 = true then ((spec_l01Has.f k l0_2 a1).bind fun t151 => (spec_Learner.j0 k a1 a2 (t151 == a2) l0_0 l0_1 l0_2)) else (spec_Learner.j0 k a1 a2 true l0_0 l0_1 l0_2))) = some (r1, r2, r3, r4) := h
 clear h
 have HC4 := am H
 clear H
 go_enter Try.func21, Try.ntmps21
 go_upto_region 1 with (first | ((with_reducible refine gate_dst (N := 3) rfl ?_); refine box_event ?hg (N := 3) ?hd (cs := #[.slice A0_0 l0_0.length c0_0, .slice A0_1 l0_1.length c0_1, .slice A0_2 l0_2.length c0_2]) (t := 26) ?hr ?_; (case hd => rfl); (case hg => rfl); (case hr => first | (go_simp; done) | (go_simp; rfl)); intro gb148 hg w5 hbox hb; have BK148 := am (hbox); have GW148 := am ((by rw [hg]; exact (below_size Q0) : w.heap.size ≤ gb148)); have GE148 := am ((by rw [hg]; exact (below_size Q0) : w.heap.size ≤ gb148)); replace HB := am (below_step Q0 hb); clear hb hbox hg) | ((with_reducible refine gate_dst (N := 6) rfl ?_); refine box_event ?hg (N := 6) ?hd (cs := #[.slice none 0 0, .slice none 0 0, .slice none 0 0]) (t := 26) ?hr ?_; (case hd => rfl); (case hg => rfl); (case hr => first | (go_simp; done) | (go_simp; rfl)); intro gb149 hg w6 hbox hb; have BK149 := am (hbox); have GW149 := am ((by rw [hg]; exact (below_size Q0) : w.heap.size ≤ gb149)); have GE149 := am ((by rw [hg]; exact (below_size Q0) : w.heap.size ≤ gb149)); replace HB := am (below_step Q0 hb); have NB148_149 := am ((by rw [hg]; exact Nat.ne_of_lt (blk_lt (g := gb148) (o := .cells #[.slice A0_0 l0_0.length c0_0, .slice A0_1 l0_1.length c0_1, .slice A0_2 l0_2.length c0_2] 26 (0, 0)) u4_2) : gb148 ≠ gb149)); have NB149_148 := am ((by rw [hg]; exact Nat.ne_of_gt (blk_lt (g := gb148) (o := .cells #[.slice A0_0 l0_0.length c0_0, .slice A0_1 l0_1.length c0_1, .slice A0_2 l0_2.length c0_2] 26 (0, 0)) u4_2) : gb149 ≠ gb148)); replace BK148 := am (blk_below (g := gb148) (o := .cells #[.slice A0_0 l0_0.length c0_0, .slice A0_1 l0_1.length c0_1, .slice A0_2 l0_2.length c0_2] 26 (0, 0)) u4_2 hb); clear hb hbox hg))
 (try simp only [Act.put, la, lb, lc])
 go_cut [20] (fun v20 wc => ∃ (kq : Nat) (x20_3 : Bool), v20 = .bool x20_3 ∧ Aside0 (spec_Learner.j0 kq a1 a2 x20_3 l0_0 l0_1 l0_2 = some (r1, r2, r3, r4)) ∧ Aside0 (kq ≤ k) ∧ Aside0 (wc.heap[gb148]? = some (.cells #[(.slice A0_0 l0_0.length c0_0), (.slice A0_1 l0_1.length c0_1), (.slice A0_2 l0_2.length c0_2)] 26 (0, 0))) ∧ Aside0 (wc.heap[gb149]? = some (.cells #[(.slice none 0 0), (.slice none 0 0), (.slice none 0 0)] 26 (0, 0))) ∧ Aside0 (Below w.heap.size w wc))
 case first =>
   have H := HC4.out
   clear HC4
   replace H := Option.bind_eq_some_iff.mp H
   obtain ⟨t150, A70, H⟩ := H
   have A7 := am A70
   clear A70
   by_cases c8 : t150 = true
   rotate_left
   · replace c8 := Bool.eq_false_iff.mpr c8
     subst c8
     rw [nf] at H
     have H' := am H
     clear H
     have hnb14 := NB148_149.out
     have hnc14 := NB149_148.out
     obtain ⟨hcz15_0, hcz15_1, hcz15_2, hfz15_0, hfz15_1, hfz15_2⟩ := bc3f w6 BK148.out
     go_wp2_with (first | ((with_reducible refine gate_callee (f := 53) rfl ?_); refine goesL_ (some 11) rfl rfl Try.func53 kr rfl #[.agg #[.slice A0_0 l0_0.length c0_0, .slice A0_1 l0_1.length c0_1, .slice A0_2 l0_2.length c0_2]] rfl Q3 ?_; (with_reducible refine (spec_ConfOk.calls k _ _ l0_0 _ _ l0_1 _ _ l0_2 false _ ?side1 ?side2 ?side3 ?side4 ?side5 ?side6 A7.out).mono ?_); (case side1 => exact Q6); (case side2 => exact HC0_0.out); (case side3 => exact Q8); (case side4 => exact HC0_1.out); (case side5 => exact Q7); (case side6 => exact HC0_2.out); rintro e w16 ⟨rfl, hb⟩; refine ⟨_, rfl, ?_⟩; replace BK148 := am (blk_below (g := gb148) (o := .cells #[.slice A0_0 l0_0.length c0_0, .slice A0_1 l0_1.length c0_1, .slice A0_2 l0_2.length c0_2] 26 (0, 0)) u4_2 hb); replace BK149 := am (blk_below (g := gb149) (o := .cells #[.slice none 0 0, .slice none 0 0, .slice none 0 0] 26 (0, 0)) u4_3 hb); replace HB := am (below_step Q0 hb); (try clear hb); (try clear hb2); (try clear hk); (try clear hi)))
     go_meet
     case rel => exact ⟨_, (true), Q1, H', ⟨by first | omega | exact Nat.le_refl _⟩, ⟨u4_2⟩, ⟨u4_3⟩, ⟨Q0⟩⟩
   subst c8
   rw [if_pos rfl] at H
   replace H := Option.bind_eq_some_iff.mp H
   obtain ⟨t151, A90, H⟩ := H
   replace H : (spec_Learner.j0 k a1 a2 (t151 == a2) l0_0 l0_1 l0_2) = some (r1, r2, r3, r4) := H
   have A9 := am A90
   clear A90
   have H' := am H
   clear H
   have hnb10 := NB148_149.out
   have hnc10 := NB149_148.out
   obtain ⟨hcz11_0, hcz11_1, hcz11_2, hfz11_0, hfz11_1, hfz11_2⟩ := bc3f w6 BK148.out
   go_wp2_with (first | ((with_reducible refine gate_callee (f := 53) rfl ?_); refine goesL_ (some 11) rfl rfl Try.func53 kr rfl #[.agg #[.slice A0_0 l0_0.length c0_0, .slice A0_1 l0_1.length c0_1, .slice A0_2 l0_2.length c0_2]] rfl Q3 ?_; (with_reducible refine (spec_ConfOk.calls k _ _ l0_0 _ _ l0_1 _ _ l0_2 true _ ?side1 ?side2 ?side3 ?side4 ?side5 ?side6 A7.out).mono ?_); (case side1 => exact Q6); (case side2 => exact HC0_0.out); (case side3 => exact Q8); (case side4 => exact HC0_1.out); (case side5 => exact Q7); (case side6 => exact HC0_2.out); rintro e w12 ⟨rfl, hb⟩; refine ⟨_, rfl, ?_⟩; replace BK148 := am (blk_below (g := gb148) (o := .cells #[.slice A0_0 l0_0.length c0_0, .slice A0_1 l0_1.length c0_1, .slice A0_2 l0_2.length c0_2] 26 (0, 0)) u4_2 hb); replace BK149 := am (blk_below (g := gb149) (o := .cells #[.slice none 0 0, .slice none 0 0, .slice none 0 0] 26 (0, 0)) u4_3 hb); replace HB := am (below_step Q0 hb); (try clear hb); (try clear hb2); (try clear hk); (try clear hi); obtain ⟨hcz13_0, hcz13_1, hcz13_2, hfz13_0, hfz13_1, hfz13_2⟩ := bc3f w12 BK148.out) | (go_at_call 54; (with_reducible refine (spec_l01Has.calls k _ _ l0_2 a1 t151 _ ?side1 ?side2 A9.out).mono ?_); (case side1 => exact Q7); (case side2 => exact HC0_2.out); rintro e w' ⟨rfl, ⟨nd, rfl⟩⟩))
   go_meet
   case rel => exact ⟨_, ((t151 == a2)), Q1, H', ⟨by first | omega | exact Nat.le_refl _⟩, ⟨u4_2⟩, ⟨u4_3⟩, ⟨Q0⟩⟩
 clear HC4
 obtain ⟨kq, x20_3, rfl, HA, HJ3, BK148, BK149, HB⟩ := hcut
 cases kq with
 | zero => exact absurd HA.out (by simp [spec_Learner.j0])
 | succ kj3 =>
   have H := HA.out
   clear HA
   simp only [spec_Learner.j0] at H
   by_cases c17 : x20_3 = true
   · subst c17
     rw [if_pos rfl] at H
     replace H := Option.bind_eq_some_iff.mp H
     obtain ⟨⟨t152, t155, t158⟩, A180, H⟩ := H
     replace H : (some (t152, t155, t158, false)) = some (r1, r2, r3, r4) := H
     have A18 := am A180
     clear A180
     simp only [Option.some.injEq, Prod.mk.injEq] at H
     obtain ⟨rfl, rfl, rfl, rfl⟩ := H
     have hnb19 := NB148_149.out
     have hnc19 := NB149_148.out
     obtain ⟨hcz20_0, hcz20_1, hcz20_2, hfz20_0, hfz20_1, hfz20_2⟩ := bc3f wc BK148.out
     go_wp2_with (first | ((with_reducible refine gate_callee (f := 55) rfl ?_); refine goesL_ (some 22) rfl rfl Try.func55 kr rfl #[.agg #[.slice A0_0 l0_0.length c0_0, .slice A0_1 l0_1.length c0_1, .slice A0_2 l0_2.length c0_2]] rfl Q3 ?_; (with_reducible refine (spec_l06Copy.calls kj3 _ _ l0_0 _ _ l0_1 _ _ l0_2 t152 t155 t158 _ ?side1 ?side2 ?side3 ?side4 ?side5 ?side6 A18.out).mono ?_); (case side1 => exact Q6); (case side2 => exact HC0_0.out); (case side3 => exact Q8); (case side4 => exact HC0_1.out); (case side5 => exact Q7); (case side6 => exact HC0_2.out); rintro e w21 ⟨v153, v156, v159, rfl, ho0, ho1, ho2, hb⟩; refine ⟨_, rfl, ?_⟩; have HO154 := am (Kd.R_lower ho0 (below_size Q0)); have HO157 := am (Kd.R_lower ho1 (below_size Q0)); have HO160 := am (Kd.R_lower ho2 (below_size Q0)); replace BK148 := am (blk_below (g := gb148) (o := .cells #[.slice A0_0 l0_0.length c0_0, .slice A0_1 l0_1.length c0_1, .slice A0_2 l0_2.length c0_2] 26 (0, 0)) u4_2 hb); replace BK149 := am (blk_below (g := gb149) (o := .cells #[.slice none 0 0, .slice none 0 0, .slice none 0 0] 26 (0, 0)) u4_3 hb); replace HB := am (below_step Q0 hb); (try clear hb); (try clear hb2); (try clear hk); (try clear hi); (try clear ho0); (try clear ho1); (try clear ho2); obtain ⟨Ao22, co22, eo22⟩ := Kd.R_slice HO154.out; subst eo22; obtain ⟨hcz23_0, hcz23_1, hcz23_2, hfz23_0, hfz23_1, hfz23_2⟩ := bc3f w21 BK149.out; obtain ⟨Ao24, co24, eo24⟩ := Kd.R_slice HO157.out; subst eo24; obtain ⟨Ao25, co25, eo25⟩ := Kd.R_slice HO160.out; subst eo25))
     refine bodyPost_ret (results_ct rfl _ _ gb149 26 #[.slice Ao22 t152.length co22, .slice Ao24 t155.length co24, .slice Ao25 t158.length co25] (0, 0) _ rfl (by (with_reducible repeat (first | refine blk_drewN ?_ _ | refine blk_drew ?_ | refine blk_alloc ?_ _)); refine blk_put (cs := #[.slice Ao22 t152.length co22, .slice Ao24 t155.length co24, .slice none 0 0]) ?_ 2 _ rfl; (with_reducible repeat (first | refine blk_drewN ?_ _ | refine blk_drew ?_ | refine blk_alloc ?_ _)); refine blk_put (cs := #[.slice Ao22 t152.length co22, .slice none 0 0, .slice none 0 0]) ?_ 1 _ rfl; (with_reducible repeat (first | refine blk_drewN ?_ _ | refine blk_drew ?_ | refine blk_alloc ?_ _)); refine blk_put (cs := #[.slice none 0 0, .slice none 0 0, .slice none 0 0]) ?_ 0 _ rfl; (with_reducible repeat (first | refine blk_drewN ?_ _ | refine blk_drew ?_ | refine blk_alloc ?_ _)); exact BK149.out) Try.underlying26 rfl kr) rfl ?_
     exact ⟨_, _, _, er, (by (with_reducible repeat (first | apply Kd.R_alloc | apply Kd.R_drewN | apply Kd.R_drew)); exact Kd.R_mono (Kd.R_far (p := ⟨gb149, 2, none⟩) (Kd.R_far (p := ⟨gb149, 1, none⟩) (Kd.R_far (p := ⟨gb149, 0, none⟩) (Kd.R_types HO154.out BK149.out (by decide)) (fun _ hk => hk.2) (.slice Ao22 t152.length co22)) (fun _ hk => hk.2) (.slice Ao24 t155.length co24)) (fun _ hk => hk.2) (.slice Ao25 t158.length co25)) (fun _ hk => ⟨hk.1.1, hk.1.2⟩)), (by (with_reducible repeat (first | apply Kd.R_alloc | apply Kd.R_drewN | apply Kd.R_drew)); exact Kd.R_mono (Kd.R_far (p := ⟨gb149, 2, none⟩) (Kd.R_far (p := ⟨gb149, 1, none⟩) (Kd.R_far (p := ⟨gb149, 0, none⟩) (Kd.R_types HO157.out BK149.out (by decide)) (fun _ hk => hk.2) (.slice Ao22 t152.length co22)) (fun _ hk => hk.2) (.slice Ao24 t155.length co24)) (fun _ hk => hk.2) (.slice Ao25 t158.length co25)) (fun _ hk => ⟨hk.1.1, hk.1.2⟩)), (by (with_reducible repeat (first | apply Kd.R_alloc | apply Kd.R_drewN | apply Kd.R_drew)); exact Kd.R_mono (Kd.R_far (p := ⟨gb149, 2, none⟩) (Kd.R_far (p := ⟨gb149, 1, none⟩) (Kd.R_far (p := ⟨gb149, 0, none⟩) (Kd.R_types HO160.out BK149.out (by decide)) (fun _ hk => hk.2) (.slice Ao22 t152.length co22)) (fun _ hk => hk.2) (.slice Ao24 t155.length co24)) (fun _ hk => hk.2) (.slice Ao25 t158.length co25)) (fun _ hk => ⟨hk.1.1, hk.1.2⟩)), Q0⟩
   replace c17 := Bool.eq_false_iff.mpr c17
   subst c17
   rw [nf] at H
   replace H := Option.bind_eq_some_iff.mp H
   obtain ⟨⟨t161, t164, t167⟩, A260, H⟩ := H
   (try dsimp only at H)
   have A26 := am A260
   clear A260
   obtain ⟨y171, hy171⟩ : ∃ y_ : List Int, y_ = (([a1] : List Int)) := ⟨_, rfl⟩
   replace H : ((spec_l06Less.f kj3 l0_2 y171).bind fun t174 => (if a2 = true then (spec_Learner.l0 kj3 a1 0 l0_0 l0_1 l0_2 t161 t164 (([] : List Int))) else (spec_Learner.j2 kj3 l0_0 l0_1 l0_2 t161 t164 t174))) = some (r1, r2, r3, r4) := by first | (rw [hy171]; with_reducible exact H) | (have H2_ := (Option.bind_some _ _).symm.trans H; rw [hy171]; with_reducible exact H2_) | (have H2_ := (Option.bind_some _ _).symm.trans H; with_reducible exact H2_) | with_reducible exact H | (rw [hy171]; exact H) | exact H
   have Ny171 := am hy171
   clear hy171
   replace H := Option.bind_eq_some_iff.mp H
   obtain ⟨t174, A270, H⟩ := H
   have A27 := am A270
   clear A270
   have HC28 := am H
   clear H
   have hnb29 := NB148_149.out
   have hnc29 := NB149_148.out
   obtain ⟨hcz30_0, hcz30_1, hcz30_2, hfz30_0, hfz30_1, hfz30_2⟩ := bc3f wc BK148.out
   go_upto_if 31 with (first | ((with_reducible refine gate_callee (f := 55) rfl ?_); refine goesL_ (some 24) rfl rfl Try.func55 kr rfl #[.agg #[.slice A0_0 l0_0.length c0_0, .slice A0_1 l0_1.length c0_1, .slice A0_2 l0_2.length c0_2]] rfl Q3 ?_; (with_reducible refine (spec_l06Copy.calls kj3 _ _ l0_0 _ _ l0_1 _ _ l0_2 t161 t164 t167 _ ?side1 ?side2 ?side3 ?side4 ?side5 ?side6 A26.out).mono ?_); (case side1 => exact Q6); (case side2 => exact HC0_0.out); (case side3 => exact Q8); (case side4 => exact HC0_1.out); (case side5 => exact Q7); (case side6 => exact HC0_2.out); rintro e w31 ⟨v162, v165, v168, rfl, ho0, ho1, ho2, hb⟩; refine ⟨_, rfl, ?_⟩; have HO163 := am (Kd.R_lower ho0 (below_size Q0)); have HO166 := am (Kd.R_lower ho1 (below_size Q0)); have HO169 := am (Kd.R_lower ho2 (below_size Q0)); replace BK148 := am (blk_below (g := gb148) (o := .cells #[.slice A0_0 l0_0.length c0_0, .slice A0_1 l0_1.length c0_1, .slice A0_2 l0_2.length c0_2] 26 (0, 0)) u4_2 hb); replace BK149 := am (blk_below (g := gb149) (o := .cells #[.slice none 0 0, .slice none 0 0, .slice none 0 0] 26 (0, 0)) u4_3 hb); replace HB := am (below_step Q0 hb); (try clear hb); (try clear hb2); (try clear hk); (try clear hi); (try clear ho0); (try clear ho1); (try clear ho2)) | ((with_reducible refine gate_dst (N := 8) rfl ?_); refine box_event ?hg (N := 8) ?hd (cs := #[.slice none 0 0, .slice none 0 0, .slice none 0 0]) (t := 26) ?hr ?_; (case hd => rfl); (case hg => rfl); (case hr => first | (go_simp; done) | (go_simp; rfl)); intro gb170 hg w32 hbox hb; replace HO163 := am (Kd.R_below u4_28 hb); replace HO166 := am (Kd.R_below u4_29 hb); replace HO169 := am (Kd.R_below u4_30 hb); have BK170 := am (hbox); have GW170 := am ((by rw [hg]; exact (below_size Q0) : w.heap.size ≤ gb170)); have GE170 := am ((by rw [hg]; exact (below_size Q0) : w.heap.size ≤ gb170)); replace HB := am (below_step Q0 hb); have NB148_170 := am ((by rw [hg]; exact Nat.ne_of_lt (blk_lt (g := gb148) (o := .cells #[.slice A0_0 l0_0.length c0_0, .slice A0_1 l0_1.length c0_1, .slice A0_2 l0_2.length c0_2] 26 (0, 0)) u4_2) : gb148 ≠ gb170)); have NB170_148 := am ((by rw [hg]; exact Nat.ne_of_gt (blk_lt (g := gb148) (o := .cells #[.slice A0_0 l0_0.length c0_0, .slice A0_1 l0_1.length c0_1, .slice A0_2 l0_2.length c0_2] 26 (0, 0)) u4_2) : gb170 ≠ gb148)); replace BK148 := am (blk_below (g := gb148) (o := .cells #[.slice A0_0 l0_0.length c0_0, .slice A0_1 l0_1.length c0_1, .slice A0_2 l0_2.length c0_2] 26 (0, 0)) u4_2 hb); have NB149_170 := am ((by rw [hg]; exact Nat.ne_of_lt (blk_lt (g := gb149) (o := .cells #[.slice none 0 0, .slice none 0 0, .slice none 0 0] 26 (0, 0)) u4_3) : gb149 ≠ gb170)); have NB170_149 := am ((by rw [hg]; exact Nat.ne_of_gt (blk_lt (g := gb149) (o := .cells #[.slice none 0 0, .slice none 0 0, .slice none 0 0] 26 (0, 0)) u4_3) : gb170 ≠ gb149)); replace BK149 := am (blk_below (g := gb149) (o := .cells #[.slice none 0 0, .slice none 0 0, .slice none 0 0] 26 (0, 0)) u4_3 hb); clear hb hbox hg; obtain ⟨Ao33, co33, eo33⟩ := Kd.R_slice HO163.out; subst eo33; have hnb34 := NB170_148.out; have hnc34 := NB148_170.out; have hnb35 := NB170_149.out; have hnc35 := NB149_170.out; obtain ⟨hcz36_0, hcz36_1, hcz36_2, hfz36_0, hfz36_1, hfz36_2⟩ := bc3f w32 BK170.out; obtain ⟨Ao37, co37, eo37⟩ := Kd.R_slice HO166.out; subst eo37; obtain ⟨Ao38, co38, eo38⟩ := Kd.R_slice HO169.out; subst eo38; obtain ⟨hcz39_0, hcz39_1, hcz39_2, hfz39_0, hfz39_1, hfz39_2⟩ := bc3f w32 BK148.out) | ((with_reducible refine gate_dst (N := 28) rfl ?_); refine Kd.R_lit (Kd.int .i64) _ 3 ?hg (N := 28) ?hd (xs := ([a1] : List Int)) (inner := [.int .i64 a1]) (ok := fun _ => True) (okp := fun _ => True) ?hr ?hp (fun _ hk => hk) trivial (Below.refl _ _) (Nat.le_refl _) (by simp) ?_; (case hd => rfl); (case hg => rfl); (case hr => first | (go_simp; done) | (go_simp; rfl)); (case hp => exact (Reps.one (show Kd.M (Kd.int .i64) _ _ _ a1 [.int .i64 a1] from rfl) (Reps.none _ _))); intro v172 w40 ho41 hb hg_ hnew_; clear hg_ hnew_; (first | rw [← Ny171.out] at ho41 | (simp only [Int.reduceToNat] at ho41; rw [← Ny171.out] at ho41)); have HO173 := am (Kd.R_lower (Kd.R_new' (Kd.R_new' (Kd.R_new' ho41 (Kd.R_lt u4_14)) (Kd.R_lt u4_15)) (Kd.R_lt u4_16)) (below_size Q0)); replace HO163 := am (Kd.R_elder' u4_14 (Kd.R_base ho41) hb); replace HO166 := am (Kd.R_elder' u4_15 (Kd.R_base ho41) hb); replace HO169 := am (Kd.R_elder' u4_16 (Kd.R_base ho41) hb); replace BK148 := am (blk_below (g := gb148) (o := .cells #[.slice A0_0 l0_0.length c0_0, .slice A0_1 l0_1.length c0_1, .slice A0_2 l0_2.length c0_2] 26 (0, 0)) (by (with_reducible repeat (first | refine blk_drewN ?_ _ | refine blk_drew ?_ | refine blk_alloc ?_ _)); refine blk_far ?_ NB148_170.out _; (with_reducible repeat (first | refine blk_drewN ?_ _ | refine blk_drew ?_ | refine blk_alloc ?_ _)); refine blk_far ?_ NB148_170.out _; (with_reducible repeat (first | refine blk_drewN ?_ _ | refine blk_drew ?_ | refine blk_alloc ?_ _)); refine blk_far ?_ NB148_170.out _; (with_reducible repeat (first | refine blk_drewN ?_ _ | refine blk_drew ?_ | refine blk_alloc ?_ _)); exact BK148.out) hb); replace BK149 := am (blk_below (g := gb149) (o := .cells #[.slice none 0 0, .slice none 0 0, .slice none 0 0] 26 (0, 0)) (by (with_reducible repeat (first | refine blk_drewN ?_ _ | refine blk_drew ?_ | refine blk_alloc ?_ _)); refine blk_far ?_ NB149_170.out _; (with_reducible repeat (first | refine blk_drewN ?_ _ | refine blk_drew ?_ | refine blk_alloc ?_ _)); refine blk_far ?_ NB149_170.out _; (with_reducible repeat (first | refine blk_drewN ?_ _ | refine blk_drew ?_ | refine blk_alloc ?_ _)); refine blk_far ?_ NB149_170.out _; (with_reducible repeat (first | refine blk_drewN ?_ _ | refine blk_drew ?_ | refine blk_alloc ?_ _)); exact BK149.out) hb); replace BK170 := am (blk_below (g := gb170) (o := .cells #[.slice Ao33 t161.length co33, .slice Ao37 t164.length co37, .slice Ao38 t167.length co38] 26 (0, 0)) (by (with_reducible repeat (first | refine blk_drewN ?_ _ | refine blk_drew ?_ | refine blk_alloc ?_ _)); refine blk_put (cs := #[.slice Ao33 t161.length co33, .slice Ao37 t164.length co37, .slice none 0 0]) ?_ 2 _ rfl; (with_reducible repeat (first | refine blk_drewN ?_ _ | refine blk_drew ?_ | refine blk_alloc ?_ _)); refine blk_put (cs := #[.slice Ao33 t161.length co33, .slice none 0 0, .slice none 0 0]) ?_ 1 _ rfl; (with_reducible repeat (first | refine blk_drewN ?_ _ | refine blk_drew ?_ | refine blk_alloc ?_ _)); refine blk_put (cs := #[.slice none 0 0, .slice none 0 0, .slice none 0 0]) ?_ 0 _ rfl; (with_reducible repeat (first | refine blk_drewN ?_ _ | refine blk_drew ?_ | refine blk_alloc ?_ _)); exact BK170.out) hb); replace HB := am (below_step Q0 hb); clear hb ho41; obtain ⟨Ao42, co42, eo42⟩ := Kd.R_slice HO173.out; subst eo42) | ((with_reducible refine gate_callee (f := 56) rfl ?_); refine goesL_ (some 29) rfl rfl Try.func56 kr rfl #[.slice A0_2 l0_2.length c0_2, .slice Ao42 y171.length co42] rfl Q3 ?_; (with_reducible refine (spec_l06Less.calls kj3 _ _ l0_2 _ _ y171 t174 _ ?side1 ?side2 ?side3 ?side4 A27.out).mono ?_); (case side1 => exact Q7); (case side2 => exact HC0_2.out); (case side3 => exact (by repeat (first | exact (Kd.R_reads' HO173.out).2.2 | (with_reducible refine Kd.C_alloc ?_ _) | (with_reducible refine Kd.C_drewN ?_ _) | (with_reducible refine Kd.C_drew ?_)))); (case side4 => exact (Kd.R_reads' HO173.out).2.1); rintro e w43 ⟨v175, rfl, ho0, hb⟩; refine ⟨_, rfl, ?_⟩; have HO176 := am (Kd.R_lower (Kd.R_new' (Kd.R_new' (Kd.R_new' (Kd.R_new' ho0 (Kd.R_lt u4_28)) (Kd.R_lt u4_29)) (Kd.R_lt u4_30)) (Kd.R_lt u4_33)) (below_size Q0)); replace HO163 := am (Kd.R_elder' u4_28 (Kd.R_base ho0) hb); replace HO166 := am (Kd.R_elder' u4_29 (Kd.R_base ho0) hb); replace HO169 := am (Kd.R_elder' u4_30 (Kd.R_base ho0) hb); replace HO173 := am (Kd.R_elder' u4_33 (Kd.R_base ho0) hb); replace BK148 := am (blk_below (g := gb148) (o := .cells #[.slice A0_0 l0_0.length c0_0, .slice A0_1 l0_1.length c0_1, .slice A0_2 l0_2.length c0_2] 26 (0, 0)) u4_2 hb); replace BK149 := am (blk_below (g := gb149) (o := .cells #[.slice none 0 0, .slice none 0 0, .slice none 0 0] 26 (0, 0)) u4_3 hb); replace BK170 := am (blk_below (g := gb170) (o := .cells #[.slice Ao33 t161.length co33, .slice Ao37 t164.length co37, .slice Ao38 t167.length co38] 26 (0, 0)) u4_11 hb); replace HB := am (below_step Q0 hb); (try clear hb); (try clear hb2); (try clear hk); (try clear hi); (try clear ho0); obtain ⟨Ao44, co44, eo44⟩ := Kd.R_slice HO176.out; subst eo44; obtain ⟨hcz45_0, hcz45_1, hcz45_2, hfz45_0, hfz45_1, hfz45_2⟩ := bc3f w43 BK170.out))
   (try simp only [Act.put, la, lb, lc])
   go_cut [] (fun wc => ∃ (kq : Nat) (x171002_27 : List Int) (u171002 : Value), Aside0 (spec_Learner.j2 kq l0_0 l0_1 l0_2 t161 t164 x171002_27 = some (r1, r2, r3, r4)) ∧ Aside0 (kq ≤ kj3) ∧ Aside0 (Kd.R (Kd.int .i64) 3 wc w.heap.size (fun k_ => some k_ ≠ ((.slice Ao37 t164.length co37) : Value).ownBlock ∧ some k_ ≠ (u171002 : Value).ownBlock) (.slice Ao33 t161.length co33) t161) ∧ Aside0 (Kd.R (Kd.int .i64) 3 wc w.heap.size (fun k_ => some k_ ≠ ((.slice Ao33 t161.length co33) : Value).ownBlock ∧ some k_ ≠ (u171002 : Value).ownBlock) (.slice Ao37 t164.length co37) t164) ∧ Aside0 (Kd.R (Kd.int .i64) 3 wc w.heap.size (fun k_ => some k_ ≠ ((.slice Ao33 t161.length co33) : Value).ownBlock ∧ some k_ ≠ ((.slice Ao37 t164.length co37) : Value).ownBlock) u171002 x171002_27) ∧ Aside0 (wc.heap[gb148]? = some (.cells #[(.slice A0_0 l0_0.length c0_0), (.slice A0_1 l0_1.length c0_1), (.slice A0_2 l0_2.length c0_2)] 26 (0, 0))) ∧ Aside0 (wc.heap[gb149]? = some (.cells #[(.slice none 0 0), (.slice none 0 0), (.slice none 0 0)] 26 (0, 0))) ∧ Aside0 (wc.heap[gb170]? = some (.cells #[(.slice Ao33 t161.length co33), (.slice Ao37 t164.length co37), u171002] 26 (0, 0))) ∧ Aside0 (Below w.heap.size w wc))
   case first =>
     have H := HC28.out
     clear HC28
     by_cases c46 : a2 = true
     rotate_left
     · replace c46 := Bool.eq_false_iff.mpr c46
       subst c46
       rw [nf] at H
       have H' := am H
       clear H
       go_wp2
       go_meet
       case rel => exact ⟨_, (t174), (.slice Ao44 t174.length co44), H', ⟨(by have := HJ3.out; first | omega | exact Nat.le_refl _)⟩, ⟨(by (with_reducible repeat (first | apply Kd.R_alloc | apply Kd.R_drewN | apply Kd.R_drew)); exact Kd.R_mono (Kd.R_far (p := ⟨gb170, 2, none⟩) (Kd.R_types HO163.out BK170.out (by decide)) (fun _ hk => hk.2) (.slice Ao44 t174.length co44)) (fun _ hk => ⟨hk.1.1.1.1, hk.1.2⟩))⟩, ⟨(by (with_reducible repeat (first | apply Kd.R_alloc | apply Kd.R_drewN | apply Kd.R_drew)); exact Kd.R_mono (Kd.R_far (p := ⟨gb170, 2, none⟩) (Kd.R_types HO166.out BK170.out (by decide)) (fun _ hk => hk.2) (.slice Ao44 t174.length co44)) (fun _ hk => ⟨hk.1.1.1.1, hk.1.2⟩))⟩, ⟨(by (with_reducible repeat (first | apply Kd.R_alloc | apply Kd.R_drewN | apply Kd.R_drew)); exact Kd.R_mono (Kd.R_far (p := ⟨gb170, 2, none⟩) (Kd.R_types HO176.out BK170.out (by decide)) (fun _ hk => hk.2) (.slice Ao44 t174.length co44)) (fun _ hk => ⟨hk.1.1.1.1.2, hk.1.1.1.2⟩))⟩, ⟨u4_9⟩, ⟨u4_10⟩, ⟨u4_18⟩, ⟨Q0⟩⟩
     subst c46
     rw [if_pos rfl] at H
     obtain ⟨y177, hy177⟩ : ∃ y_ : List Int, y_ = (([] : List Int)) := ⟨_, rfl⟩
     replace H : (spec_Learner.l0 kj3 a1 0 l0_0 l0_1 l0_2 t161 t164 y177) = some (r1, r2, r3, r4) := by first | (rw [hy177]; with_reducible exact H) | (have H2_ := (Option.bind_some _ _).symm.trans H; rw [hy177]; with_reducible exact H2_) | (have H2_ := (Option.bind_some _ _).symm.trans H; with_reducible exact H2_) | with_reducible exact H | (rw [hy177]; exact H) | exact H
     have Ny177 := am hy177
     clear hy177
     have H' := am H
     clear H
     go_wp2_with (first | ((with_reducible refine gate_dst (N := 32) rfl ?_); refine Kd.R_lit (Kd.int .i64) _ 3 ?hg (N := 32) ?hd (xs := ([] : List Int)) (inner := []) (ok := fun _ => True) (okp := fun _ => True) ?hr ?hp (fun _ hk => hk) trivial (Below.refl _ _) (Nat.le_refl _) (by simp) ?_; (case hd => rfl); (case hg => rfl); (case hr => first | (go_simp; done) | (go_simp; rfl)); (case hp => exact (Reps.none _ _)); intro v178 w47 ho48 hb hg_ hnew_; clear hg_ hnew_; (first | rw [← Ny177.out] at ho48 | (simp only [Int.reduceToNat] at ho48; rw [← Ny177.out] at ho48)); have HO179 := am (Kd.R_lower (Kd.R_new' (Kd.R_new' (Kd.R_new' (Kd.R_new' (Kd.R_new' ho48 (Kd.R_lt u4_22)) (Kd.R_lt u4_23)) (Kd.R_lt u4_24)) (Kd.R_lt u4_25)) (Kd.R_lt u4_26)) (below_size Q0)); replace HO163 := am (Kd.R_elder' u4_22 (Kd.R_base ho48) hb); replace HO166 := am (Kd.R_elder' u4_23 (Kd.R_base ho48) hb); replace HO169 := am (Kd.R_elder' u4_24 (Kd.R_base ho48) hb); replace HO173 := am (Kd.R_elder' u4_25 (Kd.R_base ho48) hb); replace HO176 := am (Kd.R_elder' u4_26 (Kd.R_base ho48) hb); replace BK148 := am (blk_below (g := gb148) (o := .cells #[.slice A0_0 l0_0.length c0_0, .slice A0_1 l0_1.length c0_1, .slice A0_2 l0_2.length c0_2] 26 (0, 0)) u4_9 hb); replace BK149 := am (blk_below (g := gb149) (o := .cells #[.slice none 0 0, .slice none 0 0, .slice none 0 0] 26 (0, 0)) u4_10 hb); replace BK170 := am (blk_below (g := gb170) (o := .cells #[.slice Ao33 t161.length co33, .slice Ao37 t164.length co37, .slice Ao44 t174.length co44] 26 (0, 0)) u4_18 hb); replace HB := am (below_step Q0 hb); clear hb ho48; obtain ⟨Ao49, co49, eo49⟩ := Kd.R_slice HO179.out; subst eo49; have hnb50 := NB170_148.out; have hnc50 := NB148_170.out; have hnb51 := NB170_149.out; have hnc51 := NB149_170.out; obtain ⟨hcz52_0, hcz52_1, hcz52_2, hfz52_0, hfz52_1, hfz52_2⟩ := bc3f w47 BK170.out))
     go_loopg [9] kj3 (fun kq v9 w' => ∃ (x9_2 : Int) (x171002_2 : List Int) (u171002 : Value), v9 = .int .i64 x9_2 ∧ Aside0 (spec_Learner.l0 kq a1 x9_2 l0_0 l0_1 l0_2 t161 t164 x171002_2 = some (r1, r2, r3, r4)) ∧ Aside0 (kq ≤ kj3) ∧ Aside0 (Kd.R (Kd.int .i64) 3 w' w.heap.size (fun k_ => some k_ ≠ ((.slice Ao37 t164.length co37) : Value).ownBlock ∧ some k_ ≠ (u171002 : Value).ownBlock) (.slice Ao33 t161.length co33) t161) ∧ Aside0 (Kd.R (Kd.int .i64) 3 w' w.heap.size (fun k_ => some k_ ≠ ((.slice Ao33 t161.length co33) : Value).ownBlock ∧ some k_ ≠ (u171002 : Value).ownBlock) (.slice Ao37 t164.length co37) t164) ∧ Aside0 (Kd.R (Kd.int .i64) 3 w' w.heap.size (fun k_ => some k_ ≠ ((.slice Ao33 t161.length co33) : Value).ownBlock ∧ some k_ ≠ ((.slice Ao37 t164.length co37) : Value).ownBlock) u171002 x171002_2) ∧ Aside0 (w'.heap[gb148]? = some (.cells #[(.slice A0_0 l0_0.length c0_0), (.slice A0_1 l0_1.length c0_1), (.slice A0_2 l0_2.length c0_2)] 26 (0, 0))) ∧ Aside0 (w'.heap[gb149]? = some (.cells #[(.slice none 0 0), (.slice none 0 0), (.slice none 0 0)] 26 (0, 0))) ∧ Aside0 (w'.heap[gb170]? = some (.cells #[(.slice Ao33 t161.length co33), (.slice Ao37 t164.length co37), u171002] 26 (0, 0))) ∧ Aside0 (Below w.heap.size w w'))
     case atStart => exact ⟨(0), (y177), (.slice Ao49 y177.length co49), Q1, H', ⟨Nat.le_refl _⟩, ⟨(by (with_reducible repeat (first | apply Kd.R_alloc | apply Kd.R_drewN | apply Kd.R_drew)); exact Kd.R_mono (Kd.R_far (p := ⟨gb170, 2, none⟩) (Kd.R_types HO163.out BK170.out (by decide)) (fun _ hk => hk.2) (.slice Ao49 y177.length co49)) (fun _ hk => ⟨hk.1.1.1.1.1, hk.1.2⟩))⟩, ⟨(by (with_reducible repeat (first | apply Kd.R_alloc | apply Kd.R_drewN | apply Kd.R_drew)); exact Kd.R_mono (Kd.R_far (p := ⟨gb170, 2, none⟩) (Kd.R_types HO166.out BK170.out (by decide)) (fun _ hk => hk.2) (.slice Ao49 y177.length co49)) (fun _ hk => ⟨hk.1.1.1.1.1, hk.1.2⟩))⟩, ⟨(by (with_reducible repeat (first | apply Kd.R_alloc | apply Kd.R_drewN | apply Kd.R_drew)); exact Kd.R_mono (Kd.R_far (p := ⟨gb170, 2, none⟩) (Kd.R_types HO179.out BK170.out (by decide)) (fun _ hk => hk.2) (.slice Ao49 y177.length co49)) (fun _ hk => ⟨hk.1.1.1.1.1.2, hk.1.1.1.1.2⟩))⟩, ⟨u4_9⟩, ⟨u4_10⟩, ⟨(by (with_reducible repeat (first | refine blk_drewN ?_ _ | refine blk_drew ?_ | refine blk_alloc ?_ _)); refine blk_put (cs := #[.slice Ao33 t161.length co33, .slice Ao37 t164.length co37, .slice Ao44 t174.length co44]) ?_ 2 _ rfl; (with_reducible repeat (first | refine blk_drewN ?_ _ | refine blk_drew ?_ | refine blk_alloc ?_ _)); exact BK170.out)⟩, ⟨Q0⟩⟩
     clear H'
     try clear c17
     try clear c46
     try clear hcz30_0
     try clear hcz30_1
     try clear hcz30_2
     try clear hcz36_0
     try clear hcz36_1
     try clear hcz36_2
     try clear hcz39_0
     try clear hcz39_1
     try clear hcz39_2
     try clear hcz45_0
     try clear hcz45_1
     try clear hcz45_2
     try clear hcz52_0
     try clear hcz52_1
     try clear hcz52_2
     try clear hfz30_0
     try clear hfz30_1
     try clear hfz30_2
     try clear hfz36_0
     try clear hfz36_1
     try clear hfz36_2
     try clear hfz39_0
     try clear hfz39_1
     try clear hfz39_2
     try clear hfz45_0
     try clear hfz45_1
     try clear hfz45_2
     try clear hfz52_0
     try clear hfz52_1
     try clear hfz52_2
     obtain ⟨x9_2, x171002_2, u171002, rfl, HA, HK2, HO_171000, HO_171001, HO_171002, BK148, BK149, BK170, HB⟩ := hrel
     cases gk with
     | zero => exact absurd HA.out (by simp [spec_Learner.l0])
     | succ k2 =>
       have H := HA.out
       clear HA
       simp only [spec_Learner.l0] at H
       by_cases c53 : x9_2 < 100
       rotate_left
       · rw [if_neg c53] at H
         have c53b0 : decide (x9_2 < 100) = false := decide_eq_false c53
         clear c53
         (first | rw [c53b0] | (simp only [i64_w, i32_w]; rw [c53b0]) | skip)
         have H' := am H
         clear H
         go_wp2
         go_meet
         case rel => exact ⟨_, (x171002_2), (u171002), H', ⟨(by have := HJ3.out; have := HK2.out; first | omega | exact Nat.le_refl _)⟩, ⟨u4_4⟩, ⟨u4_5⟩, ⟨u4_7⟩, ⟨u4_2⟩, ⟨u4_3⟩, ⟨u4_11⟩, ⟨Q0⟩⟩
       rw [if_pos c53] at H
       have c53b0 : decide (x9_2 < 100) = true := decide_eq_true c53
       clear c53
       (first | rw [c53b0] | (simp only [i64_w, i32_w]; rw [c53b0]) | skip)
       by_cases c54 : x9_2 = a1
       · rw [if_pos c54] at H
         have c54b0 : (x9_2 == a1) = true := beq_iff_eq.mpr c54
         have c54b1 : (x9_2 != a1) = false := bne_eq_false_iff_eq.mpr c54
         clear c54
         by_cases c55 : x171002_2.length < 17592186044416
         rotate_left
         · rw [if_neg c55] at H
           exact absurd H (by simp)
         rw [if_pos c55] at H
         have LMc55 := am c55
         clear c55
         obtain ⟨y180, hy180⟩ : ∃ y_ : List Int, y_ = (x171002_2 ++ [x9_2]) := ⟨_, rfl⟩
         replace H : (spec_Learner.l0 k2 a1 (wrap64 (x9_2 + 1)) l0_0 l0_1 l0_2 t161 t164 y180) = some (r1, r2, r3, r4) := by first | (rw [hy180]; with_reducible exact H) | (have H2_ := (Option.bind_some _ _).symm.trans H; rw [hy180]; with_reducible exact H2_) | (have H2_ := (Option.bind_some _ _).symm.trans H; with_reducible exact H2_) | with_reducible exact H | (rw [hy180]; exact H) | exact H
         have Ny180 := am hy180
         clear hy180
         have H' := am H
         clear H
         have hnb56 := NB170_148.out
         have hnc56 := NB148_170.out
         have hnb57 := NB170_149.out
         have hnc57 := NB149_170.out
         obtain ⟨hcz58_0, hcz58_1, hcz58_2, hfz58_0, hfz58_1, hfz58_2⟩ := bc3f wr BK170.out
         go_wp2_with (first | ((with_reducible refine gate_builtin (b := .append) (xs := #[.tmp 48, .tmp 50]) rfl ?_); at_builtin; refine Kd.R_append (Kd.int .i64) (w0 := w) w.heap.size rfl (.tmp 48) (.tmp 50) 24 3 (.int .i64 0) 8 rfl Try.underlying24 info3 rfl (by decide) (by omega) u171002 x171002_2 x9_2 [.int .i64 x9_2] (fun k_ => some k_ ≠ (.slice Ao33 t161.length co33 : Value).ownBlock ∧ some k_ ≠ (.slice Ao37 t164.length co37 : Value).ownBlock) (fun _ => False) rfl rfl ?aP (fun _ hk => hk.elim) ?aF ?aO ?aB ?aS ?aL ?_; (case aP => exact rfl); (case aB => exact Q0); (case aF => exact (fun k_ hk => ⟨Kd.fresh' (Kd.R_lt u4_4) k_ hk, Kd.fresh' (Kd.R_lt u4_5) k_ hk⟩)); (case aO => exact u4_7); (case aS => exact (below_size Q0)); (case aL => have := LMc55.out; omega); intro v181 w59 ho hb hg hat; rw [← Ny180.out] at ho; replace HO_171000 := am (Kd.R_after (ok := (fun k_ => some k_ ≠ (.slice Ao37 t164.length co37 : Value).ownBlock)) u4_4 hg hat); replace HO_171001 := am (Kd.R_after (ok := (fun k_ => some k_ ≠ (.slice Ao33 t161.length co33 : Value).ownBlock)) u4_5 hg hat); replace BK148 := am (blk_grown (g := gb148) (o := .cells #[.slice A0_0 l0_0.length c0_0, .slice A0_1 l0_1.length c0_1, .slice A0_2 l0_2.length c0_2] 26 (0, 0)) u4_2 hg (Kd.R_ne HO_171002.out BK148.out (by decide))); replace BK149 := am (blk_grown (g := gb149) (o := .cells #[.slice none 0 0, .slice none 0 0, .slice none 0 0] 26 (0, 0)) u4_3 hg (Kd.R_ne HO_171002.out BK149.out (by decide))); replace BK170 := am (blk_grown (g := gb170) (o := .cells #[.slice Ao33 t161.length co33, .slice Ao37 t164.length co37, u171002] 26 (0, 0)) u4_11 hg (Kd.R_ne HO_171002.out BK170.out (by decide))); replace HB := am (hb); have HO182 := am (ho); clear HO_171002; clear ho hb hg hat; obtain ⟨Ao60, co60, eo60⟩ := Kd.R_slice HO182.out; subst eo60; obtain ⟨hcz61_0, hcz61_1, hcz61_2, hfz61_0, hfz61_1, hfz61_2⟩ := bc3f w59 BK170.out))
         go_roundg k2
         case measure => have := HJ3.out; have := HK2.out; omega
         case rel => exact ⟨(wrap64 (x9_2 + 1)), (y180), (.slice Ao60 y180.length co60), Q1, H', ⟨u4_34⟩, ⟨(by (with_reducible repeat (first | apply Kd.R_alloc | apply Kd.R_drewN | apply Kd.R_drew)); exact Kd.R_mono (Kd.R_far (p := ⟨gb170, 2, none⟩) (Kd.R_types HO_171000.out BK170.out (by decide)) (fun _ hk => hk.2) (.slice Ao60 y180.length co60)) (fun _ hk => ⟨hk.1.1, hk.1.2⟩))⟩, ⟨(by (with_reducible repeat (first | apply Kd.R_alloc | apply Kd.R_drewN | apply Kd.R_drew)); exact Kd.R_mono (Kd.R_far (p := ⟨gb170, 2, none⟩) (Kd.R_types HO_171001.out BK170.out (by decide)) (fun _ hk => hk.2) (.slice Ao60 y180.length co60)) (fun _ hk => ⟨hk.1.1, hk.1.2⟩))⟩, ⟨(by (with_reducible repeat (first | apply Kd.R_alloc | apply Kd.R_drewN | apply Kd.R_drew)); exact Kd.R_mono (Kd.R_far (p := ⟨gb170, 2, none⟩) (Kd.R_types HO182.out BK170.out (by decide)) (fun _ hk => hk.2) (.slice Ao60 y180.length co60)) (fun _ hk => ⟨hk.1.1, hk.1.2⟩))⟩, ⟨u4_9⟩, ⟨u4_10⟩, ⟨u4_20⟩, ⟨Q0⟩⟩
       rw [if_neg c54] at H
       have c54b0 : (x9_2 == a1) = false := beq_eq_false_iff_ne.mpr c54
       have c54b1 : (x9_2 != a1) = true := bne_iff_ne.mpr c54
       replace H := Option.bind_eq_some_iff.mp H
       obtain ⟨t183, A620, H⟩ := H
       have A62 := am A620
       clear A620
       have H9 := am H
       clear H
       have hnb63 := NB148_149.out
       have hnc63 := NB149_148.out
       have hnb64 := NB148_170.out
       have hnc64 := NB170_148.out
       obtain ⟨hcz65_0, hcz65_1, hcz65_2, hfz65_0, hfz65_1, hfz65_2⟩ := bc3f wr BK148.out
       go_upto_if 46 with (first | (go_at_call 54; (with_reducible refine (spec_l01Has.calls k2 _ _ l0_2 x9_2 t183 _ ?side1 ?side2 A62.out).mono ?_); (case side1 => exact Q7); (case side2 => exact HC0_2.out); rintro e w' ⟨rfl, ⟨nd, rfl⟩⟩))
       have H := H9.out
       clear H9
       by_cases c66 : t183 = true
       rotate_left
       · replace c66 := Bool.eq_false_iff.mpr c66
         subst c66
         rw [nf] at H
         have H' := am H
         clear H
         go_wp2
         go_roundg k2
         case measure => have := HJ3.out; have := HK2.out; omega
         case rel => exact ⟨(wrap64 (x9_2 + 1)), (x171002_2), (u171002), Q1, H', ⟨u4_34⟩, ⟨u4_4⟩, ⟨u4_5⟩, ⟨u4_7⟩, ⟨u4_2⟩, ⟨u4_3⟩, ⟨u4_11⟩, ⟨Q0⟩⟩
       subst c66
       rw [if_pos rfl] at H
       by_cases c67 : x171002_2.length < 17592186044416
       rotate_left
       · rw [if_neg c67] at H
         exact absurd H (by simp)
       rw [if_pos c67] at H
       have LMc67 := am c67
       clear c67
       obtain ⟨y184, hy184⟩ : ∃ y_ : List Int, y_ = (x171002_2 ++ [x9_2]) := ⟨_, rfl⟩
       replace H : (spec_Learner.l0 k2 a1 (wrap64 (x9_2 + 1)) l0_0 l0_1 l0_2 t161 t164 y184) = some (r1, r2, r3, r4) := by first | (rw [hy184]; with_reducible exact H) | (have H2_ := (Option.bind_some _ _).symm.trans H; rw [hy184]; with_reducible exact H2_) | (have H2_ := (Option.bind_some _ _).symm.trans H; with_reducible exact H2_) | with_reducible exact H | (rw [hy184]; exact H) | exact H
       have Ny184 := am hy184
       clear hy184
       have H' := am H
       clear H
       have hnb68 := NB170_148.out
       have hnc68 := NB148_170.out
       have hnb69 := NB170_149.out
       have hnc69 := NB149_170.out
       obtain ⟨hcz70_0, hcz70_1, hcz70_2, hfz70_0, hfz70_1, hfz70_2⟩ := bc3f wr BK170.out
       go_wp2_with (first | ((with_reducible refine gate_builtin (b := .append) (xs := #[.tmp 48, .tmp 50]) rfl ?_); at_builtin; refine Kd.R_append (Kd.int .i64) (w0 := w) w.heap.size rfl (.tmp 48) (.tmp 50) 24 3 (.int .i64 0) 8 rfl Try.underlying24 info3 rfl (by decide) (by omega) u171002 x171002_2 x9_2 [.int .i64 x9_2] (fun k_ => some k_ ≠ (.slice Ao33 t161.length co33 : Value).ownBlock ∧ some k_ ≠ (.slice Ao37 t164.length co37 : Value).ownBlock) (fun _ => False) rfl rfl ?aP (fun _ hk => hk.elim) ?aF ?aO ?aB ?aS ?aL ?_; (case aP => exact rfl); (case aB => exact Q0); (case aF => exact (fun k_ hk => ⟨Kd.fresh' (Kd.R_lt u4_4) k_ hk, Kd.fresh' (Kd.R_lt u4_5) k_ hk⟩)); (case aO => exact u4_7); (case aS => exact (below_size Q0)); (case aL => have := LMc67.out; omega); intro v185 w71 ho hb hg hat; rw [← Ny184.out] at ho; replace HO_171000 := am (Kd.R_after (ok := (fun k_ => some k_ ≠ (.slice Ao37 t164.length co37 : Value).ownBlock)) u4_4 hg hat); replace HO_171001 := am (Kd.R_after (ok := (fun k_ => some k_ ≠ (.slice Ao33 t161.length co33 : Value).ownBlock)) u4_5 hg hat); replace BK148 := am (blk_grown (g := gb148) (o := .cells #[.slice A0_0 l0_0.length c0_0, .slice A0_1 l0_1.length c0_1, .slice A0_2 l0_2.length c0_2] 26 (0, 0)) u4_2 hg (Kd.R_ne HO_171002.out BK148.out (by decide))); replace BK149 := am (blk_grown (g := gb149) (o := .cells #[.slice none 0 0, .slice none 0 0, .slice none 0 0] 26 (0, 0)) u4_3 hg (Kd.R_ne HO_171002.out BK149.out (by decide))); replace BK170 := am (blk_grown (g := gb170) (o := .cells #[.slice Ao33 t161.length co33, .slice Ao37 t164.length co37, u171002] 26 (0, 0)) u4_11 hg (Kd.R_ne HO_171002.out BK170.out (by decide))); replace HB := am (hb); have HO186 := am (ho); clear HO_171002; clear ho hb hg hat; obtain ⟨Ao72, co72, eo72⟩ := Kd.R_slice HO186.out; subst eo72; obtain ⟨hcz73_0, hcz73_1, hcz73_2, hfz73_0, hfz73_1, hfz73_2⟩ := bc3f w71 BK170.out))
       go_roundg k2
       case measure => have := HJ3.out; have := HK2.out; omega
       case rel => exact ⟨(wrap64 (x9_2 + 1)), (y184), (.slice Ao72 y184.length co72), Q1, H', ⟨u4_34⟩, ⟨(by (with_reducible repeat (first | apply Kd.R_alloc | apply Kd.R_drewN | apply Kd.R_drew)); exact Kd.R_mono (Kd.R_far (p := ⟨gb170, 2, none⟩) (Kd.R_types HO_171000.out BK170.out (by decide)) (fun _ hk => hk.2) (.slice Ao72 y184.length co72)) (fun _ hk => ⟨hk.1.1, hk.1.2⟩))⟩, ⟨(by (with_reducible repeat (first | apply Kd.R_alloc | apply Kd.R_drewN | apply Kd.R_drew)); exact Kd.R_mono (Kd.R_far (p := ⟨gb170, 2, none⟩) (Kd.R_types HO_171001.out BK170.out (by decide)) (fun _ hk => hk.2) (.slice Ao72 y184.length co72)) (fun _ hk => ⟨hk.1.1, hk.1.2⟩))⟩, ⟨(by (with_reducible repeat (first | apply Kd.R_alloc | apply Kd.R_drewN | apply Kd.R_drew)); exact Kd.R_mono (Kd.R_far (p := ⟨gb170, 2, none⟩) (Kd.R_types HO186.out BK170.out (by decide)) (fun _ hk => hk.2) (.slice Ao72 y184.length co72)) (fun _ hk => ⟨hk.1.1, hk.1.2⟩))⟩, ⟨u4_9⟩, ⟨u4_10⟩, ⟨u4_20⟩, ⟨Q0⟩⟩
   clear HC28
   try clear c17
   try clear hcz30_0
   try clear hcz30_1
   try clear hcz30_2
   try clear hcz36_0
   try clear hcz36_1
   try clear hcz36_2
   try clear hcz39_0
   try clear hcz39_1
   try clear hcz39_2
   try clear hcz45_0
   try clear hcz45_1
   try clear hcz45_2
   try clear hfz30_0
   try clear hfz30_1
   try clear hfz30_2
   try clear hfz36_0
   try clear hfz36_1
   try clear hfz36_2
   try clear hfz39_0
   try clear hfz39_1
   try clear hfz39_2
   try clear hfz45_0
   try clear hfz45_1
   try clear hfz45_2
   obtain ⟨kq, x171002_27, u171002, HA, HJ27, HO_171000, HO_171001, HO_171002, BK148, BK149, BK170, HB⟩ := hcut
   cases kq with
   | zero => exact absurd HA.out (by simp [spec_Learner.j2])
   | succ kj27 =>
     have H := HA.out
     clear HA
     simp only [spec_Learner.j2] at H
     replace H := Option.bind_eq_some_iff.mp H
     obtain ⟨t187, A740, H⟩ := H
     have A74 := am A740
     clear A740
     by_cases c75 : t187 = true
     rotate_left
     · replace c75 := Bool.eq_false_iff.mpr c75
       subst c75
       rw [nf] at H
       replace H := Option.bind_eq_some_iff.mp H
       obtain ⟨⟨t198, t201, t204⟩, A1010, H⟩ := H
       replace H : (some (t198, t201, t204, false)) = some (r1, r2, r3, r4) := H
       have A101 := am A1010
       clear A1010
       simp only [Option.some.injEq, Prod.mk.injEq] at H
       obtain ⟨rfl, rfl, rfl, rfl⟩ := H
       have hnb102 := NB170_148.out
       have hnc102 := NB148_170.out
       have hnb103 := NB170_149.out
       have hnc103 := NB149_170.out
       obtain ⟨hcz104_0, hcz104_1, hcz104_2, hfz104_0, hfz104_1, hfz104_2⟩ := bc3f wc BK170.out
       obtain ⟨Ao105, co105, eo105⟩ := Kd.R_slice HO_171002.out
       subst eo105
       go_wp2_with (first | ((with_reducible refine gate_callee (f := 53) rfl ?_); refine goesL_ (some 54) rfl rfl Try.func53 kr rfl #[.agg #[.slice Ao33 t161.length co33, .slice Ao37 t164.length co37, .slice Ao105 x171002_27.length co105]] rfl Q3 ?_; (with_reducible refine (spec_ConfOk.calls kj27 _ _ t161 _ _ t164 _ _ x171002_27 false _ ?side1 ?side2 ?side3 ?side4 ?side5 ?side6 A74.out).mono ?_); (case side1 => exact u4_31); (case side2 => exact (Kd.R_reads' HO_171000.out).2.1); (case side3 => exact u4_32); (case side4 => exact (Kd.R_reads' HO_171001.out).2.1); (case side5 => exact u4_17); (case side6 => exact (Kd.R_reads' HO_171002.out).2.1); rintro e w106 ⟨rfl, hb⟩; refine ⟨_, rfl, ?_⟩; replace HO_171000 := am (Kd.R_below u4_4 hb); replace HO_171001 := am (Kd.R_below u4_5 hb); replace HO_171002 := am (Kd.R_below u4_7 hb); replace BK148 := am (blk_below (g := gb148) (o := .cells #[.slice A0_0 l0_0.length c0_0, .slice A0_1 l0_1.length c0_1, .slice A0_2 l0_2.length c0_2] 26 (0, 0)) u4_2 hb); replace BK149 := am (blk_below (g := gb149) (o := .cells #[.slice none 0 0, .slice none 0 0, .slice none 0 0] 26 (0, 0)) u4_3 hb); replace BK170 := am (blk_below (g := gb170) (o := .cells #[.slice Ao33 t161.length co33, .slice Ao37 t164.length co37, .slice Ao105 x171002_27.length co105] 26 (0, 0)) u4_11 hb); replace HB := am (below_step Q0 hb); (try clear hb); (try clear hb2); (try clear hk); (try clear hi); have hnb107 := NB148_149.out; have hnc107 := NB149_148.out; obtain ⟨hcz108_0, hcz108_1, hcz108_2, hfz108_0, hfz108_1, hfz108_2⟩ := bc3f w106 BK148.out) | ((with_reducible refine gate_callee (f := 55) rfl ?_); refine goesL_ (some 64) rfl rfl Try.func55 kr rfl #[.agg #[.slice A0_0 l0_0.length c0_0, .slice A0_1 l0_1.length c0_1, .slice A0_2 l0_2.length c0_2]] rfl Q3 ?_; (with_reducible refine (spec_l06Copy.calls kj27 _ _ l0_0 _ _ l0_1 _ _ l0_2 t198 t201 t204 _ ?side1 ?side2 ?side3 ?side4 ?side5 ?side6 A101.out).mono ?_); (case side1 => exact Q6); (case side2 => exact HC0_0.out); (case side3 => exact Q8); (case side4 => exact HC0_1.out); (case side5 => exact Q7); (case side6 => exact HC0_2.out); rintro e w109 ⟨v199, v202, v205, rfl, ho0, ho1, ho2, hb⟩; refine ⟨_, rfl, ?_⟩; have HO200 := am (Kd.R_lower (Kd.R_new' (Kd.R_new' (Kd.R_new' ho0 (Kd.R_lt u4_4)) (Kd.R_lt u4_5)) (Kd.R_lt u4_7)) (below_size Q0)); have HO203 := am (Kd.R_lower (Kd.R_new' (Kd.R_new' (Kd.R_new' ho1 (Kd.R_lt u4_4)) (Kd.R_lt u4_5)) (Kd.R_lt u4_7)) (below_size Q0)); have HO206 := am (Kd.R_lower (Kd.R_new' (Kd.R_new' (Kd.R_new' ho2 (Kd.R_lt u4_4)) (Kd.R_lt u4_5)) (Kd.R_lt u4_7)) (below_size Q0)); replace HO_171000 := am (Kd.R_mono (Kd.R_told (Kd.R_told (Kd.R_told (Kd.R_old u4_4 hb) (Kd.R_base ho0)) (Kd.R_base ho1)) (Kd.R_base ho2)) (fun _ h_ => h_.1)); replace HO_171001 := am (Kd.R_mono (Kd.R_told (Kd.R_told (Kd.R_told (Kd.R_old u4_5 hb) (Kd.R_base ho0)) (Kd.R_base ho1)) (Kd.R_base ho2)) (fun _ h_ => h_.1)); replace HO_171002 := am (Kd.R_mono (Kd.R_told (Kd.R_told (Kd.R_told (Kd.R_old u4_7 hb) (Kd.R_base ho0)) (Kd.R_base ho1)) (Kd.R_base ho2)) (fun _ h_ => h_.1)); replace BK148 := am (blk_below (g := gb148) (o := .cells #[.slice A0_0 l0_0.length c0_0, .slice A0_1 l0_1.length c0_1, .slice A0_2 l0_2.length c0_2] 26 (0, 0)) u4_2 hb); replace BK149 := am (blk_below (g := gb149) (o := .cells #[.slice none 0 0, .slice none 0 0, .slice none 0 0] 26 (0, 0)) u4_3 hb); replace BK170 := am (blk_below (g := gb170) (o := .cells #[.slice Ao33 t161.length co33, .slice Ao37 t164.length co37, .slice Ao105 x171002_27.length co105] 26 (0, 0)) u4_11 hb); replace HB := am (below_step Q0 hb); (try clear hb); (try clear hb2); (try clear hk); (try clear hi); (try clear ho0); (try clear ho1); (try clear ho2); obtain ⟨Ao110, co110, eo110⟩ := Kd.R_slice HO200.out; subst eo110; obtain ⟨hcz111_0, hcz111_1, hcz111_2, hfz111_0, hfz111_1, hfz111_2⟩ := bc3f w109 BK149.out; obtain ⟨Ao112, co112, eo112⟩ := Kd.R_slice HO203.out; subst eo112; obtain ⟨Ao113, co113, eo113⟩ := Kd.R_slice HO206.out; subst eo113))
       refine bodyPost_ret (results_ct rfl _ _ gb149 26 #[.slice Ao110 t198.length co110, .slice Ao112 t201.length co112, .slice Ao113 t204.length co113] (0, 0) _ rfl (by (with_reducible repeat (first | refine blk_drewN ?_ _ | refine blk_drew ?_ | refine blk_alloc ?_ _)); refine blk_put (cs := #[.slice Ao110 t198.length co110, .slice Ao112 t201.length co112, .slice none 0 0]) ?_ 2 _ rfl; (with_reducible repeat (first | refine blk_drewN ?_ _ | refine blk_drew ?_ | refine blk_alloc ?_ _)); refine blk_put (cs := #[.slice Ao110 t198.length co110, .slice none 0 0, .slice none 0 0]) ?_ 1 _ rfl; (with_reducible repeat (first | refine blk_drewN ?_ _ | refine blk_drew ?_ | refine blk_alloc ?_ _)); refine blk_put (cs := #[.slice none 0 0, .slice none 0 0, .slice none 0 0]) ?_ 0 _ rfl; (with_reducible repeat (first | refine blk_drewN ?_ _ | refine blk_drew ?_ | refine blk_alloc ?_ _)); exact BK149.out) Try.underlying26 rfl kr) rfl ?_
       exact ⟨_, _, _, er, (by (with_reducible repeat (first | apply Kd.R_alloc | apply Kd.R_drewN | apply Kd.R_drew)); exact Kd.R_mono (Kd.R_far (p := ⟨gb149, 2, none⟩) (Kd.R_far (p := ⟨gb149, 1, none⟩) (Kd.R_far (p := ⟨gb149, 0, none⟩) (Kd.R_types HO200.out BK149.out (by decide)) (fun _ hk => hk.2) (.slice Ao110 t198.length co110)) (fun _ hk => hk.2) (.slice Ao112 t201.length co112)) (fun _ hk => hk.2) (.slice Ao113 t204.length co113)) (fun _ hk => ⟨hk.1.1.1.1.1, hk.1.1.1.1.2⟩)), (by (with_reducible repeat (first | apply Kd.R_alloc | apply Kd.R_drewN | apply Kd.R_drew)); exact Kd.R_mono (Kd.R_far (p := ⟨gb149, 2, none⟩) (Kd.R_far (p := ⟨gb149, 1, none⟩) (Kd.R_far (p := ⟨gb149, 0, none⟩) (Kd.R_types HO203.out BK149.out (by decide)) (fun _ hk => hk.2) (.slice Ao110 t198.length co110)) (fun _ hk => hk.2) (.slice Ao112 t201.length co112)) (fun _ hk => hk.2) (.slice Ao113 t204.length co113)) (fun _ hk => ⟨hk.1.1.1.1.1, hk.1.1.1.1.2⟩)), (by (with_reducible repeat (first | apply Kd.R_alloc | apply Kd.R_drewN | apply Kd.R_drew)); exact Kd.R_mono (Kd.R_far (p := ⟨gb149, 2, none⟩) (Kd.R_far (p := ⟨gb149, 1, none⟩) (Kd.R_far (p := ⟨gb149, 0, none⟩) (Kd.R_types HO206.out BK149.out (by decide)) (fun _ hk => hk.2) (.slice Ao110 t198.length co110)) (fun _ hk => hk.2) (.slice Ao112 t201.length co112)) (fun _ hk => hk.2) (.slice Ao113 t204.length co113)) (fun _ hk => ⟨hk.1.1.1.1.1, hk.1.1.1.1.2⟩)), Q0⟩
     subst c75
     rw [if_pos rfl] at H
     replace H := Option.bind_eq_some_iff.mp H
     obtain ⟨t188, A760, H⟩ := H
     have A76 := am A760
     clear A760
     have H9 := am H
     clear H
     have hnb77 := NB170_148.out
     have hnc77 := NB148_170.out
     have hnb78 := NB170_149.out
     have hnc78 := NB149_170.out
     obtain ⟨hcz79_0, hcz79_1, hcz79_2, hfz79_0, hfz79_1, hfz79_2⟩ := bc3f wc BK170.out
     obtain ⟨Ao80, co80, eo80⟩ := Kd.R_slice HO_171002.out
     subst eo80
     go_upto_if 62 with (first | ((with_reducible refine gate_callee (f := 53) rfl ?_); refine goesL_ (some 54) rfl rfl Try.func53 kr rfl #[.agg #[.slice Ao33 t161.length co33, .slice Ao37 t164.length co37, .slice Ao80 x171002_27.length co80]] rfl Q3 ?_; (with_reducible refine (spec_ConfOk.calls kj27 _ _ t161 _ _ t164 _ _ x171002_27 true _ ?side1 ?side2 ?side3 ?side4 ?side5 ?side6 A74.out).mono ?_); (case side1 => exact u4_31); (case side2 => exact (Kd.R_reads' HO_171000.out).2.1); (case side3 => exact u4_32); (case side4 => exact (Kd.R_reads' HO_171001.out).2.1); (case side5 => exact u4_17); (case side6 => exact (Kd.R_reads' HO_171002.out).2.1); rintro e w81 ⟨rfl, hb⟩; refine ⟨_, rfl, ?_⟩; replace HO_171000 := am (Kd.R_below u4_4 hb); replace HO_171001 := am (Kd.R_below u4_5 hb); replace HO_171002 := am (Kd.R_below u4_7 hb); replace BK148 := am (blk_below (g := gb148) (o := .cells #[.slice A0_0 l0_0.length c0_0, .slice A0_1 l0_1.length c0_1, .slice A0_2 l0_2.length c0_2] 26 (0, 0)) u4_2 hb); replace BK149 := am (blk_below (g := gb149) (o := .cells #[.slice none 0 0, .slice none 0 0, .slice none 0 0] 26 (0, 0)) u4_3 hb); replace BK170 := am (blk_below (g := gb170) (o := .cells #[.slice Ao33 t161.length co33, .slice Ao37 t164.length co37, .slice Ao80 x171002_27.length co80] 26 (0, 0)) u4_11 hb); replace HB := am (below_step Q0 hb); (try clear hb); (try clear hb2); (try clear hk); (try clear hi); obtain ⟨hcz82_0, hcz82_1, hcz82_2, hfz82_0, hfz82_1, hfz82_2⟩ := bc3f w81 BK170.out; have hnb83 := NB148_149.out; have hnc83 := NB149_148.out; obtain ⟨hcz84_0, hcz84_1, hcz84_2, hfz84_0, hfz84_1, hfz84_2⟩ := bc3f w81 BK148.out) | (go_at_call 57; (with_reducible refine (spec_l06Same.calls kj27 _ _ x171002_27 _ _ l0_2 t188 _ ?side1 ?side2 ?side3 ?side4 A76.out).mono ?_); (case side1 => exact u4_17); (case side2 => exact (Kd.R_reads' HO_171002.out).2.1); (case side3 => exact Q7); (case side4 => exact HC0_2.out); rintro e w' ⟨rfl, ⟨nd, rfl⟩⟩))
     have H := H9.out
     clear H9
     by_cases c85 : t188 = true
     rotate_left
     · replace c85 := Bool.eq_false_iff.mpr c85
       subst c85
       rw [nf] at H
       simp only [Option.some.injEq, Prod.mk.injEq] at H
       obtain ⟨rfl, rfl, rfl, rfl⟩ := H
       have hnb96 := NB170_148.out
       have hnc96 := NB148_170.out
       have hnb97 := NB170_149.out
       have hnc97 := NB149_170.out
       obtain ⟨hcz98_0, hcz98_1, hcz98_2, hfz98_0, hfz98_1, hfz98_2⟩ := bc3f w81 BK170.out
       have hnb99 := NB149_148.out
       have hnc99 := NB148_149.out
       obtain ⟨hcz100_0, hcz100_1, hcz100_2, hfz100_0, hfz100_1, hfz100_2⟩ := bc3f w81 BK149.out
       go_wp2
       refine bodyPost_ret (results_ct rfl _ _ gb149 26 #[.slice Ao33 t161.length co33, .slice Ao37 t164.length co37, .slice Ao80 x171002_27.length co80] (0, 0) _ rfl (by (with_reducible repeat (first | refine blk_drewN ?_ _ | refine blk_drew ?_ | refine blk_alloc ?_ _)); refine blk_put (cs := #[.slice Ao33 t161.length co33, .slice Ao37 t164.length co37, .slice none 0 0]) ?_ 2 _ rfl; (with_reducible repeat (first | refine blk_drewN ?_ _ | refine blk_drew ?_ | refine blk_alloc ?_ _)); refine blk_put (cs := #[.slice Ao33 t161.length co33, .slice none 0 0, .slice none 0 0]) ?_ 1 _ rfl; (with_reducible repeat (first | refine blk_drewN ?_ _ | refine blk_drew ?_ | refine blk_alloc ?_ _)); refine blk_put (cs := #[.slice none 0 0, .slice none 0 0, .slice none 0 0]) ?_ 0 _ rfl; (with_reducible repeat (first | refine blk_drewN ?_ _ | refine blk_drew ?_ | refine blk_alloc ?_ _)); exact BK149.out) Try.underlying26 rfl kr) rfl ?_
       exact ⟨_, _, _, er, (by (with_reducible repeat (first | apply Kd.R_alloc | apply Kd.R_drewN | apply Kd.R_drew)); exact Kd.R_mono (Kd.R_far (p := ⟨gb149, 2, none⟩) (Kd.R_far (p := ⟨gb149, 1, none⟩) (Kd.R_far (p := ⟨gb149, 0, none⟩) (Kd.R_types HO_171000.out BK149.out (by decide)) (fun _ hk => hk.2) (.slice Ao33 t161.length co33)) (fun _ hk => hk.2) (.slice Ao37 t164.length co37)) (fun _ hk => hk.2) (.slice Ao80 x171002_27.length co80)) (fun _ hk => ⟨hk.1.1, hk.1.2⟩)), (by (with_reducible repeat (first | apply Kd.R_alloc | apply Kd.R_drewN | apply Kd.R_drew)); exact Kd.R_mono (Kd.R_far (p := ⟨gb149, 2, none⟩) (Kd.R_far (p := ⟨gb149, 1, none⟩) (Kd.R_far (p := ⟨gb149, 0, none⟩) (Kd.R_types HO_171001.out BK149.out (by decide)) (fun _ hk => hk.2) (.slice Ao33 t161.length co33)) (fun _ hk => hk.2) (.slice Ao37 t164.length co37)) (fun _ hk => hk.2) (.slice Ao80 x171002_27.length co80)) (fun _ hk => ⟨hk.1.1, hk.1.2⟩)), (by (with_reducible repeat (first | apply Kd.R_alloc | apply Kd.R_drewN | apply Kd.R_drew)); exact Kd.R_mono (Kd.R_far (p := ⟨gb149, 2, none⟩) (Kd.R_far (p := ⟨gb149, 1, none⟩) (Kd.R_far (p := ⟨gb149, 0, none⟩) (Kd.R_types HO_171002.out BK149.out (by decide)) (fun _ hk => hk.2) (.slice Ao33 t161.length co33)) (fun _ hk => hk.2) (.slice Ao37 t164.length co37)) (fun _ hk => hk.2) (.slice Ao80 x171002_27.length co80)) (fun _ hk => ⟨hk.1.1, hk.1.2⟩)), Q0⟩
     subst c85
     rw [if_pos rfl] at H
     replace H := Option.bind_eq_some_iff.mp H
     obtain ⟨⟨t189, t192, t195⟩, A860, H⟩ := H
     replace H : (some (t189, t192, t195, false)) = some (r1, r2, r3, r4) := H
     have A86 := am A860
     clear A860
     simp only [Option.some.injEq, Prod.mk.injEq] at H
     obtain ⟨rfl, rfl, rfl, rfl⟩ := H
     have hnb87 := NB148_149.out
     have hnc87 := NB149_148.out
     have hnb88 := NB148_170.out
     have hnc88 := NB170_148.out
     obtain ⟨hcz89_0, hcz89_1, hcz89_2, hfz89_0, hfz89_1, hfz89_2⟩ := bc3f w81 BK148.out
     go_wp2_with (first | ((with_reducible refine gate_callee (f := 55) rfl ?_); refine goesL_ (some 64) rfl rfl Try.func55 kr rfl #[.agg #[.slice A0_0 l0_0.length c0_0, .slice A0_1 l0_1.length c0_1, .slice A0_2 l0_2.length c0_2]] rfl Q3 ?_; (with_reducible refine (spec_l06Copy.calls kj27 _ _ l0_0 _ _ l0_1 _ _ l0_2 t189 t192 t195 _ ?side1 ?side2 ?side3 ?side4 ?side5 ?side6 A86.out).mono ?_); (case side1 => exact Q6); (case side2 => exact HC0_0.out); (case side3 => exact Q8); (case side4 => exact HC0_1.out); (case side5 => exact Q7); (case side6 => exact HC0_2.out); rintro e w90 ⟨v190, v193, v196, rfl, ho0, ho1, ho2, hb⟩; refine ⟨_, rfl, ?_⟩; have HO191 := am (Kd.R_lower (Kd.R_new' (Kd.R_new' (Kd.R_new' ho0 (Kd.R_lt u4_4)) (Kd.R_lt u4_5)) (Kd.R_lt u4_7)) (below_size Q0)); have HO194 := am (Kd.R_lower (Kd.R_new' (Kd.R_new' (Kd.R_new' ho1 (Kd.R_lt u4_4)) (Kd.R_lt u4_5)) (Kd.R_lt u4_7)) (below_size Q0)); have HO197 := am (Kd.R_lower (Kd.R_new' (Kd.R_new' (Kd.R_new' ho2 (Kd.R_lt u4_4)) (Kd.R_lt u4_5)) (Kd.R_lt u4_7)) (below_size Q0)); replace HO_171000 := am (Kd.R_mono (Kd.R_told (Kd.R_told (Kd.R_told (Kd.R_old u4_4 hb) (Kd.R_base ho0)) (Kd.R_base ho1)) (Kd.R_base ho2)) (fun _ h_ => h_.1)); replace HO_171001 := am (Kd.R_mono (Kd.R_told (Kd.R_told (Kd.R_told (Kd.R_old u4_5 hb) (Kd.R_base ho0)) (Kd.R_base ho1)) (Kd.R_base ho2)) (fun _ h_ => h_.1)); replace HO_171002 := am (Kd.R_mono (Kd.R_told (Kd.R_told (Kd.R_told (Kd.R_old u4_7 hb) (Kd.R_base ho0)) (Kd.R_base ho1)) (Kd.R_base ho2)) (fun _ h_ => h_.1)); replace BK148 := am (blk_below (g := gb148) (o := .cells #[.slice A0_0 l0_0.length c0_0, .slice A0_1 l0_1.length c0_1, .slice A0_2 l0_2.length c0_2] 26 (0, 0)) u4_2 hb); replace BK149 := am (blk_below (g := gb149) (o := .cells #[.slice none 0 0, .slice none 0 0, .slice none 0 0] 26 (0, 0)) u4_3 hb); replace BK170 := am (blk_below (g := gb170) (o := .cells #[.slice Ao33 t161.length co33, .slice Ao37 t164.length co37, .slice Ao80 x171002_27.length co80] 26 (0, 0)) u4_11 hb); replace HB := am (below_step Q0 hb); (try clear hb); (try clear hb2); (try clear hk); (try clear hi); (try clear ho0); (try clear ho1); (try clear ho2); obtain ⟨Ao91, co91, eo91⟩ := Kd.R_slice HO191.out; subst eo91; have hnb92 := NB149_170.out; have hnc92 := NB170_149.out; obtain ⟨hcz93_0, hcz93_1, hcz93_2, hfz93_0, hfz93_1, hfz93_2⟩ := bc3f w90 BK149.out; obtain ⟨Ao94, co94, eo94⟩ := Kd.R_slice HO194.out; subst eo94; obtain ⟨Ao95, co95, eo95⟩ := Kd.R_slice HO197.out; subst eo95))
     refine bodyPost_ret (results_ct rfl _ _ gb149 26 #[.slice Ao91 t189.length co91, .slice Ao94 t192.length co94, .slice Ao95 t195.length co95] (0, 0) _ rfl (by (with_reducible repeat (first | refine blk_drewN ?_ _ | refine blk_drew ?_ | refine blk_alloc ?_ _)); refine blk_put (cs := #[.slice Ao91 t189.length co91, .slice Ao94 t192.length co94, .slice none 0 0]) ?_ 2 _ rfl; (with_reducible repeat (first | refine blk_drewN ?_ _ | refine blk_drew ?_ | refine blk_alloc ?_ _)); refine blk_put (cs := #[.slice Ao91 t189.length co91, .slice none 0 0, .slice none 0 0]) ?_ 1 _ rfl; (with_reducible repeat (first | refine blk_drewN ?_ _ | refine blk_drew ?_ | refine blk_alloc ?_ _)); refine blk_put (cs := #[.slice none 0 0, .slice none 0 0, .slice none 0 0]) ?_ 0 _ rfl; (with_reducible repeat (first | refine blk_drewN ?_ _ | refine blk_drew ?_ | refine blk_alloc ?_ _)); exact BK149.out) Try.underlying26 rfl kr) rfl ?_
     exact ⟨_, _, _, er, (by (with_reducible repeat (first | apply Kd.R_alloc | apply Kd.R_drewN | apply Kd.R_drew)); exact Kd.R_mono (Kd.R_far (p := ⟨gb149, 2, none⟩) (Kd.R_far (p := ⟨gb149, 1, none⟩) (Kd.R_far (p := ⟨gb149, 0, none⟩) (Kd.R_types HO191.out BK149.out (by decide)) (fun _ hk => hk.2) (.slice Ao91 t189.length co91)) (fun _ hk => hk.2) (.slice Ao94 t192.length co94)) (fun _ hk => hk.2) (.slice Ao95 t195.length co95)) (fun _ hk => ⟨hk.1.1.1.1.1, hk.1.1.1.1.2⟩)), (by (with_reducible repeat (first | apply Kd.R_alloc | apply Kd.R_drewN | apply Kd.R_drew)); exact Kd.R_mono (Kd.R_far (p := ⟨gb149, 2, none⟩) (Kd.R_far (p := ⟨gb149, 1, none⟩) (Kd.R_far (p := ⟨gb149, 0, none⟩) (Kd.R_types HO194.out BK149.out (by decide)) (fun _ hk => hk.2) (.slice Ao91 t189.length co91)) (fun _ hk => hk.2) (.slice Ao94 t192.length co94)) (fun _ hk => hk.2) (.slice Ao95 t195.length co95)) (fun _ hk => ⟨hk.1.1.1.1.1, hk.1.1.1.1.2⟩)), (by (with_reducible repeat (first | apply Kd.R_alloc | apply Kd.R_drewN | apply Kd.R_drew)); exact Kd.R_mono (Kd.R_far (p := ⟨gb149, 2, none⟩) (Kd.R_far (p := ⟨gb149, 1, none⟩) (Kd.R_far (p := ⟨gb149, 0, none⟩) (Kd.R_types HO197.out BK149.out (by decide)) (fun _ hk => hk.2) (.slice Ao91 t189.length co91)) (fun _ hk => hk.2) (.slice Ao94 t192.length co94)) (fun _ hk => hk.2) (.slice Ao95 t195.length co95)) (fun _ hk => ⟨hk.1.1.1.1.1, hk.1.1.1.1.2⟩)), Q0⟩

end Go.Proofs.Ytoemdmjdpikfbaa.QFnQuorums
