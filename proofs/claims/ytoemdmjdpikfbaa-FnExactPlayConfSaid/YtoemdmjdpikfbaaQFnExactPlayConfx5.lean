import Derived.Test.YtoemdmjdpikfbaaSqFnExactPlayConf
import Derived.Test.YtoemdmjdpikfbaaQFnExactPlayConfx0
import Derived.Test.YtoemdmjdpikfbaaQFnExactPlayConfx2
import Derived.Test.YtoemdmjdpikfbaaQFnExactPlayConfx3
import Derived.Test.YtoemdmjdpikfbaaQFnExactPlayConfx4
namespace Go.Proofs.Ytoemdmjdpikfbaa.QFnExactPlayConf
open Go.RowKit Go.Proofs.YtoemdmjdpikfbaaW.PrintWords Go.Proofs.YtoemdmjdpikfbaaW.PrintLast Go.Proofs.YtoemdmjdpikfbaaW.PrintMore Go.Proofs.Ytoemdmjdpikfbaa.SqFnExactPlayConf
attribute [local go_sem] max2_int min2_int max_two min_two max_three min_three max_four min_four Go.Proofs.Ytoemdmjdpikfbaa.Set.isSome_setCell
set_option linter.unusedVariables false
set_option linter.unusedSimpArgs false
theorem u5_2 {P : Prop} (h : P := by (with_reducible repeat (first | apply b1_ | apply b2_ | apply b3_)); exact BK190.out) : P := h
theorem u5_3 {P : Prop} (h : P := by (with_reducible repeat (first | apply b1_ | apply b2_ | apply b3_)); exact BK191.out) : P := h
theorem u5_4 {P : Prop} (h : P := by (with_reducible repeat (first | apply r1_ | apply r2_ | apply r3_)); exact HO_213000.out) : P := h
theorem u5_5 {P : Prop} (h : P := by (with_reducible repeat (first | apply r1_ | apply r2_ | apply r3_)); exact HO_213001.out) : P := h
theorem u5_7 {P : Prop} (h : P := by (with_reducible repeat (first | apply r1_ | apply r2_ | apply r3_)); exact HO_213002.out) : P := h
theorem u5_9 {P : Prop} (h : P := by (with_reducible repeat (first | apply b1_ | apply b2_ | apply b3_)); refine blk_far ?_ NB190_212.out _; (with_reducible repeat (first | apply b1_ | apply b2_ | apply b3_)); exact BK190.out) : P := h
theorem u5_10 {P : Prop} (h : P := by (with_reducible repeat (first | apply b1_ | apply b2_ | apply b3_)); refine blk_far ?_ NB191_212.out _; (with_reducible repeat (first | apply b1_ | apply b2_ | apply b3_)); exact BK191.out) : P := h
theorem u5_11 {P : Prop} (h : P := by (with_reducible repeat (first | apply b1_ | apply b2_ | apply b3_)); exact BK212.out) : P := h
theorem u5_14 {P : Prop} (h : P := by (with_reducible repeat (first | apply r1_ | apply r2_ | apply r3_)); exact (Kd.R_mono (Kd.R_far (p := ⟨gb212, 2, none⟩) (Kd.R_far (p := ⟨gb212, 1, none⟩) (Kd.R_far (p := ⟨gb212, 0, none⟩) (Kd.R_types HO205.out BK212.out (by decide)) (fun _ hk => hk.2) (.slice Ao33 t203.length co33)) (fun _ hk => hk.2) (.slice Ao37 t206.length co37)) (fun _ hk => hk.2) (.slice Ao38 t209.length co38)) (fun _ h_ => h_.1))) : P := h
theorem u5_15 {P : Prop} (h : P := by (with_reducible repeat (first | apply r1_ | apply r2_ | apply r3_)); exact (Kd.R_mono (Kd.R_far (p := ⟨gb212, 2, none⟩) (Kd.R_far (p := ⟨gb212, 1, none⟩) (Kd.R_far (p := ⟨gb212, 0, none⟩) (Kd.R_types HO208.out BK212.out (by decide)) (fun _ hk => hk.2) (.slice Ao33 t203.length co33)) (fun _ hk => hk.2) (.slice Ao37 t206.length co37)) (fun _ hk => hk.2) (.slice Ao38 t209.length co38)) (fun _ h_ => h_.1))) : P := h
theorem u5_16 {P : Prop} (h : P := by (with_reducible repeat (first | apply r1_ | apply r2_ | apply r3_)); exact (Kd.R_mono (Kd.R_far (p := ⟨gb212, 2, none⟩) (Kd.R_far (p := ⟨gb212, 1, none⟩) (Kd.R_far (p := ⟨gb212, 0, none⟩) (Kd.R_types HO211.out BK212.out (by decide)) (fun _ hk => hk.2) (.slice Ao33 t203.length co33)) (fun _ hk => hk.2) (.slice Ao37 t206.length co37)) (fun _ hk => hk.2) (.slice Ao38 t209.length co38)) (fun _ h_ => h_.1))) : P := h
theorem u5_17 {P : Prop} (h : P := by repeat (first | exact (Kd.R_reads' HO_213002.out).2.2 | (with_reducible refine Kd.C_alloc ?_ _) | (with_reducible refine Kd.C_drewN ?_ _) | (with_reducible refine Kd.C_drew ?_))) : P := h
theorem u5_18 {P : Prop} (h : P := by (with_reducible repeat (first | apply b1_ | apply b2_ | apply b3_)); refine blk_put (cs := #[.slice Ao33 t203.length co33, .slice Ao37 t206.length co37, .slice Ao38 t209.length co38]) ?_ 2 _ rfl; (with_reducible repeat (first | apply b1_ | apply b2_ | apply b3_)); exact BK212.out) : P := h
theorem u5_20 {P : Prop} (h : P := by (with_reducible repeat (first | apply b1_ | apply b2_ | apply b3_)); refine blk_put (cs := #[.slice Ao33 t203.length co33, .slice Ao37 t206.length co37, u213002]) ?_ 2 _ rfl; (with_reducible repeat (first | apply b1_ | apply b2_ | apply b3_)); exact BK212.out) : P := h
theorem u5_22 {P : Prop} (h : P := by (with_reducible repeat (first | apply r1_ | apply r2_ | apply r3_)); exact (Kd.R_mono (Kd.R_far (p := ⟨gb212, 2, none⟩) (Kd.R_types HO205.out BK212.out (by decide)) (fun _ hk => hk.2) (.slice Ao44 t216.length co44)) (fun _ h_ => h_.1))) : P := h
theorem u5_23 {P : Prop} (h : P := by (with_reducible repeat (first | apply r1_ | apply r2_ | apply r3_)); exact (Kd.R_mono (Kd.R_far (p := ⟨gb212, 2, none⟩) (Kd.R_types HO208.out BK212.out (by decide)) (fun _ hk => hk.2) (.slice Ao44 t216.length co44)) (fun _ h_ => h_.1))) : P := h
theorem u5_24 {P : Prop} (h : P := by (with_reducible repeat (first | apply r1_ | apply r2_ | apply r3_)); exact (Kd.R_mono (Kd.R_far (p := ⟨gb212, 2, none⟩) (Kd.R_types HO211.out BK212.out (by decide)) (fun _ hk => hk.2) (.slice Ao44 t216.length co44)) (fun _ h_ => h_.1))) : P := h
theorem u5_25 {P : Prop} (h : P := by (with_reducible repeat (first | apply r1_ | apply r2_ | apply r3_)); exact (Kd.R_mono (Kd.R_far (p := ⟨gb212, 2, none⟩) (Kd.R_types HO215.out BK212.out (by decide)) (fun _ hk => hk.2) (.slice Ao44 t216.length co44)) (fun _ h_ => h_.1))) : P := h
theorem u5_26 {P : Prop} (h : P := by (with_reducible repeat (first | apply r1_ | apply r2_ | apply r3_)); exact (Kd.R_mono (Kd.R_far (p := ⟨gb212, 2, none⟩) (Kd.R_types HO218.out BK212.out (by decide)) (fun _ hk => hk.2) (.slice Ao44 t216.length co44)) (fun _ h_ => h_.1))) : P := h
theorem u5_28 {P : Prop} (h : P := by (with_reducible repeat (first | apply r1_ | apply r2_ | apply r3_)); exact HO205.out) : P := h
theorem u5_29 {P : Prop} (h : P := by (with_reducible repeat (first | apply r1_ | apply r2_ | apply r3_)); exact HO208.out) : P := h
theorem u5_30 {P : Prop} (h : P := by (with_reducible repeat (first | apply r1_ | apply r2_ | apply r3_)); exact HO211.out) : P := h
theorem u5_31 {P : Prop} (h : P := by repeat (first | exact (Kd.R_reads' HO_213000.out).2.2 | (with_reducible refine Kd.C_alloc ?_ _) | (with_reducible refine Kd.C_drewN ?_ _) | (with_reducible refine Kd.C_drew ?_))) : P := h
theorem u5_32 {P : Prop} (h : P := by repeat (first | exact (Kd.R_reads' HO_213001.out).2.2 | (with_reducible refine Kd.C_alloc ?_ _) | (with_reducible refine Kd.C_drewN ?_ _) | (with_reducible refine Kd.C_drew ?_))) : P := h
theorem u5_33 {P : Prop} (h : P := by (with_reducible repeat (first | apply r1_ | apply r2_ | apply r3_)); exact HO215.out) : P := h
theorem u5_34 {P : Prop} (h : P := by have := HJ3.out; have := HK2.out; omega) : P := h
mutual
def spec_Learner.j0 : Nat → Int → Bool → Bool → List Int → List Int → List Int → Option (List Int × List Int × List Int × Bool)
 | 0, _, _, _, _, _, _ => none
 | k + 1, x1, x2, x20, x191000, x191001, x191002 => if x20 = true then ((spec_l06Copy.f k x191000 x191001 x191002).bind fun bt194 => (some (bt194.1, bt194.2.1, bt194.2.2, false))) else ((spec_l06Copy.f k x191000 x191001 x191002).bind fun bt203 => ((spec_l06Less.f k x191002 (([x1] : List Int))).bind fun t216 => (if x2 = true then (spec_Learner.l0 k x1 0 x191000 x191001 x191002 bt203.1 bt203.2.1 (([] : List Int))) else (spec_Learner.j2 k x191000 x191001 x191002 bt203.1 bt203.2.1 t216))))
def spec_Learner.j2 : Nat → List Int → List Int → List Int → List Int → List Int → List Int → Option (List Int × List Int × List Int × Bool)
 | 0, _, _, _, _, _, _ => none
 | k + 1, x191000, x191001, x191002, x213000, x213001, x213002 => (spec_ConfOk.f k x213000 x213001 x213002).bind fun t229 => (if t229 = true then ((spec_l06Same.f k x213002 x191002).bind fun t230 => (if t230 = true then ((spec_l06Copy.f k x191000 x191001 x191002).bind fun bt231 => (some (bt231.1, bt231.2.1, bt231.2.2, false))) else (some (x213000, x213001, x213002, true)))) else ((spec_l06Copy.f k x191000 x191001 x191002).bind fun bt240 => (some (bt240.1, bt240.2.1, bt240.2.2, false))))
def spec_Learner.l0 : Nat → Int → Int → List Int → List Int → List Int → List Int → List Int → List Int → Option (List Int × List Int × List Int × Bool)
 | 0, _, _, _, _, _, _, _, _ => none
 | k + 1, x1, x9, x191000, x191001, x191002, x213000, x213001, x213002 => if x9 < 100 then (if x9 = x1 then (if x213002.length < 17592186044416 then (spec_Learner.l0 k x1 (wrap64 (x9 + 1)) x191000 x191001 x191002 x213000 x213001 (x213002 ++ [x9])) else (none)) else ((spec_l01Has.f k x191002 x9).bind fun t225 => (if t225 = true then (if x213002.length < 17592186044416 then (spec_Learner.l0 k x1 (wrap64 (x9 + 1)) x191000 x191001 x191002 x213000 x213001 (x213002 ++ [x9])) else (none)) else (spec_Learner.l0 k x1 (wrap64 (x9 + 1)) x191000 x191001 x191002 x213000 x213001 x213002)))) else (spec_Learner.j2 k x191000 x191001 x191002 x213000 x213001 x213002)
end
def spec_Learner.f (k : Nat) (l0_0 : List Int) (l0_1 : List Int) (l0_2 : List Int) (a1 : Int) (a2 : Bool) : Option (List Int × List Int × List Int × Bool) := (spec_ConfOk.f k l0_0 l0_1 l0_2).bind fun t192 => (if t192 = true then ((spec_l01Has.f k l0_2 a1).bind fun t193 => (spec_Learner.j0 k a1 a2 (t193 == a2) l0_0 l0_1 l0_2)) else (spec_Learner.j0 k a1 a2 true l0_0 l0_1 l0_2))
theorem spec_Learner.mono_l : ∀ k, (∀ y0 y1 y2 y3 y4 y5, LeO (spec_Learner.j0 k y0 y1 y2 y3 y4 y5) (spec_Learner.j0 (k + 1) y0 y1 y2 y3 y4 y5)) ∧ (∀ y0 y1 y2 y3 y4 y5, LeO (spec_Learner.j2 k y0 y1 y2 y3 y4 y5) (spec_Learner.j2 (k + 1) y0 y1 y2 y3 y4 y5)) ∧ (∀ y0 y1 y2 y3 y4 y5 y6 y7, LeO (spec_Learner.l0 k y0 y1 y2 y3 y4 y5 y6 y7) (spec_Learner.l0 (k + 1) y0 y1 y2 y3 y4 y5 y6 y7))
 | 0 => ⟨fun _ _ _ _ _ _ r h => by simp [spec_Learner.j0] at h, fun _ _ _ _ _ _ r h => by simp [spec_Learner.j2] at h, fun _ _ _ _ _ _ _ _ r h => by simp [spec_Learner.l0] at h⟩
 | k + 1 => by
   obtain ⟨ih0, ih1, ih2⟩ := spec_Learner.mono_l k
   refine ⟨?_, ?_, ?_⟩ <;> intros <;> (first | unfold spec_Learner.j0 | unfold spec_Learner.j2 | unfold spec_Learner.l0) <;> repeat' first
   | (with_reducible exact ih0 _ _ _ _ _ _)
   | (with_reducible exact ih1 _ _ _ _ _ _)
   | (with_reducible exact ih2 _ _ _ _ _ _ _ _)
   | (with_reducible exact spec_ConfOk.mono _ _ _ _)
   | (with_reducible exact spec_l01Has.mono _ _ _)
   | (with_reducible exact spec_l06Copy.mono _ _ _ _)
   | (with_reducible exact spec_l06Less.mono _ _ _)
   | (with_reducible exact spec_l06Same.mono _ _ _)
   | (with_reducible exact LeO.refl _)
   | (with_reducible exact LeO.none _)
   | (with_reducible refine LeO.ite ?_ ?_)
   | (with_reducible refine LeO.bind ?_ (fun _ => ?_))
   | exact ih0 _ _ _ _ _ _
   | exact ih1 _ _ _ _ _ _
   | exact ih2 _ _ _ _ _ _ _ _
   | exact spec_ConfOk.mono _ _ _ _
   | exact spec_l01Has.mono _ _ _
   | exact spec_l06Copy.mono _ _ _ _
   | exact spec_l06Less.mono _ _ _
   | exact spec_l06Same.mono _ _ _
   | exact LeO.none _
   | refine LeO.ite ?_ ?_
   | refine LeO.bind ?_ (fun _ => ?_)
theorem spec_Learner.mono : ∀ a0 a1 a2 a3 a4 k, LeO (spec_Learner.f k a0 a1 a2 a3 a4) (spec_Learner.f (k + 1) a0 a1 a2 a3 a4) := by
 intro a0 a1 a2 a3 a4 k
 obtain ⟨ih0, ih1, ih2⟩ := spec_Learner.mono_l k
 unfold spec_Learner.f
 repeat' first
     | (with_reducible exact ih0 _ _ _ _ _ _)
     | (with_reducible exact ih1 _ _ _ _ _ _)
     | (with_reducible exact ih2 _ _ _ _ _ _ _ _)
     | (with_reducible exact spec_ConfOk.mono _ _ _ _)
     | (with_reducible exact spec_l01Has.mono _ _ _)
     | (with_reducible exact spec_l06Copy.mono _ _ _ _)
     | (with_reducible exact spec_l06Less.mono _ _ _)
     | (with_reducible exact spec_l06Same.mono _ _ _)
     | (with_reducible exact LeO.refl _)
     | (with_reducible exact LeO.none _)
     | (with_reducible refine LeO.ite ?_ ?_)
     | (with_reducible refine LeO.bind ?_ (fun _ => ?_))
     | exact ih0 _ _ _ _ _ _
     | exact ih1 _ _ _ _ _ _
     | exact ih2 _ _ _ _ _ _ _ _
     | exact spec_ConfOk.mono _ _ _ _
     | exact spec_l01Has.mono _ _ _
     | exact spec_l06Copy.mono _ _ _ _
     | exact spec_l06Less.mono _ _ _
     | exact spec_l06Same.mono _ _ _
     | exact LeO.none _
     | refine LeO.ite ?_ ?_
     | refine LeO.bind ?_ (fun _ => ?_)
set_option maxHeartbeats 8000000 in
set_option maxRecDepth 100000 in
theorem spec_Learner.calls (k : Nat) (A0_0 : Option Addr) (c0_0 : Nat) (l0_0 : List Int) (A0_1 : Option Addr) (c0_1 : Nat) (l0_1 : List Int) (A0_2 : Option Addr) (c0_2 : Nat) (l0_2 : List Int) (a1 : Int) (a2 : Bool) (r1 : List Int) (r2 : List Int) (r3 : List Int) (r4 : Bool) (w : World) (hr0_0 : Kd.C (Kd.int .i64) w A0_0 l0_0.length l0_0) (hc0_0 : l0_0.length ≤ c0_0) (hr0_1 : Kd.C (Kd.int .i64) w A0_1 l0_1.length l0_1) (hc0_1 : l0_1.length ≤ c0_1) (hr0_2 : Kd.C (Kd.int .i64) w A0_2 l0_2.length l0_2) (hc0_2 : l0_2.length ≤ c0_2) (h : spec_Learner.f k l0_0 l0_1 l0_2 a1 a2 = some (r1, r2, r3, r4)) :
   Calls Try.prog 21 #[.agg #[.slice A0_0 l0_0.length c0_0, .slice A0_1 l0_1.length c0_1, .slice A0_2 l0_2.length c0_2], .int .i64 a1, .bool a2] w fun e w' => ∃ v0_ v1_ v2_ : Value, e = .returned (.tuple #[.agg #[v0_, v1_, v2_], .bool r4]) ∧ Kd.R (Kd.int .i64) 3 w' w.heap.size (fun k_ => some k_ ≠ (v1_ : Value).ownBlock ∧ some k_ ≠ (v2_ : Value).ownBlock) v0_ r1 ∧ Kd.R (Kd.int .i64) 3 w' w.heap.size (fun k_ => some k_ ≠ (v0_ : Value).ownBlock ∧ some k_ ≠ (v2_ : Value).ownBlock) v1_ r2 ∧ Kd.R (Kd.int .i64) 3 w' w.heap.size (fun k_ => some k_ ≠ (v0_ : Value).ownBlock ∧ some k_ ≠ (v1_ : Value).ownBlock) v2_ r3 ∧ Below w.heap.size w w' := by
 have hu26 := Try.underlying26
 have HR0_0 := am hr0_0
 have HC0_0 := am hc0_0
 clear hr0_0 hc0_0
 have HR0_1 := am hr0_1
 have HC0_1 := am hc0_1
 clear hr0_1 hc0_1
 have HR0_2 := am hr0_2
 have HC0_2 := am hc0_2
 clear hr0_2 hc0_2
 have HB := am (Below.refl w.heap.size w)
 have H : ((spec_ConfOk.f k l0_0 l0_1 l0_2).bind fun t192 => (if t192 = true then ((spec_l01Has.f k l0_2 a1).bind fun t193 => (spec_Learner.j0 k a1 a2 (t193 == a2) l0_0 l0_1 l0_2)) else (spec_Learner.j0 k a1 a2 true l0_0 l0_1 l0_2))) = some (r1, r2, r3, r4) := h
 clear h
 have HC4 := am H
 clear H
 go_enter Try.func21, Try.ntmps21
 go_upto_region 1 with (first | ((with_reducible refine gate_dst (N := 3) rfl ?_); refine box_event ?hg (N := 3) ?hd (cs := #[.slice A0_0 l0_0.length c0_0, .slice A0_1 l0_1.length c0_1, .slice A0_2 l0_2.length c0_2]) (t := 26) ?hr ?_; (case hd => rfl); (case hg => rfl); (case hr => first | (go_simp; done) | (go_simp; rfl)); intro gb190 hg w5 hbox hb; have BK190 := am (hbox); have GW190 := am ((by rw [hg]; exact (below_size Q6) : w.heap.size ≤ gb190)); have GE190 := am ((by rw [hg]; exact (below_size Q6) : w.heap.size ≤ gb190)); replace HB := am (below_step Q6 hb); clear hb hbox hg) | ((with_reducible refine gate_dst (N := 6) rfl ?_); refine box_event ?hg (N := 6) ?hd (cs := #[.slice none 0 0, .slice none 0 0, .slice none 0 0]) (t := 26) ?hr ?_; (case hd => rfl); (case hg => rfl); (case hr => first | (go_simp; done) | (go_simp; rfl)); intro gb191 hg w6 hbox hb; have BK191 := am (hbox); have GW191 := am ((by rw [hg]; exact (below_size Q6) : w.heap.size ≤ gb191)); have GE191 := am ((by rw [hg]; exact (below_size Q6) : w.heap.size ≤ gb191)); replace HB := am (below_step Q6 hb); have NB190_191 := am ((by rw [hg]; exact Nat.ne_of_lt (blk_lt (g := gb190) (o := .cells #[.slice A0_0 l0_0.length c0_0, .slice A0_1 l0_1.length c0_1, .slice A0_2 l0_2.length c0_2] 26 (0, 0)) u5_2) : gb190 ≠ gb191)); have NB191_190 := am ((by rw [hg]; exact Nat.ne_of_gt (blk_lt (g := gb190) (o := .cells #[.slice A0_0 l0_0.length c0_0, .slice A0_1 l0_1.length c0_1, .slice A0_2 l0_2.length c0_2] 26 (0, 0)) u5_2) : gb191 ≠ gb190)); replace BK190 := am (bb_ BK190.out u5_2 hb); clear hb hbox hg))
 (try simp only [Act.put, la, lb, lc])
 go_cut [20] (fun v20 wc => ∃ (kq : Nat) (x20_3 : Bool), v20 = .bool x20_3 ∧ Aside0 (spec_Learner.j0 kq a1 a2 x20_3 l0_0 l0_1 l0_2 = some (r1, r2, r3, r4)) ∧ Aside0 (kq ≤ k) ∧ Aside0 (wc.heap[gb190]? = some (.cells #[(.slice A0_0 l0_0.length c0_0), (.slice A0_1 l0_1.length c0_1), (.slice A0_2 l0_2.length c0_2)] 26 (0, 0))) ∧ Aside0 (wc.heap[gb191]? = some (.cells #[(.slice none 0 0), (.slice none 0 0), (.slice none 0 0)] 26 (0, 0))) ∧ Aside0 (Below w.heap.size w wc))
 case first =>
   have H := HC4.out
   clear HC4
   replace H := Option.bind_eq_some_iff.mp H
   obtain ⟨t192, A70, H⟩ := H
   have A7 := am A70
   clear A70
   by_cases c8 : t192 = true
   rotate_left
   · replace c8 := Bool.eq_false_iff.mpr c8
     subst c8
     rw [nf] at H
     have H' := am H
     clear H
     have hnb14 := NB190_191.out
     have hnc14 := NB191_190.out
     obtain ⟨hcz15_0, hcz15_1, hcz15_2, hfz15_0, hfz15_1, hfz15_2⟩ := bc3f w6 BK190.out
     go_wp2_with (first | ((with_reducible refine gate_callee (f := 53) rfl ?_); refine goesL_ (some 11) rfl rfl Try.func53 kr rfl #[.agg #[.slice A0_0 l0_0.length c0_0, .slice A0_1 l0_1.length c0_1, .slice A0_2 l0_2.length c0_2]] rfl Q10 ?_; (with_reducible refine (spec_ConfOk.calls k _ _ l0_0 _ _ l0_1 _ _ l0_2 false _ ?side1 ?side2 ?side3 ?side4 ?side5 ?side6 A7.out).mono ?_); (case side1 => exact Q0); (case side2 => exact HC0_0.out); (case side3 => exact Q7); (case side4 => exact HC0_1.out); (case side5 => exact Q2); (case side6 => exact HC0_2.out); rintro e w16 ⟨rfl, hb⟩; refine ⟨_, rfl, ?_⟩; replace BK190 := am (bb_ BK190.out u5_2 hb); replace BK191 := am (bb_ BK191.out u5_3 hb); replace HB := am (below_step Q6 hb); (try clear hb); (try clear hb2); (try clear hk); (try clear hi)))
     go_meet
     case rel => exact ⟨_, (true), Q9, H', ⟨by first | omega | exact Nat.le_refl _⟩, ⟨u5_2⟩, ⟨u5_3⟩, ⟨Q6⟩⟩
   subst c8
   rw [if_pos rfl] at H
   replace H := Option.bind_eq_some_iff.mp H
   obtain ⟨t193, A90, H⟩ := H
   replace H : (spec_Learner.j0 k a1 a2 (t193 == a2) l0_0 l0_1 l0_2) = some (r1, r2, r3, r4) := H
   have A9 := am A90
   clear A90
   have H' := am H
   clear H
   have hnb10 := NB190_191.out
   have hnc10 := NB191_190.out
   obtain ⟨hcz11_0, hcz11_1, hcz11_2, hfz11_0, hfz11_1, hfz11_2⟩ := bc3f w6 BK190.out
   go_wp2_with (first | ((with_reducible refine gate_callee (f := 53) rfl ?_); refine goesL_ (some 11) rfl rfl Try.func53 kr rfl #[.agg #[.slice A0_0 l0_0.length c0_0, .slice A0_1 l0_1.length c0_1, .slice A0_2 l0_2.length c0_2]] rfl Q10 ?_; (with_reducible refine (spec_ConfOk.calls k _ _ l0_0 _ _ l0_1 _ _ l0_2 true _ ?side1 ?side2 ?side3 ?side4 ?side5 ?side6 A7.out).mono ?_); (case side1 => exact Q0); (case side2 => exact HC0_0.out); (case side3 => exact Q7); (case side4 => exact HC0_1.out); (case side5 => exact Q2); (case side6 => exact HC0_2.out); rintro e w12 ⟨rfl, hb⟩; refine ⟨_, rfl, ?_⟩; replace BK190 := am (bb_ BK190.out u5_2 hb); replace BK191 := am (bb_ BK191.out u5_3 hb); replace HB := am (below_step Q6 hb); (try clear hb); (try clear hb2); (try clear hk); (try clear hi); obtain ⟨hcz13_0, hcz13_1, hcz13_2, hfz13_0, hfz13_1, hfz13_2⟩ := bc3f w12 BK190.out) | (go_at_call 54; (with_reducible refine (spec_l01Has.calls k _ _ l0_2 a1 t193 _ ?side1 ?side2 A9.out).mono ?_); (case side1 => exact Q2); (case side2 => exact HC0_2.out); rintro e w' ⟨rfl, ⟨nd, rfl⟩⟩))
   go_meet
   case rel => exact ⟨_, ((t193 == a2)), Q9, H', ⟨by first | omega | exact Nat.le_refl _⟩, ⟨u5_2⟩, ⟨u5_3⟩, ⟨Q6⟩⟩
 clear HC4
 obtain ⟨kq, x20_3, rfl, HA, HJ3, BK190, BK191, HB⟩ := hcut
 cases kq with
 | zero => exact absurd HA.out (by simp [spec_Learner.j0])
 | succ kj3 =>
   have H := HA.out
   clear HA
   simp only [spec_Learner.j0] at H
   by_cases c17 : x20_3 = true
   · subst c17
     rw [if_pos rfl] at H
     replace H := Option.bind_eq_some_iff.mp H
     obtain ⟨⟨t194, t197, t200⟩, A180, H⟩ := H
     replace H : (some (t194, t197, t200, false)) = some (r1, r2, r3, r4) := H
     have A18 := am A180
     clear A180
     simp only [Option.some.injEq, Prod.mk.injEq] at H
     obtain ⟨rfl, rfl, rfl, rfl⟩ := H
     have hnb19 := NB190_191.out
     have hnc19 := NB191_190.out
     obtain ⟨hcz20_0, hcz20_1, hcz20_2, hfz20_0, hfz20_1, hfz20_2⟩ := bc3f wc BK190.out
     go_wp2_with (first | ((with_reducible refine gate_callee (f := 55) rfl ?_); refine goesL_ (some 22) rfl rfl Try.func55 kr rfl #[.agg #[.slice A0_0 l0_0.length c0_0, .slice A0_1 l0_1.length c0_1, .slice A0_2 l0_2.length c0_2]] rfl Q10 ?_; (with_reducible refine (spec_l06Copy.calls kj3 _ _ l0_0 _ _ l0_1 _ _ l0_2 t194 t197 t200 _ ?side1 ?side2 ?side3 ?side4 ?side5 ?side6 A18.out).mono ?_); (case side1 => exact Q0); (case side2 => exact HC0_0.out); (case side3 => exact Q7); (case side4 => exact HC0_1.out); (case side5 => exact Q2); (case side6 => exact HC0_2.out); rintro e w21 ⟨v195, v198, v201, rfl, ho0, ho1, ho2, hb⟩; refine ⟨_, rfl, ?_⟩; have HO196 := am (Kd.R_lower ho0 (below_size Q6)); have HO199 := am (Kd.R_lower ho1 (below_size Q6)); have HO202 := am (Kd.R_lower ho2 (below_size Q6)); replace BK190 := am (bb_ BK190.out u5_2 hb); replace BK191 := am (bb_ BK191.out u5_3 hb); replace HB := am (below_step Q6 hb); (try clear hb); (try clear hb2); (try clear hk); (try clear hi); (try clear ho0); (try clear ho1); (try clear ho2); obtain ⟨Ao22, co22, eo22⟩ := Kd.R_slice HO196.out; subst eo22; obtain ⟨hcz23_0, hcz23_1, hcz23_2, hfz23_0, hfz23_1, hfz23_2⟩ := bc3f w21 BK191.out; obtain ⟨Ao24, co24, eo24⟩ := Kd.R_slice HO199.out; subst eo24; obtain ⟨Ao25, co25, eo25⟩ := Kd.R_slice HO202.out; subst eo25))
     refine bodyPost_ret (results_ct rfl _ _ gb191 26 #[.slice Ao22 t194.length co22, .slice Ao24 t197.length co24, .slice Ao25 t200.length co25] (0, 0) _ rfl (by (with_reducible repeat (first | apply b1_ | apply b2_ | apply b3_)); refine blk_put (cs := #[.slice Ao22 t194.length co22, .slice Ao24 t197.length co24, .slice none 0 0]) ?_ 2 _ rfl; (with_reducible repeat (first | apply b1_ | apply b2_ | apply b3_)); refine blk_put (cs := #[.slice Ao22 t194.length co22, .slice none 0 0, .slice none 0 0]) ?_ 1 _ rfl; (with_reducible repeat (first | apply b1_ | apply b2_ | apply b3_)); refine blk_put (cs := #[.slice none 0 0, .slice none 0 0, .slice none 0 0]) ?_ 0 _ rfl; (with_reducible repeat (first | apply b1_ | apply b2_ | apply b3_)); exact BK191.out) Try.underlying26 rfl kr) rfl ?_
     exact ⟨_, _, _, er, (by (with_reducible repeat (first | apply r1_ | apply r2_ | apply r3_)); exact Kd.R_mono (Kd.R_far (p := ⟨gb191, 2, none⟩) (Kd.R_far (p := ⟨gb191, 1, none⟩) (Kd.R_far (p := ⟨gb191, 0, none⟩) (Kd.R_types HO196.out BK191.out (by decide)) (fun _ hk => hk.2) (.slice Ao22 t194.length co22)) (fun _ hk => hk.2) (.slice Ao24 t197.length co24)) (fun _ hk => hk.2) (.slice Ao25 t200.length co25)) (fun _ hk => ⟨hk.1.1, hk.1.2⟩)), (by (with_reducible repeat (first | apply r1_ | apply r2_ | apply r3_)); exact Kd.R_mono (Kd.R_far (p := ⟨gb191, 2, none⟩) (Kd.R_far (p := ⟨gb191, 1, none⟩) (Kd.R_far (p := ⟨gb191, 0, none⟩) (Kd.R_types HO199.out BK191.out (by decide)) (fun _ hk => hk.2) (.slice Ao22 t194.length co22)) (fun _ hk => hk.2) (.slice Ao24 t197.length co24)) (fun _ hk => hk.2) (.slice Ao25 t200.length co25)) (fun _ hk => ⟨hk.1.1, hk.1.2⟩)), (by (with_reducible repeat (first | apply r1_ | apply r2_ | apply r3_)); exact Kd.R_mono (Kd.R_far (p := ⟨gb191, 2, none⟩) (Kd.R_far (p := ⟨gb191, 1, none⟩) (Kd.R_far (p := ⟨gb191, 0, none⟩) (Kd.R_types HO202.out BK191.out (by decide)) (fun _ hk => hk.2) (.slice Ao22 t194.length co22)) (fun _ hk => hk.2) (.slice Ao24 t197.length co24)) (fun _ hk => hk.2) (.slice Ao25 t200.length co25)) (fun _ hk => ⟨hk.1.1, hk.1.2⟩)), Q6⟩
   replace c17 := Bool.eq_false_iff.mpr c17
   subst c17
   rw [nf] at H
   replace H := Option.bind_eq_some_iff.mp H
   obtain ⟨⟨t203, t206, t209⟩, A260, H⟩ := H
   (try dsimp only at H)
   have A26 := am A260
   clear A260
   obtain ⟨y213, hy213⟩ : ∃ y_ : List Int, y_ = (([a1] : List Int)) := ⟨_, rfl⟩
   replace H : ((spec_l06Less.f kj3 l0_2 y213).bind fun t216 => (if a2 = true then (spec_Learner.l0 kj3 a1 0 l0_0 l0_1 l0_2 t203 t206 (([] : List Int))) else (spec_Learner.j2 kj3 l0_0 l0_1 l0_2 t203 t206 t216))) = some (r1, r2, r3, r4) := by first | (rw [hy213]; with_reducible exact H) | (have H2_ := (Option.bind_some _ _).symm.trans H; rw [hy213]; with_reducible exact H2_) | (have H2_ := (Option.bind_some _ _).symm.trans H; with_reducible exact H2_) | with_reducible exact H | (rw [hy213]; exact H) | exact H
   have Ny213 := am hy213
   clear hy213
   replace H := Option.bind_eq_some_iff.mp H
   obtain ⟨t216, A270, H⟩ := H
   have A27 := am A270
   clear A270
   have HC28 := am H
   clear H
   have hnb29 := NB190_191.out
   have hnc29 := NB191_190.out
   obtain ⟨hcz30_0, hcz30_1, hcz30_2, hfz30_0, hfz30_1, hfz30_2⟩ := bc3f wc BK190.out
   go_upto_if 31 with (first | ((with_reducible refine gate_callee (f := 55) rfl ?_); refine goesL_ (some 24) rfl rfl Try.func55 kr rfl #[.agg #[.slice A0_0 l0_0.length c0_0, .slice A0_1 l0_1.length c0_1, .slice A0_2 l0_2.length c0_2]] rfl Q10 ?_; (with_reducible refine (spec_l06Copy.calls kj3 _ _ l0_0 _ _ l0_1 _ _ l0_2 t203 t206 t209 _ ?side1 ?side2 ?side3 ?side4 ?side5 ?side6 A26.out).mono ?_); (case side1 => exact Q0); (case side2 => exact HC0_0.out); (case side3 => exact Q7); (case side4 => exact HC0_1.out); (case side5 => exact Q2); (case side6 => exact HC0_2.out); rintro e w31 ⟨v204, v207, v210, rfl, ho0, ho1, ho2, hb⟩; refine ⟨_, rfl, ?_⟩; have HO205 := am (Kd.R_lower ho0 (below_size Q6)); have HO208 := am (Kd.R_lower ho1 (below_size Q6)); have HO211 := am (Kd.R_lower ho2 (below_size Q6)); replace BK190 := am (bb_ BK190.out u5_2 hb); replace BK191 := am (bb_ BK191.out u5_3 hb); replace HB := am (below_step Q6 hb); (try clear hb); (try clear hb2); (try clear hk); (try clear hi); (try clear ho0); (try clear ho1); (try clear ho2)) | ((with_reducible refine gate_dst (N := 8) rfl ?_); refine box_event ?hg (N := 8) ?hd (cs := #[.slice none 0 0, .slice none 0 0, .slice none 0 0]) (t := 26) ?hr ?_; (case hd => rfl); (case hg => rfl); (case hr => first | (go_simp; done) | (go_simp; rfl)); intro gb212 hg w32 hbox hb; replace HO205 := am (Kd.R_below u5_28 hb); replace HO208 := am (Kd.R_below u5_29 hb); replace HO211 := am (Kd.R_below u5_30 hb); have BK212 := am (hbox); have GW212 := am ((by rw [hg]; exact (below_size Q6) : w.heap.size ≤ gb212)); have GE212 := am ((by rw [hg]; exact (below_size Q6) : w.heap.size ≤ gb212)); replace HB := am (below_step Q6 hb); have NB190_212 := am ((by rw [hg]; exact Nat.ne_of_lt (blk_lt (g := gb190) (o := .cells #[.slice A0_0 l0_0.length c0_0, .slice A0_1 l0_1.length c0_1, .slice A0_2 l0_2.length c0_2] 26 (0, 0)) u5_2) : gb190 ≠ gb212)); have NB212_190 := am ((by rw [hg]; exact Nat.ne_of_gt (blk_lt (g := gb190) (o := .cells #[.slice A0_0 l0_0.length c0_0, .slice A0_1 l0_1.length c0_1, .slice A0_2 l0_2.length c0_2] 26 (0, 0)) u5_2) : gb212 ≠ gb190)); replace BK190 := am (bb_ BK190.out u5_2 hb); have NB191_212 := am ((by rw [hg]; exact Nat.ne_of_lt (blk_lt (g := gb191) (o := .cells #[.slice none 0 0, .slice none 0 0, .slice none 0 0] 26 (0, 0)) u5_3) : gb191 ≠ gb212)); have NB212_191 := am ((by rw [hg]; exact Nat.ne_of_gt (blk_lt (g := gb191) (o := .cells #[.slice none 0 0, .slice none 0 0, .slice none 0 0] 26 (0, 0)) u5_3) : gb212 ≠ gb191)); replace BK191 := am (bb_ BK191.out u5_3 hb); clear hb hbox hg; obtain ⟨Ao33, co33, eo33⟩ := Kd.R_slice HO205.out; subst eo33; have hnb34 := NB212_190.out; have hnc34 := NB190_212.out; have hnb35 := NB212_191.out; have hnc35 := NB191_212.out; obtain ⟨hcz36_0, hcz36_1, hcz36_2, hfz36_0, hfz36_1, hfz36_2⟩ := bc3f w32 BK212.out; obtain ⟨Ao37, co37, eo37⟩ := Kd.R_slice HO208.out; subst eo37; obtain ⟨Ao38, co38, eo38⟩ := Kd.R_slice HO211.out; subst eo38; obtain ⟨hcz39_0, hcz39_1, hcz39_2, hfz39_0, hfz39_1, hfz39_2⟩ := bc3f w32 BK190.out) | ((with_reducible refine gate_dst (N := 28) rfl ?_); refine Kd.R_lit (Kd.int .i64) _ 3 ?hg (N := 28) ?hd (xs := ([a1] : List Int)) (inner := [.int .i64 a1]) (ok := fun _ => True) (okp := fun _ => True) ?hr ?hp (fun _ hk => hk) trivial (Below.refl _ _) (Nat.le_refl _) (by simp) ?_; (case hd => rfl); (case hg => rfl); (case hr => first | (go_simp; done) | (go_simp; rfl)); (case hp => exact (Reps.one (show Kd.M (Kd.int .i64) _ _ _ a1 [.int .i64 a1] from rfl) (Reps.none _ _))); intro v214 w40 ho41 hb hg_ hnew_; clear hg_ hnew_; (first | rw [← Ny213.out] at ho41 | (simp only [Int.reduceToNat] at ho41; rw [← Ny213.out] at ho41)); have HO215 := am (Kd.R_lower (Kd.R_new' (Kd.R_new' (Kd.R_new' ho41 (Kd.R_lt u5_14)) (Kd.R_lt u5_15)) (Kd.R_lt u5_16)) (below_size Q6)); replace HO205 := am (Kd.R_elder' u5_14 (Kd.R_base ho41) hb); replace HO208 := am (Kd.R_elder' u5_15 (Kd.R_base ho41) hb); replace HO211 := am (Kd.R_elder' u5_16 (Kd.R_base ho41) hb); replace BK190 := am (blk_below (g := gb190) (o := .cells #[.slice A0_0 l0_0.length c0_0, .slice A0_1 l0_1.length c0_1, .slice A0_2 l0_2.length c0_2] 26 (0, 0)) (by (with_reducible repeat (first | apply b1_ | apply b2_ | apply b3_)); refine blk_far ?_ NB190_212.out _; (with_reducible repeat (first | apply b1_ | apply b2_ | apply b3_)); refine blk_far ?_ NB190_212.out _; (with_reducible repeat (first | apply b1_ | apply b2_ | apply b3_)); refine blk_far ?_ NB190_212.out _; (with_reducible repeat (first | apply b1_ | apply b2_ | apply b3_)); exact BK190.out) hb); replace BK191 := am (blk_below (g := gb191) (o := .cells #[.slice none 0 0, .slice none 0 0, .slice none 0 0] 26 (0, 0)) (by (with_reducible repeat (first | apply b1_ | apply b2_ | apply b3_)); refine blk_far ?_ NB191_212.out _; (with_reducible repeat (first | apply b1_ | apply b2_ | apply b3_)); refine blk_far ?_ NB191_212.out _; (with_reducible repeat (first | apply b1_ | apply b2_ | apply b3_)); refine blk_far ?_ NB191_212.out _; (with_reducible repeat (first | apply b1_ | apply b2_ | apply b3_)); exact BK191.out) hb); replace BK212 := am (blk_below (g := gb212) (o := .cells #[.slice Ao33 t203.length co33, .slice Ao37 t206.length co37, .slice Ao38 t209.length co38] 26 (0, 0)) (by (with_reducible repeat (first | apply b1_ | apply b2_ | apply b3_)); refine blk_put (cs := #[.slice Ao33 t203.length co33, .slice Ao37 t206.length co37, .slice none 0 0]) ?_ 2 _ rfl; (with_reducible repeat (first | apply b1_ | apply b2_ | apply b3_)); refine blk_put (cs := #[.slice Ao33 t203.length co33, .slice none 0 0, .slice none 0 0]) ?_ 1 _ rfl; (with_reducible repeat (first | apply b1_ | apply b2_ | apply b3_)); refine blk_put (cs := #[.slice none 0 0, .slice none 0 0, .slice none 0 0]) ?_ 0 _ rfl; (with_reducible repeat (first | apply b1_ | apply b2_ | apply b3_)); exact BK212.out) hb); replace HB := am (below_step Q6 hb); clear hb ho41; obtain ⟨Ao42, co42, eo42⟩ := Kd.R_slice HO215.out; subst eo42) | ((with_reducible refine gate_callee (f := 56) rfl ?_); refine goesL_ (some 29) rfl rfl Try.func56 kr rfl #[.slice A0_2 l0_2.length c0_2, .slice Ao42 y213.length co42] rfl Q10 ?_; (with_reducible refine (spec_l06Less.calls kj3 _ _ l0_2 _ _ y213 t216 _ ?side1 ?side2 ?side3 ?side4 A27.out).mono ?_); (case side1 => exact Q2); (case side2 => exact HC0_2.out); (case side3 => exact (by repeat (first | exact (Kd.R_reads' HO215.out).2.2 | (with_reducible refine Kd.C_alloc ?_ _) | (with_reducible refine Kd.C_drewN ?_ _) | (with_reducible refine Kd.C_drew ?_)))); (case side4 => exact (Kd.R_reads' HO215.out).2.1); rintro e w43 ⟨v217, rfl, ho0, hb⟩; refine ⟨_, rfl, ?_⟩; have HO218 := am (Kd.R_lower (Kd.R_new' (Kd.R_new' (Kd.R_new' (Kd.R_new' ho0 (Kd.R_lt u5_28)) (Kd.R_lt u5_29)) (Kd.R_lt u5_30)) (Kd.R_lt u5_33)) (below_size Q6)); replace HO205 := am (Kd.R_elder' u5_28 (Kd.R_base ho0) hb); replace HO208 := am (Kd.R_elder' u5_29 (Kd.R_base ho0) hb); replace HO211 := am (Kd.R_elder' u5_30 (Kd.R_base ho0) hb); replace HO215 := am (Kd.R_elder' u5_33 (Kd.R_base ho0) hb); replace BK190 := am (bb_ BK190.out u5_2 hb); replace BK191 := am (bb_ BK191.out u5_3 hb); replace BK212 := am (bb_ BK212.out u5_11 hb); replace HB := am (below_step Q6 hb); (try clear hb); (try clear hb2); (try clear hk); (try clear hi); (try clear ho0); obtain ⟨Ao44, co44, eo44⟩ := Kd.R_slice HO218.out; subst eo44; obtain ⟨hcz45_0, hcz45_1, hcz45_2, hfz45_0, hfz45_1, hfz45_2⟩ := bc3f w43 BK212.out))
   (try simp only [Act.put, la, lb, lc])
   go_cut [] (fun wc => ∃ (kq : Nat) (x213002_27 : List Int) (u213002 : Value), Aside0 (spec_Learner.j2 kq l0_0 l0_1 l0_2 t203 t206 x213002_27 = some (r1, r2, r3, r4)) ∧ Aside0 (kq ≤ kj3) ∧ Aside0 (Kd.R (Kd.int .i64) 3 wc w.heap.size (fun k_ => some k_ ≠ ((.slice Ao37 t206.length co37) : Value).ownBlock ∧ some k_ ≠ (u213002 : Value).ownBlock) (.slice Ao33 t203.length co33) t203) ∧ Aside0 (Kd.R (Kd.int .i64) 3 wc w.heap.size (fun k_ => some k_ ≠ ((.slice Ao33 t203.length co33) : Value).ownBlock ∧ some k_ ≠ (u213002 : Value).ownBlock) (.slice Ao37 t206.length co37) t206) ∧ Aside0 (Kd.R (Kd.int .i64) 3 wc w.heap.size (fun k_ => some k_ ≠ ((.slice Ao33 t203.length co33) : Value).ownBlock ∧ some k_ ≠ ((.slice Ao37 t206.length co37) : Value).ownBlock) u213002 x213002_27) ∧ Aside0 (wc.heap[gb190]? = some (.cells #[(.slice A0_0 l0_0.length c0_0), (.slice A0_1 l0_1.length c0_1), (.slice A0_2 l0_2.length c0_2)] 26 (0, 0))) ∧ Aside0 (wc.heap[gb191]? = some (.cells #[(.slice none 0 0), (.slice none 0 0), (.slice none 0 0)] 26 (0, 0))) ∧ Aside0 (wc.heap[gb212]? = some (.cells #[(.slice Ao33 t203.length co33), (.slice Ao37 t206.length co37), u213002] 26 (0, 0))) ∧ Aside0 (Below w.heap.size w wc))
   case first =>
     have H := HC28.out
     clear HC28
     by_cases c46 : a2 = true
     rotate_left
     · replace c46 := Bool.eq_false_iff.mpr c46
       subst c46
       rw [nf] at H
       have H' := am H
       clear H
       go_wp2
       go_meet
       case rel => exact ⟨_, (t216), (.slice Ao44 t216.length co44), H', ⟨(by have := HJ3.out; first | omega | exact Nat.le_refl _)⟩, ⟨(by (with_reducible repeat (first | apply r1_ | apply r2_ | apply r3_)); exact Kd.R_mono (Kd.R_far (p := ⟨gb212, 2, none⟩) (Kd.R_types HO205.out BK212.out (by decide)) (fun _ hk => hk.2) (.slice Ao44 t216.length co44)) (fun _ hk => ⟨hk.1.1.1.1, hk.1.2⟩))⟩, ⟨(by (with_reducible repeat (first | apply r1_ | apply r2_ | apply r3_)); exact Kd.R_mono (Kd.R_far (p := ⟨gb212, 2, none⟩) (Kd.R_types HO208.out BK212.out (by decide)) (fun _ hk => hk.2) (.slice Ao44 t216.length co44)) (fun _ hk => ⟨hk.1.1.1.1, hk.1.2⟩))⟩, ⟨(by (with_reducible repeat (first | apply r1_ | apply r2_ | apply r3_)); exact Kd.R_mono (Kd.R_far (p := ⟨gb212, 2, none⟩) (Kd.R_types HO218.out BK212.out (by decide)) (fun _ hk => hk.2) (.slice Ao44 t216.length co44)) (fun _ hk => ⟨hk.1.1.1.1.2, hk.1.1.1.2⟩))⟩, ⟨u5_9⟩, ⟨u5_10⟩, ⟨u5_18⟩, ⟨Q6⟩⟩
     subst c46
     rw [if_pos rfl] at H
     obtain ⟨y219, hy219⟩ : ∃ y_ : List Int, y_ = (([] : List Int)) := ⟨_, rfl⟩
     replace H : (spec_Learner.l0 kj3 a1 0 l0_0 l0_1 l0_2 t203 t206 y219) = some (r1, r2, r3, r4) := by first | (rw [hy219]; with_reducible exact H) | (have H2_ := (Option.bind_some _ _).symm.trans H; rw [hy219]; with_reducible exact H2_) | (have H2_ := (Option.bind_some _ _).symm.trans H; with_reducible exact H2_) | with_reducible exact H | (rw [hy219]; exact H) | exact H
     have Ny219 := am hy219
     clear hy219
     have H' := am H
     clear H
     go_wp2_with (first | ((with_reducible refine gate_dst (N := 32) rfl ?_); refine Kd.R_lit (Kd.int .i64) _ 3 ?hg (N := 32) ?hd (xs := ([] : List Int)) (inner := []) (ok := fun _ => True) (okp := fun _ => True) ?hr ?hp (fun _ hk => hk) trivial (Below.refl _ _) (Nat.le_refl _) (by simp) ?_; (case hd => rfl); (case hg => rfl); (case hr => first | (go_simp; done) | (go_simp; rfl)); (case hp => exact (Reps.none _ _)); intro v220 w47 ho48 hb hg_ hnew_; clear hg_ hnew_; (first | rw [← Ny219.out] at ho48 | (simp only [Int.reduceToNat] at ho48; rw [← Ny219.out] at ho48)); have HO221 := am (Kd.R_lower (Kd.R_new' (Kd.R_new' (Kd.R_new' (Kd.R_new' (Kd.R_new' ho48 (Kd.R_lt u5_22)) (Kd.R_lt u5_23)) (Kd.R_lt u5_24)) (Kd.R_lt u5_25)) (Kd.R_lt u5_26)) (below_size Q6)); replace HO205 := am (Kd.R_elder' u5_22 (Kd.R_base ho48) hb); replace HO208 := am (Kd.R_elder' u5_23 (Kd.R_base ho48) hb); replace HO211 := am (Kd.R_elder' u5_24 (Kd.R_base ho48) hb); replace HO215 := am (Kd.R_elder' u5_25 (Kd.R_base ho48) hb); replace HO218 := am (Kd.R_elder' u5_26 (Kd.R_base ho48) hb); replace BK190 := am (blk_below (g := gb190) (o := .cells #[.slice A0_0 l0_0.length c0_0, .slice A0_1 l0_1.length c0_1, .slice A0_2 l0_2.length c0_2] 26 (0, 0)) u5_9 hb); replace BK191 := am (blk_below (g := gb191) (o := .cells #[.slice none 0 0, .slice none 0 0, .slice none 0 0] 26 (0, 0)) u5_10 hb); replace BK212 := am (blk_below (g := gb212) (o := .cells #[.slice Ao33 t203.length co33, .slice Ao37 t206.length co37, .slice Ao44 t216.length co44] 26 (0, 0)) u5_18 hb); replace HB := am (below_step Q6 hb); clear hb ho48; obtain ⟨Ao49, co49, eo49⟩ := Kd.R_slice HO221.out; subst eo49; have hnb50 := NB212_190.out; have hnc50 := NB190_212.out; have hnb51 := NB212_191.out; have hnc51 := NB191_212.out; obtain ⟨hcz52_0, hcz52_1, hcz52_2, hfz52_0, hfz52_1, hfz52_2⟩ := bc3f w47 BK212.out))
     go_loopg [9] kj3 (fun kq v9 w' => ∃ (x9_2 : Int) (x213002_2 : List Int) (u213002 : Value), v9 = .int .i64 x9_2 ∧ Aside0 (spec_Learner.l0 kq a1 x9_2 l0_0 l0_1 l0_2 t203 t206 x213002_2 = some (r1, r2, r3, r4)) ∧ Aside0 (kq ≤ kj3) ∧ Aside0 (Kd.R (Kd.int .i64) 3 w' w.heap.size (fun k_ => some k_ ≠ ((.slice Ao37 t206.length co37) : Value).ownBlock ∧ some k_ ≠ (u213002 : Value).ownBlock) (.slice Ao33 t203.length co33) t203) ∧ Aside0 (Kd.R (Kd.int .i64) 3 w' w.heap.size (fun k_ => some k_ ≠ ((.slice Ao33 t203.length co33) : Value).ownBlock ∧ some k_ ≠ (u213002 : Value).ownBlock) (.slice Ao37 t206.length co37) t206) ∧ Aside0 (Kd.R (Kd.int .i64) 3 w' w.heap.size (fun k_ => some k_ ≠ ((.slice Ao33 t203.length co33) : Value).ownBlock ∧ some k_ ≠ ((.slice Ao37 t206.length co37) : Value).ownBlock) u213002 x213002_2) ∧ Aside0 (w'.heap[gb190]? = some (.cells #[(.slice A0_0 l0_0.length c0_0), (.slice A0_1 l0_1.length c0_1), (.slice A0_2 l0_2.length c0_2)] 26 (0, 0))) ∧ Aside0 (w'.heap[gb191]? = some (.cells #[(.slice none 0 0), (.slice none 0 0), (.slice none 0 0)] 26 (0, 0))) ∧ Aside0 (w'.heap[gb212]? = some (.cells #[(.slice Ao33 t203.length co33), (.slice Ao37 t206.length co37), u213002] 26 (0, 0))) ∧ Aside0 (Below w.heap.size w w'))
     case atStart => exact ⟨(0), (y219), (.slice Ao49 y219.length co49), Q9, H', ⟨Nat.le_refl _⟩, ⟨(by (with_reducible repeat (first | apply r1_ | apply r2_ | apply r3_)); exact Kd.R_mono (Kd.R_far (p := ⟨gb212, 2, none⟩) (Kd.R_types HO205.out BK212.out (by decide)) (fun _ hk => hk.2) (.slice Ao49 y219.length co49)) (fun _ hk => ⟨hk.1.1.1.1.1, hk.1.2⟩))⟩, ⟨(by (with_reducible repeat (first | apply r1_ | apply r2_ | apply r3_)); exact Kd.R_mono (Kd.R_far (p := ⟨gb212, 2, none⟩) (Kd.R_types HO208.out BK212.out (by decide)) (fun _ hk => hk.2) (.slice Ao49 y219.length co49)) (fun _ hk => ⟨hk.1.1.1.1.1, hk.1.2⟩))⟩, ⟨(by (with_reducible repeat (first | apply r1_ | apply r2_ | apply r3_)); exact Kd.R_mono (Kd.R_far (p := ⟨gb212, 2, none⟩) (Kd.R_types HO221.out BK212.out (by decide)) (fun _ hk => hk.2) (.slice Ao49 y219.length co49)) (fun _ hk => ⟨hk.1.1.1.1.1.2, hk.1.1.1.1.2⟩))⟩, ⟨u5_9⟩, ⟨u5_10⟩, ⟨(by (with_reducible repeat (first | apply b1_ | apply b2_ | apply b3_)); refine blk_put (cs := #[.slice Ao33 t203.length co33, .slice Ao37 t206.length co37, .slice Ao44 t216.length co44]) ?_ 2 _ rfl; (with_reducible repeat (first | apply b1_ | apply b2_ | apply b3_)); exact BK212.out)⟩, ⟨Q6⟩⟩
     clear H'
     try clear c17
     try clear c46
     try clear hcz30_0
     try clear hcz30_1
     try clear hcz30_2
     try clear hcz36_0
     try clear hcz36_1
     try clear hcz36_2
     try clear hcz39_0
     try clear hcz39_1
     try clear hcz39_2
     try clear hcz45_0
     try clear hcz45_1
     try clear hcz45_2
     try clear hcz52_0
     try clear hcz52_1
     try clear hcz52_2
     try clear hfz30_0
     try clear hfz30_1
     try clear hfz30_2
     try clear hfz36_0
     try clear hfz36_1
     try clear hfz36_2
     try clear hfz39_0
     try clear hfz39_1
     try clear hfz39_2
     try clear hfz45_0
     try clear hfz45_1
     try clear hfz45_2
     try clear hfz52_0
     try clear hfz52_1
     try clear hfz52_2
     obtain ⟨x9_2, x213002_2, u213002, rfl, HA, HK2, HO_213000, HO_213001, HO_213002, BK190, BK191, BK212, HB⟩ := hrel
     cases gk with
     | zero => exact absurd HA.out (by simp [spec_Learner.l0])
     | succ k2 =>
       have H := HA.out
       clear HA
       simp only [spec_Learner.l0] at H
       by_cases c53 : x9_2 < 100
       rotate_left
       · rw [if_neg c53] at H
         have c53b0 : decide (x9_2 < 100) = false := decide_eq_false c53
         clear c53
         (first | rw [c53b0] | (simp only [i64_w, i32_w]; rw [c53b0]) | skip)
         have H' := am H
         clear H
         go_wp2
         go_meet
         case rel => exact ⟨_, (x213002_2), (u213002), H', ⟨(by have := HJ3.out; have := HK2.out; first | omega | exact Nat.le_refl _)⟩, ⟨u5_4⟩, ⟨u5_5⟩, ⟨u5_7⟩, ⟨u5_2⟩, ⟨u5_3⟩, ⟨u5_11⟩, ⟨Q6⟩⟩
       rw [if_pos c53] at H
       have c53b0 : decide (x9_2 < 100) = true := decide_eq_true c53
       clear c53
       (first | rw [c53b0] | (simp only [i64_w, i32_w]; rw [c53b0]) | skip)
       by_cases c54 : x9_2 = a1
       · rw [if_pos c54] at H
         have c54b0 : (x9_2 == a1) = true := beq_iff_eq.mpr c54
         have c54b1 : (x9_2 != a1) = false := bne_eq_false_iff_eq.mpr c54
         clear c54
         by_cases c55 : x213002_2.length < 17592186044416
         rotate_left
         · rw [if_neg c55] at H
           exact absurd H (by simp)
         rw [if_pos c55] at H
         have LMc55 := am c55
         clear c55
         obtain ⟨y222, hy222⟩ : ∃ y_ : List Int, y_ = (x213002_2 ++ [x9_2]) := ⟨_, rfl⟩
         replace H : (spec_Learner.l0 k2 a1 (wrap64 (x9_2 + 1)) l0_0 l0_1 l0_2 t203 t206 y222) = some (r1, r2, r3, r4) := by first | (rw [hy222]; with_reducible exact H) | (have H2_ := (Option.bind_some _ _).symm.trans H; rw [hy222]; with_reducible exact H2_) | (have H2_ := (Option.bind_some _ _).symm.trans H; with_reducible exact H2_) | with_reducible exact H | (rw [hy222]; exact H) | exact H
         have Ny222 := am hy222
         clear hy222
         have H' := am H
         clear H
         have hnb56 := NB212_190.out
         have hnc56 := NB190_212.out
         have hnb57 := NB212_191.out
         have hnc57 := NB191_212.out
         obtain ⟨hcz58_0, hcz58_1, hcz58_2, hfz58_0, hfz58_1, hfz58_2⟩ := bc3f wr BK212.out
         go_wp2_with (first | ((with_reducible refine gate_builtin (b := .append) (xs := #[.tmp 48, .tmp 50]) rfl ?_); at_builtin; refine Kd.R_append (Kd.int .i64) (w0 := w) w.heap.size rfl (.tmp 48) (.tmp 50) 24 3 (.int .i64 0) 8 rfl Try.underlying24 info3 rfl (by decide) (by omega) u213002 x213002_2 x9_2 [.int .i64 x9_2] (fun k_ => some k_ ≠ (.slice Ao33 t203.length co33 : Value).ownBlock ∧ some k_ ≠ (.slice Ao37 t206.length co37 : Value).ownBlock) (fun _ => False) rfl rfl ?aP (fun _ hk => hk.elim) ?aF ?aO ?aB ?aS ?aL ?_; (case aP => exact rfl); (case aB => exact Q6); (case aF => exact (fun k_ hk => ⟨Kd.fresh' (Kd.R_lt u5_4) k_ hk, Kd.fresh' (Kd.R_lt u5_5) k_ hk⟩)); (case aO => exact u5_7); (case aS => exact (below_size Q6)); (case aL => have := LMc55.out; omega); intro v223 w59 ho hb hg hat; rw [← Ny222.out] at ho; replace HO_213000 := am (Kd.R_after (ok := (fun k_ => some k_ ≠ (.slice Ao37 t206.length co37 : Value).ownBlock)) u5_4 hg hat); replace HO_213001 := am (Kd.R_after (ok := (fun k_ => some k_ ≠ (.slice Ao33 t203.length co33 : Value).ownBlock)) u5_5 hg hat); replace BK190 := am (blk_grown (g := gb190) (o := .cells #[.slice A0_0 l0_0.length c0_0, .slice A0_1 l0_1.length c0_1, .slice A0_2 l0_2.length c0_2] 26 (0, 0)) u5_2 hg (Kd.R_ne HO_213002.out BK190.out (by decide))); replace BK191 := am (blk_grown (g := gb191) (o := .cells #[.slice none 0 0, .slice none 0 0, .slice none 0 0] 26 (0, 0)) u5_3 hg (Kd.R_ne HO_213002.out BK191.out (by decide))); replace BK212 := am (blk_grown (g := gb212) (o := .cells #[.slice Ao33 t203.length co33, .slice Ao37 t206.length co37, u213002] 26 (0, 0)) u5_11 hg (Kd.R_ne HO_213002.out BK212.out (by decide))); replace HB := am (hb); have HO224 := am (ho); clear HO_213002; clear ho hb hg hat; obtain ⟨Ao60, co60, eo60⟩ := Kd.R_slice HO224.out; subst eo60; obtain ⟨hcz61_0, hcz61_1, hcz61_2, hfz61_0, hfz61_1, hfz61_2⟩ := bc3f w59 BK212.out))
         go_roundg k2
         case measure => have := HJ3.out; have := HK2.out; omega
         case rel => exact ⟨(wrap64 (x9_2 + 1)), (y222), (.slice Ao60 y222.length co60), Q9, H', ⟨u5_34⟩, ⟨(by (with_reducible repeat (first | apply r1_ | apply r2_ | apply r3_)); exact Kd.R_mono (Kd.R_far (p := ⟨gb212, 2, none⟩) (Kd.R_types HO_213000.out BK212.out (by decide)) (fun _ hk => hk.2) (.slice Ao60 y222.length co60)) (fun _ hk => ⟨hk.1.1, hk.1.2⟩))⟩, ⟨(by (with_reducible repeat (first | apply r1_ | apply r2_ | apply r3_)); exact Kd.R_mono (Kd.R_far (p := ⟨gb212, 2, none⟩) (Kd.R_types HO_213001.out BK212.out (by decide)) (fun _ hk => hk.2) (.slice Ao60 y222.length co60)) (fun _ hk => ⟨hk.1.1, hk.1.2⟩))⟩, ⟨(by (with_reducible repeat (first | apply r1_ | apply r2_ | apply r3_)); exact Kd.R_mono (Kd.R_far (p := ⟨gb212, 2, none⟩) (Kd.R_types HO224.out BK212.out (by decide)) (fun _ hk => hk.2) (.slice Ao60 y222.length co60)) (fun _ hk => ⟨hk.1.1, hk.1.2⟩))⟩, ⟨u5_9⟩, ⟨u5_10⟩, ⟨u5_20⟩, ⟨Q6⟩⟩
       rw [if_neg c54] at H
       have c54b0 : (x9_2 == a1) = false := beq_eq_false_iff_ne.mpr c54
       have c54b1 : (x9_2 != a1) = true := bne_iff_ne.mpr c54
       replace H := Option.bind_eq_some_iff.mp H
       obtain ⟨t225, A620, H⟩ := H
       have A62 := am A620
       clear A620
       have H9 := am H
       clear H
       have hnb63 := NB190_191.out
       have hnc63 := NB191_190.out
       have hnb64 := NB190_212.out
       have hnc64 := NB212_190.out
       obtain ⟨hcz65_0, hcz65_1, hcz65_2, hfz65_0, hfz65_1, hfz65_2⟩ := bc3f wr BK190.out
       go_upto_if 46 with (first | (go_at_call 54; (with_reducible refine (spec_l01Has.calls k2 _ _ l0_2 x9_2 t225 _ ?side1 ?side2 A62.out).mono ?_); (case side1 => exact Q2); (case side2 => exact HC0_2.out); rintro e w' ⟨rfl, ⟨nd, rfl⟩⟩))
       have H := H9.out
       clear H9
       by_cases c66 : t225 = true
       rotate_left
       · replace c66 := Bool.eq_false_iff.mpr c66
         subst c66
         rw [nf] at H
         have H' := am H
         clear H
         go_wp2
         go_roundg k2
         case measure => have := HJ3.out; have := HK2.out; omega
         case rel => exact ⟨(wrap64 (x9_2 + 1)), (x213002_2), (u213002), Q9, H', ⟨u5_34⟩, ⟨u5_4⟩, ⟨u5_5⟩, ⟨u5_7⟩, ⟨u5_2⟩, ⟨u5_3⟩, ⟨u5_11⟩, ⟨Q6⟩⟩
       subst c66
       rw [if_pos rfl] at H
       by_cases c67 : x213002_2.length < 17592186044416
       rotate_left
       · rw [if_neg c67] at H
         exact absurd H (by simp)
       rw [if_pos c67] at H
       have LMc67 := am c67
       clear c67
       obtain ⟨y226, hy226⟩ : ∃ y_ : List Int, y_ = (x213002_2 ++ [x9_2]) := ⟨_, rfl⟩
       replace H : (spec_Learner.l0 k2 a1 (wrap64 (x9_2 + 1)) l0_0 l0_1 l0_2 t203 t206 y226) = some (r1, r2, r3, r4) := by first | (rw [hy226]; with_reducible exact H) | (have H2_ := (Option.bind_some _ _).symm.trans H; rw [hy226]; with_reducible exact H2_) | (have H2_ := (Option.bind_some _ _).symm.trans H; with_reducible exact H2_) | with_reducible exact H | (rw [hy226]; exact H) | exact H
       have Ny226 := am hy226
       clear hy226
       have H' := am H
       clear H
       have hnb68 := NB212_190.out
       have hnc68 := NB190_212.out
       have hnb69 := NB212_191.out
       have hnc69 := NB191_212.out
       obtain ⟨hcz70_0, hcz70_1, hcz70_2, hfz70_0, hfz70_1, hfz70_2⟩ := bc3f wr BK212.out
       go_wp2_with (first | ((with_reducible refine gate_builtin (b := .append) (xs := #[.tmp 48, .tmp 50]) rfl ?_); at_builtin; refine Kd.R_append (Kd.int .i64) (w0 := w) w.heap.size rfl (.tmp 48) (.tmp 50) 24 3 (.int .i64 0) 8 rfl Try.underlying24 info3 rfl (by decide) (by omega) u213002 x213002_2 x9_2 [.int .i64 x9_2] (fun k_ => some k_ ≠ (.slice Ao33 t203.length co33 : Value).ownBlock ∧ some k_ ≠ (.slice Ao37 t206.length co37 : Value).ownBlock) (fun _ => False) rfl rfl ?aP (fun _ hk => hk.elim) ?aF ?aO ?aB ?aS ?aL ?_; (case aP => exact rfl); (case aB => exact Q6); (case aF => exact (fun k_ hk => ⟨Kd.fresh' (Kd.R_lt u5_4) k_ hk, Kd.fresh' (Kd.R_lt u5_5) k_ hk⟩)); (case aO => exact u5_7); (case aS => exact (below_size Q6)); (case aL => have := LMc67.out; omega); intro v227 w71 ho hb hg hat; rw [← Ny226.out] at ho; replace HO_213000 := am (Kd.R_after (ok := (fun k_ => some k_ ≠ (.slice Ao37 t206.length co37 : Value).ownBlock)) u5_4 hg hat); replace HO_213001 := am (Kd.R_after (ok := (fun k_ => some k_ ≠ (.slice Ao33 t203.length co33 : Value).ownBlock)) u5_5 hg hat); replace BK190 := am (blk_grown (g := gb190) (o := .cells #[.slice A0_0 l0_0.length c0_0, .slice A0_1 l0_1.length c0_1, .slice A0_2 l0_2.length c0_2] 26 (0, 0)) u5_2 hg (Kd.R_ne HO_213002.out BK190.out (by decide))); replace BK191 := am (blk_grown (g := gb191) (o := .cells #[.slice none 0 0, .slice none 0 0, .slice none 0 0] 26 (0, 0)) u5_3 hg (Kd.R_ne HO_213002.out BK191.out (by decide))); replace BK212 := am (blk_grown (g := gb212) (o := .cells #[.slice Ao33 t203.length co33, .slice Ao37 t206.length co37, u213002] 26 (0, 0)) u5_11 hg (Kd.R_ne HO_213002.out BK212.out (by decide))); replace HB := am (hb); have HO228 := am (ho); clear HO_213002; clear ho hb hg hat; obtain ⟨Ao72, co72, eo72⟩ := Kd.R_slice HO228.out; subst eo72; obtain ⟨hcz73_0, hcz73_1, hcz73_2, hfz73_0, hfz73_1, hfz73_2⟩ := bc3f w71 BK212.out))
       go_roundg k2
       case measure => have := HJ3.out; have := HK2.out; omega
       case rel => exact ⟨(wrap64 (x9_2 + 1)), (y226), (.slice Ao72 y226.length co72), Q9, H', ⟨u5_34⟩, ⟨(by (with_reducible repeat (first | apply r1_ | apply r2_ | apply r3_)); exact Kd.R_mono (Kd.R_far (p := ⟨gb212, 2, none⟩) (Kd.R_types HO_213000.out BK212.out (by decide)) (fun _ hk => hk.2) (.slice Ao72 y226.length co72)) (fun _ hk => ⟨hk.1.1, hk.1.2⟩))⟩, ⟨(by (with_reducible repeat (first | apply r1_ | apply r2_ | apply r3_)); exact Kd.R_mono (Kd.R_far (p := ⟨gb212, 2, none⟩) (Kd.R_types HO_213001.out BK212.out (by decide)) (fun _ hk => hk.2) (.slice Ao72 y226.length co72)) (fun _ hk => ⟨hk.1.1, hk.1.2⟩))⟩, ⟨(by (with_reducible repeat (first | apply r1_ | apply r2_ | apply r3_)); exact Kd.R_mono (Kd.R_far (p := ⟨gb212, 2, none⟩) (Kd.R_types HO228.out BK212.out (by decide)) (fun _ hk => hk.2) (.slice Ao72 y226.length co72)) (fun _ hk => ⟨hk.1.1, hk.1.2⟩))⟩, ⟨u5_9⟩, ⟨u5_10⟩, ⟨u5_20⟩, ⟨Q6⟩⟩
   clear HC28
   try clear c17
   try clear hcz30_0
   try clear hcz30_1
   try clear hcz30_2
   try clear hcz36_0
   try clear hcz36_1
   try clear hcz36_2
   try clear hcz39_0
   try clear hcz39_1
   try clear hcz39_2
   try clear hcz45_0
   try clear hcz45_1
   try clear hcz45_2
   try clear hfz30_0
   try clear hfz30_1
   try clear hfz30_2
   try clear hfz36_0
   try clear hfz36_1
   try clear hfz36_2
   try clear hfz39_0
   try clear hfz39_1
   try clear hfz39_2
   try clear hfz45_0
   try clear hfz45_1
   try clear hfz45_2
   obtain ⟨kq, x213002_27, u213002, HA, HJ27, HO_213000, HO_213001, HO_213002, BK190, BK191, BK212, HB⟩ := hcut
   cases kq with
   | zero => exact absurd HA.out (by simp [spec_Learner.j2])
   | succ kj27 =>
     have H := HA.out
     clear HA
     simp only [spec_Learner.j2] at H
     replace H := Option.bind_eq_some_iff.mp H
     obtain ⟨t229, A740, H⟩ := H
     have A74 := am A740
     clear A740
     by_cases c75 : t229 = true
     rotate_left
     · replace c75 := Bool.eq_false_iff.mpr c75
       subst c75
       rw [nf] at H
       replace H := Option.bind_eq_some_iff.mp H
       obtain ⟨⟨t240, t243, t246⟩, A1010, H⟩ := H
       replace H : (some (t240, t243, t246, false)) = some (r1, r2, r3, r4) := H
       have A101 := am A1010
       clear A1010
       simp only [Option.some.injEq, Prod.mk.injEq] at H
       obtain ⟨rfl, rfl, rfl, rfl⟩ := H
       have hnb102 := NB212_190.out
       have hnc102 := NB190_212.out
       have hnb103 := NB212_191.out
       have hnc103 := NB191_212.out
       obtain ⟨hcz104_0, hcz104_1, hcz104_2, hfz104_0, hfz104_1, hfz104_2⟩ := bc3f wc BK212.out
       obtain ⟨Ao105, co105, eo105⟩ := Kd.R_slice HO_213002.out
       subst eo105
       go_wp2_with (first | ((with_reducible refine gate_callee (f := 53) rfl ?_); refine goesL_ (some 54) rfl rfl Try.func53 kr rfl #[.agg #[.slice Ao33 t203.length co33, .slice Ao37 t206.length co37, .slice Ao105 x213002_27.length co105]] rfl Q10 ?_; (with_reducible refine (spec_ConfOk.calls kj27 _ _ t203 _ _ t206 _ _ x213002_27 false _ ?side1 ?side2 ?side3 ?side4 ?side5 ?side6 A74.out).mono ?_); (case side1 => exact u5_31); (case side2 => exact (Kd.R_reads' HO_213000.out).2.1); (case side3 => exact u5_32); (case side4 => exact (Kd.R_reads' HO_213001.out).2.1); (case side5 => exact u5_17); (case side6 => exact (Kd.R_reads' HO_213002.out).2.1); rintro e w106 ⟨rfl, hb⟩; refine ⟨_, rfl, ?_⟩; replace HO_213000 := am (Kd.R_below u5_4 hb); replace HO_213001 := am (Kd.R_below u5_5 hb); replace HO_213002 := am (Kd.R_below u5_7 hb); replace BK190 := am (bb_ BK190.out u5_2 hb); replace BK191 := am (bb_ BK191.out u5_3 hb); replace BK212 := am (bb_ BK212.out u5_11 hb); replace HB := am (below_step Q6 hb); (try clear hb); (try clear hb2); (try clear hk); (try clear hi); have hnb107 := NB190_191.out; have hnc107 := NB191_190.out; obtain ⟨hcz108_0, hcz108_1, hcz108_2, hfz108_0, hfz108_1, hfz108_2⟩ := bc3f w106 BK190.out) | ((with_reducible refine gate_callee (f := 55) rfl ?_); refine goesL_ (some 64) rfl rfl Try.func55 kr rfl #[.agg #[.slice A0_0 l0_0.length c0_0, .slice A0_1 l0_1.length c0_1, .slice A0_2 l0_2.length c0_2]] rfl Q10 ?_; (with_reducible refine (spec_l06Copy.calls kj27 _ _ l0_0 _ _ l0_1 _ _ l0_2 t240 t243 t246 _ ?side1 ?side2 ?side3 ?side4 ?side5 ?side6 A101.out).mono ?_); (case side1 => exact Q0); (case side2 => exact HC0_0.out); (case side3 => exact Q7); (case side4 => exact HC0_1.out); (case side5 => exact Q2); (case side6 => exact HC0_2.out); rintro e w109 ⟨v241, v244, v247, rfl, ho0, ho1, ho2, hb⟩; refine ⟨_, rfl, ?_⟩; have HO242 := am (Kd.R_lower (Kd.R_new' (Kd.R_new' (Kd.R_new' ho0 (Kd.R_lt u5_4)) (Kd.R_lt u5_5)) (Kd.R_lt u5_7)) (below_size Q6)); have HO245 := am (Kd.R_lower (Kd.R_new' (Kd.R_new' (Kd.R_new' ho1 (Kd.R_lt u5_4)) (Kd.R_lt u5_5)) (Kd.R_lt u5_7)) (below_size Q6)); have HO248 := am (Kd.R_lower (Kd.R_new' (Kd.R_new' (Kd.R_new' ho2 (Kd.R_lt u5_4)) (Kd.R_lt u5_5)) (Kd.R_lt u5_7)) (below_size Q6)); replace HO_213000 := am (Kd.R_mono (Kd.R_told (Kd.R_told (Kd.R_told (Kd.R_old u5_4 hb) (Kd.R_base ho0)) (Kd.R_base ho1)) (Kd.R_base ho2)) (fun _ h_ => h_.1)); replace HO_213001 := am (Kd.R_mono (Kd.R_told (Kd.R_told (Kd.R_told (Kd.R_old u5_5 hb) (Kd.R_base ho0)) (Kd.R_base ho1)) (Kd.R_base ho2)) (fun _ h_ => h_.1)); replace HO_213002 := am (Kd.R_mono (Kd.R_told (Kd.R_told (Kd.R_told (Kd.R_old u5_7 hb) (Kd.R_base ho0)) (Kd.R_base ho1)) (Kd.R_base ho2)) (fun _ h_ => h_.1)); replace BK190 := am (bb_ BK190.out u5_2 hb); replace BK191 := am (bb_ BK191.out u5_3 hb); replace BK212 := am (bb_ BK212.out u5_11 hb); replace HB := am (below_step Q6 hb); (try clear hb); (try clear hb2); (try clear hk); (try clear hi); (try clear ho0); (try clear ho1); (try clear ho2); obtain ⟨Ao110, co110, eo110⟩ := Kd.R_slice HO242.out; subst eo110; obtain ⟨hcz111_0, hcz111_1, hcz111_2, hfz111_0, hfz111_1, hfz111_2⟩ := bc3f w109 BK191.out; obtain ⟨Ao112, co112, eo112⟩ := Kd.R_slice HO245.out; subst eo112; obtain ⟨Ao113, co113, eo113⟩ := Kd.R_slice HO248.out; subst eo113))
       refine bodyPost_ret (results_ct rfl _ _ gb191 26 #[.slice Ao110 t240.length co110, .slice Ao112 t243.length co112, .slice Ao113 t246.length co113] (0, 0) _ rfl (by (with_reducible repeat (first | apply b1_ | apply b2_ | apply b3_)); refine blk_put (cs := #[.slice Ao110 t240.length co110, .slice Ao112 t243.length co112, .slice none 0 0]) ?_ 2 _ rfl; (with_reducible repeat (first | apply b1_ | apply b2_ | apply b3_)); refine blk_put (cs := #[.slice Ao110 t240.length co110, .slice none 0 0, .slice none 0 0]) ?_ 1 _ rfl; (with_reducible repeat (first | apply b1_ | apply b2_ | apply b3_)); refine blk_put (cs := #[.slice none 0 0, .slice none 0 0, .slice none 0 0]) ?_ 0 _ rfl; (with_reducible repeat (first | apply b1_ | apply b2_ | apply b3_)); exact BK191.out) Try.underlying26 rfl kr) rfl ?_
       exact ⟨_, _, _, er, (by (with_reducible repeat (first | apply r1_ | apply r2_ | apply r3_)); exact Kd.R_mono (Kd.R_far (p := ⟨gb191, 2, none⟩) (Kd.R_far (p := ⟨gb191, 1, none⟩) (Kd.R_far (p := ⟨gb191, 0, none⟩) (Kd.R_types HO242.out BK191.out (by decide)) (fun _ hk => hk.2) (.slice Ao110 t240.length co110)) (fun _ hk => hk.2) (.slice Ao112 t243.length co112)) (fun _ hk => hk.2) (.slice Ao113 t246.length co113)) (fun _ hk => ⟨hk.1.1.1.1.1, hk.1.1.1.1.2⟩)), (by (with_reducible repeat (first | apply r1_ | apply r2_ | apply r3_)); exact Kd.R_mono (Kd.R_far (p := ⟨gb191, 2, none⟩) (Kd.R_far (p := ⟨gb191, 1, none⟩) (Kd.R_far (p := ⟨gb191, 0, none⟩) (Kd.R_types HO245.out BK191.out (by decide)) (fun _ hk => hk.2) (.slice Ao110 t240.length co110)) (fun _ hk => hk.2) (.slice Ao112 t243.length co112)) (fun _ hk => hk.2) (.slice Ao113 t246.length co113)) (fun _ hk => ⟨hk.1.1.1.1.1, hk.1.1.1.1.2⟩)), (by (with_reducible repeat (first | apply r1_ | apply r2_ | apply r3_)); exact Kd.R_mono (Kd.R_far (p := ⟨gb191, 2, none⟩) (Kd.R_far (p := ⟨gb191, 1, none⟩) (Kd.R_far (p := ⟨gb191, 0, none⟩) (Kd.R_types HO248.out BK191.out (by decide)) (fun _ hk => hk.2) (.slice Ao110 t240.length co110)) (fun _ hk => hk.2) (.slice Ao112 t243.length co112)) (fun _ hk => hk.2) (.slice Ao113 t246.length co113)) (fun _ hk => ⟨hk.1.1.1.1.1, hk.1.1.1.1.2⟩)), Q6⟩
     subst c75
     rw [if_pos rfl] at H
     replace H := Option.bind_eq_some_iff.mp H
     obtain ⟨t230, A760, H⟩ := H
     have A76 := am A760
     clear A760
     have H9 := am H
     clear H
     have hnb77 := NB212_190.out
     have hnc77 := NB190_212.out
     have hnb78 := NB212_191.out
     have hnc78 := NB191_212.out
     obtain ⟨hcz79_0, hcz79_1, hcz79_2, hfz79_0, hfz79_1, hfz79_2⟩ := bc3f wc BK212.out
     obtain ⟨Ao80, co80, eo80⟩ := Kd.R_slice HO_213002.out
     subst eo80
     go_upto_if 62 with (first | ((with_reducible refine gate_callee (f := 53) rfl ?_); refine goesL_ (some 54) rfl rfl Try.func53 kr rfl #[.agg #[.slice Ao33 t203.length co33, .slice Ao37 t206.length co37, .slice Ao80 x213002_27.length co80]] rfl Q10 ?_; (with_reducible refine (spec_ConfOk.calls kj27 _ _ t203 _ _ t206 _ _ x213002_27 true _ ?side1 ?side2 ?side3 ?side4 ?side5 ?side6 A74.out).mono ?_); (case side1 => exact u5_31); (case side2 => exact (Kd.R_reads' HO_213000.out).2.1); (case side3 => exact u5_32); (case side4 => exact (Kd.R_reads' HO_213001.out).2.1); (case side5 => exact u5_17); (case side6 => exact (Kd.R_reads' HO_213002.out).2.1); rintro e w81 ⟨rfl, hb⟩; refine ⟨_, rfl, ?_⟩; replace HO_213000 := am (Kd.R_below u5_4 hb); replace HO_213001 := am (Kd.R_below u5_5 hb); replace HO_213002 := am (Kd.R_below u5_7 hb); replace BK190 := am (bb_ BK190.out u5_2 hb); replace BK191 := am (bb_ BK191.out u5_3 hb); replace BK212 := am (bb_ BK212.out u5_11 hb); replace HB := am (below_step Q6 hb); (try clear hb); (try clear hb2); (try clear hk); (try clear hi); obtain ⟨hcz82_0, hcz82_1, hcz82_2, hfz82_0, hfz82_1, hfz82_2⟩ := bc3f w81 BK212.out; have hnb83 := NB190_191.out; have hnc83 := NB191_190.out; obtain ⟨hcz84_0, hcz84_1, hcz84_2, hfz84_0, hfz84_1, hfz84_2⟩ := bc3f w81 BK190.out) | (go_at_call 57; (with_reducible refine (spec_l06Same.calls kj27 _ _ x213002_27 _ _ l0_2 t230 _ ?side1 ?side2 ?side3 ?side4 A76.out).mono ?_); (case side1 => exact u5_17); (case side2 => exact (Kd.R_reads' HO_213002.out).2.1); (case side3 => exact Q2); (case side4 => exact HC0_2.out); rintro e w' ⟨rfl, ⟨nd, rfl⟩⟩))
     have H := H9.out
     clear H9
     by_cases c85 : t230 = true
     rotate_left
     · replace c85 := Bool.eq_false_iff.mpr c85
       subst c85
       rw [nf] at H
       simp only [Option.some.injEq, Prod.mk.injEq] at H
       obtain ⟨rfl, rfl, rfl, rfl⟩ := H
       have hnb96 := NB212_190.out
       have hnc96 := NB190_212.out
       have hnb97 := NB212_191.out
       have hnc97 := NB191_212.out
       obtain ⟨hcz98_0, hcz98_1, hcz98_2, hfz98_0, hfz98_1, hfz98_2⟩ := bc3f w81 BK212.out
       have hnb99 := NB191_190.out
       have hnc99 := NB190_191.out
       obtain ⟨hcz100_0, hcz100_1, hcz100_2, hfz100_0, hfz100_1, hfz100_2⟩ := bc3f w81 BK191.out
       go_wp2
       refine bodyPost_ret (results_ct rfl _ _ gb191 26 #[.slice Ao33 t203.length co33, .slice Ao37 t206.length co37, .slice Ao80 x213002_27.length co80] (0, 0) _ rfl (by (with_reducible repeat (first | apply b1_ | apply b2_ | apply b3_)); refine blk_put (cs := #[.slice Ao33 t203.length co33, .slice Ao37 t206.length co37, .slice none 0 0]) ?_ 2 _ rfl; (with_reducible repeat (first | apply b1_ | apply b2_ | apply b3_)); refine blk_put (cs := #[.slice Ao33 t203.length co33, .slice none 0 0, .slice none 0 0]) ?_ 1 _ rfl; (with_reducible repeat (first | apply b1_ | apply b2_ | apply b3_)); refine blk_put (cs := #[.slice none 0 0, .slice none 0 0, .slice none 0 0]) ?_ 0 _ rfl; (with_reducible repeat (first | apply b1_ | apply b2_ | apply b3_)); exact BK191.out) Try.underlying26 rfl kr) rfl ?_
       exact ⟨_, _, _, er, (by (with_reducible repeat (first | apply r1_ | apply r2_ | apply r3_)); exact Kd.R_mono (Kd.R_far (p := ⟨gb191, 2, none⟩) (Kd.R_far (p := ⟨gb191, 1, none⟩) (Kd.R_far (p := ⟨gb191, 0, none⟩) (Kd.R_types HO_213000.out BK191.out (by decide)) (fun _ hk => hk.2) (.slice Ao33 t203.length co33)) (fun _ hk => hk.2) (.slice Ao37 t206.length co37)) (fun _ hk => hk.2) (.slice Ao80 x213002_27.length co80)) (fun _ hk => ⟨hk.1.1, hk.1.2⟩)), (by (with_reducible repeat (first | apply r1_ | apply r2_ | apply r3_)); exact Kd.R_mono (Kd.R_far (p := ⟨gb191, 2, none⟩) (Kd.R_far (p := ⟨gb191, 1, none⟩) (Kd.R_far (p := ⟨gb191, 0, none⟩) (Kd.R_types HO_213001.out BK191.out (by decide)) (fun _ hk => hk.2) (.slice Ao33 t203.length co33)) (fun _ hk => hk.2) (.slice Ao37 t206.length co37)) (fun _ hk => hk.2) (.slice Ao80 x213002_27.length co80)) (fun _ hk => ⟨hk.1.1, hk.1.2⟩)), (by (with_reducible repeat (first | apply r1_ | apply r2_ | apply r3_)); exact Kd.R_mono (Kd.R_far (p := ⟨gb191, 2, none⟩) (Kd.R_far (p := ⟨gb191, 1, none⟩) (Kd.R_far (p := ⟨gb191, 0, none⟩) (Kd.R_types HO_213002.out BK191.out (by decide)) (fun _ hk => hk.2) (.slice Ao33 t203.length co33)) (fun _ hk => hk.2) (.slice Ao37 t206.length co37)) (fun _ hk => hk.2) (.slice Ao80 x213002_27.length co80)) (fun _ hk => ⟨hk.1.1, hk.1.2⟩)), Q6⟩
     subst c85
     rw [if_pos rfl] at H
     replace H := Option.bind_eq_some_iff.mp H
     obtain ⟨⟨t231, t234, t237⟩, A860, H⟩ := H
     replace H : (some (t231, t234, t237, false)) = some (r1, r2, r3, r4) := H
     have A86 := am A860
     clear A860
     simp only [Option.some.injEq, Prod.mk.injEq] at H
     obtain ⟨rfl, rfl, rfl, rfl⟩ := H
     have hnb87 := NB190_191.out
     have hnc87 := NB191_190.out
     have hnb88 := NB190_212.out
     have hnc88 := NB212_190.out
     obtain ⟨hcz89_0, hcz89_1, hcz89_2, hfz89_0, hfz89_1, hfz89_2⟩ := bc3f w81 BK190.out
     go_wp2_with (first | ((with_reducible refine gate_callee (f := 55) rfl ?_); refine goesL_ (some 64) rfl rfl Try.func55 kr rfl #[.agg #[.slice A0_0 l0_0.length c0_0, .slice A0_1 l0_1.length c0_1, .slice A0_2 l0_2.length c0_2]] rfl Q10 ?_; (with_reducible refine (spec_l06Copy.calls kj27 _ _ l0_0 _ _ l0_1 _ _ l0_2 t231 t234 t237 _ ?side1 ?side2 ?side3 ?side4 ?side5 ?side6 A86.out).mono ?_); (case side1 => exact Q0); (case side2 => exact HC0_0.out); (case side3 => exact Q7); (case side4 => exact HC0_1.out); (case side5 => exact Q2); (case side6 => exact HC0_2.out); rintro e w90 ⟨v232, v235, v238, rfl, ho0, ho1, ho2, hb⟩; refine ⟨_, rfl, ?_⟩; have HO233 := am (Kd.R_lower (Kd.R_new' (Kd.R_new' (Kd.R_new' ho0 (Kd.R_lt u5_4)) (Kd.R_lt u5_5)) (Kd.R_lt u5_7)) (below_size Q6)); have HO236 := am (Kd.R_lower (Kd.R_new' (Kd.R_new' (Kd.R_new' ho1 (Kd.R_lt u5_4)) (Kd.R_lt u5_5)) (Kd.R_lt u5_7)) (below_size Q6)); have HO239 := am (Kd.R_lower (Kd.R_new' (Kd.R_new' (Kd.R_new' ho2 (Kd.R_lt u5_4)) (Kd.R_lt u5_5)) (Kd.R_lt u5_7)) (below_size Q6)); replace HO_213000 := am (Kd.R_mono (Kd.R_told (Kd.R_told (Kd.R_told (Kd.R_old u5_4 hb) (Kd.R_base ho0)) (Kd.R_base ho1)) (Kd.R_base ho2)) (fun _ h_ => h_.1)); replace HO_213001 := am (Kd.R_mono (Kd.R_told (Kd.R_told (Kd.R_told (Kd.R_old u5_5 hb) (Kd.R_base ho0)) (Kd.R_base ho1)) (Kd.R_base ho2)) (fun _ h_ => h_.1)); replace HO_213002 := am (Kd.R_mono (Kd.R_told (Kd.R_told (Kd.R_told (Kd.R_old u5_7 hb) (Kd.R_base ho0)) (Kd.R_base ho1)) (Kd.R_base ho2)) (fun _ h_ => h_.1)); replace BK190 := am (bb_ BK190.out u5_2 hb); replace BK191 := am (bb_ BK191.out u5_3 hb); replace BK212 := am (bb_ BK212.out u5_11 hb); replace HB := am (below_step Q6 hb); (try clear hb); (try clear hb2); (try clear hk); (try clear hi); (try clear ho0); (try clear ho1); (try clear ho2); obtain ⟨Ao91, co91, eo91⟩ := Kd.R_slice HO233.out; subst eo91; have hnb92 := NB191_212.out; have hnc92 := NB212_191.out; obtain ⟨hcz93_0, hcz93_1, hcz93_2, hfz93_0, hfz93_1, hfz93_2⟩ := bc3f w90 BK191.out; obtain ⟨Ao94, co94, eo94⟩ := Kd.R_slice HO236.out; subst eo94; obtain ⟨Ao95, co95, eo95⟩ := Kd.R_slice HO239.out; subst eo95))
     refine bodyPost_ret (results_ct rfl _ _ gb191 26 #[.slice Ao91 t231.length co91, .slice Ao94 t234.length co94, .slice Ao95 t237.length co95] (0, 0) _ rfl (by (with_reducible repeat (first | apply b1_ | apply b2_ | apply b3_)); refine blk_put (cs := #[.slice Ao91 t231.length co91, .slice Ao94 t234.length co94, .slice none 0 0]) ?_ 2 _ rfl; (with_reducible repeat (first | apply b1_ | apply b2_ | apply b3_)); refine blk_put (cs := #[.slice Ao91 t231.length co91, .slice none 0 0, .slice none 0 0]) ?_ 1 _ rfl; (with_reducible repeat (first | apply b1_ | apply b2_ | apply b3_)); refine blk_put (cs := #[.slice none 0 0, .slice none 0 0, .slice none 0 0]) ?_ 0 _ rfl; (with_reducible repeat (first | apply b1_ | apply b2_ | apply b3_)); exact BK191.out) Try.underlying26 rfl kr) rfl ?_
     exact ⟨_, _, _, er, (by (with_reducible repeat (first | apply r1_ | apply r2_ | apply r3_)); exact Kd.R_mono (Kd.R_far (p := ⟨gb191, 2, none⟩) (Kd.R_far (p := ⟨gb191, 1, none⟩) (Kd.R_far (p := ⟨gb191, 0, none⟩) (Kd.R_types HO233.out BK191.out (by decide)) (fun _ hk => hk.2) (.slice Ao91 t231.length co91)) (fun _ hk => hk.2) (.slice Ao94 t234.length co94)) (fun _ hk => hk.2) (.slice Ao95 t237.length co95)) (fun _ hk => ⟨hk.1.1.1.1.1, hk.1.1.1.1.2⟩)), (by (with_reducible repeat (first | apply r1_ | apply r2_ | apply r3_)); exact Kd.R_mono (Kd.R_far (p := ⟨gb191, 2, none⟩) (Kd.R_far (p := ⟨gb191, 1, none⟩) (Kd.R_far (p := ⟨gb191, 0, none⟩) (Kd.R_types HO236.out BK191.out (by decide)) (fun _ hk => hk.2) (.slice Ao91 t231.length co91)) (fun _ hk => hk.2) (.slice Ao94 t234.length co94)) (fun _ hk => hk.2) (.slice Ao95 t237.length co95)) (fun _ hk => ⟨hk.1.1.1.1.1, hk.1.1.1.1.2⟩)), (by (with_reducible repeat (first | apply r1_ | apply r2_ | apply r3_)); exact Kd.R_mono (Kd.R_far (p := ⟨gb191, 2, none⟩) (Kd.R_far (p := ⟨gb191, 1, none⟩) (Kd.R_far (p := ⟨gb191, 0, none⟩) (Kd.R_types HO239.out BK191.out (by decide)) (fun _ hk => hk.2) (.slice Ao91 t231.length co91)) (fun _ hk => hk.2) (.slice Ao94 t234.length co94)) (fun _ hk => hk.2) (.slice Ao95 t237.length co95)) (fun _ hk => ⟨hk.1.1.1.1.1, hk.1.1.1.1.2⟩)), Q6⟩
end Go.Proofs.Ytoemdmjdpikfbaa.QFnExactPlayConf
