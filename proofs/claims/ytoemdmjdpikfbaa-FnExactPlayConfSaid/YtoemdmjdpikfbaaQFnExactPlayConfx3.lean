import Derived.Test.YtoemdmjdpikfbaaSqFnExactPlayConf
import Derived.Test.YtoemdmjdpikfbaaQFnExactPlayConfx0
import Derived.Test.YtoemdmjdpikfbaaQFnExactPlayConfx2
namespace Go.Proofs.Ytoemdmjdpikfbaa.QFnExactPlayConf
open Go.RowKit Go.Proofs.YtoemdmjdpikfbaaW.PrintWords Go.Proofs.YtoemdmjdpikfbaaW.PrintLast Go.Proofs.YtoemdmjdpikfbaaW.PrintMore Go.Proofs.Ytoemdmjdpikfbaa.SqFnExactPlayConf
attribute [local go_sem] max2_int min2_int max_two min_two max_three min_three max_four min_four Go.Proofs.Ytoemdmjdpikfbaa.Set.isSome_setCell
set_option linter.unusedVariables false
set_option linter.unusedSimpArgs false
theorem u3_3 {P : Prop} (h : P := by repeat (first | exact (Kd.C_below HR0_1.out Q6) | (with_reducible refine Kd.C_alloc ?_ _) | (with_reducible refine Kd.C_drewN ?_ _) | (with_reducible refine Kd.C_drew ?_))) : P := h
theorem u3_5 {P : Prop} (h : P := by (with_reducible repeat (first | apply b1_ | apply b2_ | apply b3_)); exact BK154.out) : P := h
theorem u3_6 {P : Prop} (h : P := by (with_reducible repeat (first | apply b1_ | apply b2_ | apply b3_)); exact BK170.out) : P := h
theorem u3_7 {P : Prop} (h : P := by repeat (first | exact (Kd.C_below HR0_2.out Q6) | (with_reducible refine Kd.C_alloc ?_ _) | (with_reducible refine Kd.C_drewN ?_ _) | (with_reducible refine Kd.C_drew ?_))) : P := h
theorem u3_10 {P : Prop} (h : P := by (with_reducible repeat (first | apply r1_ | apply r2_ | apply r3_)); exact HO174.out) : P := h
theorem u3_13 {P : Prop} (h : P := by (with_reducible repeat (first | apply b1_ | apply b2_ | apply b3_)); exact BK171.out) : P := h
theorem u3_14 {P : Prop} (h : P := by repeat (first | exact (Kd.C_below HR0_0.out Q6) | (with_reducible refine Kd.C_alloc ?_ _) | (with_reducible refine Kd.C_drewN ?_ _) | (with_reducible refine Kd.C_drew ?_))) : P := h
theorem u3_15 {P : Prop} (h : P := by (with_reducible repeat (first | apply r1_ | apply r2_ | apply r3_)); exact HO177.out) : P := h
mutual
def spec_ConfOk.j0 : Nat → Bool → List Int → List Int → List Int → Option (Bool)
 | 0, _, _, _, _ => none
 | k + 1, x26, x155000, x155001, x155002 => if x26 = true then (some false) else (spec_ConfOk.l0 k 0 x155000 x155001 x155002)
def spec_ConfOk.l0 : Nat → Int → List Int → List Int → List Int → Option (Bool)
 | 0, _, _, _, _ => none
 | k + 1, x3, x155000, x155001, x155002 => if x3 < (x155002.length : Int) then (if 0 ≤ x3 then ((spec_l01Has.f k x155000 (rd x155002 x3)).bind fun t160 => (if t160 = true then (some false) else ((spec_l01Has.f k x155001 (rd x155002 x3)).bind fun t162 => (if t162 = true then (some false) else (spec_ConfOk.l0 k (wrap64 (x3 + 1)) x155000 x155001 x155002))))) else (none)) else (some true)
end
def spec_ConfOk.f (k : Nat) (l0_0 : List Int) (l0_1 : List Int) (l0_2 : List Int) : Option (Bool) := (spec_l06Set.f k l0_0).bind fun t155 => (if t155 = true then ((spec_l06Ids.f k l0_1).bind fun t156 => (if t156 = true then ((spec_l06Ids.f k l0_2).bind fun t157 => (if t157 = true then ((spec_l06Same.f k l0_0 l0_1).bind fun t158 => (spec_ConfOk.j0 k t158 l0_0 l0_1 l0_2)) else (spec_ConfOk.j0 k true l0_0 l0_1 l0_2))) else (spec_ConfOk.j0 k true l0_0 l0_1 l0_2))) else (spec_ConfOk.j0 k true l0_0 l0_1 l0_2))
theorem spec_ConfOk.mono_l : ∀ k, (∀ y0 y1 y2 y3, LeO (spec_ConfOk.j0 k y0 y1 y2 y3) (spec_ConfOk.j0 (k + 1) y0 y1 y2 y3)) ∧ (∀ y0 y1 y2 y3, LeO (spec_ConfOk.l0 k y0 y1 y2 y3) (spec_ConfOk.l0 (k + 1) y0 y1 y2 y3))
 | 0 => ⟨fun _ _ _ _ r h => by simp [spec_ConfOk.j0] at h, fun _ _ _ _ r h => by simp [spec_ConfOk.l0] at h⟩
 | k + 1 => by
   obtain ⟨ih0, ih1⟩ := spec_ConfOk.mono_l k
   refine ⟨?_, ?_⟩ <;> intros <;> (first | unfold spec_ConfOk.j0 | unfold spec_ConfOk.l0) <;> repeat' first
   | (with_reducible exact ih0 _ _ _ _)
   | (with_reducible exact ih1 _ _ _ _)
   | (with_reducible exact spec_l01Has.mono _ _ _)
   | (with_reducible exact spec_l06Ids.mono _ _)
   | (with_reducible exact spec_l06Same.mono _ _ _)
   | (with_reducible exact spec_l06Set.mono _ _)
   | (with_reducible exact LeO.refl _)
   | (with_reducible exact LeO.none _)
   | (with_reducible refine LeO.ite ?_ ?_)
   | (with_reducible refine LeO.bind ?_ (fun _ => ?_))
   | exact ih0 _ _ _ _
   | exact ih1 _ _ _ _
   | exact spec_l01Has.mono _ _ _
   | exact spec_l06Ids.mono _ _
   | exact spec_l06Same.mono _ _ _
   | exact spec_l06Set.mono _ _
   | exact LeO.none _
   | refine LeO.ite ?_ ?_
   | refine LeO.bind ?_ (fun _ => ?_)
theorem spec_ConfOk.mono : ∀ a0 a1 a2 k, LeO (spec_ConfOk.f k a0 a1 a2) (spec_ConfOk.f (k + 1) a0 a1 a2) := by
 intro a0 a1 a2 k
 obtain ⟨ih0, ih1⟩ := spec_ConfOk.mono_l k
 unfold spec_ConfOk.f
 repeat' first
     | (with_reducible exact ih0 _ _ _ _)
     | (with_reducible exact ih1 _ _ _ _)
     | (with_reducible exact spec_l01Has.mono _ _ _)
     | (with_reducible exact spec_l06Ids.mono _ _)
     | (with_reducible exact spec_l06Same.mono _ _ _)
     | (with_reducible exact spec_l06Set.mono _ _)
     | (with_reducible exact LeO.refl _)
     | (with_reducible exact LeO.none _)
     | (with_reducible refine LeO.ite ?_ ?_)
     | (with_reducible refine LeO.bind ?_ (fun _ => ?_))
     | exact ih0 _ _ _ _
     | exact ih1 _ _ _ _
     | exact spec_l01Has.mono _ _ _
     | exact spec_l06Ids.mono _ _
     | exact spec_l06Same.mono _ _ _
     | exact spec_l06Set.mono _ _
     | exact LeO.none _
     | refine LeO.ite ?_ ?_
     | refine LeO.bind ?_ (fun _ => ?_)
set_option maxHeartbeats 8000000 in
set_option maxRecDepth 100000 in
theorem spec_ConfOk.calls (k : Nat) (A0_0 : Option Addr) (c0_0 : Nat) (l0_0 : List Int) (A0_1 : Option Addr) (c0_1 : Nat) (l0_1 : List Int) (A0_2 : Option Addr) (c0_2 : Nat) (l0_2 : List Int) (r : Bool) (w : World) (hr0_0 : Kd.C (Kd.int .i64) w A0_0 l0_0.length l0_0) (hc0_0 : l0_0.length ≤ c0_0) (hr0_1 : Kd.C (Kd.int .i64) w A0_1 l0_1.length l0_1) (hc0_1 : l0_1.length ≤ c0_1) (hr0_2 : Kd.C (Kd.int .i64) w A0_2 l0_2.length l0_2) (hc0_2 : l0_2.length ≤ c0_2) (h : spec_ConfOk.f k l0_0 l0_1 l0_2 = some r) :
   Calls Try.prog 53 #[.agg #[.slice A0_0 l0_0.length c0_0, .slice A0_1 l0_1.length c0_1, .slice A0_2 l0_2.length c0_2]] w fun e w' => e = .returned (.bool r) ∧ Below w.heap.size w w' := by
 have hu26 := Try.underlying26
 have HR0_0 := am hr0_0
 have HC0_0 := am hc0_0
 clear hr0_0 hc0_0
 have HR0_1 := am hr0_1
 have HC0_1 := am hc0_1
 clear hr0_1 hc0_1
 have HR0_2 := am hr0_2
 have HC0_2 := am hc0_2
 clear hr0_2 hc0_2
 have HB := am (Below.refl w.heap.size w)
 have H : ((spec_l06Set.f k l0_0).bind fun t155 => (if t155 = true then ((spec_l06Ids.f k l0_1).bind fun t156 => (if t156 = true then ((spec_l06Ids.f k l0_2).bind fun t157 => (if t157 = true then ((spec_l06Same.f k l0_0 l0_1).bind fun t158 => (spec_ConfOk.j0 k t158 l0_0 l0_1 l0_2)) else (spec_ConfOk.j0 k true l0_0 l0_1 l0_2))) else (spec_ConfOk.j0 k true l0_0 l0_1 l0_2))) else (spec_ConfOk.j0 k true l0_0 l0_1 l0_2))) = some r := h
 clear h
 have HC2 := am H
 clear H
 go_enter Try.func53, Try.ntmps53
 go_upto_region 1 with (first | ((with_reducible refine gate_dst (N := 1) rfl ?_); refine box_event ?hg (N := 1) ?hd (cs := #[.slice A0_0 l0_0.length c0_0, .slice A0_1 l0_1.length c0_1, .slice A0_2 l0_2.length c0_2]) (t := 26) ?hr ?_; (case hd => rfl); (case hg => rfl); (case hr => first | (go_simp; done) | (go_simp; rfl)); intro gb154 hg w3 hbox hb; have BK154 := am (hbox); have GW154 := am ((by rw [hg]; exact (below_size Q6) : w.heap.size ≤ gb154)); have GE154 := am ((by rw [hg]; exact (below_size Q6) : w.heap.size ≤ gb154)); replace HB := am (below_step Q6 hb); clear hb hbox hg))
 repeat (go_quiet (first | ((with_reducible refine gate_dst (N := 1) rfl ?_); refine box_event ?hg (N := 1) ?hd (cs := #[.slice A0_0 l0_0.length c0_0, .slice A0_1 l0_1.length c0_1, .slice A0_2 l0_2.length c0_2]) (t := 26) ?hr ?_; (case hd => rfl); (case hg => rfl); (case hr => first | (go_simp; done) | (go_simp; rfl)); intro gb154 hg w3 hbox hb; have BK154 := am (hbox); have GW154 := am ((by rw [hg]; exact (below_size Q6) : w.heap.size ≤ gb154)); have GE154 := am ((by rw [hg]; exact (below_size Q6) : w.heap.size ≤ gb154)); replace HB := am (below_step Q6 hb); clear hb hbox hg)); go_upto_region 1 with (first | ((with_reducible refine gate_dst (N := 1) rfl ?_); refine box_event ?hg (N := 1) ?hd (cs := #[.slice A0_0 l0_0.length c0_0, .slice A0_1 l0_1.length c0_1, .slice A0_2 l0_2.length c0_2]) (t := 26) ?hr ?_; (case hd => rfl); (case hg => rfl); (case hr => first | (go_simp; done) | (go_simp; rfl)); intro gb154 hg w3 hbox hb; have BK154 := am (hbox); have GW154 := am ((by rw [hg]; exact (below_size Q6) : w.heap.size ≤ gb154)); have GE154 := am ((by rw [hg]; exact (below_size Q6) : w.heap.size ≤ gb154)); replace HB := am (below_step Q6 hb); clear hb hbox hg)))
 (try simp only [Act.put, la, lb, lc])
 go_cut [26] (fun v26 wc => ∃ (kq : Nat) (x26_1 : Bool), v26 = .bool x26_1 ∧ Aside0 (spec_ConfOk.j0 kq x26_1 l0_0 l0_1 l0_2 = some r) ∧ Aside0 (kq ≤ k) ∧ Aside0 (wc.heap[gb154]? = some (.cells #[(.slice A0_0 l0_0.length c0_0), (.slice A0_1 l0_1.length c0_1), (.slice A0_2 l0_2.length c0_2)] 26 (0, 0))) ∧ Aside0 (Below w.heap.size w wc))
 case first =>
   have H := HC2.out
   clear HC2
   replace H := Option.bind_eq_some_iff.mp H
   obtain ⟨t155, A40, H⟩ := H
   have A4 := am A40
   clear A40
   by_cases c5 : t155 = true
   rotate_left
   · replace c5 := Bool.eq_false_iff.mpr c5
     subst c5
     rw [nf] at H
     have H' := am H
     clear H
     obtain ⟨hcz14_0, hcz14_1, hcz14_2, hfz14_0, hfz14_1, hfz14_2⟩ := bc3f w3 BK154.out
     go_wp2_with (first | (first | (go_at_call 81; (with_reducible refine (spec_l06Set.calls k _ _ l0_0 false _ ?side1 ?side2 A4.out).mono ?_); (case side1 => exact Q0); (case side2 => exact HC0_0.out); rintro e w' ⟨rfl, ⟨nd, rfl⟩⟩; (try first | exact ⟨rfl, _, World.drewN_drewN _ _ _⟩ | exact ⟨rfl, _, Eq.trans (World.drewN_drewN _ _ _) (congrArg (World.drewN _) (Nat.add_assoc _ _ _))⟩))) | go_quiet (first | (go_at_call 81; (with_reducible refine (spec_l06Set.calls k _ _ l0_0 false _ ?side1 ?side2 A4.out).mono ?_); (case side1 => exact Q0); (case side2 => exact HC0_0.out); rintro e w' ⟨rfl, ⟨nd, rfl⟩⟩; (try first | exact ⟨rfl, _, World.drewN_drewN _ _ _⟩ | exact ⟨rfl, _, Eq.trans (World.drewN_drewN _ _ _) (congrArg (World.drewN _) (Nat.add_assoc _ _ _))⟩))))
     go_meet
     case rel => exact ⟨_, (true), Q9, H', ⟨by first | omega | exact Nat.le_refl _⟩, ⟨u3_5⟩, ⟨Q6⟩⟩
   subst c5
   rw [if_pos rfl] at H
   replace H := Option.bind_eq_some_iff.mp H
   obtain ⟨t156, A60, H⟩ := H
   have A6 := am A60
   clear A60
   by_cases c7 : t156 = true
   rotate_left
   · replace c7 := Bool.eq_false_iff.mpr c7
     subst c7
     rw [nf] at H
     have H' := am H
     clear H
     obtain ⟨hcz13_0, hcz13_1, hcz13_2, hfz13_0, hfz13_1, hfz13_2⟩ := bc3f w3 BK154.out
     go_wp2_with (first | (first | (go_at_call 81; (with_reducible refine (spec_l06Set.calls k _ _ l0_0 true _ ?side1 ?side2 A4.out).mono ?_); (case side1 => exact Q0); (case side2 => exact HC0_0.out); rintro e w' ⟨rfl, ⟨nd, rfl⟩⟩; (try first | exact ⟨rfl, _, World.drewN_drewN _ _ _⟩ | exact ⟨rfl, _, Eq.trans (World.drewN_drewN _ _ _) (congrArg (World.drewN _) (Nat.add_assoc _ _ _))⟩)) | (go_at_call 82; (with_reducible refine (spec_l06Ids.calls k _ _ l0_1 false _ ?side1 ?side2 A6.out).mono ?_); (case side1 => exact u3_3); (case side2 => exact HC0_1.out); rintro e w' ⟨rfl, ⟨nd, rfl⟩⟩; (try first | exact ⟨rfl, _, World.drewN_drewN _ _ _⟩ | exact ⟨rfl, _, Eq.trans (World.drewN_drewN _ _ _) (congrArg (World.drewN _) (Nat.add_assoc _ _ _))⟩))) | go_quiet (first | (go_at_call 81; (with_reducible refine (spec_l06Set.calls k _ _ l0_0 true _ ?side1 ?side2 A4.out).mono ?_); (case side1 => exact Q0); (case side2 => exact HC0_0.out); rintro e w' ⟨rfl, ⟨nd, rfl⟩⟩; (try first | exact ⟨rfl, _, World.drewN_drewN _ _ _⟩ | exact ⟨rfl, _, Eq.trans (World.drewN_drewN _ _ _) (congrArg (World.drewN _) (Nat.add_assoc _ _ _))⟩)) | (go_at_call 82; (with_reducible refine (spec_l06Ids.calls k _ _ l0_1 false _ ?side1 ?side2 A6.out).mono ?_); (case side1 => exact u3_3); (case side2 => exact HC0_1.out); rintro e w' ⟨rfl, ⟨nd, rfl⟩⟩; (try first | exact ⟨rfl, _, World.drewN_drewN _ _ _⟩ | exact ⟨rfl, _, Eq.trans (World.drewN_drewN _ _ _) (congrArg (World.drewN _) (Nat.add_assoc _ _ _))⟩))))
     go_meet
     case rel => exact ⟨_, (true), Q9, H', ⟨by first | omega | exact Nat.le_refl _⟩, ⟨u3_5⟩, ⟨Q6⟩⟩
   subst c7
   rw [if_pos rfl] at H
   replace H := Option.bind_eq_some_iff.mp H
   obtain ⟨t157, A80, H⟩ := H
   have A8 := am A80
   clear A80
   by_cases c9 : t157 = true
   rotate_left
   · replace c9 := Bool.eq_false_iff.mpr c9
     subst c9
     rw [nf] at H
     have H' := am H
     clear H
     obtain ⟨hcz12_0, hcz12_1, hcz12_2, hfz12_0, hfz12_1, hfz12_2⟩ := bc3f w3 BK154.out
     go_wp2_with (first | (first | (go_at_call 81; (with_reducible refine (spec_l06Set.calls k _ _ l0_0 true _ ?side1 ?side2 A4.out).mono ?_); (case side1 => exact Q0); (case side2 => exact HC0_0.out); rintro e w' ⟨rfl, ⟨nd, rfl⟩⟩; (try first | exact ⟨rfl, _, World.drewN_drewN _ _ _⟩ | exact ⟨rfl, _, Eq.trans (World.drewN_drewN _ _ _) (congrArg (World.drewN _) (Nat.add_assoc _ _ _))⟩)) | (go_at_call 82; (with_reducible refine (spec_l06Ids.calls k _ _ l0_1 true _ ?side1 ?side2 A6.out).mono ?_); (case side1 => exact u3_3); (case side2 => exact HC0_1.out); rintro e w' ⟨rfl, ⟨nd, rfl⟩⟩; (try first | exact ⟨rfl, _, World.drewN_drewN _ _ _⟩ | exact ⟨rfl, _, Eq.trans (World.drewN_drewN _ _ _) (congrArg (World.drewN _) (Nat.add_assoc _ _ _))⟩)) | (go_at_call 82; (with_reducible refine (spec_l06Ids.calls k _ _ l0_2 false _ ?side1 ?side2 A8.out).mono ?_); (case side1 => exact u3_7); (case side2 => exact HC0_2.out); rintro e w' ⟨rfl, ⟨nd, rfl⟩⟩; (try first | exact ⟨rfl, _, World.drewN_drewN _ _ _⟩ | exact ⟨rfl, _, Eq.trans (World.drewN_drewN _ _ _) (congrArg (World.drewN _) (Nat.add_assoc _ _ _))⟩))) | go_quiet (first | (go_at_call 81; (with_reducible refine (spec_l06Set.calls k _ _ l0_0 true _ ?side1 ?side2 A4.out).mono ?_); (case side1 => exact Q0); (case side2 => exact HC0_0.out); rintro e w' ⟨rfl, ⟨nd, rfl⟩⟩; (try first | exact ⟨rfl, _, World.drewN_drewN _ _ _⟩ | exact ⟨rfl, _, Eq.trans (World.drewN_drewN _ _ _) (congrArg (World.drewN _) (Nat.add_assoc _ _ _))⟩)) | (go_at_call 82; (with_reducible refine (spec_l06Ids.calls k _ _ l0_1 true _ ?side1 ?side2 A6.out).mono ?_); (case side1 => exact u3_3); (case side2 => exact HC0_1.out); rintro e w' ⟨rfl, ⟨nd, rfl⟩⟩; (try first | exact ⟨rfl, _, World.drewN_drewN _ _ _⟩ | exact ⟨rfl, _, Eq.trans (World.drewN_drewN _ _ _) (congrArg (World.drewN _) (Nat.add_assoc _ _ _))⟩)) | (go_at_call 82; (with_reducible refine (spec_l06Ids.calls k _ _ l0_2 false _ ?side1 ?side2 A8.out).mono ?_); (case side1 => exact u3_7); (case side2 => exact HC0_2.out); rintro e w' ⟨rfl, ⟨nd, rfl⟩⟩; (try first | exact ⟨rfl, _, World.drewN_drewN _ _ _⟩ | exact ⟨rfl, _, Eq.trans (World.drewN_drewN _ _ _) (congrArg (World.drewN _) (Nat.add_assoc _ _ _))⟩))))
     go_meet
     case rel => exact ⟨_, (true), Q9, H', ⟨by first | omega | exact Nat.le_refl _⟩, ⟨u3_5⟩, ⟨Q6⟩⟩
   subst c9
   rw [if_pos rfl] at H
   replace H := Option.bind_eq_some_iff.mp H
   obtain ⟨t158, A100, H⟩ := H
   replace H : (spec_ConfOk.j0 k t158 l0_0 l0_1 l0_2) = some r := H
   have A10 := am A100
   clear A100
   have H' := am H
   clear H
   obtain ⟨hcz11_0, hcz11_1, hcz11_2, hfz11_0, hfz11_1, hfz11_2⟩ := bc3f w3 BK154.out
   go_wp2_with (first | (first | (go_at_call 81; (with_reducible refine (spec_l06Set.calls k _ _ l0_0 true _ ?side1 ?side2 A4.out).mono ?_); (case side1 => exact Q0); (case side2 => exact HC0_0.out); rintro e w' ⟨rfl, ⟨nd, rfl⟩⟩; (try first | exact ⟨rfl, _, World.drewN_drewN _ _ _⟩ | exact ⟨rfl, _, Eq.trans (World.drewN_drewN _ _ _) (congrArg (World.drewN _) (Nat.add_assoc _ _ _))⟩)) | (go_at_call 82; (with_reducible refine (spec_l06Ids.calls k _ _ l0_1 true _ ?side1 ?side2 A6.out).mono ?_); (case side1 => exact u3_3); (case side2 => exact HC0_1.out); rintro e w' ⟨rfl, ⟨nd, rfl⟩⟩; (try first | exact ⟨rfl, _, World.drewN_drewN _ _ _⟩ | exact ⟨rfl, _, Eq.trans (World.drewN_drewN _ _ _) (congrArg (World.drewN _) (Nat.add_assoc _ _ _))⟩)) | (go_at_call 82; (with_reducible refine (spec_l06Ids.calls k _ _ l0_2 true _ ?side1 ?side2 A8.out).mono ?_); (case side1 => exact u3_7); (case side2 => exact HC0_2.out); rintro e w' ⟨rfl, ⟨nd, rfl⟩⟩; (try first | exact ⟨rfl, _, World.drewN_drewN _ _ _⟩ | exact ⟨rfl, _, Eq.trans (World.drewN_drewN _ _ _) (congrArg (World.drewN _) (Nat.add_assoc _ _ _))⟩)) | (go_at_call 57; (with_reducible refine (spec_l06Same.calls k _ _ l0_0 _ _ l0_1 t158 _ ?side1 ?side2 ?side3 ?side4 A10.out).mono ?_); (case side1 => exact u3_14); (case side2 => exact HC0_0.out); (case side3 => exact u3_3); (case side4 => exact HC0_1.out); rintro e w' ⟨rfl, ⟨nd, rfl⟩⟩; (try first | exact ⟨rfl, _, World.drewN_drewN _ _ _⟩ | exact ⟨rfl, _, Eq.trans (World.drewN_drewN _ _ _) (congrArg (World.drewN _) (Nat.add_assoc _ _ _))⟩))) | go_quiet (first | (go_at_call 81; (with_reducible refine (spec_l06Set.calls k _ _ l0_0 true _ ?side1 ?side2 A4.out).mono ?_); (case side1 => exact Q0); (case side2 => exact HC0_0.out); rintro e w' ⟨rfl, ⟨nd, rfl⟩⟩; (try first | exact ⟨rfl, _, World.drewN_drewN _ _ _⟩ | exact ⟨rfl, _, Eq.trans (World.drewN_drewN _ _ _) (congrArg (World.drewN _) (Nat.add_assoc _ _ _))⟩)) | (go_at_call 82; (with_reducible refine (spec_l06Ids.calls k _ _ l0_1 true _ ?side1 ?side2 A6.out).mono ?_); (case side1 => exact u3_3); (case side2 => exact HC0_1.out); rintro e w' ⟨rfl, ⟨nd, rfl⟩⟩; (try first | exact ⟨rfl, _, World.drewN_drewN _ _ _⟩ | exact ⟨rfl, _, Eq.trans (World.drewN_drewN _ _ _) (congrArg (World.drewN _) (Nat.add_assoc _ _ _))⟩)) | (go_at_call 82; (with_reducible refine (spec_l06Ids.calls k _ _ l0_2 true _ ?side1 ?side2 A8.out).mono ?_); (case side1 => exact u3_7); (case side2 => exact HC0_2.out); rintro e w' ⟨rfl, ⟨nd, rfl⟩⟩; (try first | exact ⟨rfl, _, World.drewN_drewN _ _ _⟩ | exact ⟨rfl, _, Eq.trans (World.drewN_drewN _ _ _) (congrArg (World.drewN _) (Nat.add_assoc _ _ _))⟩)) | (go_at_call 57; (with_reducible refine (spec_l06Same.calls k _ _ l0_0 _ _ l0_1 t158 _ ?side1 ?side2 ?side3 ?side4 A10.out).mono ?_); (case side1 => exact u3_14); (case side2 => exact HC0_0.out); (case side3 => exact u3_3); (case side4 => exact HC0_1.out); rintro e w' ⟨rfl, ⟨nd, rfl⟩⟩; (try first | exact ⟨rfl, _, World.drewN_drewN _ _ _⟩ | exact ⟨rfl, _, Eq.trans (World.drewN_drewN _ _ _) (congrArg (World.drewN _) (Nat.add_assoc _ _ _))⟩))))
   go_meet
   case rel => exact ⟨_, (t158), Q9, H', ⟨by first | omega | exact Nat.le_refl _⟩, ⟨u3_5⟩, ⟨Q6⟩⟩
 clear HC2
 obtain ⟨kq, x26_1, rfl, HA, HJ1, BK154, HB⟩ := hcut
 cases kq with
 | zero => exact absurd HA.out (by simp [spec_ConfOk.j0])
 | succ kj1 =>
   have H := HA.out
   clear HA
   simp only [spec_ConfOk.j0] at H
   by_cases c15 : x26_1 = true
   · subst c15
     rw [if_pos rfl] at H
     obtain rfl := sj H
     go_wp2
     repeat (go_quiet (fail); try go_wp2)
     go_ret
     exact ⟨er, Q6⟩
   replace c15 := Bool.eq_false_iff.mpr c15
   subst c15
   rw [nf] at H
   have H' := am H
   clear H
   go_wp2
   repeat (go_quiet (fail); try go_wp2)
   go_loopg [3] kj1 (fun kq v3 w' => ∃ (x3_2 : Int), v3 = .int .i64 x3_2 ∧ Aside0 (spec_ConfOk.l0 kq x3_2 l0_0 l0_1 l0_2 = some r) ∧ Aside0 (kq ≤ kj1) ∧ Aside0 (w'.heap[gb154]? = some (.cells #[(.slice A0_0 l0_0.length c0_0), (.slice A0_1 l0_1.length c0_1), (.slice A0_2 l0_2.length c0_2)] 26 (0, 0))) ∧ Aside0 (Below w.heap.size w w'))
   case atStart => exact ⟨(0), Q9, H', ⟨Nat.le_refl _⟩, ⟨u3_5⟩, ⟨Q6⟩⟩
   clear H'
   try clear c15
   obtain ⟨x3_2, rfl, HA, HK2, BK154, HB⟩ := hrel
   cases gk with
   | zero => exact absurd HA.out (by simp [spec_ConfOk.l0])
   | succ k2 =>
     have H := HA.out
     clear HA
     simp only [spec_ConfOk.l0] at H
     by_cases c16 : x3_2 < (l0_2.length : Int)
     rotate_left
     · rw [if_neg c16] at H
       have c16b0 : decide (x3_2 < (l0_2.length : Int)) = false := decide_eq_false c16
       clear c16
       obtain rfl := sj H
       obtain ⟨hcz24_0, hcz24_1, hcz24_2, hfz24_0, hfz24_1, hfz24_2⟩ := bc3f wr BK154.out
       go_wp2
       repeat (go_quiet (fail); try go_wp2)
       go_ret
       exact ⟨er, Q6⟩
     rw [if_pos c16] at H
     have c16b0 : decide (x3_2 < (l0_2.length : Int)) = true := decide_eq_true c16
     clear c16
     by_cases c17 : 0 ≤ x3_2
     rotate_left
     · rw [if_neg c17] at H
       exact absurd H (by simp)
     rw [if_pos c17] at H
     have c17b0 : decide (0 ≤ x3_2) = true := decide_eq_true c17
     clear c17
     replace H := Option.bind_eq_some_iff.mp H
     obtain ⟨t160, A180, H⟩ := H
     have A18 := am A180
     clear A180
     by_cases c19 : t160 = true
     · subst c19
       rw [if_pos rfl] at H
       obtain rfl := sj H
       obtain ⟨hcz20_0, hcz20_1, hcz20_2, hfz20_0, hfz20_1, hfz20_2⟩ := bc3f wr BK154.out
       have p159 : 0 ≤ (x3_2 : Int) := of_decide_eq_true Q5
       have q159 : x3_2 < (l0_2.length : Int) := of_decide_eq_true Q5
       obtain ⟨ad159, e159, hx159_0⟩ := Kd.at_int HR0_2.out x3_2 p159 q159
       cases e159
       replace hx159_0 := cm HB.out hx159_0
       replace p159 := eq_true p159
       replace q159 := eq_true q159
       go_wp2_with (first | (first | (go_at_call 54; (with_reducible refine (spec_l01Has.calls k2 _ _ l0_0 (rd l0_2 x3_2) true _ ?side1 ?side2 A18.out).mono ?_); (case side1 => exact Q0); (case side2 => exact HC0_0.out); rintro e w' ⟨rfl, ⟨nd, rfl⟩⟩; (try first | exact ⟨rfl, _, World.drewN_drewN _ _ _⟩ | exact ⟨rfl, _, Eq.trans (World.drewN_drewN _ _ _) (congrArg (World.drewN _) (Nat.add_assoc _ _ _))⟩))) | go_quiet (first | (go_at_call 54; (with_reducible refine (spec_l01Has.calls k2 _ _ l0_0 (rd l0_2 x3_2) true _ ?side1 ?side2 A18.out).mono ?_); (case side1 => exact Q0); (case side2 => exact HC0_0.out); rintro e w' ⟨rfl, ⟨nd, rfl⟩⟩; (try first | exact ⟨rfl, _, World.drewN_drewN _ _ _⟩ | exact ⟨rfl, _, Eq.trans (World.drewN_drewN _ _ _) (congrArg (World.drewN _) (Nat.add_assoc _ _ _))⟩))))
       go_ret
       exact ⟨er, Q6⟩
     replace c19 := Bool.eq_false_iff.mpr c19
     subst c19
     rw [nf] at H
     replace H := Option.bind_eq_some_iff.mp H
     obtain ⟨t162, A210, H⟩ := H
     replace H : (if t162 = true then (some false) else (spec_ConfOk.l0 k2 (wrap64 (x3_2 + 1)) l0_0 l0_1 l0_2)) = some r := H
     have A21 := am A210
     clear A210
     have H9 := am H
     clear H
     obtain ⟨hcz22_0, hcz22_1, hcz22_2, hfz22_0, hfz22_1, hfz22_2⟩ := bc3f wr BK154.out
     have p159 : 0 ≤ (x3_2 : Int) := of_decide_eq_true Q5
     have q159 : x3_2 < (l0_2.length : Int) := of_decide_eq_true Q5
     obtain ⟨ad159, e159, hx159_0⟩ := Kd.at_int HR0_2.out x3_2 p159 q159
     cases e159
     replace hx159_0 := cm HB.out hx159_0
     replace p159 := eq_true p159
     replace q159 := eq_true q159
     go_upto_if 51 with (first | (go_at_call 54; (with_reducible refine (spec_l01Has.calls k2 _ _ l0_0 (rd l0_2 x3_2) false _ ?side1 ?side2 A18.out).mono ?_); (case side1 => exact Q0); (case side2 => exact HC0_0.out); rintro e w' ⟨rfl, ⟨nd, rfl⟩⟩; (try first | exact ⟨rfl, _, World.drewN_drewN _ _ _⟩ | exact ⟨rfl, _, Eq.trans (World.drewN_drewN _ _ _) (congrArg (World.drewN _) (Nat.add_assoc _ _ _))⟩); have p161 : 0 ≤ (x3_2 : Int) := of_decide_eq_true Q5; have q161 : x3_2 < (l0_2.length : Int) := of_decide_eq_true Q5; obtain ⟨ad161, e161, hx161_0⟩ := Kd.at_int HR0_2.out x3_2 p161 q161; obtain rfl : ad159 = ad161 := (by injection e161); replace hx161_0 := cm HB.out hx161_0; replace p161 := eq_true p161; replace q161 := eq_true q161) | (go_at_call 54; (with_reducible refine (spec_l01Has.calls k2 _ _ l0_1 (rd l0_2 x3_2) t162 _ ?side1 ?side2 A21.out).mono ?_); (case side1 => exact u3_3); (case side2 => exact HC0_1.out); rintro e w' ⟨rfl, ⟨nd, rfl⟩⟩; (try first | exact ⟨rfl, _, World.drewN_drewN _ _ _⟩ | exact ⟨rfl, _, Eq.trans (World.drewN_drewN _ _ _) (congrArg (World.drewN _) (Nat.add_assoc _ _ _))⟩)))
     repeat (go_quiet (first | (go_at_call 54; (with_reducible refine (spec_l01Has.calls k2 _ _ l0_0 (rd l0_2 x3_2) false _ ?side1 ?side2 A18.out).mono ?_); (case side1 => exact Q0); (case side2 => exact HC0_0.out); rintro e w' ⟨rfl, ⟨nd, rfl⟩⟩; (try first | exact ⟨rfl, _, World.drewN_drewN _ _ _⟩ | exact ⟨rfl, _, Eq.trans (World.drewN_drewN _ _ _) (congrArg (World.drewN _) (Nat.add_assoc _ _ _))⟩); have p161 : 0 ≤ (x3_2 : Int) := of_decide_eq_true Q5; have q161 : x3_2 < (l0_2.length : Int) := of_decide_eq_true Q5; obtain ⟨ad161, e161, hx161_0⟩ := Kd.at_int HR0_2.out x3_2 p161 q161; obtain rfl : ad159 = ad161 := (by injection e161); replace hx161_0 := cm HB.out hx161_0; replace p161 := eq_true p161; replace q161 := eq_true q161) | (go_at_call 54; (with_reducible refine (spec_l01Has.calls k2 _ _ l0_1 (rd l0_2 x3_2) t162 _ ?side1 ?side2 A21.out).mono ?_); (case side1 => exact u3_3); (case side2 => exact HC0_1.out); rintro e w' ⟨rfl, ⟨nd, rfl⟩⟩; (try first | exact ⟨rfl, _, World.drewN_drewN _ _ _⟩ | exact ⟨rfl, _, Eq.trans (World.drewN_drewN _ _ _) (congrArg (World.drewN _) (Nat.add_assoc _ _ _))⟩))); go_upto_if 51 with (first | (go_at_call 54; (with_reducible refine (spec_l01Has.calls k2 _ _ l0_0 (rd l0_2 x3_2) false _ ?side1 ?side2 A18.out).mono ?_); (case side1 => exact Q0); (case side2 => exact HC0_0.out); rintro e w' ⟨rfl, ⟨nd, rfl⟩⟩; (try first | exact ⟨rfl, _, World.drewN_drewN _ _ _⟩ | exact ⟨rfl, _, Eq.trans (World.drewN_drewN _ _ _) (congrArg (World.drewN _) (Nat.add_assoc _ _ _))⟩); have p161 : 0 ≤ (x3_2 : Int) := of_decide_eq_true Q5; have q161 : x3_2 < (l0_2.length : Int) := of_decide_eq_true Q5; obtain ⟨ad161, e161, hx161_0⟩ := Kd.at_int HR0_2.out x3_2 p161 q161; obtain rfl : ad159 = ad161 := (by injection e161); replace hx161_0 := cm HB.out hx161_0; replace p161 := eq_true p161; replace q161 := eq_true q161) | (go_at_call 54; (with_reducible refine (spec_l01Has.calls k2 _ _ l0_1 (rd l0_2 x3_2) t162 _ ?side1 ?side2 A21.out).mono ?_); (case side1 => exact u3_3); (case side2 => exact HC0_1.out); rintro e w' ⟨rfl, ⟨nd, rfl⟩⟩; (try first | exact ⟨rfl, _, World.drewN_drewN _ _ _⟩ | exact ⟨rfl, _, Eq.trans (World.drewN_drewN _ _ _) (congrArg (World.drewN _) (Nat.add_assoc _ _ _))⟩))))
     have H := H9.out
     clear H9
     by_cases c23 : t162 = true
     · subst c23
       rw [if_pos rfl] at H
       obtain rfl := sj H
       go_wp2
       repeat (go_quiet (fail); try go_wp2)
       go_ret
       exact ⟨er, Q6⟩
     replace c23 := Bool.eq_false_iff.mpr c23
     subst c23
     rw [nf] at H
     have H' := am H
     clear H
     go_wp2
     repeat (go_quiet (fail); try go_wp2)
     go_roundg k2
     case measure => have := HJ1.out; have := HK2.out; omega
     case rel => exact ⟨(wrap64 (x3_2 + 1)), Q9, H', ⟨(by have := HJ1.out; have := HK2.out; omega)⟩, ⟨u3_5⟩, ⟨Q6⟩⟩
def spec_l01Copy.l0 : Nat → List Int → List Int → Int → Option (List Int)
 | 0, _, _, _ => none
 | k + 1, x0, x3, x4 => if x4 < (x0.length : Int) then (if 0 ≤ x4 then (if x3.length < 17592186044416 then (spec_l01Copy.l0 k x0 (x3 ++ [rd x0 x4]) (wrap64 (x4 + 1))) else (none)) else (none)) else (some x3)
def spec_l01Copy.f (k : Nat) (l0 : List Int) : Option (List Int) := spec_l01Copy.l0 k l0 (([] : List Int)) 0
theorem spec_l01Copy.mono_l : ∀ k, (∀ y0 y1 y2, LeO (spec_l01Copy.l0 k y0 y1 y2) (spec_l01Copy.l0 (k + 1) y0 y1 y2))
 | 0 => fun _ _ _ r h => by simp [spec_l01Copy.l0] at h
 | k + 1 => by
   have ih0 := spec_l01Copy.mono_l k
   · intro y0 y1 y2
     unfold spec_l01Copy.l0
     repeat' first
     | (with_reducible exact ih0 _ _ _)
     | (with_reducible exact LeO.refl _)
     | (with_reducible exact LeO.none _)
     | (with_reducible refine LeO.ite ?_ ?_)
     | (with_reducible refine LeO.bind ?_ (fun _ => ?_))
     | exact ih0 _ _ _
     | exact LeO.none _
     | refine LeO.ite ?_ ?_
     | refine LeO.bind ?_ (fun _ => ?_)
theorem spec_l01Copy.mono : ∀ a0 k, LeO (spec_l01Copy.f k a0) (spec_l01Copy.f (k + 1) a0) := by
 intro a0 k
 have ih0 := spec_l01Copy.mono_l k
 unfold spec_l01Copy.f
 repeat' first
     | (with_reducible exact ih0 _ _ _)
     | (with_reducible exact LeO.refl _)
     | (with_reducible exact LeO.none _)
     | (with_reducible refine LeO.ite ?_ ?_)
     | (with_reducible refine LeO.bind ?_ (fun _ => ?_))
     | exact ih0 _ _ _
     | exact LeO.none _
     | refine LeO.ite ?_ ?_
     | refine LeO.bind ?_ (fun _ => ?_)
set_option maxHeartbeats 8000000 in
set_option maxRecDepth 100000 in
theorem spec_l01Copy.calls (k : Nat) (A0 : Option Addr) (c0 : Nat) (l0 : List Int) (r : List Int) (w : World) (hr0 : Kd.C (Kd.int .i64) w A0 l0.length l0) (hc0 : l0.length ≤ c0) (h : spec_l01Copy.f k l0 = some r) :
   Calls Try.prog 83 #[.slice A0 l0.length c0] w fun e w' => ∃ v0_ : Value, e = .returned (v0_) ∧ Kd.R (Kd.int .i64) 3 w' w.heap.size (fun _ => True) v0_ r ∧ Below w.heap.size w w' := by
 have HR0 := am hr0
 have HC0 := am hc0
 clear hr0 hc0
 have HB := am (Below.refl w.heap.size w)
 have H : (spec_l01Copy.l0 k l0 (([] : List Int)) 0) = some r := h
 clear h
 obtain ⟨y163, hy163⟩ : ∃ y_ : List Int, y_ = (([] : List Int)) := ⟨_, rfl⟩
 replace H : (spec_l01Copy.l0 k l0 y163 0) = some r := by first | (rw [hy163]; with_reducible exact H) | (have H2_ := (Option.bind_some _ _).symm.trans H; rw [hy163]; with_reducible exact H2_) | (have H2_ := (Option.bind_some _ _).symm.trans H; with_reducible exact H2_) | with_reducible exact H | (rw [hy163]; exact H) | exact H
 have Ny163 := am hy163
 clear hy163
 have H' := am H
 clear H
 go_enter Try.func83, Try.ntmps83
 go_wp2_with (first | ((with_reducible refine gate_dst (N := 5) rfl ?_); refine Kd.R_lit (Kd.int .i64) _ 3 ?hg (N := 5) ?hd (xs := ([] : List Int)) (inner := []) (ok := fun _ => True) (okp := fun _ => True) ?hr ?hp (fun _ hk => hk) trivial (Below.refl _ _) (Nat.le_refl _) (by simp) ?_; (case hd => rfl); (case hg => rfl); (case hr => first | (go_simp; done) | (go_simp; rfl)); (case hp => exact (Reps.none _ _)); intro v164 w2 ho3 hb hg_ hnew_; clear hg_ hnew_; (first | rw [← Ny163.out] at ho3 | (simp only [Int.reduceToNat] at ho3; rw [← Ny163.out] at ho3)); have HO165 := am (Kd.R_lower ho3 (below_size Q6)); replace HB := am (below_step Q6 hb); clear hb ho3))
 go_loopg [3, 4] k (fun kq v3 v4 w' => ∃ (x3_1 : List Int) (x4_1 : Int), v4 = .int .i64 x4_1 ∧ Aside0 (spec_l01Copy.l0 kq l0 x3_1 x4_1 = some r) ∧ Aside0 (kq ≤ k) ∧ Aside0 (Kd.R (Kd.int .i64) 3 w' w.heap.size (fun _ => True) v3 x3_1) ∧ Aside0 (Below w.heap.size w w'))
 case atStart => exact ⟨(y163), (0), Q9, H', ⟨Nat.le_refl _⟩, ⟨(by (with_reducible repeat (first | apply r1_ | apply r2_ | apply r3_)); exact HO165.out)⟩, ⟨Q6⟩⟩
 clear H'
 obtain ⟨x3_1, x4_1, rfl, HA, HK1, HO_3, HB⟩ := hrel
 cases gk with
 | zero => exact absurd HA.out (by simp [spec_l01Copy.l0])
 | succ k1 =>
   have H := HA.out
   clear HA
   simp only [spec_l01Copy.l0] at H
   by_cases c4 : x4_1 < (l0.length : Int)
   rotate_left
   · rw [if_neg c4] at H
     have c4b0 : decide (x4_1 < (l0.length : Int)) = false := decide_eq_false c4
     clear c4
     obtain rfl := sj H
     go_wp2
     go_ret
     exact ⟨_, er, Q8, Q6⟩
   rw [if_pos c4] at H
   have c4b0 : decide (x4_1 < (l0.length : Int)) = true := decide_eq_true c4
   clear c4
   by_cases c5 : 0 ≤ x4_1
   rotate_left
   · rw [if_neg c5] at H
     exact absurd H (by simp)
   rw [if_pos c5] at H
   have c5b0 : decide (0 ≤ x4_1) = true := decide_eq_true c5
   clear c5
   by_cases c6 : x3_1.length < 17592186044416
   rotate_left
   · rw [if_neg c6] at H
     exact absurd H (by simp)
   rw [if_pos c6] at H
   have LMc6 := am c6
   clear c6
   obtain ⟨y167, hy167⟩ : ∃ y_ : List Int, y_ = (x3_1 ++ [rd l0 x4_1]) := ⟨_, rfl⟩
   replace H : (spec_l01Copy.l0 k1 l0 y167 (wrap64 (x4_1 + 1))) = some r := by first | (rw [hy167]; with_reducible exact H) | (have H2_ := (Option.bind_some _ _).symm.trans H; rw [hy167]; with_reducible exact H2_) | (have H2_ := (Option.bind_some _ _).symm.trans H; with_reducible exact H2_) | with_reducible exact H | (rw [hy167]; exact H) | exact H
   have Ny167 := am hy167
   clear hy167
   have H' := am H
   clear H
   have p166 : 0 ≤ (x4_1 : Int) := of_decide_eq_true Q5
   have q166 : x4_1 < (l0.length : Int) := of_decide_eq_true Q5
   obtain ⟨ad166, e166, hx166_0⟩ := Kd.at_int HR0.out x4_1 p166 q166
   cases e166
   replace hx166_0 := cm HB.out hx166_0
   replace p166 := eq_true p166
   replace q166 := eq_true q166
   go_wp2_with (first | ((with_reducible refine gate_builtin (b := .append) (xs := #[.tmp 12, .tmp 17]) rfl ?_); at_builtin; refine Kd.R_append (Kd.int .i64) (w0 := w) w.heap.size rfl (.tmp 12) (.tmp 17) 24 3 (.int .i64 0) 8 rfl Try.underlying24 info3 rfl (by decide) (by omega) u3 x3_1 (rd l0 x4_1) [.int .i64 (rd l0 x4_1)] (fun _ => True) (fun _ => False) rfl rfl ?aP (fun _ hk => hk.elim) ?aF ?aO ?aB ?aS ?aL ?_; (case aP => exact rfl); (case aB => exact Q6); (case aF => exact (fun _ _ => trivial)); (case aO => exact Q8); (case aS => exact (below_size Q6)); (case aL => have := LMc6.out; omega); intro v168 w7 ho hb hg hat; rw [← Ny167.out] at ho; replace HB := am (hb); have HO169 := am (ho); clear HO_3; clear ho hb hg hat))
   go_roundg k1
   case measure => have := HK1.out; omega
   case rel => exact ⟨(y167), (wrap64 (x4_1 + 1)), Q9, H', ⟨by have := HK1.out; omega⟩, ⟨(by (with_reducible repeat (first | apply r1_ | apply r2_ | apply r3_)); exact HO169.out)⟩, ⟨Q6⟩⟩
def spec_l06Copy.f (k : Nat) (l0_0 : List Int) (l0_1 : List Int) (l0_2 : List Int) : Option (List Int × List Int × List Int) := (spec_l01Copy.f k l0_0).bind fun t172 => ((spec_l01Copy.f k l0_1).bind fun t175 => ((spec_l01Copy.f k l0_2).bind fun t178 => (some (t172, t175, t178))))
theorem spec_l06Copy.mono : ∀ a0 a1 a2 k, LeO (spec_l06Copy.f k a0 a1 a2) (spec_l06Copy.f (k + 1) a0 a1 a2) := by
 intro a0 a1 a2 k
 unfold spec_l06Copy.f
 repeat' first
     | (with_reducible exact spec_l01Copy.mono _ _)
     | (with_reducible exact LeO.refl _)
     | (with_reducible exact LeO.none _)
     | (with_reducible refine LeO.ite ?_ ?_)
     | (with_reducible refine LeO.bind ?_ (fun _ => ?_))
     | exact spec_l01Copy.mono _ _
     | exact LeO.none _
     | refine LeO.ite ?_ ?_
     | refine LeO.bind ?_ (fun _ => ?_)
def spec_l06Copy.T1 : Bool × List (List Nat × List Nat) := (true, [([], []), ([0], [0]), ([1], [1]), ([], []), ([3], [3]), ([4, 2], [4]), ([], []), ([6], [6]), ([7, 5], [7]), ([2, 5, 8], [2, 5, 8]), ([9, 8, 0, 1, 2, 3, 4, 5, 6, 7, 8, 9], [9])])
def spec_l06Copy.B1 : List Nat := [0, 1, 3, 0, 8, 31, 0, 64, 255, 511, 1023]
theorem spec_l06Copy.tab1 : rtab .any (opsOf Try.f55 1) = spec_l06Copy.T1 := by kernel_rfl
theorem spec_l06Copy.bits1 : waitsOk spec_l06Copy.T1.2 spec_l06Copy.B1 = true := by kernel_rfl
set_option maxHeartbeats 8000000 in
set_option maxRecDepth 100000 in
theorem spec_l06Copy.calls (k : Nat) (A0_0 : Option Addr) (c0_0 : Nat) (l0_0 : List Int) (A0_1 : Option Addr) (c0_1 : Nat) (l0_1 : List Int) (A0_2 : Option Addr) (c0_2 : Nat) (l0_2 : List Int) (r1 : List Int) (r2 : List Int) (r3 : List Int) (w : World) (hr0_0 : Kd.C (Kd.int .i64) w A0_0 l0_0.length l0_0) (hc0_0 : l0_0.length ≤ c0_0) (hr0_1 : Kd.C (Kd.int .i64) w A0_1 l0_1.length l0_1) (hc0_1 : l0_1.length ≤ c0_1) (hr0_2 : Kd.C (Kd.int .i64) w A0_2 l0_2.length l0_2) (hc0_2 : l0_2.length ≤ c0_2) (h : spec_l06Copy.f k l0_0 l0_1 l0_2 = some (r1, r2, r3)) :
   Calls Try.prog 55 #[.agg #[.slice A0_0 l0_0.length c0_0, .slice A0_1 l0_1.length c0_1, .slice A0_2 l0_2.length c0_2]] w fun e w' => ∃ v0_ v1_ v2_ : Value, e = .returned (.agg #[v0_, v1_, v2_]) ∧ Kd.R (Kd.int .i64) 3 w' w.heap.size (fun k_ => some k_ ≠ (v1_ : Value).ownBlock ∧ some k_ ≠ (v2_ : Value).ownBlock) v0_ r1 ∧ Kd.R (Kd.int .i64) 3 w' w.heap.size (fun k_ => some k_ ≠ (v0_ : Value).ownBlock ∧ some k_ ≠ (v2_ : Value).ownBlock) v1_ r2 ∧ Kd.R (Kd.int .i64) 3 w' w.heap.size (fun k_ => some k_ ≠ (v0_ : Value).ownBlock ∧ some k_ ≠ (v1_ : Value).ownBlock) v2_ r3 ∧ Below w.heap.size w w' := by
 have hu26 := Try.underlying26
 have HR0_0 := am hr0_0
 have HC0_0 := am hc0_0
 clear hr0_0 hc0_0
 have HR0_1 := am hr0_1
 have HC0_1 := am hc0_1
 clear hr0_1 hc0_1
 have HR0_2 := am hr0_2
 have HC0_2 := am hc0_2
 clear hr0_2 hc0_2
 have HB := am (Below.refl w.heap.size w)
 have H : ((spec_l01Copy.f k l0_0).bind fun t172 => ((spec_l01Copy.f k l0_1).bind fun t175 => ((spec_l01Copy.f k l0_2).bind fun t178 => (some (t172, t175, t178))))) = some (r1, r2, r3) := h
 clear h
 replace H := Option.bind_eq_some_iff.mp H
 obtain ⟨t172, A20, H⟩ := H
 have A2 := am A20
 clear A20
 replace H := Option.bind_eq_some_iff.mp H
 obtain ⟨t175, A30, H⟩ := H
 replace H : ((spec_l01Copy.f k l0_2).bind fun t178 => (some (t172, t175, t178))) = some (r1, r2, r3) := H
 have A3 := am A30
 clear A30
 replace H := Option.bind_eq_some_iff.mp H
 obtain ⟨t178, A40, H⟩ := H
 replace H : (some (t172, t175, t178)) = some (r1, r2, r3) := H
 have A4 := am A40
 clear A40
 simp only [Option.some.injEq, Prod.mk.injEq] at H
 obtain ⟨rfl, rfl, rfl⟩ := H
 go_enter Try.func55, Try.ntmps55
 try go_wp2_with (first | ((with_reducible refine gate_dst (N := 1) rfl ?_); refine box_event ?hg (N := 1) ?hd (cs := #[.slice A0_0 l0_0.length c0_0, .slice A0_1 l0_1.length c0_1, .slice A0_2 l0_2.length c0_2]) (t := 26) ?hr ?_; (case hd => rfl); (case hg => rfl); (case hr => first | (go_simp; done) | (go_simp; rfl)); intro gb170 hg w5 hbox hb; have BK170 := am (hbox); have GW170 := am ((by rw [hg]; exact (below_size Q6) : w.heap.size ≤ gb170)); have GE170 := am ((by rw [hg]; exact (below_size Q6) : w.heap.size ≤ gb170)); replace HB := am (below_step Q6 hb); clear hb hbox hg) | ((with_reducible refine gate_dst (N := 2) rfl ?_); refine box_event ?hg (N := 2) ?hd (cs := #[.slice none 0 0, .slice none 0 0, .slice none 0 0]) (t := 26) ?hr ?_; (case hd => rfl); (case hg => rfl); (case hr => first | (go_simp; done) | (go_simp; rfl)); intro gb171 hg w6 hbox hb; have BK171 := am (hbox); have GW171 := am ((by rw [hg]; exact (below_size Q6) : w.heap.size ≤ gb171)); have GE171 := am ((by rw [hg]; exact (below_size Q6) : w.heap.size ≤ gb171)); replace HB := am (below_step Q6 hb); have NB170_171 := am ((by rw [hg]; exact Nat.ne_of_lt (blk_lt (g := gb170) (o := .cells #[.slice A0_0 l0_0.length c0_0, .slice A0_1 l0_1.length c0_1, .slice A0_2 l0_2.length c0_2] 26 (0, 0)) u3_6) : gb170 ≠ gb171)); have NB171_170 := am ((by rw [hg]; exact Nat.ne_of_gt (blk_lt (g := gb170) (o := .cells #[.slice A0_0 l0_0.length c0_0, .slice A0_1 l0_1.length c0_1, .slice A0_2 l0_2.length c0_2] 26 (0, 0)) u3_6) : gb171 ≠ gb170)); replace BK170 := am (bb_ BK170.out u3_6 hb); clear hb hbox hg))
 replace BK170 := am (blk_drew BK170.out)
 replace BK171 := am (blk_drew BK171.out)
 replace HB := am (below_drew1 HB.out)
 refine start_ (n := 11) (S := fun w' => w'.cell? ⟨gb170, 0, none⟩ = some (.slice A0_0 l0_0.length c0_0) ∧ w'.cell? ⟨gb170, 1, none⟩ = some (.slice A0_1 l0_1.length c0_1) ∧ w'.cell? ⟨gb170, 2, none⟩ = some (.slice A0_2 l0_2.length c0_2)) (ds := []) #[false, false, false, false, false, false, false, false, false, false, false] kr rfl rfl ⟨(blk_cell BK170.out 0).trans rfl, (blk_cell BK170.out 1).trans rfl, (blk_cell BK170.out 2).trans rfl⟩ (fun hHeld => ?_); refine with_tabW spec_l06Copy.tab1 spec_l06Copy.bits1 (fun HT_ HW_ => ?_)
 generalize w6.drew = w7 at BK170 BK171 HB hHeld ⊢
 refine pV 0 3 (bt 1 11) ?_
 refine pV 3 6 #[true, false, false, true, false, false, false, false, false, false, false] ?_
 refine pV 6 9 #[true, false, false, true, false, false, true, false, false, false, false] ?_
 refine tV 1 4 #[true, true, false, true, false, false, true, false, false, false, false] ?_
 refine tV 4 7 #[true, true, false, true, true, false, true, false, false, false, false] ?_
 refine tV 7 10 #[true, true, false, true, true, false, true, true, false, false, false] ?_
 refine one_ (i := 2) (N := some 5) #[true, true, true, true, true, false, true, true, false, false, false] rfl rfl (one_of HT_.out kr) (by decide) (fun K hK => ?_)
 refine goes_ Try.func83 kr rfl #[.slice A0_0 l0_0.length c0_0] (by rfl) rfl rfl Q10 ?_
 with_reducible refine (spec_l01Copy.calls k _ _ l0_0 t172 _ ?side1 ?side2 A2.out).mono ?_
 (case side1 => exact Q0)
 (case side2 => exact HC0_0.out)
 rintro e w8 ⟨v173, rfl, ho0, hb⟩
 refine ⟨_, rfl, ?_⟩
 have HO174 := am (Kd.R_lower ho0 (below_size Q6))
 replace BK170 := am (bb_ BK170.out u3_6 hb)
 replace BK171 := am (bb_ BK171.out u3_13 hb)
 replace HB := am (below_step Q6 hb)
 (try clear hb)
 (try clear hb2)
 (try clear hk)
 (try clear hi)
 (try clear ho0)
 refine hK.out _ _ ⟨(blk_cell BK170.out 0).trans rfl, (blk_cell BK170.out 1).trans rfl, (blk_cell BK170.out 2).trans rfl⟩ (fun hHeld => ?_)
 clear hK K
 refine norm_ (a' := ?_) ?_ ?_
 rotate_left
 · show Act.put _ (some 5) _ = _
   simp only [Act.put, la, lb, lc, i64_w, i32_w]
   rfl
 refine one_ (i := 5) (N := some 8) #[true, true, true, true, true, true, true, true, false, false, false] rfl rfl (one_of HT_.out kr) (by decide) (fun K hK => ?_)
 refine goes_ Try.func83 kr rfl #[.slice A0_1 l0_1.length c0_1] (by rfl) rfl rfl Q10 ?_
 with_reducible refine (spec_l01Copy.calls k _ _ l0_1 t175 _ ?side1 ?side2 A3.out).mono ?_
 (case side1 => exact (by repeat (first | exact (Kd.C_below HR0_1.out HB.out) | (with_reducible refine Kd.C_alloc ?_ _) | (with_reducible refine Kd.C_drewN ?_ _) | (with_reducible refine Kd.C_drew ?_))))
 (case side2 => exact HC0_1.out)
 rintro e w9 ⟨v176, rfl, ho0, hb⟩
 refine ⟨_, rfl, ?_⟩
 have HO177 := am (Kd.R_lower (Kd.R_new' ho0 (Kd.R_lt u3_10)) (below_size Q6))
 replace HO174 := am (Kd.R_elder' u3_10 (Kd.R_base ho0) hb)
 replace BK170 := am (bb_ BK170.out u3_6 hb)
 replace BK171 := am (bb_ BK171.out u3_13 hb)
 replace HB := am (below_step Q6 hb)
 (try clear hb)
 (try clear hb2)
 (try clear hk)
 (try clear hi)
 (try clear ho0)
 refine hK.out _ _ ⟨(blk_cell BK170.out 0).trans rfl, (blk_cell BK170.out 1).trans rfl, (blk_cell BK170.out 2).trans rfl⟩ (fun hHeld => ?_)
 clear hK K
 refine norm_ (a' := ?_) ?_ ?_
 rotate_left
 · show Act.put _ (some 8) _ = _
   simp only [Act.put, la, lb, lc, i64_w, i32_w]
   rfl
 refine one_ (i := 8) (N := some 11) #[true, true, true, true, true, true, true, true, true, false, false] rfl rfl (one_of HT_.out kr) (by decide) (fun K hK => ?_)
 refine goes_ Try.func83 kr rfl #[.slice A0_2 l0_2.length c0_2] (by rfl) rfl rfl Q10 ?_
 with_reducible refine (spec_l01Copy.calls k _ _ l0_2 t178 _ ?side1 ?side2 A4.out).mono ?_
 (case side1 => exact (by repeat (first | exact (Kd.C_below HR0_2.out HB.out) | (with_reducible refine Kd.C_alloc ?_ _) | (with_reducible refine Kd.C_drewN ?_ _) | (with_reducible refine Kd.C_drew ?_))))
 (case side2 => exact HC0_2.out)
 rintro e w10 ⟨v179, rfl, ho0, hb⟩
 refine ⟨_, rfl, ?_⟩
 have HO180 := am (Kd.R_lower (Kd.R_new' (Kd.R_new' ho0 (Kd.R_lt u3_10)) (Kd.R_lt u3_15)) (below_size Q6))
 replace HO174 := am (Kd.R_elder' u3_10 (Kd.R_base ho0) hb)
 replace HO177 := am (Kd.R_elder' u3_15 (Kd.R_base ho0) hb)
 replace BK170 := am (bb_ BK170.out u3_6 hb)
 replace BK171 := am (bb_ BK171.out u3_13 hb)
 replace HB := am (below_step Q6 hb)
 (try clear hb)
 (try clear hb2)
 (try clear hk)
 (try clear hi)
 (try clear ho0)
 obtain ⟨Ao11, co11, eo11⟩ := Kd.R_slice HO180.out
 (first | subst eo11 | (injection eo11 with f1_ f2_ f3_; have f4_ := f1_.symm; have f5_ := f3_.symm; clear f1_ f2_ f3_; subst f4_; subst f5_))
 obtain ⟨Ao12, co12, eo12⟩ := Kd.R_slice HO177.out
 (first | subst eo12 | (injection eo12 with f1_ f2_ f3_; have f4_ := f1_.symm; have f5_ := f3_.symm; clear f1_ f2_ f3_; subst f4_; subst f5_))
 obtain ⟨Ao13, co13, eo13⟩ := Kd.R_slice HO174.out
 (first | subst eo13 | (injection eo13 with f1_ f2_ f3_; have f4_ := f1_.symm; have f5_ := f3_.symm; clear f1_ f2_ f3_; subst f4_; subst f5_))
 refine hK.out _ _ ⟨(blk_cell BK170.out 0).trans rfl, (blk_cell BK170.out 1).trans rfl, (blk_cell BK170.out 2).trans rfl⟩ (fun hHeld => ?_)
 clear hK K
 refine norm_ (a' := ?_) ?_ ?_
 rotate_left
 · show Act.put _ (some 11) _ = _
   simp only [Act.put, la, lb, lc, i64_w, i32_w]
   rfl
 refine pV 9 12 (bt 10 11) ?_
 refine one_ (i := 10) (N := none) #[true, true, true, true, true, true, true, true, true, true, true] rfl rfl (one_of HT_.out kr) (by decide) (fun K hK => ?_)
 have hs14 : w10.cell? ⟨gb171, 0, none⟩ = some (.slice none 0 0) := (blk_cell BK171.out 0).trans rfl
 have hfs14 := blk_frozen BK171.out 0
 have hns14_0 := NB170_171.out
 have hms14_0 := NB171_170.out
 have hs15 : w10.cell? ⟨gb171, 1, none⟩ = some (.slice none 0 0) := (blk_cell BK171.out 1).trans rfl
 have hfs15 := blk_frozen BK171.out 1
 have hns15_0 := NB170_171.out
 have hms15_0 := NB171_170.out
 have hs16 : w10.cell? ⟨gb171, 2, none⟩ = some (.slice none 0 0) := (blk_cell BK171.out 2).trans rfl
 have hfs16 := blk_frozen BK171.out 2
 have hns16_0 := NB170_171.out
 have hms16_0 := NB171_170.out
 refine skip_ (w1 := ?_) (by rfl) rfl ?_ ?_
 rotate_left
 · go_simp
   rfl
 refine hK.out _ _ ⟨((cell_far (p := ⟨gb171, _, none⟩) NB170_171.out _).trans (((cell_far (p := ⟨gb171, _, none⟩) NB170_171.out _).trans (((cell_far (p := ⟨gb171, _, none⟩) NB170_171.out _).trans (hHeld.1)))))), ((cell_far (p := ⟨gb171, _, none⟩) NB170_171.out _).trans (((cell_far (p := ⟨gb171, _, none⟩) NB170_171.out _).trans (((cell_far (p := ⟨gb171, _, none⟩) NB170_171.out _).trans (hHeld.2.1)))))), ((cell_far (p := ⟨gb171, _, none⟩) NB170_171.out _).trans (((cell_far (p := ⟨gb171, _, none⟩) NB170_171.out _).trans (((cell_far (p := ⟨gb171, _, none⟩) NB170_171.out _).trans (hHeld.2.2))))))⟩ (fun hHeld => ?_)
 clear hK K
 refine done_ (done_of HT_.out kr) ?_
 try go_wp2
 refine bodyPost_ret (results_cell_row rfl _ _ gb171 26 #[.slice Ao13 t172.length co13, .slice Ao12 t175.length co12, .slice Ao11 t178.length co11] (0, 0) _ rfl (by (with_reducible repeat (first | apply b1_ | apply b2_ | apply b3_)); refine blk_put (cs := #[.slice Ao13 t172.length co13, .slice Ao12 t175.length co12, .slice none 0 0]) ?_ 2 _ rfl; (with_reducible repeat (first | apply b1_ | apply b2_ | apply b3_)); refine blk_put (cs := #[.slice Ao13 t172.length co13, .slice none 0 0, .slice none 0 0]) ?_ 1 _ rfl; (with_reducible repeat (first | apply b1_ | apply b2_ | apply b3_)); refine blk_put (cs := #[.slice none 0 0, .slice none 0 0, .slice none 0 0]) ?_ 0 _ rfl; (with_reducible repeat (first | apply b1_ | apply b2_ | apply b3_)); exact BK171.out) Try.underlying26 rfl kr) rfl ?_
 exact ⟨_, _, _, er, (by (with_reducible repeat (first | apply r1_ | apply r2_ | apply r3_)); exact Kd.R_mono (Kd.R_far (p := ⟨gb171, 2, none⟩) (Kd.R_far (p := ⟨gb171, 1, none⟩) (Kd.R_far (p := ⟨gb171, 0, none⟩) (Kd.R_types HO174.out BK171.out (by decide)) (fun _ hk => hk.2) (.slice Ao13 t172.length co13)) (fun _ hk => hk.2) (.slice Ao12 t175.length co12)) (fun _ hk => hk.2) (.slice Ao11 t178.length co11)) (fun _ hk => ⟨hk.1.1.2, hk.1.2⟩)), (by (with_reducible repeat (first | apply r1_ | apply r2_ | apply r3_)); exact Kd.R_mono (Kd.R_far (p := ⟨gb171, 2, none⟩) (Kd.R_far (p := ⟨gb171, 1, none⟩) (Kd.R_far (p := ⟨gb171, 0, none⟩) (Kd.R_types HO177.out BK171.out (by decide)) (fun _ hk => hk.2) (.slice Ao13 t172.length co13)) (fun _ hk => hk.2) (.slice Ao12 t175.length co12)) (fun _ hk => hk.2) (.slice Ao11 t178.length co11)) (fun _ hk => ⟨hk.1.1.2, hk.1.2⟩)), (by (with_reducible repeat (first | apply r1_ | apply r2_ | apply r3_)); exact Kd.R_mono (Kd.R_far (p := ⟨gb171, 2, none⟩) (Kd.R_far (p := ⟨gb171, 1, none⟩) (Kd.R_far (p := ⟨gb171, 0, none⟩) (Kd.R_types HO180.out BK171.out (by decide)) (fun _ hk => hk.2) (.slice Ao13 t172.length co13)) (fun _ hk => hk.2) (.slice Ao12 t175.length co12)) (fun _ hk => hk.2) (.slice Ao11 t178.length co11)) (fun _ hk => ⟨hk.1.1.2, hk.1.2⟩)), Q6⟩
end Go.Proofs.Ytoemdmjdpikfbaa.QFnExactPlayConf
