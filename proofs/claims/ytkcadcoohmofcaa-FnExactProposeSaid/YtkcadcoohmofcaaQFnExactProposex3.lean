-- Printed by the session's own program wip/prx.py.
import Derived.Test.YtkcadcoohmofcaaSqFnExactPropose
import Derived.Test.YtkcadcoohmofcaaQFnExactProposex0
import Derived.Test.YtkcadcoohmofcaaQFnExactProposex2
namespace Go.Proofs.Ytkcadcoohmofcaa.QFnExactPropose
open Go.RowKit Go.Proofs.YtkcadcoohmofcaaW.PrintWords Go.Proofs.YtkcadcoohmofcaaW.PrintLast Go.Proofs.YtkcadcoohmofcaaW.PrintMore Go.Proofs.Ytkcadcoohmofcaa.SqFnExactPropose
attribute [local go_sem] max2_int min2_int max_two min_two max_three min_three max_four min_four Go.Proofs.Ytkcadcoohmofcaa.Set.isSome_setCell
set_option linter.unusedVariables false
set_option linter.unusedSimpArgs false

-- squeezed
theorem u3_3 {P : Prop} (h : P := by repeat (first | (with_reducible first | exact HK.out | apply Kept.alloc | apply Kept.drewN | apply Kept.drew | refine Kept.setCell ?_ (.inr GW126.out) _) | exact HK.out)) : P := h
theorem u3_10 {P : Prop} (h : P := by (with_reducible repeat (first | refine blk_drewN ?_ _ | refine blk_drew ?_ | refine blk_alloc ?_ _)); exact BK126.out) : P := h
/-! ### laws_markNode: function 23 -/
def laws_markNode.f (k : Nat) (a0_0 : Int) (a0_1 : Int) (a0_2 : Int) (a0_3 : Int) (a0_4 : Int) (a0_5 : Int) (a0_6 : Int) (l0_7 : List (S85)) (l0_8 : List Int) (l0_9 : List Int) (a1 : Int) : Option (Int × (List (S85)) × List Int × List Int) := (laws_markRLog.f k a0_5 a0_6 l0_7 a1).bind fun bt127 => ((laws_markIntS.f k l0_8 bt127.1).bind fun bt129 => ((laws_markIntS.f k l0_9 bt129.1).bind fun bt131 => (some (bt131.1, bt127.2, bt129.2, bt131.2))))
theorem laws_markNode.mono : ∀ a0 a1 a2 a3 a4 a5 a6 a7 a8 a9 a10 k, LeO (laws_markNode.f k a0 a1 a2 a3 a4 a5 a6 a7 a8 a9 a10) (laws_markNode.f (k + 1) a0 a1 a2 a3 a4 a5 a6 a7 a8 a9 a10) := by
 intro a0 a1 a2 a3 a4 a5 a6 a7 a8 a9 a10 k
 unfold laws_markNode.f
 repeat' first
     | (with_reducible exact laws_markIntS.mono _ _ _)
     | (with_reducible exact laws_markRLog.mono _ _ _ _ _)
     | (with_reducible exact LeO.refl _)
     | (with_reducible exact LeO.none _)
     | (with_reducible refine LeO.ite ?_ ?_)
     | (with_reducible refine LeO.bind ?_ (fun _ => ?_))
     | exact laws_markIntS.mono _ _ _
     | exact laws_markRLog.mono _ _ _ _ _
     | exact LeO.none _
     | refine LeO.ite ?_ ?_
     | refine LeO.bind ?_ (fun _ => ?_)
set_option maxHeartbeats 8000000 in
set_option maxRecDepth 100000 in
theorem laws_markNode.calls (k : Nat) (a0_0 : Int) (a0_1 : Int) (a0_2 : Int) (a0_3 : Int) (a0_4 : Int) (a0_5 : Int) (a0_6 : Int) (P0_7_ : Nat → Prop) (u9000_ : Value) (l0_7 : List (S85)) (P0_8_ : Nat → Prop) (u9001_ : Value) (l0_8 : List Int) (P0_9_ : Nat → Prop) (u9002_ : Value) (l0_9 : List Int) (a1 : Int) (r1 : Int) (r2 : List (S85)) (r3 : List Int) (r4 : List Int) (w0 w : World) (hB : Below w0.heap.size w0 w) (ho0_7 : Kd.R k85 85 w w0.heap.size P0_7_ u9000_ l0_7) (ho0_8 : Kd.R (Kd.int .i64) 3 w w0.heap.size P0_8_ u9001_ l0_8) (hp0_8_0_9 : ∀ k_, P0_8_ k_ → ¬ P0_9_ k_) (ho0_9 : Kd.R (Kd.int .i64) 3 w w0.heap.size P0_9_ u9002_ l0_9) (hp0_9_0_8 : ∀ k_, P0_9_ k_ → ¬ P0_8_ k_) (h : laws_markNode.f k a0_0 a0_1 a0_2 a0_3 a0_4 a0_5 a0_6 l0_7 l0_8 l0_9 a1 = some (r1, r2, r3, r4)) :
   Calls Try.prog 23 #[.agg #[.int .i64 a0_0, .int .i64 a0_1, .int .i64 a0_2, .int .i64 a0_3, .int .i64 a0_4, .int .i64 a0_5, .int .i64 a0_6, u9000_, u9001_, u9002_], .int .i64 a1] w fun e w' => e = .returned (.int .i64 r1) ∧ Kd.R k85 85 w' w0.heap.size (fun k_ => ((P0_7_ k_ ∨ P0_8_ k_ ∨ P0_9_ k_) ∨ w.heap.size ≤ k_)) u9000_ r2 ∧ Kd.R (Kd.int .i64) 3 w' w0.heap.size (fun k_ => ((P0_7_ k_ ∨ P0_8_ k_ ∨ P0_9_ k_) ∨ w.heap.size ≤ k_)) u9001_ r3 ∧ Kd.R (Kd.int .i64) 3 w' w0.heap.size (fun k_ => ((P0_7_ k_ ∨ P0_8_ k_ ∨ P0_9_ k_) ∨ w.heap.size ≤ k_)) u9002_ r4 ∧ Below w0.heap.size w0 w' ∧ Kept w w' (fun k_ => P0_7_ k_ ∨ P0_8_ k_ ∨ P0_9_ k_) := by
 have hu37 := Try.underlying37
 have hu34 := Try.underlying34
 have HO0_7 := am (show Kd.R k85 85 w w0.heap.size (fun k_ => ((P0_7_ k_ ∨ P0_8_ k_ ∨ P0_9_ k_) ∨ w.heap.size ≤ k_)) u9000_ l0_7 from Kd.R_mono ho0_7 (fun k_ hk => (.inl (.inl hk))))
 have HO0_8 := am (show Kd.R (Kd.int .i64) 3 w w0.heap.size (fun k_ => ((P0_7_ k_ ∨ P0_8_ k_ ∨ P0_9_ k_) ∨ w.heap.size ≤ k_) ∧ some k_ ≠ (u9002_ : Value).ownBlock) u9001_ l0_8 from Kd.R_mono ho0_8 (fun k_ hk => ⟨(.inl (.inr (.inl hk))), fun e_ => hp0_8_0_9 k_ hk (ho0_9.1 k_ e_.symm)⟩))
 have HO0_9 := am (show Kd.R (Kd.int .i64) 3 w w0.heap.size (fun k_ => ((P0_7_ k_ ∨ P0_8_ k_ ∨ P0_9_ k_) ∨ w.heap.size ≤ k_) ∧ some k_ ≠ (u9001_ : Value).ownBlock) u9002_ l0_9 from Kd.R_mono ho0_9 (fun k_ hk => ⟨(.inl (.inr (.inr hk))), fun e_ => hp0_9_0_8 k_ hk (ho0_8.1 k_ e_.symm)⟩))
 have HK := am (Kept.refl w (fun k_ => P0_7_ k_ ∨ P0_8_ k_ ∨ P0_9_ k_))
 have HW0 := am hB.size
 have HB := am hB
 clear hB
 have H : ((laws_markRLog.f k a0_5 a0_6 l0_7 a1).bind fun bt127 => ((laws_markIntS.f k l0_8 bt127.1).bind fun bt129 => ((laws_markIntS.f k l0_9 bt129.1).bind fun bt131 => (some (bt131.1, bt127.2, bt129.2, bt131.2))))) = some (r1, r2, r3, r4) := h
 clear h
 replace H := Option.bind_eq_some_iff.mp H
 obtain ⟨⟨t127, t128⟩, A30, H⟩ := H
 (try dsimp only at H)
 have A3 := am A30
 clear A30
 replace H := Option.bind_eq_some_iff.mp H
 obtain ⟨⟨t129, t130⟩, A40, H⟩ := H
 (try dsimp only at H)
 have A4 := am A40
 clear A40
 replace H := Option.bind_eq_some_iff.mp H
 obtain ⟨⟨t131, t132⟩, A50, H⟩ := H
 replace H : (some (t131, t128, t130, t132)) = some (r1, r2, r3, r4) := H
 have A5 := am A50
 clear A50
 simp only [Option.some.injEq, Prod.mk.injEq] at H
 obtain ⟨rfl, rfl, rfl, rfl⟩ := H
 obtain ⟨Ao6, co6, eo6⟩ := Kd.R_slice HO0_7.out
 subst eo6
 obtain ⟨Ao7, co7, eo7⟩ := Kd.R_slice HO0_8.out
 subst eo7
 obtain ⟨Ao8, co8, eo8⟩ := Kd.R_slice HO0_9.out
 subst eo8
 go_enter Try.func23, Try.ntmps23
 go_wp2_with (first | ((with_reducible refine gate_dst (N := 2) rfl ?_); refine box_event ?hg (N := 2) ?hd (cs := #[.int .i64 a0_0, .int .i64 a0_1, .int .i64 a0_2, .int .i64 a0_3, .int .i64 a0_4, .int .i64 a0_5, .int .i64 a0_6, .slice Ao6 l0_7.length co6, .slice Ao7 l0_8.length co7, .slice Ao8 l0_9.length co8]) (t := 37) ?hr ?_; (case hd => rfl); (case hg => rfl); (case hr => first | (go_simp; done) | (go_simp; rfl)); intro gb126 hg w9 hbox hb; replace HO0_7 := am (Kd.R_below Q6 hb); replace HO0_8 := am (Kd.R_below (by (with_reducible repeat (first | apply Kd.R_alloc | apply Kd.R_drewN | apply Kd.R_drew)); exact HO0_8.out) hb); replace HO0_9 := am (Kd.R_below (by (with_reducible repeat (first | apply Kd.R_alloc | apply Kd.R_drewN | apply Kd.R_drew)); exact HO0_9.out) hb); have BK126 := am (hbox); have GW126 := am ((by rw [hg]; exact (by first | exact HK.out.1 | exact (show Kept w _ (fun k_ => P0_7_ k_ ∨ P0_8_ k_ ∨ P0_9_ k_) from by repeat (first | (with_reducible first | exact HK.out | apply Kept.alloc | apply Kept.drewN | apply Kept.drew) | exact HK.out)).1) : w.heap.size ≤ gb126)); replace HK := am (Kept.below (S := (fun k_ => P0_7_ k_ ∨ P0_8_ k_ ∨ P0_9_ k_)) (by repeat (first | (with_reducible first | exact HK.out | apply Kept.alloc | apply Kept.drewN | apply Kept.drew) | exact HK.out)) hb); have GE126 := am ((by rw [hg]; exact (below_size Q1) : w0.heap.size ≤ gb126)); replace HB := am (below_step Q1 hb); clear hb hbox hg; obtain ⟨hcz10_0, hcz10_1, hcz10_2, hcz10_3, hcz10_4, hcz10_5, hcz10_6, hcz10_7, hcz10_8, hcz10_9, hfz10_0, hfz10_1, hfz10_2, hfz10_3, hfz10_4, hfz10_5, hfz10_6, hfz10_7, hfz10_8, hfz10_9⟩ := bc10f w9 BK126.out) | ((with_reducible refine gate_callee (f := 68) rfl ?_); refine goesL_ (some 8) rfl rfl Try.func68 kr rfl #[.agg #[.int .i64 a0_5, .int .i64 a0_6, .slice Ao6 l0_7.length co6], .int .i64 a1] rfl Q3 ?_; (with_reducible refine (laws_markRLog.calls k a0_5 a0_6 (fun k_ => some k_ = (.slice Ao6 l0_7.length co6 : Value).ownBlock) (.slice Ao6 l0_7.length co6) l0_7 a1 t127 t128 w0 _ ?side1 ?side2 A3.out).mono ?_); (case side1 => exact Q1); (case side2 => exact Kd.R_tight rfl HO0_7.out); rintro e w11 ⟨rfl, hy0, hb, hkp⟩; refine ⟨_, rfl, ?_⟩; replace HO0_8 := am (Kd.R_mono (ok' := fun k_ => ((P0_7_ k_ ∨ P0_8_ k_ ∨ P0_9_ k_) ∨ w.heap.size ≤ k_) ∧ some k_ ≠ (.slice Ao8 l0_9.length co8 : Value).ownBlock) (Kd.R_keptB ((Kd.R_apart' HO0_8.out (Kd.R_typed HO0_7.out) (by decide))) hkp (fun k_ hk_ hs_ => (hk_.2) hs_)) (fun k_ hk_ => ⟨hk_.1.1.1, hk_.1.1.2⟩)); replace HO0_9 := am (Kd.R_mono (ok' := fun k_ => ((P0_7_ k_ ∨ P0_8_ k_ ∨ P0_9_ k_) ∨ w.heap.size ≤ k_) ∧ some k_ ≠ (.slice Ao7 l0_8.length co7 : Value).ownBlock) (Kd.R_keptB ((Kd.R_apart' HO0_9.out (Kd.R_typed HO0_7.out) (by decide))) hkp (fun k_ hk_ hs_ => (hk_.2) hs_)) (fun k_ hk_ => ⟨hk_.1.1.1, hk_.1.1.2⟩)); replace BK126 := am (blk_kept u3_10 hkp (fun hs_ => (fun e_ => (Kd.R_ne HO0_7.out BK126.out (by decide)) e_) hs_)); replace HK := am (Kept.then_ (S := (fun k_ => P0_7_ k_ ∨ P0_8_ k_ ∨ P0_9_ k_)) u3_3 hkp (fun k_ hs_ => (fun e_ => (HO0_7.out.1 k_ e_.symm)) hs_)); replace HO0_7 := am (Kd.R_reok rfl hy0 (fun k_ e_ => HO0_7.out.1 k_ e_)); replace HB := am (hb); (try clear hb); (try clear hkp); (try clear hy0); obtain ⟨hcz12_0, hcz12_1, hcz12_2, hcz12_3, hcz12_4, hcz12_5, hcz12_6, hcz12_7, hcz12_8, hcz12_9, hfz12_0, hfz12_1, hfz12_2, hfz12_3, hfz12_4, hfz12_5, hfz12_6, hfz12_7, hfz12_8, hfz12_9⟩ := bc10f w11 BK126.out) | ((with_reducible refine gate_callee (f := 54) rfl ?_); refine goesL_ (some 12) rfl rfl Try.func54 kr rfl #[.slice Ao7 l0_8.length co7, .int .i64 t127] rfl Q3 ?_; (with_reducible refine (laws_markIntS.calls k (fun k_ => some k_ = (.slice Ao7 l0_8.length co7 : Value).ownBlock) (.slice Ao7 l0_8.length co7) l0_8 t127 t129 t130 w0 _ ?side1 ?side2 A4.out).mono ?_); (case side1 => exact Q1); (case side2 => exact Kd.R_tight rfl HO0_8.out); rintro e w13 ⟨rfl, hy0, hb, hkp⟩; refine ⟨_, rfl, ?_⟩; replace HO0_7 := am (Kd.R_mono (ok' := fun k_ => ((P0_7_ k_ ∨ P0_8_ k_ ∨ P0_9_ k_) ∨ w.heap.size ≤ k_)) (Kd.R_keptB ((Kd.R_apart' HO0_7.out (Kd.R_typed HO0_8.out) (by decide))) hkp (fun k_ hk_ hs_ => (hk_.2) hs_)) (fun k_ hk_ => hk_.1.1)); replace HO0_9 := am (Kd.R_mono (ok' := fun k_ => ((P0_7_ k_ ∨ P0_8_ k_ ∨ P0_9_ k_) ∨ w.heap.size ≤ k_) ∧ some k_ ≠ (.slice Ao7 l0_8.length co7 : Value).ownBlock) (Kd.R_keptB (HO0_9.out) hkp (fun k_ hk_ hs_ => (hk_.2) hs_)) (fun k_ hk_ => ⟨hk_.1.1, hk_.1.2⟩)); replace BK126 := am (blk_kept u3_10 hkp (fun hs_ => (fun e_ => (Kd.R_ne HO0_8.out BK126.out (by decide)) e_) hs_)); replace HK := am (Kept.then_ (S := (fun k_ => P0_7_ k_ ∨ P0_8_ k_ ∨ P0_9_ k_)) u3_3 hkp (fun k_ hs_ => (fun e_ => (HO0_8.out.1 k_ e_.symm).1) hs_)); replace HO0_8 := am (Kd.R_reok rfl hy0 (fun k_ e_ => HO0_8.out.1 k_ e_)); replace HB := am (hb); (try clear hb); (try clear hkp); (try clear hy0); obtain ⟨hcz14_0, hcz14_1, hcz14_2, hcz14_3, hcz14_4, hcz14_5, hcz14_6, hcz14_7, hcz14_8, hcz14_9, hfz14_0, hfz14_1, hfz14_2, hfz14_3, hfz14_4, hfz14_5, hfz14_6, hfz14_7, hfz14_8, hfz14_9⟩ := bc10f w13 BK126.out) | ((with_reducible refine gate_callee (f := 54) rfl ?_); refine goesL_ (some 16) rfl rfl Try.func54 kr rfl #[.slice Ao8 l0_9.length co8, .int .i64 t129] rfl Q3 ?_; (with_reducible refine (laws_markIntS.calls k (fun k_ => some k_ = (.slice Ao8 l0_9.length co8 : Value).ownBlock) (.slice Ao8 l0_9.length co8) l0_9 t129 t131 t132 w0 _ ?side1 ?side2 A5.out).mono ?_); (case side1 => exact Q1); (case side2 => exact Kd.R_tight rfl HO0_9.out); rintro e w15 ⟨rfl, hy0, hb, hkp⟩; refine ⟨_, rfl, ?_⟩; replace HO0_7 := am (Kd.R_mono (ok' := fun k_ => ((P0_7_ k_ ∨ P0_8_ k_ ∨ P0_9_ k_) ∨ w.heap.size ≤ k_)) (Kd.R_keptB ((Kd.R_apart' HO0_7.out (Kd.R_typed HO0_9.out) (by decide))) hkp (fun k_ hk_ hs_ => (hk_.2) hs_)) (fun k_ hk_ => hk_.1.1)); replace HO0_8 := am (Kd.R_mono (ok' := fun k_ => ((P0_7_ k_ ∨ P0_8_ k_ ∨ P0_9_ k_) ∨ w.heap.size ≤ k_) ∧ some k_ ≠ (.slice Ao8 l0_9.length co8 : Value).ownBlock) (Kd.R_keptB (HO0_8.out) hkp (fun k_ hk_ hs_ => (hk_.2) hs_)) (fun k_ hk_ => ⟨hk_.1.1, hk_.1.2⟩)); replace BK126 := am (blk_kept u3_10 hkp (fun hs_ => (fun e_ => (Kd.R_ne HO0_9.out BK126.out (by decide)) e_) hs_)); replace HK := am (Kept.then_ (S := (fun k_ => P0_7_ k_ ∨ P0_8_ k_ ∨ P0_9_ k_)) u3_3 hkp (fun k_ hs_ => (fun e_ => (HO0_9.out.1 k_ e_.symm).1) hs_)); replace HO0_9 := am (Kd.R_reok rfl hy0 (fun k_ e_ => HO0_9.out.1 k_ e_)); replace HB := am (hb); (try clear hb); (try clear hkp); (try clear hy0)))
 go_ret
 exact ⟨er, Q6, (by (with_reducible repeat (first | apply Kd.R_alloc | apply Kd.R_drewN | apply Kd.R_drew)); exact Kd.R_mono HO0_8.out (fun _ hk => hk.1)), (by (with_reducible repeat (first | apply Kd.R_alloc | apply Kd.R_drewN | apply Kd.R_drew)); exact Kd.R_mono HO0_9.out (fun _ hk => hk.1)), Q1, u3_3⟩

/-! ### laws_heldIntS: function 55 -/
def laws_heldIntS.l0 : Nat → List Int → Int → Int → Option (Int)
 | 0, _, _, _ => none
 | k + 1, x0, x1, x5 => if x5 < (x0.length : Int) then (if 0 ≤ x5 then (if (rd x0 x5) = x1 then (laws_heldIntS.l0 k x0 (wrap64 (x1 + 1)) (wrap64 (x5 + 1))) else (some (-1))) else (none)) else (some x1)
def laws_heldIntS.f (k : Nat) (l0 : List Int) (a1 : Int) : Option (Int) := laws_heldIntS.l0 k l0 a1 0
theorem laws_heldIntS.mono_l : ∀ k, (∀ y0 y1 y2, LeO (laws_heldIntS.l0 k y0 y1 y2) (laws_heldIntS.l0 (k + 1) y0 y1 y2))
 | 0 => fun _ _ _ r h => by simp [laws_heldIntS.l0] at h
 | k + 1 => by
   have ih0 := laws_heldIntS.mono_l k
   · intro y0 y1 y2
     unfold laws_heldIntS.l0
     repeat' first
     | (with_reducible exact ih0 _ _ _)
     | (with_reducible exact LeO.refl _)
     | (with_reducible exact LeO.none _)
     | (with_reducible refine LeO.ite ?_ ?_)
     | (with_reducible refine LeO.bind ?_ (fun _ => ?_))
     | exact ih0 _ _ _
     | exact LeO.none _
     | refine LeO.ite ?_ ?_
     | refine LeO.bind ?_ (fun _ => ?_)
theorem laws_heldIntS.mono : ∀ a0 a1 k, LeO (laws_heldIntS.f k a0 a1) (laws_heldIntS.f (k + 1) a0 a1) := by
 intro a0 a1 k
 have ih0 := laws_heldIntS.mono_l k
 unfold laws_heldIntS.f
 repeat' first
     | (with_reducible exact ih0 _ _ _)
     | (with_reducible exact LeO.refl _)
     | (with_reducible exact LeO.none _)
     | (with_reducible refine LeO.ite ?_ ?_)
     | (with_reducible refine LeO.bind ?_ (fun _ => ?_))
     | exact ih0 _ _ _
     | exact LeO.none _
     | refine LeO.ite ?_ ?_
     | refine LeO.bind ?_ (fun _ => ?_)
set_option maxHeartbeats 8000000 in
set_option maxRecDepth 100000 in
theorem laws_heldIntS.calls (k : Nat) (A0 : Option Addr) (c0 : Nat) (l0 : List Int) (a1 : Int) (r : Int) (w : World) (hr0 : Kd.C (Kd.int .i64) w A0 l0.length l0) (hc0 : l0.length ≤ c0) (h : laws_heldIntS.f k l0 a1 = some r) :
   Calls Try.prog 55 #[.slice A0 l0.length c0, .int .i64 a1] w fun e w' => e = .returned (.int .i64 r) ∧ Drawn0 w w' := by
 have HR0 := am hr0
 have HC0 := am hc0
 clear hr0 hc0
 have H : (laws_heldIntS.l0 k l0 a1 0) = some r := h
 clear h
 have H' := am H
 clear H
 go_enter Try.func55, Try.ntmps55
 go_wp2
 go_loopg [1, 5] k (fun kq v1 v5 w' => ∃ (x1_1 : Int) (x5_1 : Int), v1 = .int .i64 x1_1 ∧ v5 = .int .i64 x5_1 ∧ Aside0 (laws_heldIntS.l0 kq l0 x1_1 x5_1 = some r) ∧ Aside0 (kq ≤ k) ∧ Drawn0 w w')
 case atStart => exact ⟨(a1), (0), Q2, Q2, H', ⟨Nat.le_refl _⟩, Q4⟩
 clear H'
 obtain ⟨x1_1, x5_1, rfl, rfl, HA, HK1, ⟨m1, rfl⟩⟩ := hrel
 cases gk with
 | zero => exact absurd HA.out (by simp [laws_heldIntS.l0])
 | succ k1 =>
   have H := HA.out
   clear HA
   simp only [laws_heldIntS.l0] at H
   by_cases c3 : x5_1 < (l0.length : Int)
   rotate_left
   · rw [if_neg c3] at H
     have c3b0 : decide (x5_1 < (l0.length : Int)) = false := decide_eq_false c3
     clear c3
     obtain rfl := sj H
     go_wp2
     go_ret
     exact ⟨by first | rfl | (simp; done) | (simp [*]; done), Q4⟩
   rw [if_pos c3] at H
   have c3b0 : decide (x5_1 < (l0.length : Int)) = true := decide_eq_true c3
   clear c3
   by_cases c4 : 0 ≤ x5_1
   rotate_left
   · rw [if_neg c4] at H
     exact absurd H (by simp)
   rw [if_pos c4] at H
   have c4b0 : decide (0 ≤ x5_1) = true := decide_eq_true c4
   clear c4
   have H9 := am H
   clear H
   have p133 : 0 ≤ (x5_1 : Int) := of_decide_eq_true Q0
   have q133 : x5_1 < (l0.length : Int) := of_decide_eq_true Q0
   obtain ⟨ad133, e133, hx133_0⟩ := Kd.at_int HR0.out x5_1 p133 q133
   cases e133
   replace p133 := eq_true p133
   replace q133 := eq_true q133
   go_upto_if 17 with (fail)
   have H := H9.out
   clear H9
   by_cases c5 : (rd l0 x5_1) = x1_1
   rotate_left
   · rw [if_neg c5] at H
     have c5b0 : ((rd l0 x5_1) == x1_1) = false := beq_eq_false_iff_ne.mpr c5
     have c5b1 : ((rd l0 x5_1) != x1_1) = true := bne_iff_ne.mpr c5
     (first | rw [c5b0] | (simp only [i64_w, i32_w]; rw [c5b0]) | skip)
     obtain rfl := sj H
     go_wp2
     go_ret
     exact ⟨by first | rfl | (simp; done) | (simp [*]; done), Q4⟩
   rw [if_pos c5] at H
   have c5b0 : ((rd l0 x5_1) == x1_1) = true := beq_iff_eq.mpr c5
   have c5b1 : ((rd l0 x5_1) != x1_1) = false := bne_eq_false_iff_eq.mpr c5
   clear c5
   (first | rw [c5b0] | (simp only [i64_w, i32_w]; rw [c5b0]) | skip)
   have H' := am H
   clear H
   go_wp2
   go_roundg k1
   case measure => have := HK1.out; omega
   case rel => exact ⟨(wrap64 (x1_1 + 1)), (wrap64 (x5_1 + 1)), Q2, Q2, H', ⟨by have := HK1.out; omega⟩, Q4⟩

/-! ### laws_heldEntryS: function 60 -/
def laws_heldEntryS.l0 : Nat → List (S85) → Int → Int → Option (Int)
 | 0, _, _, _ => none
 | k + 1, x0, x1, x5 => if x5 < (x0.length : Int) then (if 0 ≤ x5 then (if ((rd_T85 x0 x5).f0) = x1 then ((laws_markText.f k (wrap64 (x1 + 1))).bind fun t136 => (if ((rd_T85 x0 x5).f1).toList = t136.toList then (laws_heldEntryS.l0 k x0 (wrap64 ((wrap64 (x1 + 1)) + 1)) (wrap64 (x5 + 1))) else (some (-1)))) else (some (-1))) else (none)) else (some x1)
def laws_heldEntryS.f (k : Nat) (l0 : List (S85)) (a1 : Int) : Option (Int) := laws_heldEntryS.l0 k l0 a1 0
theorem laws_heldEntryS.mono_l : ∀ k, (∀ y0 y1 y2, LeO (laws_heldEntryS.l0 k y0 y1 y2) (laws_heldEntryS.l0 (k + 1) y0 y1 y2))
 | 0 => fun _ _ _ r h => by simp [laws_heldEntryS.l0] at h
 | k + 1 => by
   have ih0 := laws_heldEntryS.mono_l k
   · intro y0 y1 y2
     unfold laws_heldEntryS.l0
     repeat' first
     | (with_reducible exact ih0 _ _ _)
     | (with_reducible exact laws_markText.mono _ _)
     | (with_reducible exact LeO.refl _)
     | (with_reducible exact LeO.none _)
     | (with_reducible refine LeO.ite ?_ ?_)
     | (with_reducible refine LeO.bind ?_ (fun _ => ?_))
     | exact ih0 _ _ _
     | exact laws_markText.mono _ _
     | exact LeO.none _
     | refine LeO.ite ?_ ?_
     | refine LeO.bind ?_ (fun _ => ?_)
theorem laws_heldEntryS.mono : ∀ a0 a1 k, LeO (laws_heldEntryS.f k a0 a1) (laws_heldEntryS.f (k + 1) a0 a1) := by
 intro a0 a1 k
 have ih0 := laws_heldEntryS.mono_l k
 unfold laws_heldEntryS.f
 repeat' first
     | (with_reducible exact ih0 _ _ _)
     | (with_reducible exact laws_markText.mono _ _)
     | (with_reducible exact LeO.refl _)
     | (with_reducible exact LeO.none _)
     | (with_reducible refine LeO.ite ?_ ?_)
     | (with_reducible refine LeO.bind ?_ (fun _ => ?_))
     | exact ih0 _ _ _
     | exact laws_markText.mono _ _
     | exact LeO.none _
     | refine LeO.ite ?_ ?_
     | refine LeO.bind ?_ (fun _ => ?_)
def laws_heldEntryS.T7 : Bool × List (List Nat × List Nat) := (true, [([], []), ([], []), ([0, 1], [0, 1]), ([2], [2]), ([3], [3]), ([], []), ([5], [5]), ([4, 6], [4, 6])])
def laws_heldEntryS.B7 : List Nat := [0, 0, 3, 7, 15, 0, 32, 127]
theorem laws_heldEntryS.tab7 : rtab .any (opsOf Try.f60 7) = laws_heldEntryS.T7 := by kernel_rfl
theorem laws_heldEntryS.bits7 : waitsOk laws_heldEntryS.T7.2 laws_heldEntryS.B7 = true := by kernel_rfl
set_option maxHeartbeats 8000000 in
set_option maxRecDepth 100000 in
theorem laws_heldEntryS.calls (k : Nat) (A0 : Option Addr) (c0 : Nat) (l0 : List (S85)) (a1 : Int) (r : Int) (w : World) (hr0 : Kd.C k85 w A0 l0.length l0) (hc0 : l0.length ≤ c0) (h : laws_heldEntryS.f k l0 a1 = some r) :
   Calls Try.prog 60 #[.slice A0 l0.length c0, .int .i64 a1] w fun e w' => e = .returned (.int .i64 r) ∧ Below w.heap.size w w' := by
 have HR0 := am hr0
 have HC0 := am hc0
 clear hr0 hc0
 have HB := am (Below.refl w.heap.size w)
 have H : (laws_heldEntryS.l0 k l0 a1 0) = some r := h
 clear h
 have H' := am H
 clear H
 go_enter Try.func60, Try.ntmps60
 go_wp2
 go_loopg [1, 5] k (fun kq v1 v5 w' => ∃ (x1_1 : Int) (x5_1 : Int), v1 = .int .i64 x1_1 ∧ v5 = .int .i64 x5_1 ∧ Aside0 (laws_heldEntryS.l0 kq l0 x1_1 x5_1 = some r) ∧ Aside0 (kq ≤ k) ∧ Aside0 (Below w.heap.size w w'))
 case atStart => exact ⟨(a1), (0), Q2, Q2, H', ⟨Nat.le_refl _⟩, ⟨Q1⟩⟩
 clear H'
 obtain ⟨x1_1, x5_1, rfl, rfl, HA, HK1, HB⟩ := hrel
 cases gk with
 | zero => exact absurd HA.out (by simp [laws_heldEntryS.l0])
 | succ k1 =>
   have H := HA.out
   clear HA
   simp only [laws_heldEntryS.l0] at H
   by_cases c3 : x5_1 < (l0.length : Int)
   rotate_left
   · rw [if_neg c3] at H
     have c3b0 : decide (x5_1 < (l0.length : Int)) = false := decide_eq_false c3
     clear c3
     obtain rfl := sj H
     go_wp2
     go_ret
     exact ⟨er, Q1⟩
   rw [if_pos c3] at H
   have c3b0 : decide (x5_1 < (l0.length : Int)) = true := decide_eq_true c3
   clear c3
   by_cases c4 : 0 ≤ x5_1
   rotate_left
   · rw [if_neg c4] at H
     exact absurd H (by simp)
   rw [if_pos c4] at H
   have c4b0 : decide (0 ≤ x5_1) = true := decide_eq_true c4
   clear c4
   have H9 := am H
   clear H
   have p134 : 0 ≤ (x5_1 : Int) := of_decide_eq_true Q0
   have q134 : x5_1 < (l0.length : Int) := of_decide_eq_true Q0
   obtain ⟨ad134, e134, hx134_0, hx134_1⟩ := at_T85 HR0.out x5_1 p134 q134
   cases e134
   replace hx134_0 := cm HB.out hx134_0
   replace hx134_1 := cm HB.out hx134_1
   replace p134 := eq_true p134
   replace q134 := eq_true q134
   go_upto_if 18 with (fail)
   have H := H9.out
   clear H9
   by_cases c5 : ((rd_T85 l0 x5_1).f0) = x1_1
   rotate_left
   · rw [if_neg c5] at H
     have c5b0 : (((rd_T85 l0 x5_1).f0) == x1_1) = false := beq_eq_false_iff_ne.mpr c5
     have c5b1 : (((rd_T85 l0 x5_1).f0) != x1_1) = true := bne_iff_ne.mpr c5
     (first | rw [c5b0] | (simp only [i64_w, i32_w]; rw [c5b0]) | skip)
     obtain rfl := sj H
     go_wp2
     go_ret
     exact ⟨er, Q1⟩
   rw [if_pos c5] at H
   have c5b0 : (((rd_T85 l0 x5_1).f0) == x1_1) = true := beq_iff_eq.mpr c5
   have c5b1 : (((rd_T85 l0 x5_1).f0) != x1_1) = false := bne_eq_false_iff_eq.mpr c5
   clear c5
   (first | rw [c5b0] | (simp only [i64_w, i32_w]; rw [c5b0]) | skip)
   replace H := Option.bind_eq_some_iff.mp H
   obtain ⟨t136, A60, H⟩ := H
   have A6 := am A60
   clear A60
   have H9 := am H
   clear H
   try go_wp2
   replace HB := am (below_drew1 HB.out)
   have p135 : 0 ≤ (x5_1 : Int) := of_decide_eq_true Q0
   have q135 : x5_1 < (l0.length : Int) := of_decide_eq_true Q0
   obtain ⟨ad135, e135, hx135_0, hx135_1⟩ := at_T85 HR0.out x5_1 p135 q135
   have hw135_1 := hx135_1
   have hw135_0 := hx135_0
   obtain rfl : ad134 = ad135 := (by injection e135)
   replace hx135_0 := cm HB.out hx135_0
   replace hx135_1 := cm HB.out hx135_1
   replace p135 := eq_true p135
   replace q135 := eq_true q135
   refine start_ (n := 8) (S := fun w' => w'.cell? (ad134.add ((x5_1).toNat * 2)) = some (.int .i64 ((rd_T85 l0 x5_1).f0)) ∧ w'.cell? ⟨(ad134.add ((x5_1).toNat * 2)).block, (ad134.add ((x5_1).toNat * 2)).off + 1, none⟩ = some (.string ((rd_T85 l0 x5_1).f1))) (ds := []) #[false, false, false, false, false, false, false, false] kr rfl rfl ⟨(cm HB.out hw135_0), (cm HB.out hw135_1)⟩ (fun hHeld => ?_); refine with_tabW laws_heldEntryS.tab7 laws_heldEntryS.bits7 (fun HT_ HW_ => ?_)
   generalize wr.drew = w7 at HB hx135_0 hx135_1 hHeld ⊢
   refine pV 0 21 (bt 1 8) ?_
   refine pV 1 22 (bt 2 8) ?_
   refine pV 2 23 (bt 3 8) ?_
   refine pV 3 24 (bt 4 8) ?_
   refine pV 5 26 #[true, true, true, true, false, true, false, false] ?_
   refine tV 4 25 (bt 6 8) ?_
   refine one_ (i := 6) (N := some 27) #[true, true, true, true, true, true, true, false] rfl rfl (one_of HT_.out kr) (by decide) (fun K hK => ?_)
   refine goes_ Try.func106 kr rfl #[.int .i64 (wrap64 (x1_1 + 1))] (by rfl) rfl rfl Q3 ?_
   with_reducible refine (laws_markText.calls k1 (wrap64 (x1_1 + 1)) t136 _ A6.out).mono ?_
   rintro e w8 ⟨rfl, hb⟩
   refine ⟨_, rfl, ?_⟩
   replace HB := am (below_step Q1 hb)
   (try clear hb)
   (try clear hb2)
   (try clear hk)
   (try clear hi)
   refine hK.out _ _ ⟨(cm HB.out hw135_0), (cm HB.out hw135_1)⟩ (fun hHeld => ?_)
   clear hK K
   refine norm_ (a' := ?_) ?_ ?_
   rotate_left
   · show Act.put _ (some 27) _ = _
     simp only [Act.put, la, lb, lc, i64_w, i32_w]
     rfl
   refine pV 7 28 (bt 8 8) ?_
   refine done_ (done_of HT_.out kr) ?_
   go_upto_if 28 with (fail)
   have H := H9.out
   clear H9
   by_cases c9 : ((rd_T85 l0 x5_1).f1).toList = t136.toList
   rotate_left
   · rw [if_neg c9] at H
     have c9b0 : (((rd_T85 l0 x5_1).f1).toList == t136.toList) = false := beq_eq_false_iff_ne.mpr c9
     have c9b1 : (((rd_T85 l0 x5_1).f1).toList != t136.toList) = true := bne_iff_ne.mpr c9
     (first | rw [c9b0] | (simp only [i64_w, i32_w]; rw [c9b0]) | skip)
     obtain rfl := sj H
     go_wp2
     go_ret
     exact ⟨er, Q1⟩
   rw [if_pos c9] at H
   have c9b0 : (((rd_T85 l0 x5_1).f1).toList == t136.toList) = true := beq_iff_eq.mpr c9
   have c9b1 : (((rd_T85 l0 x5_1).f1).toList != t136.toList) = false := bne_eq_false_iff_eq.mpr c9
   clear c9
   (first | rw [c9b0] | (simp only [i64_w, i32_w]; rw [c9b0]) | skip)
   have H' := am H
   clear H
   go_wp2
   go_roundg k1
   case measure => have := HK1.out; omega
   case rel => exact ⟨(wrap64 ((wrap64 (x1_1 + 1)) + 1)), (wrap64 (x5_1 + 1)), Q2, Q2, H', ⟨by have := HK1.out; omega⟩, ⟨Q1⟩⟩

/-! ### laws_heldRLog: function 69 -/
def laws_heldRLog.f (k : Nat) (a0_0 : Int) (a0_1 : Int) (l0_2 : List (S85)) (a1 : Int) : Option (Int) := (laws_heldEntryS.f k l0_2 a1).bind fun t138 => (if t138 < 0 then (some (-1)) else (some t138))
theorem laws_heldRLog.mono : ∀ a0 a1 a2 a3 k, LeO (laws_heldRLog.f k a0 a1 a2 a3) (laws_heldRLog.f (k + 1) a0 a1 a2 a3) := by
 intro a0 a1 a2 a3 k
 unfold laws_heldRLog.f
 repeat' first
     | (with_reducible exact laws_heldEntryS.mono _ _ _)
     | (with_reducible exact LeO.refl _)
     | (with_reducible exact LeO.none _)
     | (with_reducible refine LeO.ite ?_ ?_)
     | (with_reducible refine LeO.bind ?_ (fun _ => ?_))
     | exact laws_heldEntryS.mono _ _ _
     | exact LeO.none _
     | refine LeO.ite ?_ ?_
     | refine LeO.bind ?_ (fun _ => ?_)
set_option maxHeartbeats 8000000 in
set_option maxRecDepth 100000 in
theorem laws_heldRLog.calls (k : Nat) (a0_0 : Int) (a0_1 : Int) (A0_2 : Option Addr) (c0_2 : Nat) (l0_2 : List (S85)) (a1 : Int) (r : Int) (w : World) (hr0_2 : Kd.C k85 w A0_2 l0_2.length l0_2) (hc0_2 : l0_2.length ≤ c0_2) (h : laws_heldRLog.f k a0_0 a0_1 l0_2 a1 = some r) :
   Calls Try.prog 69 #[.agg #[.int .i64 a0_0, .int .i64 a0_1, .slice A0_2 l0_2.length c0_2], .int .i64 a1] w fun e w' => e = .returned (.int .i64 r) ∧ Below w.heap.size w w' := by
 have hu34 := Try.underlying34
 have HR0_2 := am hr0_2
 have HC0_2 := am hc0_2
 clear hr0_2 hc0_2
 have HB := am (Below.refl w.heap.size w)
 have H : ((laws_heldEntryS.f k l0_2 a1).bind fun t138 => (if t138 < 0 then (some (-1)) else (some t138))) = some r := h
 clear h
 replace H := Option.bind_eq_some_iff.mp H
 obtain ⟨t138, A30, H⟩ := H
 replace H : (if t138 < 0 then (some (-1)) else (some t138)) = some r := H
 have A3 := am A30
 clear A30
 have H9 := am H
 clear H
 go_enter Try.func69, Try.ntmps69
 go_upto_if 10 with (first | ((with_reducible refine gate_dst (N := 2) rfl ?_); refine box_event ?hg (N := 2) ?hd (cs := #[.int .i64 a0_0, .int .i64 a0_1, .slice A0_2 l0_2.length c0_2]) (t := 34) ?hr ?_; (case hd => rfl); (case hg => rfl); (case hr => first | (go_simp; done) | (go_simp; rfl)); intro gb137 hg w4 hbox hb; have BK137 := am (hbox); have GW137 := am ((by rw [hg]; exact (below_size Q1) : w.heap.size ≤ gb137)); have GE137 := am ((by rw [hg]; exact (below_size Q1) : w.heap.size ≤ gb137)); replace HB := am (below_step Q1 hb); clear hb hbox hg; obtain ⟨hcz5_0, hcz5_1, hcz5_2⟩ := bc3 w4 BK137.out) | ((with_reducible refine gate_callee (f := 60) rfl ?_); refine goesL_ (some 8) rfl rfl Try.func60 kr rfl #[.slice A0_2 l0_2.length c0_2, .int .i64 a1] rfl Q3 ?_; (with_reducible refine (laws_heldEntryS.calls k _ _ l0_2 a1 t138 _ ?side1 ?side2 A3.out).mono ?_); (case side1 => exact Q5); (case side2 => exact HC0_2.out); rintro e w6 ⟨rfl, hb⟩; refine ⟨_, rfl, ?_⟩; replace BK137 := am (blk_below (g := gb137) (o := .cells #[.int .i64 a0_0, .int .i64 a0_1, .slice A0_2 l0_2.length c0_2] 34 (0, 0)) (by (with_reducible repeat (first | refine blk_drewN ?_ _ | refine blk_drew ?_ | refine blk_alloc ?_ _)); exact BK137.out) hb); replace HB := am (below_step Q1 hb); (try clear hb); (try clear hb2); (try clear hk); (try clear hi)))
 have H := H9.out
 clear H9
 by_cases c7 : t138 < 0
 · rw [if_pos c7] at H
   have c7b0 : decide (t138 < 0) = true := decide_eq_true c7
   clear c7
   (first | rw [c7b0] | (simp only [i64_w, i32_w]; rw [c7b0]) | skip)
   obtain rfl := sj H
   go_wp2
   go_ret
   exact ⟨er, Q1⟩
 rw [if_neg c7] at H
 have c7b0 : decide (t138 < 0) = false := decide_eq_false c7
 clear c7
 (first | rw [c7b0] | (simp only [i64_w, i32_w]; rw [c7b0]) | skip)
 obtain rfl := sj H
 go_wp2
 go_ret
 exact ⟨er, Q1⟩

/-! ### laws_heldNode: function 24 -/
def laws_heldNode.f (k : Nat) (a0_0 : Int) (a0_1 : Int) (a0_2 : Int) (a0_3 : Int) (a0_4 : Int) (a0_5 : Int) (a0_6 : Int) (l0_7 : List (S85)) (l0_8 : List Int) (l0_9 : List Int) (a1 : Int) : Option (Int) := (laws_heldRLog.f k a0_5 a0_6 l0_7 a1).bind fun t140 => (if t140 < 0 then (some (-1)) else ((laws_heldIntS.f k l0_8 t140).bind fun t141 => (if t141 < 0 then (some (-1)) else ((laws_heldIntS.f k l0_9 t141).bind fun t142 => (if t142 < 0 then (some (-1)) else (some t142))))))
theorem laws_heldNode.mono : ∀ a0 a1 a2 a3 a4 a5 a6 a7 a8 a9 a10 k, LeO (laws_heldNode.f k a0 a1 a2 a3 a4 a5 a6 a7 a8 a9 a10) (laws_heldNode.f (k + 1) a0 a1 a2 a3 a4 a5 a6 a7 a8 a9 a10) := by
 intro a0 a1 a2 a3 a4 a5 a6 a7 a8 a9 a10 k
 unfold laws_heldNode.f
 repeat' first
     | (with_reducible exact laws_heldIntS.mono _ _ _)
     | (with_reducible exact laws_heldRLog.mono _ _ _ _ _)
     | (with_reducible exact LeO.refl _)
     | (with_reducible exact LeO.none _)
     | (with_reducible refine LeO.ite ?_ ?_)
     | (with_reducible refine LeO.bind ?_ (fun _ => ?_))
     | exact laws_heldIntS.mono _ _ _
     | exact laws_heldRLog.mono _ _ _ _ _
     | exact LeO.none _
     | refine LeO.ite ?_ ?_
     | refine LeO.bind ?_ (fun _ => ?_)
set_option maxHeartbeats 8000000 in
set_option maxRecDepth 100000 in
theorem laws_heldNode.calls (k : Nat) (a0_0 : Int) (a0_1 : Int) (a0_2 : Int) (a0_3 : Int) (a0_4 : Int) (a0_5 : Int) (a0_6 : Int) (A0_7 : Option Addr) (c0_7 : Nat) (l0_7 : List (S85)) (A0_8 : Option Addr) (c0_8 : Nat) (l0_8 : List Int) (A0_9 : Option Addr) (c0_9 : Nat) (l0_9 : List Int) (a1 : Int) (r : Int) (w : World) (hr0_7 : Kd.C k85 w A0_7 l0_7.length l0_7) (hc0_7 : l0_7.length ≤ c0_7) (hr0_8 : Kd.C (Kd.int .i64) w A0_8 l0_8.length l0_8) (hc0_8 : l0_8.length ≤ c0_8) (hr0_9 : Kd.C (Kd.int .i64) w A0_9 l0_9.length l0_9) (hc0_9 : l0_9.length ≤ c0_9) (h : laws_heldNode.f k a0_0 a0_1 a0_2 a0_3 a0_4 a0_5 a0_6 l0_7 l0_8 l0_9 a1 = some r) :
   Calls Try.prog 24 #[.agg #[.int .i64 a0_0, .int .i64 a0_1, .int .i64 a0_2, .int .i64 a0_3, .int .i64 a0_4, .int .i64 a0_5, .int .i64 a0_6, .slice A0_7 l0_7.length c0_7, .slice A0_8 l0_8.length c0_8, .slice A0_9 l0_9.length c0_9], .int .i64 a1] w fun e w' => e = .returned (.int .i64 r) ∧ Below w.heap.size w w' := by
 have hu37 := Try.underlying37
 have hu34 := Try.underlying34
 have HR0_7 := am hr0_7
 have HC0_7 := am hc0_7
 clear hr0_7 hc0_7
 have HR0_8 := am hr0_8
 have HC0_8 := am hc0_8
 clear hr0_8 hc0_8
 have HR0_9 := am hr0_9
 have HC0_9 := am hc0_9
 clear hr0_9 hc0_9
 have HB := am (Below.refl w.heap.size w)
 have H : ((laws_heldRLog.f k a0_5 a0_6 l0_7 a1).bind fun t140 => (if t140 < 0 then (some (-1)) else ((laws_heldIntS.f k l0_8 t140).bind fun t141 => (if t141 < 0 then (some (-1)) else ((laws_heldIntS.f k l0_9 t141).bind fun t142 => (if t142 < 0 then (some (-1)) else (some t142))))))) = some r := h
 clear h
 replace H := Option.bind_eq_some_iff.mp H
 obtain ⟨t140, A30, H⟩ := H
 have A3 := am A30
 clear A30
 have H9 := am H
 clear H
 go_enter Try.func24, Try.ntmps24
 go_upto_if 10 with (first | ((with_reducible refine gate_dst (N := 2) rfl ?_); refine box_event ?hg (N := 2) ?hd (cs := #[.int .i64 a0_0, .int .i64 a0_1, .int .i64 a0_2, .int .i64 a0_3, .int .i64 a0_4, .int .i64 a0_5, .int .i64 a0_6, .slice A0_7 l0_7.length c0_7, .slice A0_8 l0_8.length c0_8, .slice A0_9 l0_9.length c0_9]) (t := 37) ?hr ?_; (case hd => rfl); (case hg => rfl); (case hr => first | (go_simp; done) | (go_simp; rfl)); intro gb139 hg w4 hbox hb; have BK139 := am (hbox); have GW139 := am ((by rw [hg]; exact (below_size Q1) : w.heap.size ≤ gb139)); have GE139 := am ((by rw [hg]; exact (below_size Q1) : w.heap.size ≤ gb139)); replace HB := am (below_step Q1 hb); clear hb hbox hg; obtain ⟨hcz5_0, hcz5_1, hcz5_2, hcz5_3, hcz5_4, hcz5_5, hcz5_6, hcz5_7, hcz5_8, hcz5_9⟩ := bc10 w4 BK139.out) | ((with_reducible refine gate_callee (f := 69) rfl ?_); refine goesL_ (some 8) rfl rfl Try.func69 kr rfl #[.agg #[.int .i64 a0_5, .int .i64 a0_6, .slice A0_7 l0_7.length c0_7], .int .i64 a1] rfl Q3 ?_; (with_reducible refine (laws_heldRLog.calls k a0_5 a0_6 _ _ l0_7 a1 t140 _ ?side1 ?side2 A3.out).mono ?_); (case side1 => exact (by repeat (first | exact (Kd.C_below HR0_7.out HB.out) | (with_reducible refine Kd.C_alloc ?_ _) | (with_reducible refine Kd.C_drewN ?_ _) | (with_reducible refine Kd.C_drew ?_)))); (case side2 => exact HC0_7.out); rintro e w6 ⟨rfl, hb⟩; refine ⟨_, rfl, ?_⟩; replace BK139 := am (blk_below (g := gb139) (o := .cells #[.int .i64 a0_0, .int .i64 a0_1, .int .i64 a0_2, .int .i64 a0_3, .int .i64 a0_4, .int .i64 a0_5, .int .i64 a0_6, .slice A0_7 l0_7.length c0_7, .slice A0_8 l0_8.length c0_8, .slice A0_9 l0_9.length c0_9] 37 (0, 0)) (by (with_reducible repeat (first | refine blk_drewN ?_ _ | refine blk_drew ?_ | refine blk_alloc ?_ _)); exact BK139.out) hb); replace HB := am (below_step Q1 hb); (try clear hb); (try clear hb2); (try clear hk); (try clear hi)))
 have H := H9.out
 clear H9
 by_cases c7 : t140 < 0
 · rw [if_pos c7] at H
   have c7b0 : decide (t140 < 0) = true := decide_eq_true c7
   clear c7
   (first | rw [c7b0] | (simp only [i64_w, i32_w]; rw [c7b0]) | skip)
   obtain rfl := sj H
   go_wp2
   go_ret
   exact ⟨er, Q1⟩
 rw [if_neg c7] at H
 have c7b0 : decide (t140 < 0) = false := decide_eq_false c7
 clear c7
 (first | rw [c7b0] | (simp only [i64_w, i32_w]; rw [c7b0]) | skip)
 replace H := Option.bind_eq_some_iff.mp H
 obtain ⟨t141, A80, H⟩ := H
 have A8 := am A80
 clear A80
 have H9 := am H
 clear H
 obtain ⟨hcz9_0, hcz9_1, hcz9_2, hcz9_3, hcz9_4, hcz9_5, hcz9_6, hcz9_7, hcz9_8, hcz9_9⟩ := bc10 w6 BK139.out
 go_upto_if 16 with (first | ((with_reducible refine gate_callee (f := 55) rfl ?_); refine goesL_ (some 14) rfl rfl Try.func55 kr rfl #[.slice A0_8 l0_8.length c0_8, .int .i64 t140] rfl Q3 ?_; (with_reducible refine (laws_heldIntS.calls k _ _ l0_8 t140 t141 _ ?side1 ?side2 A8.out).mono ?_); (case side1 => exact (by repeat (first | exact (Kd.C_below HR0_8.out HB.out) | (with_reducible refine Kd.C_alloc ?_ _) | (with_reducible refine Kd.C_drewN ?_ _) | (with_reducible refine Kd.C_drew ?_)))); (case side2 => exact HC0_8.out); rintro e w' ⟨rfl, ⟨nd, rfl⟩⟩; refine ⟨_, rfl, ?_⟩))
 have H := H9.out
 clear H9
 by_cases c10 : t141 < 0
 · rw [if_pos c10] at H
   have c10b0 : decide (t141 < 0) = true := decide_eq_true c10
   clear c10
   (first | rw [c10b0] | (simp only [i64_w, i32_w]; rw [c10b0]) | skip)
   obtain rfl := sj H
   go_wp2
   go_ret
   exact ⟨er, Q1⟩
 rw [if_neg c10] at H
 have c10b0 : decide (t141 < 0) = false := decide_eq_false c10
 clear c10
 (first | rw [c10b0] | (simp only [i64_w, i32_w]; rw [c10b0]) | skip)
 replace H := Option.bind_eq_some_iff.mp H
 obtain ⟨t142, A110, H⟩ := H
 replace H : (if t142 < 0 then (some (-1)) else (some t142)) = some r := H
 have A11 := am A110
 clear A110
 have H9 := am H
 clear H
 obtain ⟨hcz12_0, hcz12_1, hcz12_2, hcz12_3, hcz12_4, hcz12_5, hcz12_6, hcz12_7, hcz12_8, hcz12_9⟩ := bc10 w6 BK139.out
 go_upto_if 22 with (first | ((with_reducible refine gate_callee (f := 55) rfl ?_); refine goesL_ (some 20) rfl rfl Try.func55 kr rfl #[.slice A0_9 l0_9.length c0_9, .int .i64 t141] rfl Q3 ?_; (with_reducible refine (laws_heldIntS.calls k _ _ l0_9 t141 t142 _ ?side1 ?side2 A11.out).mono ?_); (case side1 => exact (by repeat (first | exact (Kd.C_below HR0_9.out HB.out) | (with_reducible refine Kd.C_alloc ?_ _) | (with_reducible refine Kd.C_drewN ?_ _) | (with_reducible refine Kd.C_drew ?_)))); (case side2 => exact HC0_9.out); rintro e w' ⟨rfl, ⟨nd, rfl⟩⟩; refine ⟨_, rfl, ?_⟩))
 have H := H9.out
 clear H9
 by_cases c13 : t142 < 0
 · rw [if_pos c13] at H
   have c13b0 : decide (t142 < 0) = true := decide_eq_true c13
   clear c13
   (first | rw [c13b0] | (simp only [i64_w, i32_w]; rw [c13b0]) | skip)
   obtain rfl := sj H
   go_wp2
   go_ret
   exact ⟨er, Q1⟩
 rw [if_neg c13] at H
 have c13b0 : decide (t142 < 0) = false := decide_eq_false c13
 clear c13
 (first | rw [c13b0] | (simp only [i64_w, i32_w]; rw [c13b0]) | skip)
 obtain rfl := sj H
 go_wp2
 go_ret
 exact ⟨er, Q1⟩

/-! ### laws_szEntry: function 107 -/
def laws_szEntry.f (a0_0 : Int) (a0_1 : ByteArray) (a1 : Int) : Option (Int) := if (wrap64 (a1 - (a0_1.size : Int))) < 0 then (some (-1)) else (some (wrap64 (a1 - (a0_1.size : Int))))
set_option maxHeartbeats 8000000 in
set_option maxRecDepth 100000 in
theorem laws_szEntry.calls (a0_0 : Int) (a0_1 : ByteArray) (a1 : Int) (r : Int) (w : World) (h : laws_szEntry.f a0_0 a0_1 a1 = some r) :
   Calls Try.prog 107 #[.agg #[.int .i64 a0_0, .string a0_1], .int .i64 a1] w fun e w' => e = .returned (.int .i64 r) ∧ Below w.heap.size w w' := by
 have hu112 := Try.underlying112
 have HB := am (Below.refl w.heap.size w)
 have H : (if (wrap64 (a1 - (a0_1.size : Int))) < 0 then (some (-1)) else (some (wrap64 (a1 - (a0_1.size : Int))))) = some r := h
 clear h
 have H9 := am H
 clear H
 go_enter Try.func107, Try.ntmps107
 go_upto_if 11 with (first | ((with_reducible refine gate_dst (N := 2) rfl ?_); refine box_event ?hg (N := 2) ?hd (cs := #[.int .i64 a0_0, .string a0_1]) (t := 112) ?hr ?_; (case hd => rfl); (case hg => rfl); (case hr => first | (go_simp; done) | (go_simp; rfl)); intro gb143 hg w3 hbox hb; have BK143 := am (hbox); have GW143 := am ((by rw [hg]; exact (below_size Q1) : w.heap.size ≤ gb143)); have GE143 := am ((by rw [hg]; exact (below_size Q1) : w.heap.size ≤ gb143)); replace HB := am (below_step Q1 hb); clear hb hbox hg; obtain ⟨hcz4_0, hcz4_1, hfz4_0, hfz4_1⟩ := bc2f w3 BK143.out))
 have H := H9.out
 clear H9
 by_cases c5 : (wrap64 (a1 - (a0_1.size : Int))) < 0
 · rw [if_pos c5] at H
   have c5b0 : decide ((wrap64 (a1 - (a0_1.size : Int))) < 0) = true := decide_eq_true c5
   clear c5
   (first | rw [c5b0] | (simp only [i64_w, i32_w]; rw [c5b0]) | skip)
   obtain rfl := sj H
   go_wp2
   go_ret
   exact ⟨er, Q1⟩
 rw [if_neg c5] at H
 have c5b0 : decide ((wrap64 (a1 - (a0_1.size : Int))) < 0) = false := decide_eq_false c5
 clear c5
 (first | rw [c5b0] | (simp only [i64_w, i32_w]; rw [c5b0]) | skip)
 obtain rfl := sj H
 go_wp2
 go_ret
 exact ⟨er, Q1⟩

/-! ### laws_szEntryS: function 61 -/
def laws_szEntryS.l0 : Nat → List (S112) → Int → Int → Option (Int)
 | 0, _, _, _ => none
 | k + 1, x0, x1, x5 => if x5 < (x0.length : Int) then (if 0 ≤ x5 then ((laws_szEntry.f ((rd_T112 x0 x5).f0) ((rd_T112 x0 x5).f1) x1).bind fun t145 => (if t145 < 0 then (some (-1)) else (laws_szEntryS.l0 k x0 t145 (wrap64 (x5 + 1))))) else (none)) else (some x1)
def laws_szEntryS.f (k : Nat) (l0 : List (S112)) (a1 : Int) : Option (Int) := if (wrap64 (a1 - (l0.length : Int))) < 0 then (some (-1)) else (laws_szEntryS.l0 k l0 (wrap64 (a1 - (l0.length : Int))) 0)
theorem laws_szEntryS.mono_l : ∀ k, (∀ y0 y1 y2, LeO (laws_szEntryS.l0 k y0 y1 y2) (laws_szEntryS.l0 (k + 1) y0 y1 y2))
 | 0 => fun _ _ _ r h => by simp [laws_szEntryS.l0] at h
 | k + 1 => by
   have ih0 := laws_szEntryS.mono_l k
   · intro y0 y1 y2
     unfold laws_szEntryS.l0
     repeat' first
     | (with_reducible exact ih0 _ _ _)
     | (with_reducible exact LeO.refl _)
     | (with_reducible exact LeO.none _)
     | (with_reducible refine LeO.ite ?_ ?_)
     | (with_reducible refine LeO.bind ?_ (fun _ => ?_))
     | exact ih0 _ _ _
     | exact LeO.none _
     | refine LeO.ite ?_ ?_
     | refine LeO.bind ?_ (fun _ => ?_)
theorem laws_szEntryS.mono : ∀ a0 a1 k, LeO (laws_szEntryS.f k a0 a1) (laws_szEntryS.f (k + 1) a0 a1) := by
 intro a0 a1 k
 have ih0 := laws_szEntryS.mono_l k
 unfold laws_szEntryS.f
 repeat' first
     | (with_reducible exact ih0 _ _ _)
     | (with_reducible exact LeO.refl _)
     | (with_reducible exact LeO.none _)
     | (with_reducible refine LeO.ite ?_ ?_)
     | (with_reducible refine LeO.bind ?_ (fun _ => ?_))
     | exact ih0 _ _ _
     | exact LeO.none _
     | refine LeO.ite ?_ ?_
     | refine LeO.bind ?_ (fun _ => ?_)
set_option maxHeartbeats 8000000 in
set_option maxRecDepth 100000 in
theorem laws_szEntryS.calls (k : Nat) (A0 : Option Addr) (c0 : Nat) (l0 : List (S112)) (a1 : Int) (r : Int) (w : World) (hr0 : Kd.C k112 w A0 l0.length l0) (hc0 : l0.length ≤ c0) (h : laws_szEntryS.f k l0 a1 = some r) :
   Calls Try.prog 61 #[.slice A0 l0.length c0, .int .i64 a1] w fun e w' => e = .returned (.int .i64 r) ∧ Below w.heap.size w w' := by
 have hu112 := Try.underlying112
 have HR0 := am hr0
 have HC0 := am hc0
 clear hr0 hc0
 have HB := am (Below.refl w.heap.size w)
 have H : (if (wrap64 (a1 - (l0.length : Int))) < 0 then (some (-1)) else (laws_szEntryS.l0 k l0 (wrap64 (a1 - (l0.length : Int))) 0)) = some r := h
 clear h
 by_cases c3 : (wrap64 (a1 - (l0.length : Int))) < 0
 · rw [if_pos c3] at H
   have c3b0 : decide ((wrap64 (a1 - (l0.length : Int))) < 0) = true := decide_eq_true c3
   clear c3
   obtain rfl := sj H
   go_enter Try.func61, Try.ntmps61
   go_wp2
   go_ret
   exact ⟨er, Q1⟩
 rw [if_neg c3] at H
 have c3b0 : decide ((wrap64 (a1 - (l0.length : Int))) < 0) = false := decide_eq_false c3
 clear c3
 have H' := am H
 clear H
 go_enter Try.func61, Try.ntmps61
 go_wp2
 go_loopg [1, 5] k (fun kq v1 v5 w' => ∃ (x1_1 : Int) (x5_1 : Int), v1 = .int .i64 x1_1 ∧ v5 = .int .i64 x5_1 ∧ Aside0 (laws_szEntryS.l0 kq l0 x1_1 x5_1 = some r) ∧ Aside0 (kq ≤ k) ∧ Aside0 (Below w.heap.size w w'))
 case atStart => exact ⟨(wrap64 (a1 - (l0.length : Int))), (0), Q2, Q2, H', ⟨Nat.le_refl _⟩, ⟨Q1⟩⟩
 clear H'
 try clear c3
 try clear c3b0
 obtain ⟨x1_1, x5_1, rfl, rfl, HA, HK1, HB⟩ := hrel
 cases gk with
 | zero => exact absurd HA.out (by simp [laws_szEntryS.l0])
 | succ k1 =>
   have H := HA.out
   clear HA
   simp only [laws_szEntryS.l0] at H
   by_cases c4 : x5_1 < (l0.length : Int)
   rotate_left
   · rw [if_neg c4] at H
     have c4b0 : decide (x5_1 < (l0.length : Int)) = false := decide_eq_false c4
     clear c4
     obtain rfl := sj H
     go_wp2
     go_ret
     exact ⟨er, Q1⟩
   rw [if_pos c4] at H
   have c4b0 : decide (x5_1 < (l0.length : Int)) = true := decide_eq_true c4
   clear c4
   by_cases c5 : 0 ≤ x5_1
   rotate_left
   · rw [if_neg c5] at H
     exact absurd H (by simp)
   rw [if_pos c5] at H
   have c5b0 : decide (0 ≤ x5_1) = true := decide_eq_true c5
   clear c5
   replace H := Option.bind_eq_some_iff.mp H
   obtain ⟨t145, A60, H⟩ := H
   replace H : (if t145 < 0 then (some (-1)) else (laws_szEntryS.l0 k1 l0 t145 (wrap64 (x5_1 + 1)))) = some r := H
   have A6 := am A60
   clear A60
   have H9 := am H
   clear H
   have p144 : 0 ≤ (x5_1 : Int) := of_decide_eq_true Q0
   have q144 : x5_1 < (l0.length : Int) := of_decide_eq_true Q0
   obtain ⟨ad144, e144, hx144_0, hx144_1⟩ := at_T112 HR0.out x5_1 p144 q144
   cases e144
   replace hx144_0 := cm HB.out hx144_0
   replace hx144_1 := cm HB.out hx144_1
   replace p144 := eq_true p144
   replace q144 := eq_true q144
   go_upto_if 25 with (first | ((with_reducible refine gate_callee (f := 107) rfl ?_); refine goesL_ (some 23) rfl rfl Try.func107 kr rfl #[.agg #[.int .i64 ((rd_T112 l0 x5_1).f0), .string ((rd_T112 l0 x5_1).f1)], .int .i64 x1_1] rfl Q3 ?_; (with_reducible refine (laws_szEntry.calls ((rd_T112 l0 x5_1).f0) ((rd_T112 l0 x5_1).f1) x1_1 t145 _ A6.out).mono ?_); rintro e w7 ⟨rfl, hb⟩; refine ⟨_, rfl, ?_⟩; replace HB := am (below_step Q1 hb); (try clear hb); (try clear hb2); (try clear hk); (try clear hi)))
   have H := H9.out
   clear H9
   by_cases c8 : t145 < 0
   · rw [if_pos c8] at H
     have c8b0 : decide (t145 < 0) = true := decide_eq_true c8
     clear c8
     (first | rw [c8b0] | (simp only [i64_w, i32_w]; rw [c8b0]) | skip)
     obtain rfl := sj H
     go_wp2
     go_ret
     exact ⟨er, Q1⟩
   rw [if_neg c8] at H
   have c8b0 : decide (t145 < 0) = false := decide_eq_false c8
   clear c8
   (first | rw [c8b0] | (simp only [i64_w, i32_w]; rw [c8b0]) | skip)
   have H' := am H
   clear H
   go_wp2
   go_roundg k1
   case measure => have := HK1.out; omega
   case rel => exact ⟨(t145), (wrap64 (x5_1 + 1)), Q2, Q2, H', ⟨by have := HK1.out; omega⟩, ⟨Q1⟩⟩

/-! ### laws_szRLog: function 70 -/
def laws_szRLog.f (k : Nat) (a0_0 : Int) (a0_1 : Int) (l0_2 : List (S112)) (a1 : Int) : Option (Int) := (laws_szEntryS.f k l0_2 a1).bind fun t147 => (if t147 < 0 then (some (-1)) else (some t147))
theorem laws_szRLog.mono : ∀ a0 a1 a2 a3 k, LeO (laws_szRLog.f k a0 a1 a2 a3) (laws_szRLog.f (k + 1) a0 a1 a2 a3) := by
 intro a0 a1 a2 a3 k
 unfold laws_szRLog.f
 repeat' first
     | (with_reducible exact laws_szEntryS.mono _ _ _)
     | (with_reducible exact LeO.refl _)
     | (with_reducible exact LeO.none _)
     | (with_reducible refine LeO.ite ?_ ?_)
     | (with_reducible refine LeO.bind ?_ (fun _ => ?_))
     | exact laws_szEntryS.mono _ _ _
     | exact LeO.none _
     | refine LeO.ite ?_ ?_
     | refine LeO.bind ?_ (fun _ => ?_)
set_option maxHeartbeats 8000000 in
set_option maxRecDepth 100000 in
theorem laws_szRLog.calls (k : Nat) (a0_0 : Int) (a0_1 : Int) (A0_2 : Option Addr) (c0_2 : Nat) (l0_2 : List (S112)) (a1 : Int) (r : Int) (w : World) (hr0_2 : Kd.C k112 w A0_2 l0_2.length l0_2) (hc0_2 : l0_2.length ≤ c0_2) (h : laws_szRLog.f k a0_0 a0_1 l0_2 a1 = some r) :
   Calls Try.prog 70 #[.agg #[.int .i64 a0_0, .int .i64 a0_1, .slice A0_2 l0_2.length c0_2], .int .i64 a1] w fun e w' => e = .returned (.int .i64 r) ∧ Below w.heap.size w w' := by
 have hu43 := Try.underlying43
 have HR0_2 := am hr0_2
 have HC0_2 := am hc0_2
 clear hr0_2 hc0_2
 have HB := am (Below.refl w.heap.size w)
 have H : ((laws_szEntryS.f k l0_2 a1).bind fun t147 => (if t147 < 0 then (some (-1)) else (some t147))) = some r := h
 clear h
 replace H := Option.bind_eq_some_iff.mp H
 obtain ⟨t147, A30, H⟩ := H
 replace H : (if t147 < 0 then (some (-1)) else (some t147)) = some r := H
 have A3 := am A30
 clear A30
 have H9 := am H
 clear H
 go_enter Try.func70, Try.ntmps70
 go_upto_if 10 with (first | ((with_reducible refine gate_dst (N := 2) rfl ?_); refine box_event ?hg (N := 2) ?hd (cs := #[.int .i64 a0_0, .int .i64 a0_1, .slice A0_2 l0_2.length c0_2]) (t := 43) ?hr ?_; (case hd => rfl); (case hg => rfl); (case hr => first | (go_simp; done) | (go_simp; rfl)); intro gb146 hg w4 hbox hb; have BK146 := am (hbox); have GW146 := am ((by rw [hg]; exact (below_size Q1) : w.heap.size ≤ gb146)); have GE146 := am ((by rw [hg]; exact (below_size Q1) : w.heap.size ≤ gb146)); replace HB := am (below_step Q1 hb); clear hb hbox hg; obtain ⟨hcz5_0, hcz5_1, hcz5_2⟩ := bc3 w4 BK146.out) | ((with_reducible refine gate_callee (f := 61) rfl ?_); refine goesL_ (some 8) rfl rfl Try.func61 kr rfl #[.slice A0_2 l0_2.length c0_2, .int .i64 a1] rfl Q3 ?_; (with_reducible refine (laws_szEntryS.calls k _ _ l0_2 a1 t147 _ ?side1 ?side2 A3.out).mono ?_); (case side1 => exact Q5); (case side2 => exact HC0_2.out); rintro e w6 ⟨rfl, hb⟩; refine ⟨_, rfl, ?_⟩; replace BK146 := am (blk_below (g := gb146) (o := .cells #[.int .i64 a0_0, .int .i64 a0_1, .slice A0_2 l0_2.length c0_2] 43 (0, 0)) (by (with_reducible repeat (first | refine blk_drewN ?_ _ | refine blk_drew ?_ | refine blk_alloc ?_ _)); exact BK146.out) hb); replace HB := am (below_step Q1 hb); (try clear hb); (try clear hb2); (try clear hk); (try clear hi)))
 have H := H9.out
 clear H9
 by_cases c7 : t147 < 0
 · rw [if_pos c7] at H
   have c7b0 : decide (t147 < 0) = true := decide_eq_true c7
   clear c7
   (first | rw [c7b0] | (simp only [i64_w, i32_w]; rw [c7b0]) | skip)
   obtain rfl := sj H
   go_wp2
   go_ret
   exact ⟨er, Q1⟩
 rw [if_neg c7] at H
 have c7b0 : decide (t147 < 0) = false := decide_eq_false c7
 clear c7
 (first | rw [c7b0] | (simp only [i64_w, i32_w]; rw [c7b0]) | skip)
 obtain rfl := sj H
 go_wp2
 go_ret
 exact ⟨er, Q1⟩

/-! ### laws_szIntS: function 71 -/
def laws_szIntS.f (l0 : List Int) (a1 : Int) : Option (Int) := if (wrap64 (a1 - (l0.length : Int))) < 0 then (some (-1)) else (some (wrap64 (a1 - (l0.length : Int))))
set_option maxHeartbeats 8000000 in
set_option maxRecDepth 100000 in
theorem laws_szIntS.calls (A0 : Option Addr) (c0 : Nat) (l0 : List Int) (a1 : Int) (r : Int) (w : World) (hr0 : Kd.C (Kd.int .i64) w A0 l0.length l0) (hc0 : l0.length ≤ c0) (h : laws_szIntS.f l0 a1 = some r) :
   Calls Try.prog 71 #[.slice A0 l0.length c0, .int .i64 a1] w fun e w' => e = .returned (.int .i64 r) ∧ Drawn0 w w' := by
 have HR0 := am hr0
 have HC0 := am hc0
 clear hr0 hc0
 have H : (if (wrap64 (a1 - (l0.length : Int))) < 0 then (some (-1)) else (some (wrap64 (a1 - (l0.length : Int))))) = some r := h
 clear h
 by_cases c3 : (wrap64 (a1 - (l0.length : Int))) < 0
 · rw [if_pos c3] at H
   have c3b0 : decide ((wrap64 (a1 - (l0.length : Int))) < 0) = true := decide_eq_true c3
   clear c3
   obtain rfl := sj H
   go_enter Try.func71, Try.ntmps71
   go_wp2
   go_ret
   exact ⟨by first | rfl | (simp; done) | (simp [*]; done), Q4⟩
 rw [if_neg c3] at H
 have c3b0 : decide ((wrap64 (a1 - (l0.length : Int))) < 0) = false := decide_eq_false c3
 clear c3
 obtain rfl := sj H
 go_enter Try.func71, Try.ntmps71
 go_wp2
 go_ret
 exact ⟨by first | rfl | (simp; done) | (simp [*]; done), Q4⟩

end Go.Proofs.Ytkcadcoohmofcaa.QFnExactPropose
