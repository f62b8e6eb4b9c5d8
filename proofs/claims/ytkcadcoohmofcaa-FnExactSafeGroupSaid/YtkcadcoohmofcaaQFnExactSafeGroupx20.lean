-- Printed by the session's own program wip/prx.py.
import Derived.Test.YtkcadcoohmofcaaSqFnExactSafeGroup
import Derived.Test.YtkcadcoohmofcaaQFnExactSafeGroupx0
import Derived.Test.YtkcadcoohmofcaaQFnExactSafeGroupx17
import Derived.Test.YtkcadcoohmofcaaQFnExactSafeGroupx19
namespace Go.Proofs.Ytkcadcoohmofcaa.QFnExactSafeGroup
open Go.RowKit Go.Proofs.YtkcadcoohmofcaaW.PrintWords Go.Proofs.YtkcadcoohmofcaaW.PrintLast Go.Proofs.YtkcadcoohmofcaaW.PrintMore Go.Proofs.Ytkcadcoohmofcaa.SqFnExactSafeGroup
attribute [local go_sem] max2_int min2_int max_two min_two max_three min_three max_four min_four Go.Proofs.Ytkcadcoohmofcaa.Set.isSome_setCell
set_option linter.unusedVariables false
set_option linter.unusedSimpArgs false

-- squeezed
theorem u20_1 {P : Prop} (h : P := by (with_reducible repeat (first | refine blk_drewN ?_ _ | refine blk_drew ?_ | refine blk_alloc ?_ _)); exact BK333.out) : P := h
/-! ### impl_Msg: function 120 -/
def impl_Msg.o (k : Nat) (n : Int) : List S29 → Option Bool
 | [] => some false
 | y :: ys => (impl_isMsg.f k y.f0 y.f1 y.f2 y.f3 y.f4 y.f5 y.f6 y.f7 y.f8 n).bind fun t => if t = true then impl_Msg.o k n ys else some true
def impl_Msg.f (k : Nat) (l0 : List S29) (a1_0 : Int) (l1_1 : List (S37)) (l1_2 : List (S29)) : Option Bool := impl_Msg.o k a1_0 l0
theorem impl_Msg.mono : ∀ l0 a1_0 l1_1 l1_2 k, LeO (impl_Msg.f k l0 a1_0 l1_1 l1_2) (impl_Msg.f (k + 1) l0 a1_0 l1_1 l1_2) := by
 intro l0 a1_0 l1_1 l1_2 k
 unfold impl_Msg.f
 induction l0 with
 | nil => exact fun r h => h
 | cons y ys ih =>
   unfold impl_Msg.o
   refine LeO.bind (impl_isMsg.mono _ _ _ _ _ _ _ _ _ _ _) (fun t => ?_)
   refine LeO.ite ?_ ?_
   · exact ih
   exact fun r h => h
set_option maxHeartbeats 1600000 in
set_option maxRecDepth 100000 in
theorem impl_Msg.lit (k : Nat) (b : Nat) (a1_0 : Int) (y : S29) (A8 : Option Addr) (c8 : Nat) (t : Bool) (w : World) (hid : w.cell? ⟨b, 0, none⟩ = some (.int .i64 a1_0)) (hr : Kd.C k85 w A8 y.f8.length y.f8) (hc : y.f8.length ≤ c8) (h : impl_isMsg.f k y.f0 y.f1 y.f2 y.f3 y.f4 y.f5 y.f6 y.f7 y.f8 a1_0 = some t) :
   Calls Try.prog 121 #[.agg #[.int .i64 y.f0, .int .i64 y.f1, .int .i64 y.f2, .int .i64 y.f3, .int .i64 y.f4, .int .i64 y.f5, .int .i64 y.f6, .bool y.f7, .slice A8 y.f8.length c8], .pointer (some ⟨b, 0, none⟩)] w fun e w' => e = .returned (.bool (!t)) ∧ Below w.heap.size w w' := by
 have hu := Try.underlying29
 have hu2 := Try.underlying53
 have hlt := World.block_lt_of_cell? w _ hid
 have HE := am h
 have HR := am hr
 have HC := am hc
 have hid2 : ∀ o, (w.alloc o).cell? ⟨b, 0, none⟩ = some (.int .i64 a1_0) := fun o => ((below_alloc (Below.refl w.heap.size w) o).cell (p := ⟨b, 0, none⟩) hlt).trans hid
 clear h hr hc hid hlt
 go_enter Try.func121, Try.ntmps121
 go_wp2_with (go_at_call 66; refine (impl_isMsg.calls k _ _ _ _ _ _ _ _ _ _ _ _ t _ ?hr ?hc HE.out).mono ?_; (case hr => exact Kd.C_below HR.out (below_alloc (Below.refl _ _) _)); (case hc => exact HC.out); rintro e w' ⟨rfl, hb'⟩; have HB := am (below_step (below_alloc (Below.refl w.heap.size w) _) hb'); clear hb')
 go_ret
 exact ⟨by first | rfl | simp, HB.out⟩
set_option maxHeartbeats 3200000 in
set_option maxRecDepth 100000 in
theorem impl_Msg.idx (k : Nat) (b : Nat) (a1_0 : Int) (A0 : Option Addr) (c0 : Nat) (l0 : List S29) (r : Bool) (w : World) (hr0 : Kd.C k29 w A0 l0.length l0) (hc0 : l0.length ≤ c0) (hid : w.cell? ⟨b, 0, none⟩ = some (.int .i64 a1_0)) (h : impl_Msg.o k a1_0 l0 = some r) :
   Calls Try.prog 124 #[.slice A0 l0.length c0, .func (.func 121) #[] #[.pointer (some ⟨b, 0, none⟩)]] w fun e w' => ∃ j : Int, e = .returned (.int .i64 j) ∧ decide (j ≥ 0) = r ∧ Below w.heap.size w w' := by
 have hu := Try.underlying29
 have hn : l0.length ≤ 9223372036854775807 := hr0.2.1
 have HR := am hr0
 have HI := am hid
 have H0 := am h
 clear hr0 hid h
 go_enter Try.func124, Try.ntmps124
 go_wp2
 go_loopg [5, 8] l0.length (fun gg _ s8 wr => ∃ kk : Int, 0 ≤ kk ∧ kk ≤ l0.length ∧ l0.length - kk.toNat ≤ gg ∧ s8 = .int .i64 kk ∧ Aside0 (Below w.heap.size w wr) ∧ Aside0 (impl_Msg.o k a1_0 (l0.drop kk.toNat) = some r))
 case atStart => exact ⟨0, by omega, by omega, by omega, rfl, ⟨Below.refl _ w⟩, ⟨H0.out⟩⟩
 obtain ⟨kk, h0, hk, hg, rfl, BW, HA⟩ := hrel
 by_cases hlt : kk < (l0.length : Int)
 rotate_left
 · have h1 := HA.out
   rw [List.drop_of_length_le (by omega)] at h1
   have HQ := am (Option.some.inj h1)
   clear h1 HA
   go_wp2
   go_ret
   exact ⟨-1, rfl, by rw [← HQ.out]; rfl, BW.out⟩
 have hd : l0.drop kk.toNat = rd_T29 l0 kk :: l0.drop (kk + 1).toNat := by
   rw [List.drop_eq_getElem_cons (show kk.toNat < l0.length by omega), show (kk + 1).toNat = kk.toNat + 1 by omega]
   unfold rd_T29
   rw [List.getD_eq_getElem?_getD, List.getElem?_eq_getElem (show kk.toNat < l0.length by omega)]
   rfl
 have h1 := HA.out
 rw [hd] at h1
 unfold impl_Msg.o at h1
 obtain ⟨t, ht, h2⟩ := Option.bind_eq_some_iff.mp h1
 clear h1 hd HA
 obtain ⟨ad, A8, c8, e, hx0, hx1, hx2, hx3, hx4, hx5, hx6, hx7, hx8, hl8, hi8⟩ := at_T29 HR.out kk h0 hlt
 cases e
 replace hx0 := (BW.out.cell (World.block_lt_of_cell? w _ hx0)).trans hx0
 replace hx1 := (BW.out.cell (World.block_lt_of_cell? w _ hx1)).trans hx1
 replace hx2 := (BW.out.cell (World.block_lt_of_cell? w _ hx2)).trans hx2
 replace hx3 := (BW.out.cell (World.block_lt_of_cell? w _ hx3)).trans hx3
 replace hx4 := (BW.out.cell (World.block_lt_of_cell? w _ hx4)).trans hx4
 replace hx5 := (BW.out.cell (World.block_lt_of_cell? w _ hx5)).trans hx5
 replace hx6 := (BW.out.cell (World.block_lt_of_cell? w _ hx6)).trans hx6
 replace hx7 := (BW.out.cell (World.block_lt_of_cell? w _ hx7)).trans hx7
 replace hx8 := (BW.out.cell (World.block_lt_of_cell? w _ hx8)).trans hx8
 have HL := am (impl_Msg.lit k b a1_0 (rd_T29 l0 kk) A8 c8 t wr ((BW.out.cell (World.block_lt_of_cell? w _ HI.out)).trans HI.out) (Kd.C_below hi8 BW.out) hl8 ht)
 clear ht hl8 hi8
 cases t with
 | false =>
   rw [if_neg (by simp)] at h2
   have HQ := am (Option.some.inj h2)
   clear h2
   go_wp2_with (go_at_call 121; refine HL.out.mono ?_; rintro e w' ⟨rfl, hb'⟩)
   go_ret
   exact ⟨kk, rfl, (by rw [← HQ.out, decide_eq_true (by omega)]), below_step BW.out hb'⟩
 | true =>
   rw [if_pos rfl] at h2
   have HQ := am h2
   clear h2
   go_wp2_with (go_at_call 121; refine HL.out.mono ?_; rintro e w' ⟨rfl, hb'⟩)
   go_roundg (l0.length - (kk + 1).toNat)
   case measure => omega
   case rel => exact ⟨kk + 1, by omega, by omega, by omega, by go_num, ⟨below_step BW.out hb'⟩, ⟨HQ.out⟩⟩
set_option maxHeartbeats 400000 in
theorem impl_Msg.calls (k : Nat) (A0 : Option Addr) (c0 : Nat) (l0 : List S29) (a1_0 : Int) (A1_1 : Option Addr) (c1_1 : Nat) (l1_1 : List (S37)) (A1_2 : Option Addr) (c1_2 : Nat) (l1_2 : List (S29)) (r : Bool) (w : World) {b : Nat} (hr0 : Kd.C k29 w A0 l0.length l0) (hc0 : l0.length ≤ c0) (hr1_1 : Kd.C k37 w A1_1 l1_1.length l1_1) (hc1_1 : l1_1.length ≤ c1_1) (hr1_2 : Kd.C k29 w A1_2 l1_2.length l1_2) (hc1_2 : l1_2.length ≤ c1_2) (hb : w.heap[b]? = some (.cells #[.int .i64 a1_0, .slice A1_1 l1_1.length c1_1, .slice A1_2 l1_2.length c1_2] 53 (0, 0))) (h : impl_Msg.f k l0 a1_0 l1_1 l1_2 = some r) :
   Calls Try.prog 120 #[.slice A0 l0.length c0, .func (.func 121) #[] #[.pointer (some ⟨b, 0, none⟩)]] w fun e w' => e = .returned (.bool r) ∧ Below w.heap.size w w' := by
 have HI := am (impl_Msg.idx k b a1_0 A0 c0 l0 r w hr0 hc0 ((blk_cell hb 0).trans rfl) h)
 clear hr0 hc0 hb h hr1_1 hc1_1 hr1_2 hc1_2
 go_enter Try.func120, Try.ntmps120
 go_wp2_with (go_at_call 124; refine HI.out.mono ?_; rintro e w' ⟨j, rfl, hj, hb'⟩; have HJ := am hj; clear hj)
 go_ret
 exact ⟨by rw [← HJ.out]; rfl, hb'⟩


/-! ### impl_isGroup: function 98 -/
mutual
def impl_isGroup.j0 : Nat → Bool → Int → List (S37) → List (S29) → Option (Bool)
 | 0, _, _, _, _ => none
 | k + 1, x26, x334000, x334001, x334002 => if x26 = true then (some false) else (impl_isGroup.l0 k x334001 (x334001.length : Int) 0 x334000 x334001 x334002)
def impl_isGroup.l0 : Nat → List (S37) → Int → Int → Int → List (S37) → List (S29) → Option (Bool)
 | 0, _, _, _, _, _, _ => none
 | k + 1, x28, x29, x30, x334000, x334001, x334002 => if x30 < x29 then (if 0 ≤ x30 then (if x30 < (x28.length : Int) then (if ((rd_T37 x28 x30).f0) = x30 then ((impl_isNode.f k ((rd_T37 x28 x30).f0) ((rd_T37 x28 x30).f1) ((rd_T37 x28 x30).f2) ((rd_T37 x28 x30).f3) ((rd_T37 x28 x30).f4) ((rd_T37 x28 x30).f5.f0) ((rd_T37 x28 x30).f5.f1) ((rd_T37 x28 x30).f5.f2) ((rd_T37 x28 x30).f6) ((rd_T37 x28 x30).f7) x334000).bind fun t336 => (if t336 = true then (impl_isGroup.l0 k x28 x29 (wrap64 (x30 + 1)) x334000 x334001 x334002) else (some false))) else (some false)) else (none)) else (none)) else ((impl_Msg.f k x334002 x334000 x334001 x334002).bind fun t337 => (some (!t337)))
end
def impl_isGroup.f (k : Nat) (a0_0 : Int) (l0_1 : List (S37)) (l0_2 : List (S29)) : Option (Bool) := if a0_0 < 1 then (impl_isGroup.j0 k true a0_0 l0_1 l0_2) else (if a0_0 > 5 then (impl_isGroup.j0 k true a0_0 l0_1 l0_2) else (if (l0_1.length : Int) = a0_0 then (impl_isGroup.j0 k (decide ((l0_2.length : Int) > 60)) a0_0 l0_1 l0_2) else (impl_isGroup.j0 k true a0_0 l0_1 l0_2)))
theorem impl_isGroup.mono_l : ∀ k, (∀ y0 y1 y2 y3, LeO (impl_isGroup.j0 k y0 y1 y2 y3) (impl_isGroup.j0 (k + 1) y0 y1 y2 y3)) ∧ (∀ y0 y1 y2 y3 y4 y5, LeO (impl_isGroup.l0 k y0 y1 y2 y3 y4 y5) (impl_isGroup.l0 (k + 1) y0 y1 y2 y3 y4 y5))
 | 0 => ⟨fun _ _ _ _ r h => by simp [impl_isGroup.j0] at h, fun _ _ _ _ _ _ r h => by simp [impl_isGroup.l0] at h⟩
 | k + 1 => by
   obtain ⟨ih0, ih1⟩ := impl_isGroup.mono_l k
   refine ⟨?_, ?_⟩ <;> intros <;> (first | unfold impl_isGroup.j0 | unfold impl_isGroup.l0) <;> repeat' first
   | (with_reducible exact ih0 _ _ _ _)
   | (with_reducible exact ih1 _ _ _ _ _ _)
   | (with_reducible exact impl_Msg.mono _ _ _ _ _)
   | (with_reducible exact impl_isNode.mono _ _ _ _ _ _ _ _ _ _ _ _)
   | (with_reducible exact LeO.refl _)
   | (with_reducible exact LeO.none _)
   | (with_reducible refine LeO.ite ?_ ?_)
   | (with_reducible refine LeO.bind ?_ (fun _ => ?_))
   | exact ih0 _ _ _ _
   | exact ih1 _ _ _ _ _ _
   | exact impl_Msg.mono _ _ _ _ _
   | exact impl_isNode.mono _ _ _ _ _ _ _ _ _ _ _ _
   | exact LeO.none _
   | refine LeO.ite ?_ ?_
   | refine LeO.bind ?_ (fun _ => ?_)
theorem impl_isGroup.mono : ∀ a0 a1 a2 k, LeO (impl_isGroup.f k a0 a1 a2) (impl_isGroup.f (k + 1) a0 a1 a2) := by
 intro a0 a1 a2 k
 obtain ⟨ih0, ih1⟩ := impl_isGroup.mono_l k
 unfold impl_isGroup.f
 repeat' first
     | (with_reducible exact ih0 _ _ _ _)
     | (with_reducible exact ih1 _ _ _ _ _ _)
     | (with_reducible exact impl_Msg.mono _ _ _ _ _)
     | (with_reducible exact impl_isNode.mono _ _ _ _ _ _ _ _ _ _ _ _)
     | (with_reducible exact LeO.refl _)
     | (with_reducible exact LeO.none _)
     | (with_reducible refine LeO.ite ?_ ?_)
     | (with_reducible refine LeO.bind ?_ (fun _ => ?_))
     | exact ih0 _ _ _ _
     | exact ih1 _ _ _ _ _ _
     | exact impl_Msg.mono _ _ _ _ _
     | exact impl_isNode.mono _ _ _ _ _ _ _ _ _ _ _ _
     | exact LeO.none _
     | refine LeO.ite ?_ ?_
     | refine LeO.bind ?_ (fun _ => ?_)
set_option maxHeartbeats 8000000 in
set_option maxRecDepth 100000 in
theorem impl_isGroup.calls (k : Nat) (a0_0 : Int) (A0_1 : Option Addr) (c0_1 : Nat) (l0_1 : List (S37)) (A0_2 : Option Addr) (c0_2 : Nat) (l0_2 : List (S29)) (r : Bool) (w : World) (hr0_1 : Kd.C k37 w A0_1 l0_1.length l0_1) (hc0_1 : l0_1.length ≤ c0_1) (hr0_2 : Kd.C k29 w A0_2 l0_2.length l0_2) (hc0_2 : l0_2.length ≤ c0_2) (h : impl_isGroup.f k a0_0 l0_1 l0_2 = some r) :
   Calls Try.prog 98 #[.agg #[.int .i64 a0_0, .slice A0_1 l0_1.length c0_1, .slice A0_2 l0_2.length c0_2]] w fun e w' => e = .returned (.bool r) ∧ Below w.heap.size w w' := by
 have hu53 := Try.underlying53
 have hu37 := Try.underlying37
 have HR0_1 := am hr0_1
 have HC0_1 := am hc0_1
 clear hr0_1 hc0_1
 have HR0_2 := am hr0_2
 have HC0_2 := am hc0_2
 clear hr0_2 hc0_2
 have HB := am (Below.refl w.heap.size w)
 have H : (if a0_0 < 1 then (impl_isGroup.j0 k true a0_0 l0_1 l0_2) else (if a0_0 > 5 then (impl_isGroup.j0 k true a0_0 l0_1 l0_2) else (if (l0_1.length : Int) = a0_0 then (impl_isGroup.j0 k (decide ((l0_2.length : Int) > 60)) a0_0 l0_1 l0_2) else (impl_isGroup.j0 k true a0_0 l0_1 l0_2)))) = some r := h
 clear h
 have HC2 := am H
 clear H
 go_enter Try.func98, Try.ntmps98
 go_upto_region 1 with (first | ((with_reducible refine gate_dst (N := 1) rfl ?_); (try (refine gate_guard (by rfl) ?_; dsimp only)); refine box_event ?hg (N := 1) ?hd (cs := #[.int .i64 a0_0, .slice A0_1 l0_1.length c0_1, .slice A0_2 l0_2.length c0_2]) (t := 53) ?hr ?_; (case hd => rfl); (case hg => rfl); (case hr => first | (go_simp; done) | (go_simp; rfl)); intro gb333 hg w3 hbox hb; have BK333 := am (hbox); have GW333 := am ((by rw [hg]; exact (below_size q2) : w.heap.size ≤ gb333)); have GE333 := am ((by rw [hg]; exact (below_size q2) : w.heap.size ≤ gb333)); replace HB := am (below_step q2 hb); clear hb hbox hg))
 (try simp only [Act.put, la, lb, lc])
 go_cut [26] (fun v26 wc => ∃ (kq : Nat) (x26_1 : Bool), v26 = .bool x26_1 ∧ Aside0 (impl_isGroup.j0 kq x26_1 a0_0 l0_1 l0_2 = some r) ∧ Aside0 (kq ≤ k) ∧ Aside0 (wc.heap[gb333]? = some (.cells #[.int .i64 a0_0, (.slice A0_1 l0_1.length c0_1), (.slice A0_2 l0_2.length c0_2)] 53 (0, 0))) ∧ Aside0 (Below w.heap.size w wc))
 case first =>
   have H := HC2.out
   clear HC2
   by_cases c4 : a0_0 < 1
   · rw [if_pos c4] at H
     have c4b0 : decide (a0_0 < 1) = true := decide_eq_true c4
     clear c4
     (first | rw [c4b0] | (simp only [i64_w, i32_w]; rw [c4b0]) | skip)
     have H' := am H
     clear H
     obtain ⟨hcz5_0, hcz5_1, hcz5_2, hfz5_0, hfz5_1, hfz5_2⟩ := bc3f w3 BK333.out
     go_wp2
     go_meet
     case rel => exact ⟨_, (true), q3, H', ⟨by first | omega | exact Nat.le_refl _⟩, ⟨u20_1⟩, ⟨q2⟩⟩
   rw [if_neg c4] at H
   have c4b0 : decide (a0_0 < 1) = false := decide_eq_false c4
   clear c4
   (first | rw [c4b0] | (simp only [i64_w, i32_w]; rw [c4b0]) | skip)
   by_cases c6 : a0_0 > 5
   · rw [if_pos c6] at H
     have c6b0 : decide (5 < a0_0) = true := decide_eq_true c6
     clear c6
     have H' := am H
     clear H
     obtain ⟨hcz7_0, hcz7_1, hcz7_2, hfz7_0, hfz7_1, hfz7_2⟩ := bc3f w3 BK333.out
     go_wp2
     go_meet
     case rel => exact ⟨_, (true), q3, H', ⟨by first | omega | exact Nat.le_refl _⟩, ⟨u20_1⟩, ⟨q2⟩⟩
   rw [if_neg c6] at H
   have c6b0 : decide (5 < a0_0) = false := decide_eq_false c6
   clear c6
   by_cases c8 : (l0_1.length : Int) = a0_0
   rotate_left
   · rw [if_neg c8] at H
     have c8b0 : ((l0_1.length : Int) == a0_0) = false := beq_eq_false_iff_ne.mpr c8
     have c8b1 : ((l0_1.length : Int) != a0_0) = true := bne_iff_ne.mpr c8
     have H' := am H
     clear H
     obtain ⟨hcz10_0, hcz10_1, hcz10_2, hfz10_0, hfz10_1, hfz10_2⟩ := bc3f w3 BK333.out
     go_wp2
     go_meet
     case rel => exact ⟨_, (true), q3, H', ⟨by first | omega | exact Nat.le_refl _⟩, ⟨u20_1⟩, ⟨q2⟩⟩
   rw [if_pos c8] at H
   have c8b0 : ((l0_1.length : Int) == a0_0) = true := beq_iff_eq.mpr c8
   have c8b1 : ((l0_1.length : Int) != a0_0) = false := bne_eq_false_iff_eq.mpr c8
   clear c8
   have H' := am H
   clear H
   obtain ⟨hcz9_0, hcz9_1, hcz9_2, hfz9_0, hfz9_1, hfz9_2⟩ := bc3f w3 BK333.out
   go_wp2
   go_meet
   case rel => exact ⟨_, (decide ((l0_2.length : Int) > 60)), q3, H', ⟨by first | omega | exact Nat.le_refl _⟩, ⟨u20_1⟩, ⟨q2⟩⟩
 clear HC2
 obtain ⟨kq, x26_1, rfl, HA, HJ1, BK333, HB⟩ := hcut
 cases kq with
 | zero => exact absurd HA.out (by simp [impl_isGroup.j0])
 | succ kj1 =>
   have H := HA.out
   clear HA
   simp only [impl_isGroup.j0] at H
   by_cases c11 : x26_1 = true
   · subst c11
     rw [if_pos rfl] at H
     obtain rfl := sj H
     go_wp2
     go_ret
     exact ⟨er, q2⟩
   replace c11 := Bool.eq_false_iff.mpr c11
   subst c11
   rw [nf] at H
   have H' := am H
   clear H
   obtain ⟨hcz12_0, hcz12_1, hcz12_2, hfz12_0, hfz12_1, hfz12_2⟩ := bc3f wc BK333.out
   go_wp2
   go_loopg [30] kj1 (fun kq v30 w' => ∃ (x30_2 : Int), v30 = .int .i64 x30_2 ∧ Aside0 (impl_isGroup.l0 kq l0_1 (l0_1.length : Int) x30_2 a0_0 l0_1 l0_2 = some r) ∧ Aside0 (kq ≤ kj1) ∧ Aside0 (w'.heap[gb333]? = some (.cells #[.int .i64 a0_0, (.slice A0_1 l0_1.length c0_1), (.slice A0_2 l0_2.length c0_2)] 53 (0, 0))) ∧ Aside0 (Below w.heap.size w w'))
   case atStart => exact ⟨(0), q3, H', ⟨Nat.le_refl _⟩, ⟨u20_1⟩, ⟨q2⟩⟩
   clear H'
   try clear c11
   try clear hcz12_0
   try clear hcz12_1
   try clear hcz12_2
   try clear hfz12_0
   try clear hfz12_1
   try clear hfz12_2
   obtain ⟨x30_2, rfl, HA, HK2, BK333, HB⟩ := hrel
   cases gk with
   | zero => exact absurd HA.out (by simp [impl_isGroup.l0])
   | succ k2 =>
     have H := HA.out
     clear HA
     simp only [impl_isGroup.l0] at H
     by_cases c13 : x30_2 < (l0_1.length : Int)
     rotate_left
     · rw [if_neg c13] at H
       have c13b0 : decide (x30_2 < (l0_1.length : Int)) = false := decide_eq_false c13
       clear c13
       replace H := Option.bind_eq_some_iff.mp H
       obtain ⟨t337, A270, H⟩ := H
       replace H : (some (!t337)) = some r := H
       have A27 := am A270
       clear A270
       obtain rfl := sj H
       obtain ⟨hcz28_0, hcz28_1, hcz28_2, hfz28_0, hfz28_1, hfz28_2⟩ := bc3f wr BK333.out
       go_wp2_with (first | ((with_reducible refine gate_callee (f := 120) rfl ?_); refine goesL_ (some 50) rfl rfl Try.func120 kr rfl #[.slice A0_2 l0_2.length c0_2, .func (.func 121) #[] #[.pointer (some ⟨gb333, 0, none⟩)]] rfl (by (try simp only [List.map_toArray, List.map_cons, List.map_nil]); first | done | rfl | (simp only [List.length_drop, List.length_take]; rfl)) ?_; (with_reducible refine (impl_Msg.calls k2 _ _ l0_2 a0_0 A0_1 c0_1 l0_1 A0_2 c0_2 l0_2 t337 _ ?side1 ?side2 ?side3 ?side4 ?side5 ?side6 ?side7 A27.out).mono ?_); (case side1 => exact q5); (case side2 => exact HC0_2.out); (case side3 => exact (by repeat (first | exact (Kd.C_below HR0_1.out HB.out) | (with_reducible refine Kd.C_alloc ?_ _) | (with_reducible refine Kd.C_drewN ?_ _) | (with_reducible refine Kd.C_drew ?_)))); (case side4 => exact HC0_1.out); (case side5 => exact q5); (case side6 => exact HC0_2.out); (case side7 => exact (by exact u20_1)); rintro e w29 ⟨rfl, hb⟩; refine ⟨_, rfl, ?_⟩; replace BK333 := am (blk_below (g := gb333) (o := .cells #[.int .i64 a0_0, .slice A0_1 l0_1.length c0_1, .slice A0_2 l0_2.length c0_2] 53 (0, 0)) u20_1 hb); replace HB := am (below_step q2 hb); (try clear hb); (try clear hb2); (try clear hk); (try clear hi)))
       go_ret
       exact ⟨er, q2⟩
     rw [if_pos c13] at H
     have c13b0 : decide (x30_2 < (l0_1.length : Int)) = true := decide_eq_true c13
     clear c13
     by_cases c14 : 0 ≤ x30_2
     rotate_left
     · rw [if_neg c14] at H
       exact absurd H (by simp)
     rw [if_pos c14] at H
     have c14b0 : decide (0 ≤ x30_2) = true := decide_eq_true c14
     clear c14
     by_cases c15 : x30_2 < (l0_1.length : Int)
     rotate_left
     · rw [if_neg c15] at H
       exact absurd H (by simp)
     rw [if_pos c15] at H
     have c15b0 : decide (x30_2 < (l0_1.length : Int)) = true := decide_eq_true c15
     clear c15
     by_cases c16 : ((rd_T37 l0_1 x30_2).f0) = x30_2
     rotate_left
     · rw [if_neg c16] at H
       have c16b0 : (((rd_T37 l0_1 x30_2).f0) == x30_2) = false := beq_eq_false_iff_ne.mpr c16
       have c16b1 : (((rd_T37 l0_1 x30_2).f0) != x30_2) = true := bne_iff_ne.mpr c16
       obtain rfl := sj H
       have p334 : 0 ≤ (x30_2 : Int) := of_decide_eq_true q1
       have q334 : x30_2 < (l0_1.length : Int) := of_decide_eq_true q1
       obtain ⟨ad334, A334_7, c334_7, A334_8, c334_8, A334_9, c334_9, e334, hx334_0, hx334_1, hx334_2, hx334_3, hx334_4, hx334_5, hx334_6, hx334_7, hx334_8, hx334_9, hl334_7, hi334_7, hl334_8, hi334_8, hl334_9, hi334_9⟩ := at_T37 HR0_1.out x30_2 p334 q334
       cases e334
       replace hx334_0 := cm HB.out hx334_0
       replace hx334_1 := cm HB.out hx334_1
       replace hx334_2 := cm HB.out hx334_2
       replace hx334_3 := cm HB.out hx334_3
       replace hx334_4 := cm HB.out hx334_4
       replace hx334_5 := cm HB.out hx334_5
       replace hx334_6 := cm HB.out hx334_6
       replace hx334_7 := cm HB.out hx334_7
       replace hx334_8 := cm HB.out hx334_8
       replace hx334_9 := cm HB.out hx334_9
       have HR334_7 := am hi334_7
       have HC334_7 := am hl334_7
       clear hi334_7 hl334_7
       have HR334_8 := am hi334_8
       have HC334_8 := am hl334_8
       clear hi334_8 hl334_8
       have HR334_9 := am hi334_9
       have HC334_9 := am hl334_9
       clear hi334_9 hl334_9
       replace p334 := eq_true p334
       replace q334 := eq_true q334
       go_wp2_with (first | ((with_reducible refine gate_dst (N := 4) rfl ?_); (try (refine gate_guard (by rfl) ?_; dsimp only)); refine box_event ?hg (N := 4) ?hd (cs := #[.int .i64 0, .int .i64 0, .int .i64 0, .int .i64 0, .int .i64 0, .int .i64 0, .int .i64 0, .slice none 0 0, .slice none 0 0, .slice none 0 0]) (t := 37) ?hr ?_; (case hd => rfl); (case hg => rfl); (case hr => first | (go_simp; done) | (go_simp; rfl)); intro gb335 hg w24 hbox hb; have BK335 := am (hbox); have GW335 := am ((by rw [hg]; exact (below_size q2) : w.heap.size ≤ gb335)); have GE335 := am ((by rw [hg]; exact (below_size q2) : w.heap.size ≤ gb335)); replace HB := am (below_step q2 hb); have NB333_335 := am ((by rw [hg]; exact Nat.ne_of_lt (blk_lt (g := gb333) (o := .cells #[.int .i64 a0_0, .slice (some ad334) l0_1.length c0_1, .slice A0_2 l0_2.length c0_2] 53 (0, 0)) u20_1) : gb333 ≠ gb335)); have NB335_333 := am ((by rw [hg]; exact Nat.ne_of_gt (blk_lt (g := gb333) (o := .cells #[.int .i64 a0_0, .slice (some ad334) l0_1.length c0_1, .slice A0_2 l0_2.length c0_2] 53 (0, 0)) u20_1) : gb335 ≠ gb333)); replace BK333 := am (blk_below (g := gb333) (o := .cells #[.int .i64 a0_0, .slice (some ad334) l0_1.length c0_1, .slice A0_2 l0_2.length c0_2] 53 (0, 0)) u20_1 hb); clear hb hbox hg; have hnb25 := NB335_333.out; have hnc25 := NB333_335.out; obtain ⟨hcz26_0, hcz26_1, hcz26_2, hcz26_3, hcz26_4, hcz26_5, hcz26_6, hcz26_7, hcz26_8, hcz26_9, hfz26_0, hfz26_1, hfz26_2, hfz26_3, hfz26_4, hfz26_5, hfz26_6, hfz26_7, hfz26_8, hfz26_9⟩ := bc10f w24 BK335.out))
       go_ret
       exact ⟨er, q2⟩
     rw [if_pos c16] at H
     have c16b0 : (((rd_T37 l0_1 x30_2).f0) == x30_2) = true := beq_iff_eq.mpr c16
     have c16b1 : (((rd_T37 l0_1 x30_2).f0) != x30_2) = false := bne_eq_false_iff_eq.mpr c16
     clear c16
     replace H := Option.bind_eq_some_iff.mp H
     obtain ⟨t336, A170, H⟩ := H
     have A17 := am A170
     clear A170
     have H9 := am H
     clear H
     have p334 : 0 ≤ (x30_2 : Int) := of_decide_eq_true q1
     have q334 : x30_2 < (l0_1.length : Int) := of_decide_eq_true q1
     obtain ⟨ad334, A334_7, c334_7, A334_8, c334_8, A334_9, c334_9, e334, hx334_0, hx334_1, hx334_2, hx334_3, hx334_4, hx334_5, hx334_6, hx334_7, hx334_8, hx334_9, hl334_7, hi334_7, hl334_8, hi334_8, hl334_9, hi334_9⟩ := at_T37 HR0_1.out x30_2 p334 q334
     cases e334
     replace hx334_0 := cm HB.out hx334_0
     replace hx334_1 := cm HB.out hx334_1
     replace hx334_2 := cm HB.out hx334_2
     replace hx334_3 := cm HB.out hx334_3
     replace hx334_4 := cm HB.out hx334_4
     replace hx334_5 := cm HB.out hx334_5
     replace hx334_6 := cm HB.out hx334_6
     replace hx334_7 := cm HB.out hx334_7
     replace hx334_8 := cm HB.out hx334_8
     replace hx334_9 := cm HB.out hx334_9
     have HR334_7 := am hi334_7
     have HC334_7 := am hl334_7
     clear hi334_7 hl334_7
     have HR334_8 := am hi334_8
     have HC334_8 := am hl334_8
     clear hi334_8 hl334_8
     have HR334_9 := am hi334_9
     have HC334_9 := am hl334_9
     clear hi334_9 hl334_9
     replace p334 := eq_true p334
     replace q334 := eq_true q334
     go_upto_if 45 with (first | ((with_reducible refine gate_dst (N := 4) rfl ?_); (try (refine gate_guard (by rfl) ?_; dsimp only)); refine box_event ?hg (N := 4) ?hd (cs := #[.int .i64 0, .int .i64 0, .int .i64 0, .int .i64 0, .int .i64 0, .int .i64 0, .int .i64 0, .slice none 0 0, .slice none 0 0, .slice none 0 0]) (t := 37) ?hr ?_; (case hd => rfl); (case hg => rfl); (case hr => first | (go_simp; done) | (go_simp; rfl)); intro gb335 hg w18 hbox hb; have BK335 := am (hbox); have GW335 := am ((by rw [hg]; exact (below_size q2) : w.heap.size ≤ gb335)); have GE335 := am ((by rw [hg]; exact (below_size q2) : w.heap.size ≤ gb335)); replace HB := am (below_step q2 hb); have NB333_335 := am ((by rw [hg]; exact Nat.ne_of_lt (blk_lt (g := gb333) (o := .cells #[.int .i64 a0_0, .slice (some ad334) l0_1.length c0_1, .slice A0_2 l0_2.length c0_2] 53 (0, 0)) u20_1) : gb333 ≠ gb335)); have NB335_333 := am ((by rw [hg]; exact Nat.ne_of_gt (blk_lt (g := gb333) (o := .cells #[.int .i64 a0_0, .slice (some ad334) l0_1.length c0_1, .slice A0_2 l0_2.length c0_2] 53 (0, 0)) u20_1) : gb335 ≠ gb333)); replace BK333 := am (blk_below (g := gb333) (o := .cells #[.int .i64 a0_0, .slice (some ad334) l0_1.length c0_1, .slice A0_2 l0_2.length c0_2] 53 (0, 0)) u20_1 hb); clear hb hbox hg; have hnb19 := NB335_333.out; have hnc19 := NB333_335.out; obtain ⟨hcz20_0, hcz20_1, hcz20_2, hcz20_3, hcz20_4, hcz20_5, hcz20_6, hcz20_7, hcz20_8, hcz20_9, hfz20_0, hfz20_1, hfz20_2, hfz20_3, hfz20_4, hfz20_5, hfz20_6, hfz20_7, hfz20_8, hfz20_9⟩ := bc10f w18 BK335.out; obtain ⟨hcz21_0, hcz21_1, hcz21_2, hfz21_0, hfz21_1, hfz21_2⟩ := bc3f w18 BK333.out) | (go_at_call 78; (with_reducible refine (impl_isNode.calls k2 ((rd_T37 l0_1 x30_2).f0) ((rd_T37 l0_1 x30_2).f1) ((rd_T37 l0_1 x30_2).f2) ((rd_T37 l0_1 x30_2).f3) ((rd_T37 l0_1 x30_2).f4) ((rd_T37 l0_1 x30_2).f5.f0) ((rd_T37 l0_1 x30_2).f5.f1) _ _ ((rd_T37 l0_1 x30_2).f5.f2) _ _ ((rd_T37 l0_1 x30_2).f6) _ _ ((rd_T37 l0_1 x30_2).f7) a0_0 t336 _ ?side1 ?side2 ?side3 ?side4 ?side5 ?side6 A17.out).mono ?_); (case side1 => exact (by exact Kd.C_below HR334_7.out q2)); (case side2 => exact HC334_7.out); (case side3 => exact (by exact Kd.C_below HR334_8.out q2)); (case side4 => exact HC334_8.out); (case side5 => exact (by exact Kd.C_below HR334_9.out q2)); (case side6 => exact HC334_9.out); rintro e w22 ⟨rfl, hb⟩; replace BK333 := am (blk_below (g := gb333) (o := .cells #[.int .i64 a0_0, .slice (some ad334) l0_1.length c0_1, .slice A0_2 l0_2.length c0_2] 53 (0, 0)) (by (with_reducible repeat (first | refine blk_drewN ?_ _ | refine blk_drew ?_ | refine blk_alloc ?_ _)); refine blk_far ?_ NB333_335.out _; (with_reducible repeat (first | refine blk_drewN ?_ _ | refine blk_drew ?_ | refine blk_alloc ?_ _)); refine blk_far ?_ NB333_335.out _; (with_reducible repeat (first | refine blk_drewN ?_ _ | refine blk_drew ?_ | refine blk_alloc ?_ _)); refine blk_far ?_ NB333_335.out _; (with_reducible repeat (first | refine blk_drewN ?_ _ | refine blk_drew ?_ | refine blk_alloc ?_ _)); refine blk_far ?_ NB333_335.out _; (with_reducible repeat (first | refine blk_drewN ?_ _ | refine blk_drew ?_ | refine blk_alloc ?_ _)); refine blk_far ?_ NB333_335.out _; (with_reducible repeat (first | refine blk_drewN ?_ _ | refine blk_drew ?_ | refine blk_alloc ?_ _)); refine blk_far ?_ NB333_335.out _; (with_reducible repeat (first | refine blk_drewN ?_ _ | refine blk_drew ?_ | refine blk_alloc ?_ _)); refine blk_far ?_ NB333_335.out _; (with_reducible repeat (first | refine blk_drewN ?_ _ | refine blk_drew ?_ | refine blk_alloc ?_ _)); refine blk_far ?_ NB333_335.out _; (with_reducible repeat (first | refine blk_drewN ?_ _ | refine blk_drew ?_ | refine blk_alloc ?_ _)); refine blk_far ?_ NB333_335.out _; (with_reducible repeat (first | refine blk_drewN ?_ _ | refine blk_drew ?_ | refine blk_alloc ?_ _)); refine blk_far ?_ NB333_335.out _; (with_reducible repeat (first | refine blk_drewN ?_ _ | refine blk_drew ?_ | refine blk_alloc ?_ _)); exact BK333.out) hb); replace BK335 := am (blk_below (g := gb335) (o := .cells #[.int .i64 ((rd_T37 l0_1 x30_2).f0), .int .i64 ((rd_T37 l0_1 x30_2).f1), .int .i64 ((rd_T37 l0_1 x30_2).f2), .int .i64 ((rd_T37 l0_1 x30_2).f3), .int .i64 ((rd_T37 l0_1 x30_2).f4), .int .i64 ((rd_T37 l0_1 x30_2).f5.f0), .int .i64 ((rd_T37 l0_1 x30_2).f5.f1), .slice A334_7 ((rd_T37 l0_1 x30_2).f5.f2).length c334_7, .slice A334_8 ((rd_T37 l0_1 x30_2).f6).length c334_8, .slice A334_9 ((rd_T37 l0_1 x30_2).f7).length c334_9] 37 (0, 0)) (by (with_reducible repeat (first | refine blk_drewN ?_ _ | refine blk_drew ?_ | refine blk_alloc ?_ _)); refine blk_put (cs := #[.int .i64 ((rd_T37 l0_1 x30_2).f0), .int .i64 ((rd_T37 l0_1 x30_2).f1), .int .i64 ((rd_T37 l0_1 x30_2).f2), .int .i64 ((rd_T37 l0_1 x30_2).f3), .int .i64 ((rd_T37 l0_1 x30_2).f4), .int .i64 ((rd_T37 l0_1 x30_2).f5.f0), .int .i64 ((rd_T37 l0_1 x30_2).f5.f1), .slice A334_7 ((rd_T37 l0_1 x30_2).f5.f2).length c334_7, .slice A334_8 ((rd_T37 l0_1 x30_2).f6).length c334_8, .slice none 0 0]) ?_ 9 _ rfl; (with_reducible repeat (first | refine blk_drewN ?_ _ | refine blk_drew ?_ | refine blk_alloc ?_ _)); refine blk_put (cs := #[.int .i64 ((rd_T37 l0_1 x30_2).f0), .int .i64 ((rd_T37 l0_1 x30_2).f1), .int .i64 ((rd_T37 l0_1 x30_2).f2), .int .i64 ((rd_T37 l0_1 x30_2).f3), .int .i64 ((rd_T37 l0_1 x30_2).f4), .int .i64 ((rd_T37 l0_1 x30_2).f5.f0), .int .i64 ((rd_T37 l0_1 x30_2).f5.f1), .slice A334_7 ((rd_T37 l0_1 x30_2).f5.f2).length c334_7, .slice none 0 0, .slice none 0 0]) ?_ 8 _ rfl; (with_reducible repeat (first | refine blk_drewN ?_ _ | refine blk_drew ?_ | refine blk_alloc ?_ _)); refine blk_put (cs := #[.int .i64 ((rd_T37 l0_1 x30_2).f0), .int .i64 ((rd_T37 l0_1 x30_2).f1), .int .i64 ((rd_T37 l0_1 x30_2).f2), .int .i64 ((rd_T37 l0_1 x30_2).f3), .int .i64 ((rd_T37 l0_1 x30_2).f4), .int .i64 ((rd_T37 l0_1 x30_2).f5.f0), .int .i64 ((rd_T37 l0_1 x30_2).f5.f1), .slice none 0 0, .slice none 0 0, .slice none 0 0]) ?_ 7 _ rfl; (with_reducible repeat (first | refine blk_drewN ?_ _ | refine blk_drew ?_ | refine blk_alloc ?_ _)); refine blk_put (cs := #[.int .i64 ((rd_T37 l0_1 x30_2).f0), .int .i64 ((rd_T37 l0_1 x30_2).f1), .int .i64 ((rd_T37 l0_1 x30_2).f2), .int .i64 ((rd_T37 l0_1 x30_2).f3), .int .i64 ((rd_T37 l0_1 x30_2).f4), .int .i64 ((rd_T37 l0_1 x30_2).f5.f0), .int .i64 0, .slice none 0 0, .slice none 0 0, .slice none 0 0]) ?_ 6 _ rfl; (with_reducible repeat (first | refine blk_drewN ?_ _ | refine blk_drew ?_ | refine blk_alloc ?_ _)); refine blk_put (cs := #[.int .i64 ((rd_T37 l0_1 x30_2).f0), .int .i64 ((rd_T37 l0_1 x30_2).f1), .int .i64 ((rd_T37 l0_1 x30_2).f2), .int .i64 ((rd_T37 l0_1 x30_2).f3), .int .i64 ((rd_T37 l0_1 x30_2).f4), .int .i64 0, .int .i64 0, .slice none 0 0, .slice none 0 0, .slice none 0 0]) ?_ 5 _ rfl; (with_reducible repeat (first | refine blk_drewN ?_ _ | refine blk_drew ?_ | refine blk_alloc ?_ _)); refine blk_put (cs := #[.int .i64 ((rd_T37 l0_1 x30_2).f0), .int .i64 ((rd_T37 l0_1 x30_2).f1), .int .i64 ((rd_T37 l0_1 x30_2).f2), .int .i64 ((rd_T37 l0_1 x30_2).f3), .int .i64 0, .int .i64 0, .int .i64 0, .slice none 0 0, .slice none 0 0, .slice none 0 0]) ?_ 4 _ rfl; (with_reducible repeat (first | refine blk_drewN ?_ _ | refine blk_drew ?_ | refine blk_alloc ?_ _)); refine blk_put (cs := #[.int .i64 ((rd_T37 l0_1 x30_2).f0), .int .i64 ((rd_T37 l0_1 x30_2).f1), .int .i64 ((rd_T37 l0_1 x30_2).f2), .int .i64 0, .int .i64 0, .int .i64 0, .int .i64 0, .slice none 0 0, .slice none 0 0, .slice none 0 0]) ?_ 3 _ rfl; (with_reducible repeat (first | refine blk_drewN ?_ _ | refine blk_drew ?_ | refine blk_alloc ?_ _)); refine blk_put (cs := #[.int .i64 ((rd_T37 l0_1 x30_2).f0), .int .i64 ((rd_T37 l0_1 x30_2).f1), .int .i64 0, .int .i64 0, .int .i64 0, .int .i64 0, .int .i64 0, .slice none 0 0, .slice none 0 0, .slice none 0 0]) ?_ 2 _ rfl; (with_reducible repeat (first | refine blk_drewN ?_ _ | refine blk_drew ?_ | refine blk_alloc ?_ _)); refine blk_put (cs := #[.int .i64 ((rd_T37 l0_1 x30_2).f0), .int .i64 0, .int .i64 0, .int .i64 0, .int .i64 0, .int .i64 0, .int .i64 0, .slice none 0 0, .slice none 0 0, .slice none 0 0]) ?_ 1 _ rfl; (with_reducible repeat (first | refine blk_drewN ?_ _ | refine blk_drew ?_ | refine blk_alloc ?_ _)); refine blk_put (cs := #[.int .i64 0, .int .i64 0, .int .i64 0, .int .i64 0, .int .i64 0, .int .i64 0, .int .i64 0, .slice none 0 0, .slice none 0 0, .slice none 0 0]) ?_ 0 _ rfl; (with_reducible repeat (first | refine blk_drewN ?_ _ | refine blk_drew ?_ | refine blk_alloc ?_ _)); exact BK335.out) hb); replace HB := am (below_step q2 hb); (try clear hb); (try clear hb2); (try clear hk); (try clear hi)))
     have H := H9.out
     clear H9
     by_cases c23 : t336 = true
     rotate_left
     · replace c23 := Bool.eq_false_iff.mpr c23
       subst c23
       rw [nf] at H
       obtain rfl := sj H
       go_wp2
       go_ret
       exact ⟨er, q2⟩
     subst c23
     rw [if_pos rfl] at H
     have H' := am H
     clear H
     go_wp2
     go_roundg k2
     case measure => have := HJ1.out; have := HK2.out; omega
     case rel => exact ⟨(wrap64 (x30_2 + 1)), q3, H', ⟨(by have := HJ1.out; have := HK2.out; omega)⟩, ⟨u20_1⟩, ⟨q2⟩⟩

end Go.Proofs.Ytkcadcoohmofcaa.QFnExactSafeGroup
