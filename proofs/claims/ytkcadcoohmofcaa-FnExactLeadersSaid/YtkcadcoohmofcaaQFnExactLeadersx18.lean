-- Printed by the session's own program wip/prx.py.
import Derived.Test.YtkcadcoohmofcaaSqFnExactLeaders
import Derived.Test.YtkcadcoohmofcaaQFnExactLeadersx0
import Derived.Test.YtkcadcoohmofcaaQFnExactLeadersx15
import Derived.Test.YtkcadcoohmofcaaQFnExactLeadersx17
namespace Go.Proofs.Ytkcadcoohmofcaa.QFnExactLeaders
open Go.RowKit Go.Proofs.YtkcadcoohmofcaaW.PrintWords Go.Proofs.YtkcadcoohmofcaaW.PrintLast Go.Proofs.YtkcadcoohmofcaaW.PrintMore Go.Proofs.Ytkcadcoohmofcaa.SqFnExactLeaders
attribute [local go_sem] max2_int min2_int max_two min_two max_three min_three max_four min_four Go.Proofs.Ytkcadcoohmofcaa.Set.isSome_setCell
set_option linter.unusedVariables false
set_option linter.unusedSimpArgs false

-- squeezed
theorem u18_1 {P : Prop} (h : P := by (with_reducible repeat (first | refine blk_drewN ?_ _ | refine blk_drew ?_ | refine blk_alloc ?_ _)); refine blk_far ?_ NB361_367.out _; (with_reducible repeat (first | refine blk_drewN ?_ _ | refine blk_drew ?_ | refine blk_alloc ?_ _)); refine blk_far ?_ NB361_367.out _; (with_reducible repeat (first | refine blk_drewN ?_ _ | refine blk_drew ?_ | refine blk_alloc ?_ _)); refine blk_far ?_ NB361_367.out _; (with_reducible repeat (first | refine blk_drewN ?_ _ | refine blk_drew ?_ | refine blk_alloc ?_ _)); refine blk_far ?_ NB361_367.out _; (with_reducible repeat (first | refine blk_drewN ?_ _ | refine blk_drew ?_ | refine blk_alloc ?_ _)); refine blk_far ?_ NB361_367.out _; (with_reducible repeat (first | refine blk_drewN ?_ _ | refine blk_drew ?_ | refine blk_alloc ?_ _)); refine blk_far ?_ NB361_367.out _; (with_reducible repeat (first | refine blk_drewN ?_ _ | refine blk_drew ?_ | refine blk_alloc ?_ _)); refine blk_far ?_ NB361_367.out _; (with_reducible repeat (first | refine blk_drewN ?_ _ | refine blk_drew ?_ | refine blk_alloc ?_ _)); refine blk_far ?_ NB361_367.out _; (with_reducible repeat (first | refine blk_drewN ?_ _ | refine blk_drew ?_ | refine blk_alloc ?_ _)); refine blk_far ?_ NB361_367.out _; (with_reducible repeat (first | refine blk_drewN ?_ _ | refine blk_drew ?_ | refine blk_alloc ?_ _)); refine blk_far ?_ NB361_367.out _; (with_reducible repeat (first | refine blk_drewN ?_ _ | refine blk_drew ?_ | refine blk_alloc ?_ _)); exact BK361.out) : P := h
theorem u18_2 {P : Prop} (h : P := by (with_reducible repeat (first | refine blk_drewN ?_ _ | refine blk_drew ?_ | refine blk_alloc ?_ _)); exact BK356.out) : P := h
theorem u18_5 {P : Prop} (h : P := by (with_reducible repeat (first | apply Kd.R_alloc | apply Kd.R_drewN | apply Kd.R_drew)); exact Kd.R_mono (Kd.R_far (p := ⟨gb367, 9, none⟩) (Kd.R_far (p := ⟨gb367, 8, none⟩) (Kd.R_far (p := ⟨gb367, 7, none⟩) (Kd.R_far (p := ⟨gb367, 6, none⟩) (Kd.R_far (p := ⟨gb367, 5, none⟩) (Kd.R_far (p := ⟨gb367, 4, none⟩) (Kd.R_far (p := ⟨gb367, 3, none⟩) (Kd.R_far (p := ⟨gb367, 2, none⟩) (Kd.R_far (p := ⟨gb367, 1, none⟩) (Kd.R_far (p := ⟨gb367, 0, none⟩) (Kd.R_types HO_3.out BK367.out (by decide)) (fun _ hk => hk.2) (.int .i64 ((rd_T37 l0_1 x13_1).f0))) (fun _ hk => hk.2) (.int .i64 ((rd_T37 l0_1 x13_1).f1))) (fun _ hk => hk.2) (.int .i64 ((rd_T37 l0_1 x13_1).f2))) (fun _ hk => hk.2) (.int .i64 ((rd_T37 l0_1 x13_1).f3))) (fun _ hk => hk.2) (.int .i64 ((rd_T37 l0_1 x13_1).f4))) (fun _ hk => hk.2) (.int .i64 ((rd_T37 l0_1 x13_1).f5.f0))) (fun _ hk => hk.2) (.int .i64 ((rd_T37 l0_1 x13_1).f5.f1))) (fun _ hk => hk.2) (.slice A366_7 ((rd_T37 l0_1 x13_1).f5.f2).length c366_7)) (fun _ hk => hk.2) (.slice A366_8 ((rd_T37 l0_1 x13_1).f6).length c366_8)) (fun _ hk => hk.2) (.slice A366_9 ((rd_T37 l0_1 x13_1).f7).length c366_9)) (fun _ hk => trivial)) : P := h
theorem u18_6 {P : Prop} (h : P := by (with_reducible repeat (first | refine blk_drewN ?_ _ | refine blk_drew ?_ | refine blk_alloc ?_ _)); exact BK361.out) : P := h
/-! ### impl_Msg: function 120 -/
def impl_Msg.o (k : Nat) (n : Int) : List S29 → Option Bool
 | [] => some false
 | y :: ys => (impl_isMsg.f k y.f0 y.f1 y.f2 y.f3 y.f4 y.f5 y.f6 y.f7 y.f8 n).bind fun t => if t = true then impl_Msg.o k n ys else some true
def impl_Msg.f (k : Nat) (l0 : List S29) (a1_0 : Int) (l1_1 : List (S37)) (l1_2 : List (S29)) : Option Bool := impl_Msg.o k a1_0 l0
theorem impl_Msg.mono : ∀ l0 a1_0 l1_1 l1_2 k, LeO (impl_Msg.f k l0 a1_0 l1_1 l1_2) (impl_Msg.f (k + 1) l0 a1_0 l1_1 l1_2) := by
 intro l0 a1_0 l1_1 l1_2 k
 unfold impl_Msg.f
 induction l0 with
 | nil => exact fun r h => h
 | cons y ys ih =>
   unfold impl_Msg.o
   refine LeO.bind (impl_isMsg.mono _ _ _ _ _ _ _ _ _ _ _) (fun t => ?_)
   refine LeO.ite ?_ ?_
   · exact ih
   exact fun r h => h
set_option maxHeartbeats 1600000 in
set_option maxRecDepth 100000 in
theorem impl_Msg.lit (k : Nat) (b : Nat) (a1_0 : Int) (y : S29) (A8 : Option Addr) (c8 : Nat) (t : Bool) (w : World) (hid : w.cell? ⟨b, 0, none⟩ = some (.int .i64 a1_0)) (hr : Kd.C k85 w A8 y.f8.length y.f8) (hc : y.f8.length ≤ c8) (h : impl_isMsg.f k y.f0 y.f1 y.f2 y.f3 y.f4 y.f5 y.f6 y.f7 y.f8 a1_0 = some t) :
   Calls Try.prog 121 #[.agg #[.int .i64 y.f0, .int .i64 y.f1, .int .i64 y.f2, .int .i64 y.f3, .int .i64 y.f4, .int .i64 y.f5, .int .i64 y.f6, .bool y.f7, .slice A8 y.f8.length c8], .pointer (some ⟨b, 0, none⟩)] w fun e w' => e = .returned (.bool (!t)) ∧ Below w.heap.size w w' := by
 have hu := Try.underlying29
 have hu2 := Try.underlying53
 have hlt := World.block_lt_of_cell? w _ hid
 have HE := am h
 have HR := am hr
 have HC := am hc
 have hid2 : ∀ o, (w.alloc o).cell? ⟨b, 0, none⟩ = some (.int .i64 a1_0) := fun o => ((below_alloc (Below.refl w.heap.size w) o).cell (p := ⟨b, 0, none⟩) hlt).trans hid
 clear h hr hc hid hlt
 go_enter Try.func121, Try.ntmps121
 go_wp2_with (go_at_call 66; refine (impl_isMsg.calls k _ _ _ _ _ _ _ _ _ _ _ _ t _ ?hr ?hc HE.out).mono ?_; (case hr => exact Kd.C_below HR.out (below_alloc (Below.refl _ _) _)); (case hc => exact HC.out); rintro e w' ⟨rfl, hb'⟩; have HB := am (below_step (below_alloc (Below.refl w.heap.size w) _) hb'); clear hb')
 go_ret
 exact ⟨by first | rfl | simp, HB.out⟩
set_option maxHeartbeats 3200000 in
set_option maxRecDepth 100000 in
theorem impl_Msg.idx (k : Nat) (b : Nat) (a1_0 : Int) (A0 : Option Addr) (c0 : Nat) (l0 : List S29) (r : Bool) (w : World) (hr0 : Kd.C k29 w A0 l0.length l0) (hc0 : l0.length ≤ c0) (hid : w.cell? ⟨b, 0, none⟩ = some (.int .i64 a1_0)) (h : impl_Msg.o k a1_0 l0 = some r) :
   Calls Try.prog 124 #[.slice A0 l0.length c0, .func (.func 121) #[] #[.pointer (some ⟨b, 0, none⟩)]] w fun e w' => ∃ j : Int, e = .returned (.int .i64 j) ∧ decide (j ≥ 0) = r ∧ Below w.heap.size w w' := by
 have hu := Try.underlying29
 have hn : l0.length ≤ 9223372036854775807 := hr0.2.1
 have HR := am hr0
 have HI := am hid
 have H0 := am h
 clear hr0 hid h
 go_enter Try.func124, Try.ntmps124
 go_wp2
 go_loopg [5, 8] l0.length (fun gg _ s8 wr => ∃ kk : Int, 0 ≤ kk ∧ kk ≤ l0.length ∧ l0.length - kk.toNat ≤ gg ∧ s8 = .int .i64 kk ∧ Aside0 (Below w.heap.size w wr) ∧ Aside0 (impl_Msg.o k a1_0 (l0.drop kk.toNat) = some r))
 case atStart => exact ⟨0, by omega, by omega, by omega, rfl, ⟨Below.refl _ w⟩, ⟨H0.out⟩⟩
 obtain ⟨kk, h0, hk, hg, rfl, BW, HA⟩ := hrel
 by_cases hlt : kk < (l0.length : Int)
 rotate_left
 · have h1 := HA.out
   rw [List.drop_of_length_le (by omega)] at h1
   have HQ := am (Option.some.inj h1)
   clear h1 HA
   go_wp2
   go_ret
   exact ⟨-1, rfl, by rw [← HQ.out]; rfl, BW.out⟩
 have hd : l0.drop kk.toNat = rd_T29 l0 kk :: l0.drop (kk + 1).toNat := by
   rw [List.drop_eq_getElem_cons (show kk.toNat < l0.length by omega), show (kk + 1).toNat = kk.toNat + 1 by omega]
   unfold rd_T29
   rw [List.getD_eq_getElem?_getD, List.getElem?_eq_getElem (show kk.toNat < l0.length by omega)]
   rfl
 have h1 := HA.out
 rw [hd] at h1
 unfold impl_Msg.o at h1
 obtain ⟨t, ht, h2⟩ := Option.bind_eq_some_iff.mp h1
 clear h1 hd HA
 obtain ⟨ad, A8, c8, e, hx0, hx1, hx2, hx3, hx4, hx5, hx6, hx7, hx8, hl8, hi8⟩ := at_T29 HR.out kk h0 hlt
 cases e
 replace hx0 := (BW.out.cell (World.block_lt_of_cell? w _ hx0)).trans hx0
 replace hx1 := (BW.out.cell (World.block_lt_of_cell? w _ hx1)).trans hx1
 replace hx2 := (BW.out.cell (World.block_lt_of_cell? w _ hx2)).trans hx2
 replace hx3 := (BW.out.cell (World.block_lt_of_cell? w _ hx3)).trans hx3
 replace hx4 := (BW.out.cell (World.block_lt_of_cell? w _ hx4)).trans hx4
 replace hx5 := (BW.out.cell (World.block_lt_of_cell? w _ hx5)).trans hx5
 replace hx6 := (BW.out.cell (World.block_lt_of_cell? w _ hx6)).trans hx6
 replace hx7 := (BW.out.cell (World.block_lt_of_cell? w _ hx7)).trans hx7
 replace hx8 := (BW.out.cell (World.block_lt_of_cell? w _ hx8)).trans hx8
 have HL := am (impl_Msg.lit k b a1_0 (rd_T29 l0 kk) A8 c8 t wr ((BW.out.cell (World.block_lt_of_cell? w _ HI.out)).trans HI.out) (Kd.C_below hi8 BW.out) hl8 ht)
 clear ht hl8 hi8
 cases t with
 | false =>
   rw [if_neg (by simp)] at h2
   have HQ := am (Option.some.inj h2)
   clear h2
   go_wp2_with (go_at_call 121; refine HL.out.mono ?_; rintro e w' ⟨rfl, hb'⟩)
   go_ret
   exact ⟨kk, rfl, (by rw [← HQ.out, decide_eq_true (by omega)]), below_step BW.out hb'⟩
 | true =>
   rw [if_pos rfl] at h2
   have HQ := am h2
   clear h2
   go_wp2_with (go_at_call 121; refine HL.out.mono ?_; rintro e w' ⟨rfl, hb'⟩)
   go_roundg (l0.length - (kk + 1).toNat)
   case measure => omega
   case rel => exact ⟨kk + 1, by omega, by omega, by omega, by go_num, ⟨below_step BW.out hb'⟩, ⟨HQ.out⟩⟩
set_option maxHeartbeats 400000 in
theorem impl_Msg.calls (k : Nat) (A0 : Option Addr) (c0 : Nat) (l0 : List S29) (a1_0 : Int) (A1_1 : Option Addr) (c1_1 : Nat) (l1_1 : List (S37)) (A1_2 : Option Addr) (c1_2 : Nat) (l1_2 : List (S29)) (r : Bool) (w : World) {b : Nat} (hr0 : Kd.C k29 w A0 l0.length l0) (hc0 : l0.length ≤ c0) (hr1_1 : Kd.C k37 w A1_1 l1_1.length l1_1) (hc1_1 : l1_1.length ≤ c1_1) (hr1_2 : Kd.C k29 w A1_2 l1_2.length l1_2) (hc1_2 : l1_2.length ≤ c1_2) (hb : w.heap[b]? = some (.cells #[.int .i64 a1_0, .slice A1_1 l1_1.length c1_1, .slice A1_2 l1_2.length c1_2] 53 (0, 0))) (h : impl_Msg.f k l0 a1_0 l1_1 l1_2 = some r) :
   Calls Try.prog 120 #[.slice A0 l0.length c0, .func (.func 121) #[] #[.pointer (some ⟨b, 0, none⟩)]] w fun e w' => e = .returned (.bool r) ∧ Below w.heap.size w w' := by
 have HI := am (impl_Msg.idx k b a1_0 A0 c0 l0 r w hr0 hc0 ((blk_cell hb 0).trans rfl) h)
 clear hr0 hc0 hb h hr1_1 hc1_1 hr1_2 hc1_2
 go_enter Try.func120, Try.ntmps120
 go_wp2_with (go_at_call 124; refine HI.out.mono ?_; rintro e w' ⟨j, rfl, hj, hb'⟩; have HJ := am hj; clear hj)
 go_ret
 exact ⟨by rw [← HJ.out]; rfl, hb'⟩


/-! ### impl_isGroup: function 98 -/
mutual
def impl_isGroup.j0 : Nat → Bool → Int → List (S37) → List (S29) → Option (Bool)
 | 0, _, _, _, _ => none
 | k + 1, x26, x357000, x357001, x357002 => if x26 = true then (some false) else (impl_isGroup.l0 k x357001 (x357001.length : Int) 0 x357000 x357001 x357002)
def impl_isGroup.l0 : Nat → List (S37) → Int → Int → Int → List (S37) → List (S29) → Option (Bool)
 | 0, _, _, _, _, _, _ => none
 | k + 1, x28, x29, x30, x357000, x357001, x357002 => if x30 < x29 then (if 0 ≤ x30 then (if x30 < (x28.length : Int) then (if ((rd_T37 x28 x30).f0) = x30 then ((impl_isNode.f k ((rd_T37 x28 x30).f0) ((rd_T37 x28 x30).f1) ((rd_T37 x28 x30).f2) ((rd_T37 x28 x30).f3) ((rd_T37 x28 x30).f4) ((rd_T37 x28 x30).f5.f0) ((rd_T37 x28 x30).f5.f1) ((rd_T37 x28 x30).f5.f2) ((rd_T37 x28 x30).f6) ((rd_T37 x28 x30).f7) x357000).bind fun t359 => (if t359 = true then (impl_isGroup.l0 k x28 x29 (wrap64 (x30 + 1)) x357000 x357001 x357002) else (some false))) else (some false)) else (none)) else (none)) else ((impl_Msg.f k x357002 x357000 x357001 x357002).bind fun t360 => (some (!t360)))
end
def impl_isGroup.f (k : Nat) (a0_0 : Int) (l0_1 : List (S37)) (l0_2 : List (S29)) : Option (Bool) := if a0_0 < 1 then (impl_isGroup.j0 k true a0_0 l0_1 l0_2) else (if a0_0 > 5 then (impl_isGroup.j0 k true a0_0 l0_1 l0_2) else (if (l0_1.length : Int) = a0_0 then (impl_isGroup.j0 k (decide ((l0_2.length : Int) > 60)) a0_0 l0_1 l0_2) else (impl_isGroup.j0 k true a0_0 l0_1 l0_2)))
theorem impl_isGroup.mono_l : ∀ k, (∀ y0 y1 y2 y3, LeO (impl_isGroup.j0 k y0 y1 y2 y3) (impl_isGroup.j0 (k + 1) y0 y1 y2 y3)) ∧ (∀ y0 y1 y2 y3 y4 y5, LeO (impl_isGroup.l0 k y0 y1 y2 y3 y4 y5) (impl_isGroup.l0 (k + 1) y0 y1 y2 y3 y4 y5))
 | 0 => ⟨fun _ _ _ _ r h => by simp [impl_isGroup.j0] at h, fun _ _ _ _ _ _ r h => by simp [impl_isGroup.l0] at h⟩
 | k + 1 => by
   obtain ⟨ih0, ih1⟩ := impl_isGroup.mono_l k
   refine ⟨?_, ?_⟩ <;> intros <;> (first | unfold impl_isGroup.j0 | unfold impl_isGroup.l0) <;> repeat' first
   | (with_reducible exact ih0 _ _ _ _)
   | (with_reducible exact ih1 _ _ _ _ _ _)
   | (with_reducible exact impl_Msg.mono _ _ _ _ _)
   | (with_reducible exact impl_isNode.mono _ _ _ _ _ _ _ _ _ _ _ _)
   | (with_reducible exact LeO.refl _)
   | (with_reducible exact LeO.none _)
   | (with_reducible refine LeO.ite ?_ ?_)
   | (with_reducible refine LeO.bind ?_ (fun _ => ?_))
   | exact ih0 _ _ _ _
   | exact ih1 _ _ _ _ _ _
   | exact impl_Msg.mono _ _ _ _ _
   | exact impl_isNode.mono _ _ _ _ _ _ _ _ _ _ _ _
   | exact LeO.none _
   | refine LeO.ite ?_ ?_
   | refine LeO.bind ?_ (fun _ => ?_)
theorem impl_isGroup.mono : ∀ a0 a1 a2 k, LeO (impl_isGroup.f k a0 a1 a2) (impl_isGroup.f (k + 1) a0 a1 a2) := by
 intro a0 a1 a2 k
 obtain ⟨ih0, ih1⟩ := impl_isGroup.mono_l k
 unfold impl_isGroup.f
 repeat' first
     | (with_reducible exact ih0 _ _ _ _)
     | (with_reducible exact ih1 _ _ _ _ _ _)
     | (with_reducible exact impl_Msg.mono _ _ _ _ _)
     | (with_reducible exact impl_isNode.mono _ _ _ _ _ _ _ _ _ _ _ _)
     | (with_reducible exact LeO.refl _)
     | (with_reducible exact LeO.none _)
     | (with_reducible refine LeO.ite ?_ ?_)
     | (with_reducible refine LeO.bind ?_ (fun _ => ?_))
     | exact ih0 _ _ _ _
     | exact ih1 _ _ _ _ _ _
     | exact impl_Msg.mono _ _ _ _ _
     | exact impl_isNode.mono _ _ _ _ _ _ _ _ _ _ _ _
     | exact LeO.none _
     | refine LeO.ite ?_ ?_
     | refine LeO.bind ?_ (fun _ => ?_)
set_option maxHeartbeats 8000000 in
set_option maxRecDepth 100000 in
theorem impl_isGroup.calls (k : Nat) (a0_0 : Int) (A0_1 : Option Addr) (c0_1 : Nat) (l0_1 : List (S37)) (A0_2 : Option Addr) (c0_2 : Nat) (l0_2 : List (S29)) (r : Bool) (w : World) (hr0_1 : Kd.C k37 w A0_1 l0_1.length l0_1) (hc0_1 : l0_1.length ≤ c0_1) (hr0_2 : Kd.C k29 w A0_2 l0_2.length l0_2) (hc0_2 : l0_2.length ≤ c0_2) (h : impl_isGroup.f k a0_0 l0_1 l0_2 = some r) :
   Calls Try.prog 98 #[.agg #[.int .i64 a0_0, .slice A0_1 l0_1.length c0_1, .slice A0_2 l0_2.length c0_2]] w fun e w' => e = .returned (.bool r) ∧ Below w.heap.size w w' := by
 have hu53 := Try.underlying53
 have hu37 := Try.underlying37
 have HR0_1 := am hr0_1
 have HC0_1 := am hc0_1
 clear hr0_1 hc0_1
 have HR0_2 := am hr0_2
 have HC0_2 := am hc0_2
 clear hr0_2 hc0_2
 have HB := am (Below.refl w.heap.size w)
 have H : (if a0_0 < 1 then (impl_isGroup.j0 k true a0_0 l0_1 l0_2) else (if a0_0 > 5 then (impl_isGroup.j0 k true a0_0 l0_1 l0_2) else (if (l0_1.length : Int) = a0_0 then (impl_isGroup.j0 k (decide ((l0_2.length : Int) > 60)) a0_0 l0_1 l0_2) else (impl_isGroup.j0 k true a0_0 l0_1 l0_2)))) = some r := h
 clear h
 have HC2 := am H
 clear H
 go_enter Try.func98, Try.ntmps98
 go_upto_region 1 with (first | ((with_reducible refine gate_dst (N := 1) rfl ?_); (try (refine gate_guard (by rfl) ?_; dsimp only)); refine box_event ?hg (N := 1) ?hd (cs := #[.int .i64 a0_0, .slice A0_1 l0_1.length c0_1, .slice A0_2 l0_2.length c0_2]) (t := 53) ?hr ?_; (case hd => rfl); (case hg => rfl); (case hr => first | (go_simp; done) | (go_simp; rfl)); intro gb356 hg w3 hbox hb; have BK356 := am (hbox); have GW356 := am ((by rw [hg]; exact (below_size Q0) : w.heap.size ≤ gb356)); have GE356 := am ((by rw [hg]; exact (below_size Q0) : w.heap.size ≤ gb356)); replace HB := am (below_step Q0 hb); clear hb hbox hg))
 (try simp only [Act.put, la, lb, lc])
 go_cut [26] (fun v26 wc => ∃ (kq : Nat) (x26_1 : Bool), v26 = .bool x26_1 ∧ Aside0 (impl_isGroup.j0 kq x26_1 a0_0 l0_1 l0_2 = some r) ∧ Aside0 (kq ≤ k) ∧ Aside0 (wc.heap[gb356]? = some (.cells #[.int .i64 a0_0, (.slice A0_1 l0_1.length c0_1), (.slice A0_2 l0_2.length c0_2)] 53 (0, 0))) ∧ Aside0 (Below w.heap.size w wc))
 case first =>
   have H := HC2.out
   clear HC2
   by_cases c4 : a0_0 < 1
   · rw [if_pos c4] at H
     have c4b0 : decide (a0_0 < 1) = true := decide_eq_true c4
     clear c4
     (first | rw [c4b0] | (simp only [i64_w, i32_w]; rw [c4b0]) | skip)
     have H' := am H
     clear H
     obtain ⟨hcz5_0, hcz5_1, hcz5_2, hfz5_0, hfz5_1, hfz5_2⟩ := bc3f w3 BK356.out
     go_wp2
     go_meet
     case rel => exact ⟨_, (true), Q3, H', ⟨by first | omega | exact Nat.le_refl _⟩, ⟨u18_2⟩, ⟨Q0⟩⟩
   rw [if_neg c4] at H
   have c4b0 : decide (a0_0 < 1) = false := decide_eq_false c4
   clear c4
   (first | rw [c4b0] | (simp only [i64_w, i32_w]; rw [c4b0]) | skip)
   by_cases c6 : a0_0 > 5
   · rw [if_pos c6] at H
     have c6b0 : decide (5 < a0_0) = true := decide_eq_true c6
     clear c6
     have H' := am H
     clear H
     obtain ⟨hcz7_0, hcz7_1, hcz7_2, hfz7_0, hfz7_1, hfz7_2⟩ := bc3f w3 BK356.out
     go_wp2
     go_meet
     case rel => exact ⟨_, (true), Q3, H', ⟨by first | omega | exact Nat.le_refl _⟩, ⟨u18_2⟩, ⟨Q0⟩⟩
   rw [if_neg c6] at H
   have c6b0 : decide (5 < a0_0) = false := decide_eq_false c6
   clear c6
   by_cases c8 : (l0_1.length : Int) = a0_0
   rotate_left
   · rw [if_neg c8] at H
     have c8b0 : ((l0_1.length : Int) == a0_0) = false := beq_eq_false_iff_ne.mpr c8
     have c8b1 : ((l0_1.length : Int) != a0_0) = true := bne_iff_ne.mpr c8
     have H' := am H
     clear H
     obtain ⟨hcz10_0, hcz10_1, hcz10_2, hfz10_0, hfz10_1, hfz10_2⟩ := bc3f w3 BK356.out
     go_wp2
     go_meet
     case rel => exact ⟨_, (true), Q3, H', ⟨by first | omega | exact Nat.le_refl _⟩, ⟨u18_2⟩, ⟨Q0⟩⟩
   rw [if_pos c8] at H
   have c8b0 : ((l0_1.length : Int) == a0_0) = true := beq_iff_eq.mpr c8
   have c8b1 : ((l0_1.length : Int) != a0_0) = false := bne_eq_false_iff_eq.mpr c8
   clear c8
   have H' := am H
   clear H
   obtain ⟨hcz9_0, hcz9_1, hcz9_2, hfz9_0, hfz9_1, hfz9_2⟩ := bc3f w3 BK356.out
   go_wp2
   go_meet
   case rel => exact ⟨_, (decide ((l0_2.length : Int) > 60)), Q3, H', ⟨by first | omega | exact Nat.le_refl _⟩, ⟨u18_2⟩, ⟨Q0⟩⟩
 clear HC2
 obtain ⟨kq, x26_1, rfl, HA, HJ1, BK356, HB⟩ := hcut
 cases kq with
 | zero => exact absurd HA.out (by simp [impl_isGroup.j0])
 | succ kj1 =>
   have H := HA.out
   clear HA
   simp only [impl_isGroup.j0] at H
   by_cases c11 : x26_1 = true
   · subst c11
     rw [if_pos rfl] at H
     obtain rfl := sj H
     go_wp2
     go_ret
     exact ⟨er, Q0⟩
   replace c11 := Bool.eq_false_iff.mpr c11
   subst c11
   rw [nf] at H
   have H' := am H
   clear H
   obtain ⟨hcz12_0, hcz12_1, hcz12_2, hfz12_0, hfz12_1, hfz12_2⟩ := bc3f wc BK356.out
   go_wp2
   go_loopg [30] kj1 (fun kq v30 w' => ∃ (x30_2 : Int), v30 = .int .i64 x30_2 ∧ Aside0 (impl_isGroup.l0 kq l0_1 (l0_1.length : Int) x30_2 a0_0 l0_1 l0_2 = some r) ∧ Aside0 (kq ≤ kj1) ∧ Aside0 (w'.heap[gb356]? = some (.cells #[.int .i64 a0_0, (.slice A0_1 l0_1.length c0_1), (.slice A0_2 l0_2.length c0_2)] 53 (0, 0))) ∧ Aside0 (Below w.heap.size w w'))
   case atStart => exact ⟨(0), Q3, H', ⟨Nat.le_refl _⟩, ⟨u18_2⟩, ⟨Q0⟩⟩
   clear H'
   try clear c11
   try clear hcz12_0
   try clear hcz12_1
   try clear hcz12_2
   try clear hfz12_0
   try clear hfz12_1
   try clear hfz12_2
   obtain ⟨x30_2, rfl, HA, HK2, BK356, HB⟩ := hrel
   cases gk with
   | zero => exact absurd HA.out (by simp [impl_isGroup.l0])
   | succ k2 =>
     have H := HA.out
     clear HA
     simp only [impl_isGroup.l0] at H
     by_cases c13 : x30_2 < (l0_1.length : Int)
     rotate_left
     · rw [if_neg c13] at H
       have c13b0 : decide (x30_2 < (l0_1.length : Int)) = false := decide_eq_false c13
       clear c13
       replace H := Option.bind_eq_some_iff.mp H
       obtain ⟨t360, A270, H⟩ := H
       replace H : (some (!t360)) = some r := H
       have A27 := am A270
       clear A270
       obtain rfl := sj H
       obtain ⟨hcz28_0, hcz28_1, hcz28_2, hfz28_0, hfz28_1, hfz28_2⟩ := bc3f wr BK356.out
       go_wp2_with (first | ((with_reducible refine gate_callee (f := 120) rfl ?_); refine goesL_ (some 50) rfl rfl Try.func120 kr rfl #[.slice A0_2 l0_2.length c0_2, .func (.func 121) #[] #[.pointer (some ⟨gb356, 0, none⟩)]] rfl Q2 ?_; (with_reducible refine (impl_Msg.calls k2 _ _ l0_2 a0_0 A0_1 c0_1 l0_1 A0_2 c0_2 l0_2 t360 _ ?side1 ?side2 ?side3 ?side4 ?side5 ?side6 ?side7 A27.out).mono ?_); (case side1 => exact Q12); (case side2 => exact HC0_2.out); (case side3 => exact Q14); (case side4 => exact HC0_1.out); (case side5 => exact Q12); (case side6 => exact HC0_2.out); (case side7 => exact (by exact u18_2)); rintro e w29 ⟨rfl, hb⟩; refine ⟨_, rfl, ?_⟩; replace BK356 := am (blk_below (g := gb356) (o := .cells #[.int .i64 a0_0, .slice A0_1 l0_1.length c0_1, .slice A0_2 l0_2.length c0_2] 53 (0, 0)) u18_2 hb); replace HB := am (below_step Q0 hb); (try clear hb); (try clear hb2); (try clear hk); (try clear hi)))
       go_ret
       exact ⟨er, Q0⟩
     rw [if_pos c13] at H
     have c13b0 : decide (x30_2 < (l0_1.length : Int)) = true := decide_eq_true c13
     clear c13
     by_cases c14 : 0 ≤ x30_2
     rotate_left
     · rw [if_neg c14] at H
       exact absurd H (by simp)
     rw [if_pos c14] at H
     have c14b0 : decide (0 ≤ x30_2) = true := decide_eq_true c14
     clear c14
     by_cases c15 : x30_2 < (l0_1.length : Int)
     rotate_left
     · rw [if_neg c15] at H
       exact absurd H (by simp)
     rw [if_pos c15] at H
     have c15b0 : decide (x30_2 < (l0_1.length : Int)) = true := decide_eq_true c15
     clear c15
     by_cases c16 : ((rd_T37 l0_1 x30_2).f0) = x30_2
     rotate_left
     · rw [if_neg c16] at H
       have c16b0 : (((rd_T37 l0_1 x30_2).f0) == x30_2) = false := beq_eq_false_iff_ne.mpr c16
       have c16b1 : (((rd_T37 l0_1 x30_2).f0) != x30_2) = true := bne_iff_ne.mpr c16
       obtain rfl := sj H
       have p357 : 0 ≤ (x30_2 : Int) := of_decide_eq_true Q1
       have q357 : x30_2 < (l0_1.length : Int) := of_decide_eq_true Q1
       obtain ⟨ad357, A357_7, c357_7, A357_8, c357_8, A357_9, c357_9, e357, hx357_0, hx357_1, hx357_2, hx357_3, hx357_4, hx357_5, hx357_6, hx357_7, hx357_8, hx357_9, hl357_7, hi357_7, hl357_8, hi357_8, hl357_9, hi357_9⟩ := at_T37 HR0_1.out x30_2 p357 q357
       cases e357
       replace hx357_0 := cm HB.out hx357_0
       replace hx357_1 := cm HB.out hx357_1
       replace hx357_2 := cm HB.out hx357_2
       replace hx357_3 := cm HB.out hx357_3
       replace hx357_4 := cm HB.out hx357_4
       replace hx357_5 := cm HB.out hx357_5
       replace hx357_6 := cm HB.out hx357_6
       replace hx357_7 := cm HB.out hx357_7
       replace hx357_8 := cm HB.out hx357_8
       replace hx357_9 := cm HB.out hx357_9
       have HR357_7 := am hi357_7
       have HC357_7 := am hl357_7
       clear hi357_7 hl357_7
       have HR357_8 := am hi357_8
       have HC357_8 := am hl357_8
       clear hi357_8 hl357_8
       have HR357_9 := am hi357_9
       have HC357_9 := am hl357_9
       clear hi357_9 hl357_9
       replace p357 := eq_true p357
       replace q357 := eq_true q357
       go_wp2_with (first | ((with_reducible refine gate_dst (N := 4) rfl ?_); (try (refine gate_guard (by rfl) ?_; dsimp only)); refine box_event ?hg (N := 4) ?hd (cs := #[.int .i64 0, .int .i64 0, .int .i64 0, .int .i64 0, .int .i64 0, .int .i64 0, .int .i64 0, .slice none 0 0, .slice none 0 0, .slice none 0 0]) (t := 37) ?hr ?_; (case hd => rfl); (case hg => rfl); (case hr => first | (go_simp; done) | (go_simp; rfl)); intro gb358 hg w24 hbox hb; have BK358 := am (hbox); have GW358 := am ((by rw [hg]; exact (below_size Q0) : w.heap.size ≤ gb358)); have GE358 := am ((by rw [hg]; exact (below_size Q0) : w.heap.size ≤ gb358)); replace HB := am (below_step Q0 hb); have NB356_358 := am ((by rw [hg]; exact Nat.ne_of_lt (blk_lt (g := gb356) (o := .cells #[.int .i64 a0_0, .slice (some ad357) l0_1.length c0_1, .slice A0_2 l0_2.length c0_2] 53 (0, 0)) u18_2) : gb356 ≠ gb358)); have NB358_356 := am ((by rw [hg]; exact Nat.ne_of_gt (blk_lt (g := gb356) (o := .cells #[.int .i64 a0_0, .slice (some ad357) l0_1.length c0_1, .slice A0_2 l0_2.length c0_2] 53 (0, 0)) u18_2) : gb358 ≠ gb356)); replace BK356 := am (blk_below (g := gb356) (o := .cells #[.int .i64 a0_0, .slice (some ad357) l0_1.length c0_1, .slice A0_2 l0_2.length c0_2] 53 (0, 0)) u18_2 hb); clear hb hbox hg; have hnb25 := NB358_356.out; have hnc25 := NB356_358.out; obtain ⟨hcz26_0, hcz26_1, hcz26_2, hcz26_3, hcz26_4, hcz26_5, hcz26_6, hcz26_7, hcz26_8, hcz26_9, hfz26_0, hfz26_1, hfz26_2, hfz26_3, hfz26_4, hfz26_5, hfz26_6, hfz26_7, hfz26_8, hfz26_9⟩ := bc10f w24 BK358.out))
       go_ret
       exact ⟨er, Q0⟩
     rw [if_pos c16] at H
     have c16b0 : (((rd_T37 l0_1 x30_2).f0) == x30_2) = true := beq_iff_eq.mpr c16
     have c16b1 : (((rd_T37 l0_1 x30_2).f0) != x30_2) = false := bne_eq_false_iff_eq.mpr c16
     clear c16
     replace H := Option.bind_eq_some_iff.mp H
     obtain ⟨t359, A170, H⟩ := H
     have A17 := am A170
     clear A170
     have H9 := am H
     clear H
     have p357 : 0 ≤ (x30_2 : Int) := of_decide_eq_true Q1
     have q357 : x30_2 < (l0_1.length : Int) := of_decide_eq_true Q1
     obtain ⟨ad357, A357_7, c357_7, A357_8, c357_8, A357_9, c357_9, e357, hx357_0, hx357_1, hx357_2, hx357_3, hx357_4, hx357_5, hx357_6, hx357_7, hx357_8, hx357_9, hl357_7, hi357_7, hl357_8, hi357_8, hl357_9, hi357_9⟩ := at_T37 HR0_1.out x30_2 p357 q357
     cases e357
     replace hx357_0 := cm HB.out hx357_0
     replace hx357_1 := cm HB.out hx357_1
     replace hx357_2 := cm HB.out hx357_2
     replace hx357_3 := cm HB.out hx357_3
     replace hx357_4 := cm HB.out hx357_4
     replace hx357_5 := cm HB.out hx357_5
     replace hx357_6 := cm HB.out hx357_6
     replace hx357_7 := cm HB.out hx357_7
     replace hx357_8 := cm HB.out hx357_8
     replace hx357_9 := cm HB.out hx357_9
     have HR357_7 := am hi357_7
     have HC357_7 := am hl357_7
     clear hi357_7 hl357_7
     have HR357_8 := am hi357_8
     have HC357_8 := am hl357_8
     clear hi357_8 hl357_8
     have HR357_9 := am hi357_9
     have HC357_9 := am hl357_9
     clear hi357_9 hl357_9
     replace p357 := eq_true p357
     replace q357 := eq_true q357
     go_upto_if 45 with (first | ((with_reducible refine gate_dst (N := 4) rfl ?_); (try (refine gate_guard (by rfl) ?_; dsimp only)); refine box_event ?hg (N := 4) ?hd (cs := #[.int .i64 0, .int .i64 0, .int .i64 0, .int .i64 0, .int .i64 0, .int .i64 0, .int .i64 0, .slice none 0 0, .slice none 0 0, .slice none 0 0]) (t := 37) ?hr ?_; (case hd => rfl); (case hg => rfl); (case hr => first | (go_simp; done) | (go_simp; rfl)); intro gb358 hg w18 hbox hb; have BK358 := am (hbox); have GW358 := am ((by rw [hg]; exact (below_size Q0) : w.heap.size ≤ gb358)); have GE358 := am ((by rw [hg]; exact (below_size Q0) : w.heap.size ≤ gb358)); replace HB := am (below_step Q0 hb); have NB356_358 := am ((by rw [hg]; exact Nat.ne_of_lt (blk_lt (g := gb356) (o := .cells #[.int .i64 a0_0, .slice (some ad357) l0_1.length c0_1, .slice A0_2 l0_2.length c0_2] 53 (0, 0)) u18_2) : gb356 ≠ gb358)); have NB358_356 := am ((by rw [hg]; exact Nat.ne_of_gt (blk_lt (g := gb356) (o := .cells #[.int .i64 a0_0, .slice (some ad357) l0_1.length c0_1, .slice A0_2 l0_2.length c0_2] 53 (0, 0)) u18_2) : gb358 ≠ gb356)); replace BK356 := am (blk_below (g := gb356) (o := .cells #[.int .i64 a0_0, .slice (some ad357) l0_1.length c0_1, .slice A0_2 l0_2.length c0_2] 53 (0, 0)) u18_2 hb); clear hb hbox hg; have hnb19 := NB358_356.out; have hnc19 := NB356_358.out; obtain ⟨hcz20_0, hcz20_1, hcz20_2, hcz20_3, hcz20_4, hcz20_5, hcz20_6, hcz20_7, hcz20_8, hcz20_9, hfz20_0, hfz20_1, hfz20_2, hfz20_3, hfz20_4, hfz20_5, hfz20_6, hfz20_7, hfz20_8, hfz20_9⟩ := bc10f w18 BK358.out; obtain ⟨hcz21_0, hcz21_1, hcz21_2, hfz21_0, hfz21_1, hfz21_2⟩ := bc3f w18 BK356.out) | (go_at_call 78; (with_reducible refine (impl_isNode.calls k2 ((rd_T37 l0_1 x30_2).f0) ((rd_T37 l0_1 x30_2).f1) ((rd_T37 l0_1 x30_2).f2) ((rd_T37 l0_1 x30_2).f3) ((rd_T37 l0_1 x30_2).f4) ((rd_T37 l0_1 x30_2).f5.f0) ((rd_T37 l0_1 x30_2).f5.f1) _ _ ((rd_T37 l0_1 x30_2).f5.f2) _ _ ((rd_T37 l0_1 x30_2).f6) _ _ ((rd_T37 l0_1 x30_2).f7) a0_0 t359 _ ?side1 ?side2 ?side3 ?side4 ?side5 ?side6 A17.out).mono ?_); (case side1 => exact (by exact Kd.C_below HR357_7.out Q0)); (case side2 => exact HC357_7.out); (case side3 => exact (by exact Kd.C_below HR357_8.out Q0)); (case side4 => exact HC357_8.out); (case side5 => exact (by exact Kd.C_below HR357_9.out Q0)); (case side6 => exact HC357_9.out); rintro e w22 ⟨rfl, hb⟩; replace BK356 := am (blk_below (g := gb356) (o := .cells #[.int .i64 a0_0, .slice (some ad357) l0_1.length c0_1, .slice A0_2 l0_2.length c0_2] 53 (0, 0)) (by (with_reducible repeat (first | refine blk_drewN ?_ _ | refine blk_drew ?_ | refine blk_alloc ?_ _)); refine blk_far ?_ NB356_358.out _; (with_reducible repeat (first | refine blk_drewN ?_ _ | refine blk_drew ?_ | refine blk_alloc ?_ _)); refine blk_far ?_ NB356_358.out _; (with_reducible repeat (first | refine blk_drewN ?_ _ | refine blk_drew ?_ | refine blk_alloc ?_ _)); refine blk_far ?_ NB356_358.out _; (with_reducible repeat (first | refine blk_drewN ?_ _ | refine blk_drew ?_ | refine blk_alloc ?_ _)); refine blk_far ?_ NB356_358.out _; (with_reducible repeat (first | refine blk_drewN ?_ _ | refine blk_drew ?_ | refine blk_alloc ?_ _)); refine blk_far ?_ NB356_358.out _; (with_reducible repeat (first | refine blk_drewN ?_ _ | refine blk_drew ?_ | refine blk_alloc ?_ _)); refine blk_far ?_ NB356_358.out _; (with_reducible repeat (first | refine blk_drewN ?_ _ | refine blk_drew ?_ | refine blk_alloc ?_ _)); refine blk_far ?_ NB356_358.out _; (with_reducible repeat (first | refine blk_drewN ?_ _ | refine blk_drew ?_ | refine blk_alloc ?_ _)); refine blk_far ?_ NB356_358.out _; (with_reducible repeat (first | refine blk_drewN ?_ _ | refine blk_drew ?_ | refine blk_alloc ?_ _)); refine blk_far ?_ NB356_358.out _; (with_reducible repeat (first | refine blk_drewN ?_ _ | refine blk_drew ?_ | refine blk_alloc ?_ _)); refine blk_far ?_ NB356_358.out _; (with_reducible repeat (first | refine blk_drewN ?_ _ | refine blk_drew ?_ | refine blk_alloc ?_ _)); exact BK356.out) hb); replace BK358 := am (blk_below (g := gb358) (o := .cells #[.int .i64 ((rd_T37 l0_1 x30_2).f0), .int .i64 ((rd_T37 l0_1 x30_2).f1), .int .i64 ((rd_T37 l0_1 x30_2).f2), .int .i64 ((rd_T37 l0_1 x30_2).f3), .int .i64 ((rd_T37 l0_1 x30_2).f4), .int .i64 ((rd_T37 l0_1 x30_2).f5.f0), .int .i64 ((rd_T37 l0_1 x30_2).f5.f1), .slice A357_7 ((rd_T37 l0_1 x30_2).f5.f2).length c357_7, .slice A357_8 ((rd_T37 l0_1 x30_2).f6).length c357_8, .slice A357_9 ((rd_T37 l0_1 x30_2).f7).length c357_9] 37 (0, 0)) (by (with_reducible repeat (first | refine blk_drewN ?_ _ | refine blk_drew ?_ | refine blk_alloc ?_ _)); refine blk_put (cs := #[.int .i64 ((rd_T37 l0_1 x30_2).f0), .int .i64 ((rd_T37 l0_1 x30_2).f1), .int .i64 ((rd_T37 l0_1 x30_2).f2), .int .i64 ((rd_T37 l0_1 x30_2).f3), .int .i64 ((rd_T37 l0_1 x30_2).f4), .int .i64 ((rd_T37 l0_1 x30_2).f5.f0), .int .i64 ((rd_T37 l0_1 x30_2).f5.f1), .slice A357_7 ((rd_T37 l0_1 x30_2).f5.f2).length c357_7, .slice A357_8 ((rd_T37 l0_1 x30_2).f6).length c357_8, .slice none 0 0]) ?_ 9 _ rfl; (with_reducible repeat (first | refine blk_drewN ?_ _ | refine blk_drew ?_ | refine blk_alloc ?_ _)); refine blk_put (cs := #[.int .i64 ((rd_T37 l0_1 x30_2).f0), .int .i64 ((rd_T37 l0_1 x30_2).f1), .int .i64 ((rd_T37 l0_1 x30_2).f2), .int .i64 ((rd_T37 l0_1 x30_2).f3), .int .i64 ((rd_T37 l0_1 x30_2).f4), .int .i64 ((rd_T37 l0_1 x30_2).f5.f0), .int .i64 ((rd_T37 l0_1 x30_2).f5.f1), .slice A357_7 ((rd_T37 l0_1 x30_2).f5.f2).length c357_7, .slice none 0 0, .slice none 0 0]) ?_ 8 _ rfl; (with_reducible repeat (first | refine blk_drewN ?_ _ | refine blk_drew ?_ | refine blk_alloc ?_ _)); refine blk_put (cs := #[.int .i64 ((rd_T37 l0_1 x30_2).f0), .int .i64 ((rd_T37 l0_1 x30_2).f1), .int .i64 ((rd_T37 l0_1 x30_2).f2), .int .i64 ((rd_T37 l0_1 x30_2).f3), .int .i64 ((rd_T37 l0_1 x30_2).f4), .int .i64 ((rd_T37 l0_1 x30_2).f5.f0), .int .i64 ((rd_T37 l0_1 x30_2).f5.f1), .slice none 0 0, .slice none 0 0, .slice none 0 0]) ?_ 7 _ rfl; (with_reducible repeat (first | refine blk_drewN ?_ _ | refine blk_drew ?_ | refine blk_alloc ?_ _)); refine blk_put (cs := #[.int .i64 ((rd_T37 l0_1 x30_2).f0), .int .i64 ((rd_T37 l0_1 x30_2).f1), .int .i64 ((rd_T37 l0_1 x30_2).f2), .int .i64 ((rd_T37 l0_1 x30_2).f3), .int .i64 ((rd_T37 l0_1 x30_2).f4), .int .i64 ((rd_T37 l0_1 x30_2).f5.f0), .int .i64 0, .slice none 0 0, .slice none 0 0, .slice none 0 0]) ?_ 6 _ rfl; (with_reducible repeat (first | refine blk_drewN ?_ _ | refine blk_drew ?_ | refine blk_alloc ?_ _)); refine blk_put (cs := #[.int .i64 ((rd_T37 l0_1 x30_2).f0), .int .i64 ((rd_T37 l0_1 x30_2).f1), .int .i64 ((rd_T37 l0_1 x30_2).f2), .int .i64 ((rd_T37 l0_1 x30_2).f3), .int .i64 ((rd_T37 l0_1 x30_2).f4), .int .i64 0, .int .i64 0, .slice none 0 0, .slice none 0 0, .slice none 0 0]) ?_ 5 _ rfl; (with_reducible repeat (first | refine blk_drewN ?_ _ | refine blk_drew ?_ | refine blk_alloc ?_ _)); refine blk_put (cs := #[.int .i64 ((rd_T37 l0_1 x30_2).f0), .int .i64 ((rd_T37 l0_1 x30_2).f1), .int .i64 ((rd_T37 l0_1 x30_2).f2), .int .i64 ((rd_T37 l0_1 x30_2).f3), .int .i64 0, .int .i64 0, .int .i64 0, .slice none 0 0, .slice none 0 0, .slice none 0 0]) ?_ 4 _ rfl; (with_reducible repeat (first | refine blk_drewN ?_ _ | refine blk_drew ?_ | refine blk_alloc ?_ _)); refine blk_put (cs := #[.int .i64 ((rd_T37 l0_1 x30_2).f0), .int .i64 ((rd_T37 l0_1 x30_2).f1), .int .i64 ((rd_T37 l0_1 x30_2).f2), .int .i64 0, .int .i64 0, .int .i64 0, .int .i64 0, .slice none 0 0, .slice none 0 0, .slice none 0 0]) ?_ 3 _ rfl; (with_reducible repeat (first | refine blk_drewN ?_ _ | refine blk_drew ?_ | refine blk_alloc ?_ _)); refine blk_put (cs := #[.int .i64 ((rd_T37 l0_1 x30_2).f0), .int .i64 ((rd_T37 l0_1 x30_2).f1), .int .i64 0, .int .i64 0, .int .i64 0, .int .i64 0, .int .i64 0, .slice none 0 0, .slice none 0 0, .slice none 0 0]) ?_ 2 _ rfl; (with_reducible repeat (first | refine blk_drewN ?_ _ | refine blk_drew ?_ | refine blk_alloc ?_ _)); refine blk_put (cs := #[.int .i64 ((rd_T37 l0_1 x30_2).f0), .int .i64 0, .int .i64 0, .int .i64 0, .int .i64 0, .int .i64 0, .int .i64 0, .slice none 0 0, .slice none 0 0, .slice none 0 0]) ?_ 1 _ rfl; (with_reducible repeat (first | refine blk_drewN ?_ _ | refine blk_drew ?_ | refine blk_alloc ?_ _)); refine blk_put (cs := #[.int .i64 0, .int .i64 0, .int .i64 0, .int .i64 0, .int .i64 0, .int .i64 0, .int .i64 0, .slice none 0 0, .slice none 0 0, .slice none 0 0]) ?_ 0 _ rfl; (with_reducible repeat (first | refine blk_drewN ?_ _ | refine blk_drew ?_ | refine blk_alloc ?_ _)); exact BK358.out) hb); replace HB := am (below_step Q0 hb); (try clear hb); (try clear hb2); (try clear hk); (try clear hi)))
     have H := H9.out
     clear H9
     by_cases c23 : t359 = true
     rotate_left
     · replace c23 := Bool.eq_false_iff.mpr c23
       subst c23
       rw [nf] at H
       obtain rfl := sj H
       go_wp2
       go_ret
       exact ⟨er, Q0⟩
     subst c23
     rw [if_pos rfl] at H
     have H' := am H
     clear H
     go_wp2
     go_roundg k2
     case measure => have := HJ1.out; have := HK2.out; omega
     case rel => exact ⟨(wrap64 (x30_2 + 1)), Q3, H', ⟨(by have := HJ1.out; have := HK2.out; omega)⟩, ⟨u18_2⟩, ⟨Q0⟩⟩

/-! ### impl_Leaders: function 52 -/
def impl_Leaders.l0 : Nat → List Int → List (S37) → Int → Int → Option (List Int)
 | 0, _, _, _, _ => none
 | k + 1, x3, x11, x12, x13 => if x13 < x12 then (if 0 ≤ x13 then (if x13 < (x11.length : Int) then (if ((rd_T37 x11 x13).f3) = 2 then (if x3.length < 17592186044416 then (impl_Leaders.l0 k (x3 ++ [(rd_T37 x11 x13).f0]) x11 x12 (wrap64 (x13 + 1))) else (none)) else (impl_Leaders.l0 k x3 x11 x12 (wrap64 (x13 + 1)))) else (none)) else (none)) else (some x3)
def impl_Leaders.f (k : Nat) (a0_0 : Int) (l0_1 : List (S37)) (l0_2 : List (S29)) : Option (List Int) := (impl_isGroup.f k a0_0 l0_1 l0_2).bind fun t362 => (if t362 = true then (impl_Leaders.l0 k (([] : List Int)) l0_1 (l0_1.length : Int) 0) else (some ([] : List Int)))
theorem impl_Leaders.mono_l : ∀ k, (∀ y0 y1 y2 y3, LeO (impl_Leaders.l0 k y0 y1 y2 y3) (impl_Leaders.l0 (k + 1) y0 y1 y2 y3))
 | 0 => fun _ _ _ _ r h => by simp [impl_Leaders.l0] at h
 | k + 1 => by
   have ih0 := impl_Leaders.mono_l k
   · intro y0 y1 y2 y3
     unfold impl_Leaders.l0
     repeat' first
     | (with_reducible exact ih0 _ _ _ _)
     | (with_reducible exact impl_isGroup.mono _ _ _ _)
     | (with_reducible exact LeO.refl _)
     | (with_reducible exact LeO.none _)
     | (with_reducible refine LeO.ite ?_ ?_)
     | (with_reducible refine LeO.bind ?_ (fun _ => ?_))
     | exact ih0 _ _ _ _
     | exact impl_isGroup.mono _ _ _ _
     | exact LeO.none _
     | refine LeO.ite ?_ ?_
     | refine LeO.bind ?_ (fun _ => ?_)
theorem impl_Leaders.mono : ∀ a0 a1 a2 k, LeO (impl_Leaders.f k a0 a1 a2) (impl_Leaders.f (k + 1) a0 a1 a2) := by
 intro a0 a1 a2 k
 have ih0 := impl_Leaders.mono_l k
 unfold impl_Leaders.f
 repeat' first
     | (with_reducible exact ih0 _ _ _ _)
     | (with_reducible exact impl_isGroup.mono _ _ _ _)
     | (with_reducible exact LeO.refl _)
     | (with_reducible exact LeO.none _)
     | (with_reducible refine LeO.ite ?_ ?_)
     | (with_reducible refine LeO.bind ?_ (fun _ => ?_))
     | exact ih0 _ _ _ _
     | exact impl_isGroup.mono _ _ _ _
     | exact LeO.none _
     | refine LeO.ite ?_ ?_
     | refine LeO.bind ?_ (fun _ => ?_)
set_option maxHeartbeats 8000000 in
set_option maxRecDepth 100000 in
theorem impl_Leaders.calls (k : Nat) (a0_0 : Int) (A0_1 : Option Addr) (c0_1 : Nat) (l0_1 : List (S37)) (A0_2 : Option Addr) (c0_2 : Nat) (l0_2 : List (S29)) (r : List Int) (w : World) (hr0_1 : Kd.C k37 w A0_1 l0_1.length l0_1) (hc0_1 : l0_1.length ≤ c0_1) (hr0_2 : Kd.C k29 w A0_2 l0_2.length l0_2) (hc0_2 : l0_2.length ≤ c0_2) (h : impl_Leaders.f k a0_0 l0_1 l0_2 = some r) :
   Calls Try.prog 52 #[.agg #[.int .i64 a0_0, .slice A0_1 l0_1.length c0_1, .slice A0_2 l0_2.length c0_2]] w fun e w' => ∃ v0_ : Value, e = .returned (v0_) ∧ Kd.R (Kd.int .i64) 3 w' w.heap.size (fun _ => True) v0_ r ∧ Below w.heap.size w w' := by
 have hu53 := Try.underlying53
 have hu37 := Try.underlying37
 have HR0_1 := am hr0_1
 have HC0_1 := am hc0_1
 clear hr0_1 hc0_1
 have HR0_2 := am hr0_2
 have HC0_2 := am hc0_2
 clear hr0_2 hc0_2
 have HB := am (Below.refl w.heap.size w)
 have H : ((impl_isGroup.f k a0_0 l0_1 l0_2).bind fun t362 => (if t362 = true then (impl_Leaders.l0 k (([] : List Int)) l0_1 (l0_1.length : Int) 0) else (some ([] : List Int)))) = some r := h
 clear h
 replace H := Option.bind_eq_some_iff.mp H
 obtain ⟨t362, A20, H⟩ := H
 have A2 := am A20
 clear A20
 have H9 := am H
 clear H
 go_enter Try.func52, Try.ntmps52
 go_upto_if 8 with (first | ((with_reducible refine gate_dst (N := 1) rfl ?_); refine box_event ?hg (N := 1) ?hd (cs := #[.int .i64 a0_0, .slice A0_1 l0_1.length c0_1, .slice A0_2 l0_2.length c0_2]) (t := 53) ?hr ?_; (case hd => rfl); (case hg => rfl); (case hr => first | (go_simp; done) | (go_simp; rfl)); intro gb361 hg w3 hbox hb; have BK361 := am (hbox); have GW361 := am ((by rw [hg]; exact (below_size Q0) : w.heap.size ≤ gb361)); have GE361 := am ((by rw [hg]; exact (below_size Q0) : w.heap.size ≤ gb361)); replace HB := am (below_step Q0 hb); clear hb hbox hg; obtain ⟨hcz4_0, hcz4_1, hcz4_2, hfz4_0, hfz4_1, hfz4_2⟩ := bc3f w3 BK361.out) | ((with_reducible refine gate_callee (f := 98) rfl ?_); refine goesL_ (some 7) rfl rfl Try.func98 kr rfl #[.agg #[.int .i64 a0_0, .slice A0_1 l0_1.length c0_1, .slice A0_2 l0_2.length c0_2]] rfl Q2 ?_; (with_reducible refine (impl_isGroup.calls k a0_0 _ _ l0_1 _ _ l0_2 t362 _ ?side1 ?side2 ?side3 ?side4 A2.out).mono ?_); (case side1 => exact Q14); (case side2 => exact HC0_1.out); (case side3 => exact Q12); (case side4 => exact HC0_2.out); rintro e w5 ⟨rfl, hb⟩; refine ⟨_, rfl, ?_⟩; replace BK361 := am (blk_below (g := gb361) (o := .cells #[.int .i64 a0_0, .slice A0_1 l0_1.length c0_1, .slice A0_2 l0_2.length c0_2] 53 (0, 0)) u18_6 hb); replace HB := am (below_step Q0 hb); (try clear hb); (try clear hb2); (try clear hk); (try clear hi)))
 have H := H9.out
 clear H9
 by_cases c6 : t362 = true
 rotate_left
 · replace c6 := Bool.eq_false_iff.mpr c6
   subst c6
   rw [nf] at H
   obtain rfl := sj H
   go_wp2
   go_ret
   exact ⟨_, er, (by first | exact Kd.R_nil _ _ _ _ _ | exact Kd.N_nil _ _ _ _ _ | exact Kd.V_nil _ _ _ _ _ | exact Kd.Q_nil _ _ _ _ _ | exact Kd.S_nil _ _ _ _ _), Q0⟩
 subst c6
 rw [if_pos rfl] at H
 obtain ⟨y363, hy363⟩ : ∃ y_ : List Int, y_ = (([] : List Int)) := ⟨_, rfl⟩
 replace H : (impl_Leaders.l0 k y363 l0_1 (l0_1.length : Int) 0) = some r := by first | (rw [hy363]; with_reducible exact H) | (have H2_ := (Option.bind_some _ _).symm.trans H; rw [hy363]; with_reducible exact H2_) | (have H2_ := (Option.bind_some _ _).symm.trans H; with_reducible exact H2_) | with_reducible exact H | (rw [hy363]; exact H) | exact H
 have Ny363 := am hy363
 clear hy363
 have H' := am H
 clear H
 go_wp2_with (first | ((with_reducible refine gate_dst (N := 9) rfl ?_); refine Kd.R_lit (Kd.int .i64) _ 3 ?hg (N := 9) ?hd (xs := ([] : List Int)) (inner := []) (ok := fun _ => True) (okp := fun _ => True) ?hr ?hp (fun _ hk => hk) trivial (Below.refl _ _) (Nat.le_refl _) (by simp) ?_; (case hd => rfl); (case hg => rfl); (case hr => first | (go_simp; done) | (go_simp; rfl)); (case hp => exact (Reps.none _ _)); intro v364 w7 ho8 hb hg_ hnew_; clear hg_ hnew_; (first | rw [← Ny363.out] at ho8 | (simp only [Int.reduceToNat] at ho8; rw [← Ny363.out] at ho8)); have HO365 := am (Kd.R_lower ho8 (below_size Q0)); replace BK361 := am (blk_below (g := gb361) (o := .cells #[.int .i64 a0_0, .slice A0_1 l0_1.length c0_1, .slice A0_2 l0_2.length c0_2] 53 (0, 0)) u18_6 hb); replace HB := am (below_step Q0 hb); clear hb ho8; obtain ⟨hcz9_0, hcz9_1, hcz9_2, hfz9_0, hfz9_1, hfz9_2⟩ := bc3f w7 BK361.out))
 go_loopg [3, 13] k (fun kq v3 v13 w' => ∃ (x3_1 : List Int) (x13_1 : Int), v13 = .int .i64 x13_1 ∧ Aside0 (impl_Leaders.l0 kq x3_1 l0_1 (l0_1.length : Int) x13_1 = some r) ∧ Aside0 (kq ≤ k) ∧ Aside0 (Kd.R (Kd.int .i64) 3 w' w.heap.size (fun _ => True) v3 x3_1) ∧ Aside0 (w'.heap[gb361]? = some (.cells #[.int .i64 a0_0, (.slice A0_1 l0_1.length c0_1), (.slice A0_2 l0_2.length c0_2)] 53 (0, 0))) ∧ Aside0 (Below w.heap.size w w'))
 case atStart => exact ⟨(y363), (0), Q3, H', ⟨Nat.le_refl _⟩, ⟨(by (with_reducible repeat (first | apply Kd.R_alloc | apply Kd.R_drewN | apply Kd.R_drew)); exact HO365.out)⟩, ⟨u18_6⟩, ⟨Q0⟩⟩
 clear H'
 try clear c6
 try clear hcz4_0
 try clear hcz4_1
 try clear hcz4_2
 try clear hcz9_0
 try clear hcz9_1
 try clear hcz9_2
 try clear hfz4_0
 try clear hfz4_1
 try clear hfz4_2
 try clear hfz9_0
 try clear hfz9_1
 try clear hfz9_2
 obtain ⟨x3_1, x13_1, rfl, HA, HK1, HO_3, BK361, HB⟩ := hrel
 cases gk with
 | zero => exact absurd HA.out (by simp [impl_Leaders.l0])
 | succ k1 =>
   have H := HA.out
   clear HA
   simp only [impl_Leaders.l0] at H
   by_cases c10 : x13_1 < (l0_1.length : Int)
   rotate_left
   · rw [if_neg c10] at H
     have c10b0 : decide (x13_1 < (l0_1.length : Int)) = false := decide_eq_false c10
     clear c10
     (first | rw [c10b0] | (simp only [i64_w, i32_w]; rw [c10b0]) | skip)
     obtain rfl := sj H
     go_wp2
     go_ret
     exact ⟨_, er, Q9, Q0⟩
   rw [if_pos c10] at H
   have c10b0 : decide (x13_1 < (l0_1.length : Int)) = true := decide_eq_true c10
   clear c10
   (first | rw [c10b0] | (simp only [i64_w, i32_w]; rw [c10b0]) | skip)
   by_cases c11 : 0 ≤ x13_1
   rotate_left
   · rw [if_neg c11] at H
     exact absurd H (by simp)
   rw [if_pos c11] at H
   have c11b0 : decide (0 ≤ x13_1) = true := decide_eq_true c11
   clear c11
   by_cases c12 : x13_1 < (l0_1.length : Int)
   rotate_left
   · rw [if_neg c12] at H
     exact absurd H (by simp)
   rw [if_pos c12] at H
   have c12b0 : decide (x13_1 < (l0_1.length : Int)) = true := decide_eq_true c12
   clear c12
   have H9 := am H
   clear H
   have p366 : 0 ≤ (x13_1 : Int) := of_decide_eq_true Q1
   have q366 : x13_1 < (l0_1.length : Int) := of_decide_eq_true Q1
   obtain ⟨ad366, A366_7, c366_7, A366_8, c366_8, A366_9, c366_9, e366, hx366_0, hx366_1, hx366_2, hx366_3, hx366_4, hx366_5, hx366_6, hx366_7, hx366_8, hx366_9, hl366_7, hi366_7, hl366_8, hi366_8, hl366_9, hi366_9⟩ := at_T37 HR0_1.out x13_1 p366 q366
   cases e366
   replace hx366_0 := cm HB.out hx366_0
   replace hx366_1 := cm HB.out hx366_1
   replace hx366_2 := cm HB.out hx366_2
   replace hx366_3 := cm HB.out hx366_3
   replace hx366_4 := cm HB.out hx366_4
   replace hx366_5 := cm HB.out hx366_5
   replace hx366_6 := cm HB.out hx366_6
   replace hx366_7 := cm HB.out hx366_7
   replace hx366_8 := cm HB.out hx366_8
   replace hx366_9 := cm HB.out hx366_9
   have HR366_7 := am hi366_7
   have HC366_7 := am hl366_7
   clear hi366_7 hl366_7
   have HR366_8 := am hi366_8
   have HC366_8 := am hl366_8
   clear hi366_8 hl366_8
   have HR366_9 := am hi366_9
   have HC366_9 := am hl366_9
   clear hi366_9 hl366_9
   replace p366 := eq_true p366
   replace q366 := eq_true q366
   go_upto_if 19 with (first | ((with_reducible refine gate_dst (N := 5) rfl ?_); refine box_event ?hg (N := 5) ?hd (cs := #[.int .i64 0, .int .i64 0, .int .i64 0, .int .i64 0, .int .i64 0, .int .i64 0, .int .i64 0, .slice none 0 0, .slice none 0 0, .slice none 0 0]) (t := 37) ?hr ?_; (case hd => rfl); (case hg => rfl); (case hr => first | (go_simp; done) | (go_simp; rfl)); intro gb367 hg w13 hbox hb; replace HO_3 := am (Kd.R_below Q9 hb); have BK367 := am (hbox); have GW367 := am ((by rw [hg]; exact (below_size Q0) : w.heap.size ≤ gb367)); have GE367 := am ((by rw [hg]; exact (below_size Q0) : w.heap.size ≤ gb367)); replace HB := am (below_step Q0 hb); have NB361_367 := am ((by rw [hg]; exact Nat.ne_of_lt (blk_lt (g := gb361) (o := .cells #[.int .i64 a0_0, .slice (some ad366) l0_1.length c0_1, .slice A0_2 l0_2.length c0_2] 53 (0, 0)) u18_6) : gb361 ≠ gb367)); have NB367_361 := am ((by rw [hg]; exact Nat.ne_of_gt (blk_lt (g := gb361) (o := .cells #[.int .i64 a0_0, .slice (some ad366) l0_1.length c0_1, .slice A0_2 l0_2.length c0_2] 53 (0, 0)) u18_6) : gb367 ≠ gb361)); replace BK361 := am (blk_below (g := gb361) (o := .cells #[.int .i64 a0_0, .slice (some ad366) l0_1.length c0_1, .slice A0_2 l0_2.length c0_2] 53 (0, 0)) u18_6 hb); clear hb hbox hg; have hnb14 := NB367_361.out; have hnc14 := NB361_367.out; obtain ⟨hcz15_0, hcz15_1, hcz15_2, hcz15_3, hcz15_4, hcz15_5, hcz15_6, hcz15_7, hcz15_8, hcz15_9, hfz15_0, hfz15_1, hfz15_2, hfz15_3, hfz15_4, hfz15_5, hfz15_6, hfz15_7, hfz15_8, hfz15_9⟩ := bc10f w13 BK367.out))
   have H := H9.out
   clear H9
   by_cases c16 : ((rd_T37 l0_1 x13_1).f3) = 2
   rotate_left
   · rw [if_neg c16] at H
     have c16b0 : (((rd_T37 l0_1 x13_1).f3) == 2) = false := beq_eq_false_iff_ne.mpr c16
     have c16b1 : (((rd_T37 l0_1 x13_1).f3) != 2) = true := bne_iff_ne.mpr c16
     (first | rw [c16b0] | (simp only [i64_w, i32_w]; rw [c16b0]) | skip)
     have H' := am H
     clear H
     go_wp2
     go_roundg k1
     case measure => have := HK1.out; omega
     case rel => exact ⟨(x3_1), (wrap64 (x13_1 + 1)), Q3, H', ⟨by have := HK1.out; omega⟩, ⟨u18_5⟩, ⟨u18_1⟩, ⟨Q0⟩⟩
   rw [if_pos c16] at H
   have c16b0 : (((rd_T37 l0_1 x13_1).f3) == 2) = true := beq_iff_eq.mpr c16
   have c16b1 : (((rd_T37 l0_1 x13_1).f3) != 2) = false := bne_eq_false_iff_eq.mpr c16
   clear c16
   (first | rw [c16b0] | (simp only [i64_w, i32_w]; rw [c16b0]) | skip)
   by_cases c17 : x3_1.length < 17592186044416
   rotate_left
   · rw [if_neg c17] at H
     exact absurd H (by simp)
   rw [if_pos c17] at H
   have LMc17 := am c17
   clear c17
   obtain ⟨y368, hy368⟩ : ∃ y_ : List Int, y_ = (x3_1 ++ [(rd_T37 l0_1 x13_1).f0]) := ⟨_, rfl⟩
   replace H : (impl_Leaders.l0 k1 y368 l0_1 (l0_1.length : Int) (wrap64 (x13_1 + 1))) = some r := by first | (rw [hy368]; with_reducible exact H) | (have H2_ := (Option.bind_some _ _).symm.trans H; rw [hy368]; with_reducible exact H2_) | (have H2_ := (Option.bind_some _ _).symm.trans H; with_reducible exact H2_) | with_reducible exact H | (rw [hy368]; exact H) | exact H
   have Ny368 := am hy368
   clear hy368
   have H' := am H
   clear H
   have hnb18 := NB367_361.out
   have hnc18 := NB361_367.out
   obtain ⟨hcz19_0, hcz19_1, hcz19_2, hcz19_3, hcz19_4, hcz19_5, hcz19_6, hcz19_7, hcz19_8, hcz19_9, hfz19_0, hfz19_1, hfz19_2, hfz19_3, hfz19_4, hfz19_5, hfz19_6, hfz19_7, hfz19_8, hfz19_9⟩ := bc10f w13 BK367.out
   go_wp2_with (first | ((with_reducible refine gate_builtin (b := .append) (xs := #[.tmp 20, .tmp 23]) rfl ?_); at_builtin; refine Kd.R_append (Kd.int .i64) (w0 := w) w.heap.size rfl (.tmp 20) (.tmp 23) 35 3 (.int .i64 0) 8 rfl Try.underlying35 info3 rfl (by decide) (by omega) u3 x3_1 ((rd_T37 l0_1 x13_1).f0) [.int .i64 ((rd_T37 l0_1 x13_1).f0)] (fun _ => True) (fun _ => False) rfl (by first | (go_simp; done) | (go_simp; rfl)) ?aP (fun _ hk => hk.elim) ?aF ?aO ?aB ?aS ?aL ?_; (case aP => exact rfl); (case aB => exact Q0); (case aF => exact (fun _ _ => trivial)); (case aO => exact u18_5); (case aS => exact (below_size Q0)); (case aL => have := LMc17.out; omega); intro v369 w20 ho hb hg hat; rw [← Ny368.out] at ho; replace BK361 := am (blk_grown (g := gb361) (o := .cells #[.int .i64 a0_0, .slice (some ad366) l0_1.length c0_1, .slice A0_2 l0_2.length c0_2] 53 (0, 0)) u18_1 hg (Kd.R_ne HO_3.out BK361.out (by decide))); replace BK367 := am (blk_grown (g := gb367) (o := .cells #[.int .i64 ((rd_T37 l0_1 x13_1).f0), .int .i64 ((rd_T37 l0_1 x13_1).f1), .int .i64 ((rd_T37 l0_1 x13_1).f2), .int .i64 ((rd_T37 l0_1 x13_1).f3), .int .i64 ((rd_T37 l0_1 x13_1).f4), .int .i64 ((rd_T37 l0_1 x13_1).f5.f0), .int .i64 ((rd_T37 l0_1 x13_1).f5.f1), .slice A366_7 ((rd_T37 l0_1 x13_1).f5.f2).length c366_7, .slice A366_8 ((rd_T37 l0_1 x13_1).f6).length c366_8, .slice A366_9 ((rd_T37 l0_1 x13_1).f7).length c366_9] 37 (0, 0)) (by (with_reducible repeat (first | refine blk_drewN ?_ _ | refine blk_drew ?_ | refine blk_alloc ?_ _)); refine blk_put (cs := #[.int .i64 ((rd_T37 l0_1 x13_1).f0), .int .i64 ((rd_T37 l0_1 x13_1).f1), .int .i64 ((rd_T37 l0_1 x13_1).f2), .int .i64 ((rd_T37 l0_1 x13_1).f3), .int .i64 ((rd_T37 l0_1 x13_1).f4), .int .i64 ((rd_T37 l0_1 x13_1).f5.f0), .int .i64 ((rd_T37 l0_1 x13_1).f5.f1), .slice A366_7 ((rd_T37 l0_1 x13_1).f5.f2).length c366_7, .slice A366_8 ((rd_T37 l0_1 x13_1).f6).length c366_8, .slice none 0 0]) ?_ 9 _ rfl; (with_reducible repeat (first | refine blk_drewN ?_ _ | refine blk_drew ?_ | refine blk_alloc ?_ _)); refine blk_put (cs := #[.int .i64 ((rd_T37 l0_1 x13_1).f0), .int .i64 ((rd_T37 l0_1 x13_1).f1), .int .i64 ((rd_T37 l0_1 x13_1).f2), .int .i64 ((rd_T37 l0_1 x13_1).f3), .int .i64 ((rd_T37 l0_1 x13_1).f4), .int .i64 ((rd_T37 l0_1 x13_1).f5.f0), .int .i64 ((rd_T37 l0_1 x13_1).f5.f1), .slice A366_7 ((rd_T37 l0_1 x13_1).f5.f2).length c366_7, .slice none 0 0, .slice none 0 0]) ?_ 8 _ rfl; (with_reducible repeat (first | refine blk_drewN ?_ _ | refine blk_drew ?_ | refine blk_alloc ?_ _)); refine blk_put (cs := #[.int .i64 ((rd_T37 l0_1 x13_1).f0), .int .i64 ((rd_T37 l0_1 x13_1).f1), .int .i64 ((rd_T37 l0_1 x13_1).f2), .int .i64 ((rd_T37 l0_1 x13_1).f3), .int .i64 ((rd_T37 l0_1 x13_1).f4), .int .i64 ((rd_T37 l0_1 x13_1).f5.f0), .int .i64 ((rd_T37 l0_1 x13_1).f5.f1), .slice none 0 0, .slice none 0 0, .slice none 0 0]) ?_ 7 _ rfl; (with_reducible repeat (first | refine blk_drewN ?_ _ | refine blk_drew ?_ | refine blk_alloc ?_ _)); refine blk_put (cs := #[.int .i64 ((rd_T37 l0_1 x13_1).f0), .int .i64 ((rd_T37 l0_1 x13_1).f1), .int .i64 ((rd_T37 l0_1 x13_1).f2), .int .i64 ((rd_T37 l0_1 x13_1).f3), .int .i64 ((rd_T37 l0_1 x13_1).f4), .int .i64 ((rd_T37 l0_1 x13_1).f5.f0), .int .i64 0, .slice none 0 0, .slice none 0 0, .slice none 0 0]) ?_ 6 _ rfl; (with_reducible repeat (first | refine blk_drewN ?_ _ | refine blk_drew ?_ | refine blk_alloc ?_ _)); refine blk_put (cs := #[.int .i64 ((rd_T37 l0_1 x13_1).f0), .int .i64 ((rd_T37 l0_1 x13_1).f1), .int .i64 ((rd_T37 l0_1 x13_1).f2), .int .i64 ((rd_T37 l0_1 x13_1).f3), .int .i64 ((rd_T37 l0_1 x13_1).f4), .int .i64 0, .int .i64 0, .slice none 0 0, .slice none 0 0, .slice none 0 0]) ?_ 5 _ rfl; (with_reducible repeat (first | refine blk_drewN ?_ _ | refine blk_drew ?_ | refine blk_alloc ?_ _)); refine blk_put (cs := #[.int .i64 ((rd_T37 l0_1 x13_1).f0), .int .i64 ((rd_T37 l0_1 x13_1).f1), .int .i64 ((rd_T37 l0_1 x13_1).f2), .int .i64 ((rd_T37 l0_1 x13_1).f3), .int .i64 0, .int .i64 0, .int .i64 0, .slice none 0 0, .slice none 0 0, .slice none 0 0]) ?_ 4 _ rfl; (with_reducible repeat (first | refine blk_drewN ?_ _ | refine blk_drew ?_ | refine blk_alloc ?_ _)); refine blk_put (cs := #[.int .i64 ((rd_T37 l0_1 x13_1).f0), .int .i64 ((rd_T37 l0_1 x13_1).f1), .int .i64 ((rd_T37 l0_1 x13_1).f2), .int .i64 0, .int .i64 0, .int .i64 0, .int .i64 0, .slice none 0 0, .slice none 0 0, .slice none 0 0]) ?_ 3 _ rfl; (with_reducible repeat (first | refine blk_drewN ?_ _ | refine blk_drew ?_ | refine blk_alloc ?_ _)); refine blk_put (cs := #[.int .i64 ((rd_T37 l0_1 x13_1).f0), .int .i64 ((rd_T37 l0_1 x13_1).f1), .int .i64 0, .int .i64 0, .int .i64 0, .int .i64 0, .int .i64 0, .slice none 0 0, .slice none 0 0, .slice none 0 0]) ?_ 2 _ rfl; (with_reducible repeat (first | refine blk_drewN ?_ _ | refine blk_drew ?_ | refine blk_alloc ?_ _)); refine blk_put (cs := #[.int .i64 ((rd_T37 l0_1 x13_1).f0), .int .i64 0, .int .i64 0, .int .i64 0, .int .i64 0, .int .i64 0, .int .i64 0, .slice none 0 0, .slice none 0 0, .slice none 0 0]) ?_ 1 _ rfl; (with_reducible repeat (first | refine blk_drewN ?_ _ | refine blk_drew ?_ | refine blk_alloc ?_ _)); refine blk_put (cs := #[.int .i64 0, .int .i64 0, .int .i64 0, .int .i64 0, .int .i64 0, .int .i64 0, .int .i64 0, .slice none 0 0, .slice none 0 0, .slice none 0 0]) ?_ 0 _ rfl; (with_reducible repeat (first | refine blk_drewN ?_ _ | refine blk_drew ?_ | refine blk_alloc ?_ _)); exact BK367.out) hg (Kd.R_ne HO_3.out BK367.out (by decide))); replace HB := am (hb); have HO370 := am (ho); clear HO_3; clear ho hb hg hat))
   go_roundg k1
   case measure => have := HK1.out; omega
   case rel => exact ⟨(y368), (wrap64 (x13_1 + 1)), Q3, H', ⟨by have := HK1.out; omega⟩, ⟨(by (with_reducible repeat (first | apply Kd.R_alloc | apply Kd.R_drewN | apply Kd.R_drew)); exact HO370.out)⟩, ⟨u18_6⟩, ⟨Q0⟩⟩

/-! ### laws_heldIntS: function 55 -/
def laws_heldIntS.l0 : Nat → List Int → Int → Int → Option (Int)
 | 0, _, _, _ => none
 | k + 1, x0, x1, x5 => if x5 < (x0.length : Int) then (if 0 ≤ x5 then (if (rd x0 x5) = x1 then (laws_heldIntS.l0 k x0 (wrap64 (x1 + 1)) (wrap64 (x5 + 1))) else (some (-1))) else (none)) else (some x1)
def laws_heldIntS.f (k : Nat) (l0 : List Int) (a1 : Int) : Option (Int) := laws_heldIntS.l0 k l0 a1 0
theorem laws_heldIntS.mono_l : ∀ k, (∀ y0 y1 y2, LeO (laws_heldIntS.l0 k y0 y1 y2) (laws_heldIntS.l0 (k + 1) y0 y1 y2))
 | 0 => fun _ _ _ r h => by simp [laws_heldIntS.l0] at h
 | k + 1 => by
   have ih0 := laws_heldIntS.mono_l k
   · intro y0 y1 y2
     unfold laws_heldIntS.l0
     repeat' first
     | (with_reducible exact ih0 _ _ _)
     | (with_reducible exact LeO.refl _)
     | (with_reducible exact LeO.none _)
     | (with_reducible refine LeO.ite ?_ ?_)
     | (with_reducible refine LeO.bind ?_ (fun _ => ?_))
     | exact ih0 _ _ _
     | exact LeO.none _
     | refine LeO.ite ?_ ?_
     | refine LeO.bind ?_ (fun _ => ?_)
theorem laws_heldIntS.mono : ∀ a0 a1 k, LeO (laws_heldIntS.f k a0 a1) (laws_heldIntS.f (k + 1) a0 a1) := by
 intro a0 a1 k
 have ih0 := laws_heldIntS.mono_l k
 unfold laws_heldIntS.f
 repeat' first
     | (with_reducible exact ih0 _ _ _)
     | (with_reducible exact LeO.refl _)
     | (with_reducible exact LeO.none _)
     | (with_reducible refine LeO.ite ?_ ?_)
     | (with_reducible refine LeO.bind ?_ (fun _ => ?_))
     | exact ih0 _ _ _
     | exact LeO.none _
     | refine LeO.ite ?_ ?_
     | refine LeO.bind ?_ (fun _ => ?_)
set_option maxHeartbeats 8000000 in
set_option maxRecDepth 100000 in
theorem laws_heldIntS.calls (k : Nat) (A0 : Option Addr) (c0 : Nat) (l0 : List Int) (a1 : Int) (r : Int) (w : World) (hr0 : Kd.C (Kd.int .i64) w A0 l0.length l0) (hc0 : l0.length ≤ c0) (h : laws_heldIntS.f k l0 a1 = some r) :
   Calls Try.prog 55 #[.slice A0 l0.length c0, .int .i64 a1] w fun e w' => e = .returned (.int .i64 r) ∧ Drawn0 w w' := by
 have HR0 := am hr0
 have HC0 := am hc0
 clear hr0 hc0
 have H : (laws_heldIntS.l0 k l0 a1 0) = some r := h
 clear h
 have H' := am H
 clear H
 go_enter Try.func55, Try.ntmps55
 go_wp2
 go_loopg [1, 5] k (fun kq v1 v5 w' => ∃ (x1_1 : Int) (x5_1 : Int), v1 = .int .i64 x1_1 ∧ v5 = .int .i64 x5_1 ∧ Aside0 (laws_heldIntS.l0 kq l0 x1_1 x5_1 = some r) ∧ Aside0 (kq ≤ k) ∧ Drawn0 w w')
 case atStart => exact ⟨(a1), (0), Q3, Q3, H', ⟨Nat.le_refl _⟩, Q4⟩
 clear H'
 obtain ⟨x1_1, x5_1, rfl, rfl, HA, HK1, ⟨m1, rfl⟩⟩ := hrel
 cases gk with
 | zero => exact absurd HA.out (by simp [laws_heldIntS.l0])
 | succ k1 =>
   have H := HA.out
   clear HA
   simp only [laws_heldIntS.l0] at H
   by_cases c3 : x5_1 < (l0.length : Int)
   rotate_left
   · rw [if_neg c3] at H
     have c3b0 : decide (x5_1 < (l0.length : Int)) = false := decide_eq_false c3
     clear c3
     obtain rfl := sj H
     go_wp2
     go_ret
     exact ⟨by first | rfl | (simp; done) | (simp [*]; done), Q4⟩
   rw [if_pos c3] at H
   have c3b0 : decide (x5_1 < (l0.length : Int)) = true := decide_eq_true c3
   clear c3
   by_cases c4 : 0 ≤ x5_1
   rotate_left
   · rw [if_neg c4] at H
     exact absurd H (by simp)
   rw [if_pos c4] at H
   have c4b0 : decide (0 ≤ x5_1) = true := decide_eq_true c4
   clear c4
   have H9 := am H
   clear H
   have p371 : 0 ≤ (x5_1 : Int) := of_decide_eq_true Q1
   have q371 : x5_1 < (l0.length : Int) := of_decide_eq_true Q1
   obtain ⟨ad371, e371, hx371_0⟩ := Kd.at_int HR0.out x5_1 p371 q371
   cases e371
   replace p371 := eq_true p371
   replace q371 := eq_true q371
   go_upto_if 17 with (fail)
   have H := H9.out
   clear H9
   by_cases c5 : (rd l0 x5_1) = x1_1
   rotate_left
   · rw [if_neg c5] at H
     have c5b0 : ((rd l0 x5_1) == x1_1) = false := beq_eq_false_iff_ne.mpr c5
     have c5b1 : ((rd l0 x5_1) != x1_1) = true := bne_iff_ne.mpr c5
     (first | rw [c5b0] | (simp only [i64_w, i32_w]; rw [c5b0]) | skip)
     obtain rfl := sj H
     go_wp2
     go_ret
     exact ⟨by first | rfl | (simp; done) | (simp [*]; done), Q4⟩
   rw [if_pos c5] at H
   have c5b0 : ((rd l0 x5_1) == x1_1) = true := beq_iff_eq.mpr c5
   have c5b1 : ((rd l0 x5_1) != x1_1) = false := bne_eq_false_iff_eq.mpr c5
   clear c5
   (first | rw [c5b0] | (simp only [i64_w, i32_w]; rw [c5b0]) | skip)
   have H' := am H
   clear H
   go_wp2
   go_roundg k1
   case measure => have := HK1.out; omega
   case rel => exact ⟨(wrap64 (x1_1 + 1)), (wrap64 (x5_1 + 1)), Q3, Q3, H', ⟨by have := HK1.out; omega⟩, Q4⟩

end Go.Proofs.Ytkcadcoohmofcaa.QFnExactLeaders
