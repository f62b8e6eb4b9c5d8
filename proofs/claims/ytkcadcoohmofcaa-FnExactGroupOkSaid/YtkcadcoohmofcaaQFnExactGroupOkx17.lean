-- Printed by the session's own program wip/prx.py.
import Derived.Test.YtkcadcoohmofcaaSqFnExactGroupOk
import Derived.Test.YtkcadcoohmofcaaQFnExactGroupOkx0
import Derived.Test.YtkcadcoohmofcaaQFnExactGroupOkx4
import Derived.Test.YtkcadcoohmofcaaQFnExactGroupOkx5
import Derived.Test.YtkcadcoohmofcaaQFnExactGroupOkx10
import Derived.Test.YtkcadcoohmofcaaQFnExactGroupOkx11
import Derived.Test.YtkcadcoohmofcaaQFnExactGroupOkx14
import Derived.Test.YtkcadcoohmofcaaQFnExactGroupOkx16
namespace Go.Proofs.Ytkcadcoohmofcaa.QFnExactGroupOk
open Go.RowKit Go.Proofs.YtkcadcoohmofcaaW.PrintWords Go.Proofs.YtkcadcoohmofcaaW.PrintLast Go.Proofs.YtkcadcoohmofcaaW.PrintMore Go.Proofs.Ytkcadcoohmofcaa.SqFnExactGroupOk
attribute [local go_sem] max2_int min2_int max_two min_two max_three min_three max_four min_four Go.Proofs.Ytkcadcoohmofcaa.Set.isSome_setCell
set_option linter.unusedVariables false
set_option linter.unusedSimpArgs false

-- squeezed
theorem u17_0 {P : Prop} (h : P := by repeat (first | (with_reducible first | exact HB.out | apply below_alloc | apply pw_below_drewN | apply below_drew1 | refine below_set ?_ GE317.out) | exact HB.out)) : P := h
theorem u17_1 {P : Prop} (h : P := by repeat (first | (with_reducible first | exact HB.out | apply below_alloc | apply pw_below_drewN | apply below_drew1 | refine below_set ?_ GE324.out) | exact HB.out)) : P := h
theorem u17_2 {P : Prop} (h : P := by (with_reducible repeat (first | refine blk_drewN ?_ _ | refine blk_drew ?_ | refine blk_alloc ?_ _)); exact BK317.out) : P := h
theorem u17_3 {P : Prop} (h : P := by repeat (first | (with_reducible first | exact HB.out | apply below_alloc | apply pw_below_drewN | apply below_drew1 | refine below_set ?_ GE317.out | refine below_set ?_ GE319.out) | exact HB.out)) : P := h
theorem u17_4 {P : Prop} (h : P := by (try simp only [List.map_toArray, List.map_cons, List.map_nil]); first | done | rfl | (simp only [List.length_drop, List.length_take]; rfl)) : P := h
theorem u17_5 {P : Prop} (h : P := by repeat (first | (with_reducible first | exact HB.out | apply below_alloc | apply pw_below_drewN | apply below_drew1) | exact HB.out)) : P := h
theorem u17_6 {P : Prop} (h : P := by repeat (first | exact (Kd.C_below HR0_2.out HB.out) | (with_reducible refine Kd.C_alloc ?_ _) | (with_reducible refine Kd.C_drewN ?_ _) | (with_reducible refine Kd.C_drew ?_))) : P := h
theorem u17_7 {P : Prop} (h : P := by repeat (first | (with_reducible first | exact HB.out | apply below_alloc | apply pw_below_drewN | apply below_drew1 | refine below_set ?_ GE324.out | refine below_set ?_ GE341.out) | exact HB.out)) : P := h
theorem u17_8 {P : Prop} (h : P := by (with_reducible repeat (first | refine blk_drewN ?_ _ | refine blk_drew ?_ | refine blk_alloc ?_ _)); exact BK324.out) : P := h
theorem u17_9 {P : Prop} (h : P := by repeat (first | exact (Kd.C_below HR0_1.out HB.out) | (with_reducible refine Kd.C_alloc ?_ _) | (with_reducible refine Kd.C_drewN ?_ _) | (with_reducible refine Kd.C_drew ?_))) : P := h
theorem u17_10 {P : Prop} (h : P := by (with_reducible repeat (first | apply Kd.S_alloc | apply Kd.S_drewN | apply Kd.S_drew)); exact HO329.out) : P := h
theorem u17_11 {P : Prop} (h : P := by (with_reducible repeat (first | apply Kd.S_alloc | apply Kd.S_drewN | apply Kd.S_drew)); exact HO332.out) : P := h
theorem u17_12 {P : Prop} (h : P := by (with_reducible repeat (first | apply Kd.S_alloc | apply Kd.S_drewN | apply Kd.S_drew)); exact (Kd.S_mono (Kd.S_far (p := ⟨gb341, 2, none⟩) (Kd.S_far (p := ⟨gb341, 1, none⟩) (Kd.S_far (p := ⟨gb341, 0, none⟩) (Kd.S_types HO337.out BK341.out (by decide)) (fun _ hk => hk.2) (.int .i64 t334)) (fun _ hk => hk.2) (.slice Ao25 t335.length co25)) (fun _ hk => hk.2) (.slice Ao26 t338.length co26)) (fun _ h_ => h_.1))) : P := h
theorem u17_13 {P : Prop} (h : P := by (with_reducible repeat (first | apply Kd.S_alloc | apply Kd.S_drewN | apply Kd.S_drew)); exact (Kd.S_mono (Kd.S_far (p := ⟨gb341, 2, none⟩) (Kd.S_far (p := ⟨gb341, 1, none⟩) (Kd.S_far (p := ⟨gb341, 0, none⟩) (Kd.S_types HO340.out BK341.out (by decide)) (fun _ hk => hk.2) (.int .i64 t334)) (fun _ hk => hk.2) (.slice Ao25 t335.length co25)) (fun _ hk => hk.2) (.slice Ao26 t338.length co26)) (fun _ h_ => h_.1))) : P := h
theorem u17_14 {P : Prop} (h : P := by (with_reducible repeat (first | apply Kd.S_alloc | apply Kd.S_drewN | apply Kd.S_drew)); exact HO337.out) : P := h
theorem u17_15 {P : Prop} (h : P := by (with_reducible repeat (first | apply Kd.S_alloc | apply Kd.S_drewN | apply Kd.S_drew)); exact HO340.out) : P := h
theorem u17_16 {P : Prop} (h : P := by first | rfl | (simp; done) | (simp [*]; done)) : P := h
theorem u17_17 {P : Prop} (h : P := by repeat (first | (with_reducible first | exact HB.out | apply below_alloc | apply pw_below_drewN | apply below_drew1 | refine below_set ?_ GE322.out) | exact HB.out)) : P := h
theorem u17_18 {P : Prop} (h : P := by first | (with_reducible assumption) | assumption) : P := h
theorem u17_19 {P : Prop} (h : P := by (with_reducible repeat (first | refine blk_drewN ?_ _ | refine blk_drew ?_ | refine blk_alloc ?_ _)); exact BK341.out) : P := h
/-! ### impl_Msg: function 120 -/
def impl_Msg.o (k : Nat) (n : Int) : List S29 → Option Bool
 | [] => some false
 | y :: ys => (impl_isMsg.f k y.f0 y.f1 y.f2 y.f3 y.f4 y.f5 y.f6 y.f7 y.f8 n).bind fun t => if t = true then impl_Msg.o k n ys else some true
def impl_Msg.f (k : Nat) (l0 : List S29) (a1_0 : Int) (l1_1 : List (S37)) (l1_2 : List (S29)) : Option Bool := impl_Msg.o k a1_0 l0
theorem impl_Msg.mono : ∀ l0 a1_0 l1_1 l1_2 k, LeO (impl_Msg.f k l0 a1_0 l1_1 l1_2) (impl_Msg.f (k + 1) l0 a1_0 l1_1 l1_2) := by
 intro l0 a1_0 l1_1 l1_2 k
 unfold impl_Msg.f
 induction l0 with
 | nil => exact fun r h => h
 | cons y ys ih =>
   unfold impl_Msg.o
   refine LeO.bind (impl_isMsg.mono _ _ _ _ _ _ _ _ _ _ _) (fun t => ?_)
   refine LeO.ite ?_ ?_
   · exact ih
   exact fun r h => h
set_option maxHeartbeats 1600000 in
set_option maxRecDepth 100000 in
theorem impl_Msg.lit (k : Nat) (b : Nat) (a1_0 : Int) (y : S29) (A8 : Option Addr) (c8 : Nat) (t : Bool) (w : World) (hid : w.cell? ⟨b, 0, none⟩ = some (.int .i64 a1_0)) (hr : Kd.C k85 w A8 y.f8.length y.f8) (hc : y.f8.length ≤ c8) (h : impl_isMsg.f k y.f0 y.f1 y.f2 y.f3 y.f4 y.f5 y.f6 y.f7 y.f8 a1_0 = some t) :
   Calls Try.prog 121 #[.agg #[.int .i64 y.f0, .int .i64 y.f1, .int .i64 y.f2, .int .i64 y.f3, .int .i64 y.f4, .int .i64 y.f5, .int .i64 y.f6, .bool y.f7, .slice A8 y.f8.length c8], .pointer (some ⟨b, 0, none⟩)] w fun e w' => e = .returned (.bool (!t)) ∧ Below w.heap.size w w' := by
 have hu := Try.underlying29
 have hu2 := Try.underlying53
 have hlt := World.block_lt_of_cell? w _ hid
 have HE := am h
 have HR := am hr
 have HC := am hc
 have hid2 : ∀ o, (w.alloc o).cell? ⟨b, 0, none⟩ = some (.int .i64 a1_0) := fun o => ((below_alloc (Below.refl w.heap.size w) o).cell (p := ⟨b, 0, none⟩) hlt).trans hid
 clear h hr hc hid hlt
 go_enter Try.func121, Try.ntmps121
 go_wp2_with (go_at_call 66; refine (impl_isMsg.calls k _ _ _ _ _ _ _ _ _ _ _ _ t _ ?hr ?hc HE.out).mono ?_; (case hr => exact Kd.C_below HR.out (below_alloc (Below.refl _ _) _)); (case hc => exact HC.out); rintro e w' ⟨rfl, hb'⟩; have HB := am (below_step (below_alloc (Below.refl w.heap.size w) _) hb'); clear hb')
 go_ret
 exact ⟨by first | rfl | simp, HB.out⟩
set_option maxHeartbeats 3200000 in
set_option maxRecDepth 100000 in
theorem impl_Msg.idx (k : Nat) (b : Nat) (a1_0 : Int) (A0 : Option Addr) (c0 : Nat) (l0 : List S29) (r : Bool) (w : World) (hr0 : Kd.C k29 w A0 l0.length l0) (hc0 : l0.length ≤ c0) (hid : w.cell? ⟨b, 0, none⟩ = some (.int .i64 a1_0)) (h : impl_Msg.o k a1_0 l0 = some r) :
   Calls Try.prog 124 #[.slice A0 l0.length c0, .func (.func 121) #[] #[.pointer (some ⟨b, 0, none⟩)]] w fun e w' => ∃ j : Int, e = .returned (.int .i64 j) ∧ decide (j ≥ 0) = r ∧ Below w.heap.size w w' := by
 have hu := Try.underlying29
 have hn : l0.length ≤ 9223372036854775807 := hr0.2.1
 have HR := am hr0
 have HI := am hid
 have H0 := am h
 clear hr0 hid h
 go_enter Try.func124, Try.ntmps124
 go_wp2
 go_loopg [5, 8] l0.length (fun gg _ s8 wr => ∃ kk : Int, 0 ≤ kk ∧ kk ≤ l0.length ∧ l0.length - kk.toNat ≤ gg ∧ s8 = .int .i64 kk ∧ Aside0 (Below w.heap.size w wr) ∧ Aside0 (impl_Msg.o k a1_0 (l0.drop kk.toNat) = some r))
 case atStart => exact ⟨0, by omega, by omega, by omega, rfl, ⟨Below.refl _ w⟩, ⟨H0.out⟩⟩
 obtain ⟨kk, h0, hk, hg, rfl, BW, HA⟩ := hrel
 by_cases hlt : kk < (l0.length : Int)
 rotate_left
 · have h1 := HA.out
   rw [List.drop_of_length_le (by omega)] at h1
   have HQ := am (Option.some.inj h1)
   clear h1 HA
   go_wp2
   go_ret
   exact ⟨-1, rfl, by rw [← HQ.out]; rfl, BW.out⟩
 have hd : l0.drop kk.toNat = rd_T29 l0 kk :: l0.drop (kk + 1).toNat := by
   rw [List.drop_eq_getElem_cons (show kk.toNat < l0.length by omega), show (kk + 1).toNat = kk.toNat + 1 by omega]
   unfold rd_T29
   rw [List.getD_eq_getElem?_getD, List.getElem?_eq_getElem (show kk.toNat < l0.length by omega)]
   rfl
 have h1 := HA.out
 rw [hd] at h1
 unfold impl_Msg.o at h1
 obtain ⟨t, ht, h2⟩ := Option.bind_eq_some_iff.mp h1
 clear h1 hd HA
 obtain ⟨ad, A8, c8, e, hx0, hx1, hx2, hx3, hx4, hx5, hx6, hx7, hx8, hl8, hi8⟩ := at_T29 HR.out kk h0 hlt
 cases e
 replace hx0 := (BW.out.cell (World.block_lt_of_cell? w _ hx0)).trans hx0
 replace hx1 := (BW.out.cell (World.block_lt_of_cell? w _ hx1)).trans hx1
 replace hx2 := (BW.out.cell (World.block_lt_of_cell? w _ hx2)).trans hx2
 replace hx3 := (BW.out.cell (World.block_lt_of_cell? w _ hx3)).trans hx3
 replace hx4 := (BW.out.cell (World.block_lt_of_cell? w _ hx4)).trans hx4
 replace hx5 := (BW.out.cell (World.block_lt_of_cell? w _ hx5)).trans hx5
 replace hx6 := (BW.out.cell (World.block_lt_of_cell? w _ hx6)).trans hx6
 replace hx7 := (BW.out.cell (World.block_lt_of_cell? w _ hx7)).trans hx7
 replace hx8 := (BW.out.cell (World.block_lt_of_cell? w _ hx8)).trans hx8
 have HL := am (impl_Msg.lit k b a1_0 (rd_T29 l0 kk) A8 c8 t wr ((BW.out.cell (World.block_lt_of_cell? w _ HI.out)).trans HI.out) (Kd.C_below hi8 BW.out) hl8 ht)
 clear ht hl8 hi8
 cases t with
 | false =>
   rw [if_neg (by simp)] at h2
   have HQ := am (Option.some.inj h2)
   clear h2
   go_wp2_with (go_at_call 121; refine HL.out.mono ?_; rintro e w' ⟨rfl, hb'⟩)
   go_ret
   exact ⟨kk, rfl, (by rw [← HQ.out, decide_eq_true (by omega)]), below_step BW.out hb'⟩
 | true =>
   rw [if_pos rfl] at h2
   have HQ := am h2
   clear h2
   go_wp2_with (go_at_call 121; refine HL.out.mono ?_; rintro e w' ⟨rfl, hb'⟩)
   go_roundg (l0.length - (kk + 1).toNat)
   case measure => omega
   case rel => exact ⟨kk + 1, by omega, by omega, by omega, by go_num, ⟨below_step BW.out hb'⟩, ⟨HQ.out⟩⟩
set_option maxHeartbeats 400000 in
theorem impl_Msg.calls (k : Nat) (A0 : Option Addr) (c0 : Nat) (l0 : List S29) (a1_0 : Int) (A1_1 : Option Addr) (c1_1 : Nat) (l1_1 : List (S37)) (A1_2 : Option Addr) (c1_2 : Nat) (l1_2 : List (S29)) (r : Bool) (w : World) {b : Nat} (hr0 : Kd.C k29 w A0 l0.length l0) (hc0 : l0.length ≤ c0) (hr1_1 : Kd.C k37 w A1_1 l1_1.length l1_1) (hc1_1 : l1_1.length ≤ c1_1) (hr1_2 : Kd.C k29 w A1_2 l1_2.length l1_2) (hc1_2 : l1_2.length ≤ c1_2) (hb : w.heap[b]? = some (.cells #[.int .i64 a1_0, .slice A1_1 l1_1.length c1_1, .slice A1_2 l1_2.length c1_2] 53 (0, 0))) (h : impl_Msg.f k l0 a1_0 l1_1 l1_2 = some r) :
   Calls Try.prog 120 #[.slice A0 l0.length c0, .func (.func 121) #[] #[.pointer (some ⟨b, 0, none⟩)]] w fun e w' => e = .returned (.bool r) ∧ Below w.heap.size w w' := by
 have HI := am (impl_Msg.idx k b a1_0 A0 c0 l0 r w hr0 hc0 ((blk_cell hb 0).trans rfl) h)
 clear hr0 hc0 hb h hr1_1 hc1_1 hr1_2 hc1_2
 go_enter Try.func120, Try.ntmps120
 go_wp2_with (go_at_call 124; refine HI.out.mono ?_; rintro e w' ⟨j, rfl, hj, hb'⟩; have HJ := am hj; clear hj)
 go_ret
 exact ⟨by rw [← HJ.out]; rfl, hb'⟩


/-! ### impl_isGroup: function 98 -/
mutual
def impl_isGroup.j0 : Nat → Bool → Int → List (S37) → List (S29) → Option (Bool)
 | 0, _, _, _, _ => none
 | k + 1, x26, x318000, x318001, x318002 => if x26 = true then (some false) else (impl_isGroup.l0 k x318001 (x318001.length : Int) 0 x318000 x318001 x318002)
def impl_isGroup.l0 : Nat → List (S37) → Int → Int → Int → List (S37) → List (S29) → Option (Bool)
 | 0, _, _, _, _, _, _ => none
 | k + 1, x28, x29, x30, x318000, x318001, x318002 => if x30 < x29 then (if 0 ≤ x30 then (if x30 < (x28.length : Int) then (if ((rd_T37 x28 x30).f0) = x30 then ((impl_isNode.f k ((rd_T37 x28 x30).f0) ((rd_T37 x28 x30).f1) ((rd_T37 x28 x30).f2) ((rd_T37 x28 x30).f3) ((rd_T37 x28 x30).f4) ((rd_T37 x28 x30).f5.f0) ((rd_T37 x28 x30).f5.f1) ((rd_T37 x28 x30).f5.f2) ((rd_T37 x28 x30).f6) ((rd_T37 x28 x30).f7) x318000).bind fun t320 => (if t320 = true then (impl_isGroup.l0 k x28 x29 (wrap64 (x30 + 1)) x318000 x318001 x318002) else (some false))) else (some false)) else (none)) else (none)) else ((impl_Msg.f k x318002 x318000 x318001 x318002).bind fun t321 => (some (!t321)))
end
def impl_isGroup.f (k : Nat) (a0_0 : Int) (l0_1 : List (S37)) (l0_2 : List (S29)) : Option (Bool) := if a0_0 < 1 then (impl_isGroup.j0 k true a0_0 l0_1 l0_2) else (if a0_0 > 5 then (impl_isGroup.j0 k true a0_0 l0_1 l0_2) else (if (l0_1.length : Int) = a0_0 then (impl_isGroup.j0 k (decide ((l0_2.length : Int) > 60)) a0_0 l0_1 l0_2) else (impl_isGroup.j0 k true a0_0 l0_1 l0_2)))
theorem impl_isGroup.mono_l : ∀ k, (∀ y0 y1 y2 y3, LeO (impl_isGroup.j0 k y0 y1 y2 y3) (impl_isGroup.j0 (k + 1) y0 y1 y2 y3)) ∧ (∀ y0 y1 y2 y3 y4 y5, LeO (impl_isGroup.l0 k y0 y1 y2 y3 y4 y5) (impl_isGroup.l0 (k + 1) y0 y1 y2 y3 y4 y5))
 | 0 => ⟨fun _ _ _ _ r h => by simp [impl_isGroup.j0] at h, fun _ _ _ _ _ _ r h => by simp [impl_isGroup.l0] at h⟩
 | k + 1 => by
   obtain ⟨ih0, ih1⟩ := impl_isGroup.mono_l k
   refine ⟨?_, ?_⟩
   · intro y0 y1 y2 y3
     unfold impl_isGroup.j0
     repeat' first
     | (with_reducible exact ih0 _ _ _ _)
     | (with_reducible exact ih1 _ _ _ _ _ _)
     | (with_reducible exact impl_Msg.mono _ _ _ _ _)
     | (with_reducible exact impl_isNode.mono _ _ _ _ _ _ _ _ _ _ _ _)
     | (with_reducible exact LeO.refl _)
     | (with_reducible exact LeO.none _)
     | (with_reducible refine LeO.ite ?_ ?_)
     | (with_reducible refine LeO.bind ?_ (fun _ => ?_))
     | exact ih0 _ _ _ _
     | exact ih1 _ _ _ _ _ _
     | exact impl_Msg.mono _ _ _ _ _
     | exact impl_isNode.mono _ _ _ _ _ _ _ _ _ _ _ _
     | exact LeO.none _
     | refine LeO.ite ?_ ?_
     | refine LeO.bind ?_ (fun _ => ?_)
   · intro y0 y1 y2 y3 y4 y5
     unfold impl_isGroup.l0
     repeat' first
     | (with_reducible exact ih0 _ _ _ _)
     | (with_reducible exact ih1 _ _ _ _ _ _)
     | (with_reducible exact impl_Msg.mono _ _ _ _ _)
     | (with_reducible exact impl_isNode.mono _ _ _ _ _ _ _ _ _ _ _ _)
     | (with_reducible exact LeO.refl _)
     | (with_reducible exact LeO.none _)
     | (with_reducible refine LeO.ite ?_ ?_)
     | (with_reducible refine LeO.bind ?_ (fun _ => ?_))
     | exact ih0 _ _ _ _
     | exact ih1 _ _ _ _ _ _
     | exact impl_Msg.mono _ _ _ _ _
     | exact impl_isNode.mono _ _ _ _ _ _ _ _ _ _ _ _
     | exact LeO.none _
     | refine LeO.ite ?_ ?_
     | refine LeO.bind ?_ (fun _ => ?_)
theorem impl_isGroup.mono : ∀ a0 a1 a2 k, LeO (impl_isGroup.f k a0 a1 a2) (impl_isGroup.f (k + 1) a0 a1 a2) := by
 intro a0 a1 a2 k
 obtain ⟨ih0, ih1⟩ := impl_isGroup.mono_l k
 unfold impl_isGroup.f
 repeat' first
     | (with_reducible exact ih0 _ _ _ _)
     | (with_reducible exact ih1 _ _ _ _ _ _)
     | (with_reducible exact impl_Msg.mono _ _ _ _ _)
     | (with_reducible exact impl_isNode.mono _ _ _ _ _ _ _ _ _ _ _ _)
     | (with_reducible exact LeO.refl _)
     | (with_reducible exact LeO.none _)
     | (with_reducible refine LeO.ite ?_ ?_)
     | (with_reducible refine LeO.bind ?_ (fun _ => ?_))
     | exact ih0 _ _ _ _
     | exact ih1 _ _ _ _ _ _
     | exact impl_Msg.mono _ _ _ _ _
     | exact impl_isNode.mono _ _ _ _ _ _ _ _ _ _ _ _
     | exact LeO.none _
     | refine LeO.ite ?_ ?_
     | refine LeO.bind ?_ (fun _ => ?_)
set_option maxHeartbeats 8000000 in
set_option maxRecDepth 100000 in
theorem impl_isGroup.calls (k : Nat) (a0_0 : Int) (A0_1 : Option Addr) (c0_1 : Nat) (l0_1 : List (S37)) (A0_2 : Option Addr) (c0_2 : Nat) (l0_2 : List (S29)) (r : Bool) (w : World) (hr0_1 : Kd.C k37 w A0_1 l0_1.length l0_1) (hc0_1 : l0_1.length ≤ c0_1) (hr0_2 : Kd.C k29 w A0_2 l0_2.length l0_2) (hc0_2 : l0_2.length ≤ c0_2) (h : impl_isGroup.f k a0_0 l0_1 l0_2 = some r) :
   Calls Try.prog 98 #[.agg #[.int .i64 a0_0, .slice A0_1 l0_1.length c0_1, .slice A0_2 l0_2.length c0_2]] w fun e w' => e = .returned (.bool r) ∧ Below w.heap.size w w' := by
 have hu53 := Try.underlying53
 have hu37 := Try.underlying37
 have HR0_1 := am hr0_1
 have HC0_1 := am hc0_1
 clear hr0_1 hc0_1
 have HR0_2 := am hr0_2
 have HC0_2 := am hc0_2
 clear hr0_2 hc0_2
 have HB := am (Below.refl w.heap.size w)
 have H : (if a0_0 < 1 then (impl_isGroup.j0 k true a0_0 l0_1 l0_2) else (if a0_0 > 5 then (impl_isGroup.j0 k true a0_0 l0_1 l0_2) else (if (l0_1.length : Int) = a0_0 then (impl_isGroup.j0 k (decide ((l0_2.length : Int) > 60)) a0_0 l0_1 l0_2) else (impl_isGroup.j0 k true a0_0 l0_1 l0_2)))) = some r := h
 clear h
 have HC2 := am H
 clear H
 go_enter Try.func98, Try.ntmps98
 go_upto_region 1 with (first | ((with_reducible refine gate_dst (N := 1) rfl ?_); (try (refine gate_guard (by rfl) ?_; dsimp only)); refine box_event ?hg (N := 1) ?hd (cs := #[.int .i64 a0_0, .slice A0_1 l0_1.length c0_1, .slice A0_2 l0_2.length c0_2]) (t := 53) ?hr ?_; (case hd => rfl); (case hg => rfl); (case hr => first | (go_simp; done) | (go_simp; rfl)); intro gb317 hg w3 hbox hb; have n0_ := am (below_step u17_5 hb); have n1_ := am (hbox); have n2_ := am ((by rw [hg]; exact (below_size u17_5) : w.heap.size ≤ gb317)); have n3_ := am ((by rw [hg]; exact (below_size u17_5) : w.heap.size ≤ gb317)); clear HB; have HB := n0_; have BK317 := n1_; have GW317 := n2_; have GE317 := n3_; clear n0_ n1_ n2_ n3_; clear hb hbox hg))
 (try simp only [Act.put, la, lb, lc])
 go_cut [26] (fun v26 wc => ∃ (kq : Nat) (x26_1 : Bool), v26 = .bool x26_1 ∧ Aside0 (impl_isGroup.j0 kq x26_1 a0_0 l0_1 l0_2 = some r) ∧ Aside0 (kq ≤ k) ∧ Aside0 (wc.heap[gb317]? = some (.cells #[.int .i64 a0_0, (.slice A0_1 l0_1.length c0_1), (.slice A0_2 l0_2.length c0_2)] 53 (0, 0))) ∧ Aside0 (Below w.heap.size w wc))
 case first =>
   have H := HC2.out
   clear HC2
   by_cases c4 : a0_0 < 1
   · rw [if_pos c4] at H
     have c4b0 : decide (a0_0 < 1) = true := decide_eq_true c4
     clear c4
     (first | rw [c4b0] | (simp only [i64_w, i32_w]; rw [c4b0]) | skip)
     have H' := am H
     clear H
     have hcz5_0 : w3.cell? ⟨gb317, 0, none⟩ = some (.int .i64 a0_0) := (blk_cell BK317.out 0).trans rfl
     have hcz5_1 : w3.cell? ⟨gb317, 1, none⟩ = some (.slice A0_1 l0_1.length c0_1) := (blk_cell BK317.out 1).trans rfl
     have hcz5_2 : w3.cell? ⟨gb317, 2, none⟩ = some (.slice A0_2 l0_2.length c0_2) := (blk_cell BK317.out 2).trans rfl
     have hfz5_0 := blk_frozen BK317.out 0
     have hfz5_1 := blk_frozen BK317.out 1
     have hfz5_2 := blk_frozen BK317.out 2
     go_wp2
     go_meet
     case rel => exact ⟨_, (true), u17_16, H', ⟨by first | omega | exact Nat.le_refl _⟩, ⟨u17_2⟩, ⟨u17_0⟩⟩
   rw [if_neg c4] at H
   have c4b0 : decide (a0_0 < 1) = false := decide_eq_false c4
   clear c4
   (first | rw [c4b0] | (simp only [i64_w, i32_w]; rw [c4b0]) | skip)
   by_cases c6 : a0_0 > 5
   · rw [if_pos c6] at H
     have c6b0 : decide (5 < a0_0) = true := decide_eq_true c6
     clear c6
     have H' := am H
     clear H
     have hcz7_0 : w3.cell? ⟨gb317, 0, none⟩ = some (.int .i64 a0_0) := (blk_cell BK317.out 0).trans rfl
     have hcz7_1 : w3.cell? ⟨gb317, 1, none⟩ = some (.slice A0_1 l0_1.length c0_1) := (blk_cell BK317.out 1).trans rfl
     have hcz7_2 : w3.cell? ⟨gb317, 2, none⟩ = some (.slice A0_2 l0_2.length c0_2) := (blk_cell BK317.out 2).trans rfl
     have hfz7_0 := blk_frozen BK317.out 0
     have hfz7_1 := blk_frozen BK317.out 1
     have hfz7_2 := blk_frozen BK317.out 2
     go_wp2
     go_meet
     case rel => exact ⟨_, (true), u17_16, H', ⟨by first | omega | exact Nat.le_refl _⟩, ⟨u17_2⟩, ⟨u17_0⟩⟩
   rw [if_neg c6] at H
   have c6b0 : decide (5 < a0_0) = false := decide_eq_false c6
   clear c6
   by_cases c8 : (l0_1.length : Int) = a0_0
   rotate_left
   · rw [if_neg c8] at H
     have c8b0 : ((l0_1.length : Int) == a0_0) = false := beq_eq_false_iff_ne.mpr c8
     have c8b1 : ((l0_1.length : Int) != a0_0) = true := bne_iff_ne.mpr c8
     have H' := am H
     clear H
     have hcz10_0 : w3.cell? ⟨gb317, 0, none⟩ = some (.int .i64 a0_0) := (blk_cell BK317.out 0).trans rfl
     have hcz10_1 : w3.cell? ⟨gb317, 1, none⟩ = some (.slice A0_1 l0_1.length c0_1) := (blk_cell BK317.out 1).trans rfl
     have hcz10_2 : w3.cell? ⟨gb317, 2, none⟩ = some (.slice A0_2 l0_2.length c0_2) := (blk_cell BK317.out 2).trans rfl
     have hfz10_0 := blk_frozen BK317.out 0
     have hfz10_1 := blk_frozen BK317.out 1
     have hfz10_2 := blk_frozen BK317.out 2
     go_wp2
     go_meet
     case rel => exact ⟨_, (true), u17_16, H', ⟨by first | omega | exact Nat.le_refl _⟩, ⟨u17_2⟩, ⟨u17_0⟩⟩
   rw [if_pos c8] at H
   have c8b0 : ((l0_1.length : Int) == a0_0) = true := beq_iff_eq.mpr c8
   have c8b1 : ((l0_1.length : Int) != a0_0) = false := bne_eq_false_iff_eq.mpr c8
   clear c8
   have H' := am H
   clear H
   have hcz9_0 : w3.cell? ⟨gb317, 0, none⟩ = some (.int .i64 a0_0) := (blk_cell BK317.out 0).trans rfl
   have hcz9_1 : w3.cell? ⟨gb317, 1, none⟩ = some (.slice A0_1 l0_1.length c0_1) := (blk_cell BK317.out 1).trans rfl
   have hcz9_2 : w3.cell? ⟨gb317, 2, none⟩ = some (.slice A0_2 l0_2.length c0_2) := (blk_cell BK317.out 2).trans rfl
   have hfz9_0 := blk_frozen BK317.out 0
   have hfz9_1 := blk_frozen BK317.out 1
   have hfz9_2 := blk_frozen BK317.out 2
   go_wp2
   go_meet
   case rel => exact ⟨_, (decide ((l0_2.length : Int) > 60)), u17_16, H', ⟨by first | omega | exact Nat.le_refl _⟩, ⟨u17_2⟩, ⟨u17_0⟩⟩
 clear HC2
 try clear p2
 try clear c4
 try clear c4b0
 try clear c6
 try clear c6b0
 try clear c8
 try clear c8b0
 try clear c8b1
 try clear c9
 try clear hcz10_0
 try clear hcz10_1
 try clear hcz10_2
 try clear hcz5_0
 try clear hcz5_1
 try clear hcz5_2
 try clear hcz7_0
 try clear hcz7_1
 try clear hcz7_2
 try clear hcz9_0
 try clear hcz9_1
 try clear hcz9_2
 try clear hfz10_0
 try clear hfz10_1
 try clear hfz10_2
 try clear hfz5_0
 try clear hfz5_1
 try clear hfz5_2
 try clear hfz7_0
 try clear hfz7_1
 try clear hfz7_2
 try clear hfz9_0
 try clear hfz9_1
 try clear hfz9_2
 obtain ⟨kq, x26_1, rfl, HA, HJ1, BK317, HB⟩ := hcut
 cases kq with
 | zero => exact absurd HA.out (by simp [impl_isGroup.j0])
 | succ kj1 =>
   have H := HA.out
   clear HA
   simp only [impl_isGroup.j0] at H
   by_cases c11 : x26_1 = true
   · subst c11
     rw [if_pos rfl] at H
     obtain rfl := Option.some.inj H
     go_wp2
     go_ret
     exact ⟨by first | rfl | (simp [errW_none, errW_some] <;> rfl) | (simp [*, errW_none, errW_some] <;> rfl), u17_0⟩
   replace c11 := Bool.eq_false_iff.mpr c11
   subst c11
   rw [if_neg (show ¬ (false = true) by decide)] at H
   have H' := am H
   clear H
   have hcz12_0 : wc.cell? ⟨gb317, 0, none⟩ = some (.int .i64 a0_0) := (blk_cell BK317.out 0).trans rfl
   have hcz12_1 : wc.cell? ⟨gb317, 1, none⟩ = some (.slice A0_1 l0_1.length c0_1) := (blk_cell BK317.out 1).trans rfl
   have hcz12_2 : wc.cell? ⟨gb317, 2, none⟩ = some (.slice A0_2 l0_2.length c0_2) := (blk_cell BK317.out 2).trans rfl
   have hfz12_0 := blk_frozen BK317.out 0
   have hfz12_1 := blk_frozen BK317.out 1
   have hfz12_2 := blk_frozen BK317.out 2
   go_wp2
   go_loopg [30] kj1 (fun kq v30 w' => ∃ (x30_2 : Int), v30 = .int .i64 x30_2 ∧ Aside0 (impl_isGroup.l0 kq l0_1 (l0_1.length : Int) x30_2 a0_0 l0_1 l0_2 = some r) ∧ Aside0 (kq ≤ kj1) ∧ Aside0 (w'.heap[gb317]? = some (.cells #[.int .i64 a0_0, (.slice A0_1 l0_1.length c0_1), (.slice A0_2 l0_2.length c0_2)] 53 (0, 0))) ∧ Aside0 (Below w.heap.size w w'))
   case atStart => exact ⟨(0), u17_16, H', ⟨Nat.le_refl _⟩, ⟨u17_2⟩, ⟨u17_0⟩⟩
   clear H'
   try clear c1
   try clear p2
   try clear c4
   try clear c4b0
   try clear c6
   try clear c6b0
   try clear c8
   try clear c8b0
   try clear c8b1
   try clear c9
   try clear c11
   try clear hcz10_0
   try clear hcz10_1
   try clear hcz10_2
   try clear hcz12_0
   try clear hcz12_1
   try clear hcz12_2
   try clear hcz5_0
   try clear hcz5_1
   try clear hcz5_2
   try clear hcz7_0
   try clear hcz7_1
   try clear hcz7_2
   try clear hcz9_0
   try clear hcz9_1
   try clear hcz9_2
   try clear hfz10_0
   try clear hfz10_1
   try clear hfz10_2
   try clear hfz12_0
   try clear hfz12_1
   try clear hfz12_2
   try clear hfz5_0
   try clear hfz5_1
   try clear hfz5_2
   try clear hfz7_0
   try clear hfz7_1
   try clear hfz7_2
   try clear hfz9_0
   try clear hfz9_1
   try clear hfz9_2
   try clear p2
   obtain ⟨x30_2, rfl, HA, HK2, BK317, HB⟩ := hrel
   cases gk with
   | zero => exact absurd HA.out (by simp [impl_isGroup.l0])
   | succ k2 =>
     have H := HA.out
     clear HA
     simp only [impl_isGroup.l0] at H
     by_cases c13 : x30_2 < (l0_1.length : Int)
     rotate_left
     · rw [if_neg c13] at H
       have c13b0 : decide (x30_2 < (l0_1.length : Int)) = false := decide_eq_false c13
       clear c13
       replace H := Option.bind_eq_some_iff.mp H
       obtain ⟨t321, A270, H⟩ := H
       replace H : (some (!t321)) = some r := H
       have A27 := am A270
       clear A270
       obtain rfl := Option.some.inj H
       have hcz28_0 : wr.cell? ⟨gb317, 0, none⟩ = some (.int .i64 a0_0) := (blk_cell BK317.out 0).trans rfl
       have hcz28_1 : wr.cell? ⟨gb317, 1, none⟩ = some (.slice A0_1 l0_1.length c0_1) := (blk_cell BK317.out 1).trans rfl
       have hcz28_2 : wr.cell? ⟨gb317, 2, none⟩ = some (.slice A0_2 l0_2.length c0_2) := (blk_cell BK317.out 2).trans rfl
       have hfz28_0 := blk_frozen BK317.out 0
       have hfz28_1 := blk_frozen BK317.out 1
       have hfz28_2 := blk_frozen BK317.out 2
       go_wp2_with (first | ((with_reducible refine gate_callee (f := 120) rfl ?_); refine goesL_ (some 50) rfl rfl Try.func120 kr rfl #[.slice A0_2 l0_2.length c0_2, .func (.func 121) #[] #[.pointer (some ⟨gb317, 0, none⟩)]] rfl u17_4 ?_; (with_reducible refine (impl_Msg.calls k2 _ _ l0_2 a0_0 A0_1 c0_1 l0_1 A0_2 c0_2 l0_2 t321 _ ?side1 ?side2 ?side3 ?side4 ?side5 ?side6 ?side7 A27.out).mono ?_); (case side1 => exact u17_6); (case side2 => exact HC0_2.out); (case side3 => exact u17_9); (case side4 => exact HC0_1.out); (case side5 => exact u17_6); (case side6 => exact HC0_2.out); (case side7 => exact (by exact u17_2)); rintro e w29 ⟨rfl, hb⟩; refine ⟨_, rfl, ?_⟩; have n0_ := am (blk_below (g := gb317) (o := .cells #[.int .i64 a0_0, .slice A0_1 l0_1.length c0_1, .slice A0_2 l0_2.length c0_2] 53 (0, 0)) u17_2 hb); have n1_ := am (below_step u17_0 hb); clear BK317; clear HB; have BK317 := n0_; have HB := n1_; clear n0_ n1_; (try clear hb); (try clear hb2); (try clear hk); (try clear hi)))
       go_ret
       exact ⟨by first | rfl | (simp [errW_none, errW_some] <;> rfl) | (simp [*, errW_none, errW_some] <;> rfl), u17_0⟩
     rw [if_pos c13] at H
     have c13b0 : decide (x30_2 < (l0_1.length : Int)) = true := decide_eq_true c13
     clear c13
     by_cases c14 : 0 ≤ x30_2
     rotate_left
     · rw [if_neg c14] at H
       exact absurd H (by simp)
     rw [if_pos c14] at H
     have c14b0 : decide (0 ≤ x30_2) = true := decide_eq_true c14
     clear c14
     by_cases c15 : x30_2 < (l0_1.length : Int)
     rotate_left
     · rw [if_neg c15] at H
       exact absurd H (by simp)
     rw [if_pos c15] at H
     have c15b0 : decide (x30_2 < (l0_1.length : Int)) = true := decide_eq_true c15
     clear c15
     by_cases c16 : ((rd_T37 l0_1 x30_2).f0) = x30_2
     rotate_left
     · rw [if_neg c16] at H
       have c16b0 : (((rd_T37 l0_1 x30_2).f0) == x30_2) = false := beq_eq_false_iff_ne.mpr c16
       have c16b1 : (((rd_T37 l0_1 x30_2).f0) != x30_2) = true := bne_iff_ne.mpr c16
       obtain rfl := Option.some.inj H
       have p318 : 0 ≤ (x30_2 : Int) := of_decide_eq_true u17_18
       have q318 : x30_2 < (l0_1.length : Int) := of_decide_eq_true u17_18
       obtain ⟨ad318, A318_7, c318_7, A318_8, c318_8, A318_9, c318_9, e318, hx318_0, hx318_1, hx318_2, hx318_3, hx318_4, hx318_5, hx318_6, hx318_7, hx318_8, hx318_9, hl318_7, hi318_7, hl318_8, hi318_8, hl318_9, hi318_9⟩ := at_T37 HR0_1.out x30_2 p318 q318
       cases e318
       replace hx318_0 := (HB.out.cell (World.block_lt_of_cell? w _ hx318_0)).trans hx318_0
       replace hx318_1 := (HB.out.cell (World.block_lt_of_cell? w _ hx318_1)).trans hx318_1
       replace hx318_2 := (HB.out.cell (World.block_lt_of_cell? w _ hx318_2)).trans hx318_2
       replace hx318_3 := (HB.out.cell (World.block_lt_of_cell? w _ hx318_3)).trans hx318_3
       replace hx318_4 := (HB.out.cell (World.block_lt_of_cell? w _ hx318_4)).trans hx318_4
       replace hx318_5 := (HB.out.cell (World.block_lt_of_cell? w _ hx318_5)).trans hx318_5
       replace hx318_6 := (HB.out.cell (World.block_lt_of_cell? w _ hx318_6)).trans hx318_6
       replace hx318_7 := (HB.out.cell (World.block_lt_of_cell? w _ hx318_7)).trans hx318_7
       replace hx318_8 := (HB.out.cell (World.block_lt_of_cell? w _ hx318_8)).trans hx318_8
       replace hx318_9 := (HB.out.cell (World.block_lt_of_cell? w _ hx318_9)).trans hx318_9
       have HR318_7 := am hi318_7
       have HC318_7 := am hl318_7
       clear hi318_7 hl318_7
       have HR318_8 := am hi318_8
       have HC318_8 := am hl318_8
       clear hi318_8 hl318_8
       have HR318_9 := am hi318_9
       have HC318_9 := am hl318_9
       clear hi318_9 hl318_9
       replace p318 := eq_true p318
       replace q318 := eq_true q318
       go_wp2_with (first | ((with_reducible refine gate_dst (N := 4) rfl ?_); (try (refine gate_guard (by rfl) ?_; dsimp only)); refine box_event ?hg (N := 4) ?hd (cs := #[.int .i64 0, .int .i64 0, .int .i64 0, .int .i64 0, .int .i64 0, .int .i64 0, .int .i64 0, .slice none 0 0, .slice none 0 0, .slice none 0 0]) (t := 37) ?hr ?_; (case hd => rfl); (case hg => rfl); (case hr => first | (go_simp; done) | (go_simp; rfl)); intro gb319 hg w24 hbox hb; have n0_ := am (blk_below (g := gb317) (o := .cells #[.int .i64 a0_0, .slice (some ad318) l0_1.length c0_1, .slice A0_2 l0_2.length c0_2] 53 (0, 0)) u17_2 hb); have n1_ := am (below_step u17_0 hb); have n2_ := am (hbox); have n3_ := am ((by rw [hg]; exact (below_size u17_0) : w.heap.size ≤ gb319)); have n4_ := am ((by rw [hg]; exact (below_size u17_0) : w.heap.size ≤ gb319)); have n5_ := am ((by rw [hg]; exact Nat.ne_of_lt (blk_lt (g := gb317) (o := .cells #[.int .i64 a0_0, .slice (some ad318) l0_1.length c0_1, .slice A0_2 l0_2.length c0_2] 53 (0, 0)) u17_2) : gb317 ≠ gb319)); have n6_ := am ((by rw [hg]; exact Nat.ne_of_gt (blk_lt (g := gb317) (o := .cells #[.int .i64 a0_0, .slice (some ad318) l0_1.length c0_1, .slice A0_2 l0_2.length c0_2] 53 (0, 0)) u17_2) : gb319 ≠ gb317)); clear BK317; clear HB; have BK317 := n0_; have HB := n1_; have BK319 := n2_; have GW319 := n3_; have GE319 := n4_; have NB317_319 := n5_; have NB319_317 := n6_; clear n0_ n1_ n2_ n3_ n4_ n5_ n6_; clear hb hbox hg; have hnb25 := NB319_317.out; have hnc25 := NB317_319.out; have hcz26_0 : w24.cell? ⟨gb319, 0, none⟩ = some (.int .i64 0) := (blk_cell BK319.out 0).trans rfl; have hcz26_1 : w24.cell? ⟨gb319, 1, none⟩ = some (.int .i64 0) := (blk_cell BK319.out 1).trans rfl; have hcz26_2 : w24.cell? ⟨gb319, 2, none⟩ = some (.int .i64 0) := (blk_cell BK319.out 2).trans rfl; have hcz26_3 : w24.cell? ⟨gb319, 3, none⟩ = some (.int .i64 0) := (blk_cell BK319.out 3).trans rfl; have hcz26_4 : w24.cell? ⟨gb319, 4, none⟩ = some (.int .i64 0) := (blk_cell BK319.out 4).trans rfl; have hcz26_5 : w24.cell? ⟨gb319, 5, none⟩ = some (.int .i64 0) := (blk_cell BK319.out 5).trans rfl; have hcz26_6 : w24.cell? ⟨gb319, 6, none⟩ = some (.int .i64 0) := (blk_cell BK319.out 6).trans rfl; have hcz26_7 : w24.cell? ⟨gb319, 7, none⟩ = some (.slice none 0 0) := (blk_cell BK319.out 7).trans rfl; have hcz26_8 : w24.cell? ⟨gb319, 8, none⟩ = some (.slice none 0 0) := (blk_cell BK319.out 8).trans rfl; have hcz26_9 : w24.cell? ⟨gb319, 9, none⟩ = some (.slice none 0 0) := (blk_cell BK319.out 9).trans rfl; have hfz26_0 := blk_frozen BK319.out 0; have hfz26_1 := blk_frozen BK319.out 1; have hfz26_2 := blk_frozen BK319.out 2; have hfz26_3 := blk_frozen BK319.out 3; have hfz26_4 := blk_frozen BK319.out 4; have hfz26_5 := blk_frozen BK319.out 5; have hfz26_6 := blk_frozen BK319.out 6; have hfz26_7 := blk_frozen BK319.out 7; have hfz26_8 := blk_frozen BK319.out 8; have hfz26_9 := blk_frozen BK319.out 9))
       go_ret
       exact ⟨by first | rfl | (simp [errW_none, errW_some] <;> rfl) | (simp [*, errW_none, errW_some] <;> rfl), u17_3⟩
     rw [if_pos c16] at H
     have c16b0 : (((rd_T37 l0_1 x30_2).f0) == x30_2) = true := beq_iff_eq.mpr c16
     have c16b1 : (((rd_T37 l0_1 x30_2).f0) != x30_2) = false := bne_eq_false_iff_eq.mpr c16
     clear c16
     replace H := Option.bind_eq_some_iff.mp H
     obtain ⟨t320, A170, H⟩ := H
     have A17 := am A170
     clear A170
     have H9 := am H
     clear H
     have p318 : 0 ≤ (x30_2 : Int) := of_decide_eq_true u17_18
     have q318 : x30_2 < (l0_1.length : Int) := of_decide_eq_true u17_18
     obtain ⟨ad318, A318_7, c318_7, A318_8, c318_8, A318_9, c318_9, e318, hx318_0, hx318_1, hx318_2, hx318_3, hx318_4, hx318_5, hx318_6, hx318_7, hx318_8, hx318_9, hl318_7, hi318_7, hl318_8, hi318_8, hl318_9, hi318_9⟩ := at_T37 HR0_1.out x30_2 p318 q318
     cases e318
     replace hx318_0 := (HB.out.cell (World.block_lt_of_cell? w _ hx318_0)).trans hx318_0
     replace hx318_1 := (HB.out.cell (World.block_lt_of_cell? w _ hx318_1)).trans hx318_1
     replace hx318_2 := (HB.out.cell (World.block_lt_of_cell? w _ hx318_2)).trans hx318_2
     replace hx318_3 := (HB.out.cell (World.block_lt_of_cell? w _ hx318_3)).trans hx318_3
     replace hx318_4 := (HB.out.cell (World.block_lt_of_cell? w _ hx318_4)).trans hx318_4
     replace hx318_5 := (HB.out.cell (World.block_lt_of_cell? w _ hx318_5)).trans hx318_5
     replace hx318_6 := (HB.out.cell (World.block_lt_of_cell? w _ hx318_6)).trans hx318_6
     replace hx318_7 := (HB.out.cell (World.block_lt_of_cell? w _ hx318_7)).trans hx318_7
     replace hx318_8 := (HB.out.cell (World.block_lt_of_cell? w _ hx318_8)).trans hx318_8
     replace hx318_9 := (HB.out.cell (World.block_lt_of_cell? w _ hx318_9)).trans hx318_9
     have HR318_7 := am hi318_7
     have HC318_7 := am hl318_7
     clear hi318_7 hl318_7
     have HR318_8 := am hi318_8
     have HC318_8 := am hl318_8
     clear hi318_8 hl318_8
     have HR318_9 := am hi318_9
     have HC318_9 := am hl318_9
     clear hi318_9 hl318_9
     replace p318 := eq_true p318
     replace q318 := eq_true q318
     go_upto_if 45 with (first | ((with_reducible refine gate_dst (N := 4) rfl ?_); (try (refine gate_guard (by rfl) ?_; dsimp only)); refine box_event ?hg (N := 4) ?hd (cs := #[.int .i64 0, .int .i64 0, .int .i64 0, .int .i64 0, .int .i64 0, .int .i64 0, .int .i64 0, .slice none 0 0, .slice none 0 0, .slice none 0 0]) (t := 37) ?hr ?_; (case hd => rfl); (case hg => rfl); (case hr => first | (go_simp; done) | (go_simp; rfl)); intro gb319 hg w18 hbox hb; have n0_ := am (blk_below (g := gb317) (o := .cells #[.int .i64 a0_0, .slice (some ad318) l0_1.length c0_1, .slice A0_2 l0_2.length c0_2] 53 (0, 0)) u17_2 hb); have n1_ := am (below_step u17_0 hb); have n2_ := am (hbox); have n3_ := am ((by rw [hg]; exact (below_size u17_0) : w.heap.size ≤ gb319)); have n4_ := am ((by rw [hg]; exact (below_size u17_0) : w.heap.size ≤ gb319)); have n5_ := am ((by rw [hg]; exact Nat.ne_of_lt (blk_lt (g := gb317) (o := .cells #[.int .i64 a0_0, .slice (some ad318) l0_1.length c0_1, .slice A0_2 l0_2.length c0_2] 53 (0, 0)) u17_2) : gb317 ≠ gb319)); have n6_ := am ((by rw [hg]; exact Nat.ne_of_gt (blk_lt (g := gb317) (o := .cells #[.int .i64 a0_0, .slice (some ad318) l0_1.length c0_1, .slice A0_2 l0_2.length c0_2] 53 (0, 0)) u17_2) : gb319 ≠ gb317)); clear BK317; clear HB; have BK317 := n0_; have HB := n1_; have BK319 := n2_; have GW319 := n3_; have GE319 := n4_; have NB317_319 := n5_; have NB319_317 := n6_; clear n0_ n1_ n2_ n3_ n4_ n5_ n6_; clear hb hbox hg; have hnb19 := NB319_317.out; have hnc19 := NB317_319.out; have hcz20_0 : w18.cell? ⟨gb319, 0, none⟩ = some (.int .i64 0) := (blk_cell BK319.out 0).trans rfl; have hcz20_1 : w18.cell? ⟨gb319, 1, none⟩ = some (.int .i64 0) := (blk_cell BK319.out 1).trans rfl; have hcz20_2 : w18.cell? ⟨gb319, 2, none⟩ = some (.int .i64 0) := (blk_cell BK319.out 2).trans rfl; have hcz20_3 : w18.cell? ⟨gb319, 3, none⟩ = some (.int .i64 0) := (blk_cell BK319.out 3).trans rfl; have hcz20_4 : w18.cell? ⟨gb319, 4, none⟩ = some (.int .i64 0) := (blk_cell BK319.out 4).trans rfl; have hcz20_5 : w18.cell? ⟨gb319, 5, none⟩ = some (.int .i64 0) := (blk_cell BK319.out 5).trans rfl; have hcz20_6 : w18.cell? ⟨gb319, 6, none⟩ = some (.int .i64 0) := (blk_cell BK319.out 6).trans rfl; have hcz20_7 : w18.cell? ⟨gb319, 7, none⟩ = some (.slice none 0 0) := (blk_cell BK319.out 7).trans rfl; have hcz20_8 : w18.cell? ⟨gb319, 8, none⟩ = some (.slice none 0 0) := (blk_cell BK319.out 8).trans rfl; have hcz20_9 : w18.cell? ⟨gb319, 9, none⟩ = some (.slice none 0 0) := (blk_cell BK319.out 9).trans rfl; have hfz20_0 := blk_frozen BK319.out 0; have hfz20_1 := blk_frozen BK319.out 1; have hfz20_2 := blk_frozen BK319.out 2; have hfz20_3 := blk_frozen BK319.out 3; have hfz20_4 := blk_frozen BK319.out 4; have hfz20_5 := blk_frozen BK319.out 5; have hfz20_6 := blk_frozen BK319.out 6; have hfz20_7 := blk_frozen BK319.out 7; have hfz20_8 := blk_frozen BK319.out 8; have hfz20_9 := blk_frozen BK319.out 9; have hcz21_0 : w18.cell? ⟨gb317, 0, none⟩ = some (.int .i64 a0_0) := (blk_cell BK317.out 0).trans rfl; have hcz21_1 : w18.cell? ⟨gb317, 1, none⟩ = some (.slice (some ad318) l0_1.length c0_1) := (blk_cell BK317.out 1).trans rfl; have hcz21_2 : w18.cell? ⟨gb317, 2, none⟩ = some (.slice A0_2 l0_2.length c0_2) := (blk_cell BK317.out 2).trans rfl; have hfz21_0 := blk_frozen BK317.out 0; have hfz21_1 := blk_frozen BK317.out 1; have hfz21_2 := blk_frozen BK317.out 2) | (go_at_call 78; (with_reducible refine (impl_isNode.calls k2 ((rd_T37 l0_1 x30_2).f0) ((rd_T37 l0_1 x30_2).f1) ((rd_T37 l0_1 x30_2).f2) ((rd_T37 l0_1 x30_2).f3) ((rd_T37 l0_1 x30_2).f4) ((rd_T37 l0_1 x30_2).f5.f0) ((rd_T37 l0_1 x30_2).f5.f1) _ _ ((rd_T37 l0_1 x30_2).f5.f2) _ _ ((rd_T37 l0_1 x30_2).f6) _ _ ((rd_T37 l0_1 x30_2).f7) a0_0 t320 _ ?side1 ?side2 ?side3 ?side4 ?side5 ?side6 A17.out).mono ?_); (case side1 => exact (by exact Kd.C_below HR318_7.out u17_3)); (case side2 => exact HC318_7.out); (case side3 => exact (by exact Kd.C_below HR318_8.out u17_3)); (case side4 => exact HC318_8.out); (case side5 => exact (by exact Kd.C_below HR318_9.out u17_3)); (case side6 => exact HC318_9.out); rintro e w22 ⟨rfl, hb⟩; have n0_ := am (blk_below (g := gb317) (o := .cells #[.int .i64 a0_0, .slice (some ad318) l0_1.length c0_1, .slice A0_2 l0_2.length c0_2] 53 (0, 0)) (by (with_reducible repeat (first | refine blk_drewN ?_ _ | refine blk_drew ?_ | refine blk_alloc ?_ _)); refine blk_far ?_ NB317_319.out _; (with_reducible repeat (first | refine blk_drewN ?_ _ | refine blk_drew ?_ | refine blk_alloc ?_ _)); refine blk_far ?_ NB317_319.out _; (with_reducible repeat (first | refine blk_drewN ?_ _ | refine blk_drew ?_ | refine blk_alloc ?_ _)); refine blk_far ?_ NB317_319.out _; (with_reducible repeat (first | refine blk_drewN ?_ _ | refine blk_drew ?_ | refine blk_alloc ?_ _)); refine blk_far ?_ NB317_319.out _; (with_reducible repeat (first | refine blk_drewN ?_ _ | refine blk_drew ?_ | refine blk_alloc ?_ _)); refine blk_far ?_ NB317_319.out _; (with_reducible repeat (first | refine blk_drewN ?_ _ | refine blk_drew ?_ | refine blk_alloc ?_ _)); refine blk_far ?_ NB317_319.out _; (with_reducible repeat (first | refine blk_drewN ?_ _ | refine blk_drew ?_ | refine blk_alloc ?_ _)); refine blk_far ?_ NB317_319.out _; (with_reducible repeat (first | refine blk_drewN ?_ _ | refine blk_drew ?_ | refine blk_alloc ?_ _)); refine blk_far ?_ NB317_319.out _; (with_reducible repeat (first | refine blk_drewN ?_ _ | refine blk_drew ?_ | refine blk_alloc ?_ _)); refine blk_far ?_ NB317_319.out _; (with_reducible repeat (first | refine blk_drewN ?_ _ | refine blk_drew ?_ | refine blk_alloc ?_ _)); refine blk_far ?_ NB317_319.out _; (with_reducible repeat (first | refine blk_drewN ?_ _ | refine blk_drew ?_ | refine blk_alloc ?_ _)); exact BK317.out) hb); have n1_ := am (blk_below (g := gb319) (o := .cells #[.int .i64 ((rd_T37 l0_1 x30_2).f0), .int .i64 ((rd_T37 l0_1 x30_2).f1), .int .i64 ((rd_T37 l0_1 x30_2).f2), .int .i64 ((rd_T37 l0_1 x30_2).f3), .int .i64 ((rd_T37 l0_1 x30_2).f4), .int .i64 ((rd_T37 l0_1 x30_2).f5.f0), .int .i64 ((rd_T37 l0_1 x30_2).f5.f1), .slice A318_7 ((rd_T37 l0_1 x30_2).f5.f2).length c318_7, .slice A318_8 ((rd_T37 l0_1 x30_2).f6).length c318_8, .slice A318_9 ((rd_T37 l0_1 x30_2).f7).length c318_9] 37 (0, 0)) (by (with_reducible repeat (first | refine blk_drewN ?_ _ | refine blk_drew ?_ | refine blk_alloc ?_ _)); refine blk_put (cs := #[.int .i64 ((rd_T37 l0_1 x30_2).f0), .int .i64 ((rd_T37 l0_1 x30_2).f1), .int .i64 ((rd_T37 l0_1 x30_2).f2), .int .i64 ((rd_T37 l0_1 x30_2).f3), .int .i64 ((rd_T37 l0_1 x30_2).f4), .int .i64 ((rd_T37 l0_1 x30_2).f5.f0), .int .i64 ((rd_T37 l0_1 x30_2).f5.f1), .slice A318_7 ((rd_T37 l0_1 x30_2).f5.f2).length c318_7, .slice A318_8 ((rd_T37 l0_1 x30_2).f6).length c318_8, .slice none 0 0]) ?_ 9 _ rfl; (with_reducible repeat (first | refine blk_drewN ?_ _ | refine blk_drew ?_ | refine blk_alloc ?_ _)); refine blk_put (cs := #[.int .i64 ((rd_T37 l0_1 x30_2).f0), .int .i64 ((rd_T37 l0_1 x30_2).f1), .int .i64 ((rd_T37 l0_1 x30_2).f2), .int .i64 ((rd_T37 l0_1 x30_2).f3), .int .i64 ((rd_T37 l0_1 x30_2).f4), .int .i64 ((rd_T37 l0_1 x30_2).f5.f0), .int .i64 ((rd_T37 l0_1 x30_2).f5.f1), .slice A318_7 ((rd_T37 l0_1 x30_2).f5.f2).length c318_7, .slice none 0 0, .slice none 0 0]) ?_ 8 _ rfl; (with_reducible repeat (first | refine blk_drewN ?_ _ | refine blk_drew ?_ | refine blk_alloc ?_ _)); refine blk_put (cs := #[.int .i64 ((rd_T37 l0_1 x30_2).f0), .int .i64 ((rd_T37 l0_1 x30_2).f1), .int .i64 ((rd_T37 l0_1 x30_2).f2), .int .i64 ((rd_T37 l0_1 x30_2).f3), .int .i64 ((rd_T37 l0_1 x30_2).f4), .int .i64 ((rd_T37 l0_1 x30_2).f5.f0), .int .i64 ((rd_T37 l0_1 x30_2).f5.f1), .slice none 0 0, .slice none 0 0, .slice none 0 0]) ?_ 7 _ rfl; (with_reducible repeat (first | refine blk_drewN ?_ _ | refine blk_drew ?_ | refine blk_alloc ?_ _)); refine blk_put (cs := #[.int .i64 ((rd_T37 l0_1 x30_2).f0), .int .i64 ((rd_T37 l0_1 x30_2).f1), .int .i64 ((rd_T37 l0_1 x30_2).f2), .int .i64 ((rd_T37 l0_1 x30_2).f3), .int .i64 ((rd_T37 l0_1 x30_2).f4), .int .i64 ((rd_T37 l0_1 x30_2).f5.f0), .int .i64 0, .slice none 0 0, .slice none 0 0, .slice none 0 0]) ?_ 6 _ rfl; (with_reducible repeat (first | refine blk_drewN ?_ _ | refine blk_drew ?_ | refine blk_alloc ?_ _)); refine blk_put (cs := #[.int .i64 ((rd_T37 l0_1 x30_2).f0), .int .i64 ((rd_T37 l0_1 x30_2).f1), .int .i64 ((rd_T37 l0_1 x30_2).f2), .int .i64 ((rd_T37 l0_1 x30_2).f3), .int .i64 ((rd_T37 l0_1 x30_2).f4), .int .i64 0, .int .i64 0, .slice none 0 0, .slice none 0 0, .slice none 0 0]) ?_ 5 _ rfl; (with_reducible repeat (first | refine blk_drewN ?_ _ | refine blk_drew ?_ | refine blk_alloc ?_ _)); refine blk_put (cs := #[.int .i64 ((rd_T37 l0_1 x30_2).f0), .int .i64 ((rd_T37 l0_1 x30_2).f1), .int .i64 ((rd_T37 l0_1 x30_2).f2), .int .i64 ((rd_T37 l0_1 x30_2).f3), .int .i64 0, .int .i64 0, .int .i64 0, .slice none 0 0, .slice none 0 0, .slice none 0 0]) ?_ 4 _ rfl; (with_reducible repeat (first | refine blk_drewN ?_ _ | refine blk_drew ?_ | refine blk_alloc ?_ _)); refine blk_put (cs := #[.int .i64 ((rd_T37 l0_1 x30_2).f0), .int .i64 ((rd_T37 l0_1 x30_2).f1), .int .i64 ((rd_T37 l0_1 x30_2).f2), .int .i64 0, .int .i64 0, .int .i64 0, .int .i64 0, .slice none 0 0, .slice none 0 0, .slice none 0 0]) ?_ 3 _ rfl; (with_reducible repeat (first | refine blk_drewN ?_ _ | refine blk_drew ?_ | refine blk_alloc ?_ _)); refine blk_put (cs := #[.int .i64 ((rd_T37 l0_1 x30_2).f0), .int .i64 ((rd_T37 l0_1 x30_2).f1), .int .i64 0, .int .i64 0, .int .i64 0, .int .i64 0, .int .i64 0, .slice none 0 0, .slice none 0 0, .slice none 0 0]) ?_ 2 _ rfl; (with_reducible repeat (first | refine blk_drewN ?_ _ | refine blk_drew ?_ | refine blk_alloc ?_ _)); refine blk_put (cs := #[.int .i64 ((rd_T37 l0_1 x30_2).f0), .int .i64 0, .int .i64 0, .int .i64 0, .int .i64 0, .int .i64 0, .int .i64 0, .slice none 0 0, .slice none 0 0, .slice none 0 0]) ?_ 1 _ rfl; (with_reducible repeat (first | refine blk_drewN ?_ _ | refine blk_drew ?_ | refine blk_alloc ?_ _)); refine blk_put (cs := #[.int .i64 0, .int .i64 0, .int .i64 0, .int .i64 0, .int .i64 0, .int .i64 0, .int .i64 0, .slice none 0 0, .slice none 0 0, .slice none 0 0]) ?_ 0 _ rfl; (with_reducible repeat (first | refine blk_drewN ?_ _ | refine blk_drew ?_ | refine blk_alloc ?_ _)); exact BK319.out) hb); have n2_ := am (below_step u17_3 hb); clear BK317; clear BK319; clear HB; have BK317 := n0_; have BK319 := n1_; have HB := n2_; clear n0_ n1_ n2_; (try clear hb); (try clear hb2); (try clear hk); (try clear hi)))
     have H := H9.out
     clear H9
     by_cases c23 : t320 = true
     rotate_left
     · replace c23 := Bool.eq_false_iff.mpr c23
       subst c23
       rw [if_neg (show ¬ (false = true) by decide)] at H
       obtain rfl := Option.some.inj H
       go_wp2
       go_ret
       exact ⟨by first | rfl | (simp [errW_none, errW_some] <;> rfl) | (simp [*, errW_none, errW_some] <;> rfl), u17_3⟩
     subst c23
     rw [if_pos rfl] at H
     have H' := am H
     clear H
     go_wp2
     go_roundg k2
     case measure => have := HJ1.out; have := HK2.out; omega
     case rel => exact ⟨(wrap64 (x30_2 + 1)), u17_16, H', ⟨(by have := HJ1.out; have := HK2.out; omega)⟩, ⟨u17_2⟩, ⟨u17_3⟩⟩

/-! ### impl_GroupOk: function 46 -/
def impl_GroupOk.f (k : Nat) (a0_0 : Int) (l0_1 : List (S37)) (l0_2 : List (S29)) : Option (Bool) := (impl_isGroup.f k a0_0 l0_1 l0_2).bind fun t323 => (some t323)
theorem impl_GroupOk.mono : ∀ a0 a1 a2 k, LeO (impl_GroupOk.f k a0 a1 a2) (impl_GroupOk.f (k + 1) a0 a1 a2) := by
 intro a0 a1 a2 k
 unfold impl_GroupOk.f
 repeat' first
     | (with_reducible exact impl_isGroup.mono _ _ _ _)
     | (with_reducible exact LeO.refl _)
     | (with_reducible exact LeO.none _)
     | (with_reducible refine LeO.ite ?_ ?_)
     | (with_reducible refine LeO.bind ?_ (fun _ => ?_))
     | exact impl_isGroup.mono _ _ _ _
     | exact LeO.none _
     | refine LeO.ite ?_ ?_
     | refine LeO.bind ?_ (fun _ => ?_)
set_option maxHeartbeats 8000000 in
set_option maxRecDepth 100000 in
theorem impl_GroupOk.calls (k : Nat) (a0_0 : Int) (A0_1 : Option Addr) (c0_1 : Nat) (l0_1 : List (S37)) (A0_2 : Option Addr) (c0_2 : Nat) (l0_2 : List (S29)) (r : Bool) (w : World) (hr0_1 : Kd.C k37 w A0_1 l0_1.length l0_1) (hc0_1 : l0_1.length ≤ c0_1) (hr0_2 : Kd.C k29 w A0_2 l0_2.length l0_2) (hc0_2 : l0_2.length ≤ c0_2) (h : impl_GroupOk.f k a0_0 l0_1 l0_2 = some r) :
   Calls Try.prog 46 #[.agg #[.int .i64 a0_0, .slice A0_1 l0_1.length c0_1, .slice A0_2 l0_2.length c0_2]] w fun e w' => e = .returned (.bool r) ∧ Below w.heap.size w w' := by
 have hu53 := Try.underlying53
 have HR0_1 := am hr0_1
 have HC0_1 := am hc0_1
 clear hr0_1 hc0_1
 have HR0_2 := am hr0_2
 have HC0_2 := am hc0_2
 clear hr0_2 hc0_2
 have HB := am (Below.refl w.heap.size w)
 have H : ((impl_isGroup.f k a0_0 l0_1 l0_2).bind fun t323 => (some t323)) = some r := h
 clear h
 replace H := Option.bind_eq_some_iff.mp H
 obtain ⟨t323, A20, H⟩ := H
 replace H : (some t323) = some r := H
 have A2 := am A20
 clear A20
 obtain rfl := Option.some.inj H
 go_enter Try.func46, Try.ntmps46
 go_wp2_with (first | ((with_reducible refine gate_dst (N := 1) rfl ?_); refine box_event ?hg (N := 1) ?hd (cs := #[.int .i64 a0_0, .slice A0_1 l0_1.length c0_1, .slice A0_2 l0_2.length c0_2]) (t := 53) ?hr ?_; (case hd => rfl); (case hg => rfl); (case hr => first | (go_simp; done) | (go_simp; rfl)); intro gb322 hg w3 hbox hb; have n0_ := am (below_step u17_5 hb); have n1_ := am (hbox); have n2_ := am ((by rw [hg]; exact (below_size u17_5) : w.heap.size ≤ gb322)); have n3_ := am ((by rw [hg]; exact (below_size u17_5) : w.heap.size ≤ gb322)); clear HB; have HB := n0_; have BK322 := n1_; have GW322 := n2_; have GE322 := n3_; clear n0_ n1_ n2_ n3_; clear hb hbox hg; have hcz4_0 : w3.cell? ⟨gb322, 0, none⟩ = some (.int .i64 a0_0) := (blk_cell BK322.out 0).trans rfl; have hcz4_1 : w3.cell? ⟨gb322, 1, none⟩ = some (.slice A0_1 l0_1.length c0_1) := (blk_cell BK322.out 1).trans rfl; have hcz4_2 : w3.cell? ⟨gb322, 2, none⟩ = some (.slice A0_2 l0_2.length c0_2) := (blk_cell BK322.out 2).trans rfl) | ((with_reducible refine gate_callee (f := 98) rfl ?_); refine goesL_ (some 4) rfl rfl Try.func98 kr rfl #[.agg #[.int .i64 a0_0, .slice A0_1 l0_1.length c0_1, .slice A0_2 l0_2.length c0_2]] rfl u17_4 ?_; (with_reducible refine (impl_isGroup.calls k a0_0 _ _ l0_1 _ _ l0_2 t323 _ ?side1 ?side2 ?side3 ?side4 A2.out).mono ?_); (case side1 => exact u17_9); (case side2 => exact HC0_1.out); (case side3 => exact u17_6); (case side4 => exact HC0_2.out); rintro e w5 ⟨rfl, hb⟩; refine ⟨_, rfl, ?_⟩; have n0_ := am (blk_below (g := gb322) (o := .cells #[.int .i64 a0_0, .slice A0_1 l0_1.length c0_1, .slice A0_2 l0_2.length c0_2] 53 (0, 0)) (by (with_reducible repeat (first | refine blk_drewN ?_ _ | refine blk_drew ?_ | refine blk_alloc ?_ _)); exact BK322.out) hb); have n1_ := am (below_step u17_17 hb); clear BK322; clear HB; have BK322 := n0_; have HB := n1_; clear n0_ n1_; (try clear hb); (try clear hb2); (try clear hk); (try clear hi)))
 go_ret
 exact ⟨by first | rfl | (simp [errW_none, errW_some] <;> rfl) | (simp [*, errW_none, errW_some] <;> rfl), u17_17⟩

/-! ### laws_FnExactGroupOk: function 10 -/
def laws_FnExactGroupOk.f (k : Nat) (a0_0 : Int) (l0_1 : List (S45)) (l0_2 : List (S24)) : Option (Bool) := (laws_szGroup.f k a0_0 l0_1 l0_2 1048576).bind fun t325 => (if t325 < 0 then (some true) else ((laws_toGroup.f k a0_0 l0_1 l0_2).bind fun bt326 => ((spec_GroupOk.f k bt326.1 bt326.2.1 bt326.2.2).bind fun t333 => ((laws_toGroup.f k a0_0 l0_1 l0_2).bind fun bt334 => ((impl_GroupOk.f k bt334.1 bt334.2.1 bt334.2.2).bind fun t342 => (if (t342 != t333) = true then (some false) else ((laws_toGroup.f k a0_0 l0_1 l0_2).bind fun bt343 => ((laws_eqGroup.f k bt334.1 bt334.2.1 bt334.2.2 bt343.1 bt343.2.1 bt343.2.2).bind fun t350 => (if t350 = true then (some true) else (some false))))))))))
theorem laws_FnExactGroupOk.mono : ∀ a0 a1 a2 k, LeO (laws_FnExactGroupOk.f k a0 a1 a2) (laws_FnExactGroupOk.f (k + 1) a0 a1 a2) := by
 intro a0 a1 a2 k
 unfold laws_FnExactGroupOk.f
 repeat' first
     | (with_reducible exact impl_GroupOk.mono _ _ _ _)
     | (with_reducible exact laws_eqGroup.mono _ _ _ _ _ _ _)
     | (with_reducible exact laws_szGroup.mono _ _ _ _ _)
     | (with_reducible exact laws_toGroup.mono _ _ _ _)
     | (with_reducible exact spec_GroupOk.mono _ _ _ _)
     | (with_reducible exact LeO.refl _)
     | (with_reducible exact LeO.none _)
     | (with_reducible refine LeO.ite ?_ ?_)
     | (with_reducible refine LeO.bind ?_ (fun _ => ?_))
     | exact impl_GroupOk.mono _ _ _ _
     | exact laws_eqGroup.mono _ _ _ _ _ _ _
     | exact laws_szGroup.mono _ _ _ _ _
     | exact laws_toGroup.mono _ _ _ _
     | exact spec_GroupOk.mono _ _ _ _
     | exact LeO.none _
     | refine LeO.ite ?_ ?_
     | refine LeO.bind ?_ (fun _ => ?_)
set_option maxHeartbeats 8000000 in
set_option maxRecDepth 100000 in
theorem laws_FnExactGroupOk.calls (k : Nat) (a0_0 : Int) (A0_1 : Option Addr) (c0_1 : Nat) (l0_1 : List (S45)) (A0_2 : Option Addr) (c0_2 : Nat) (l0_2 : List (S24)) (r : Bool) (w : World) (hr0_1 : Kd.C k45 w A0_1 l0_1.length l0_1) (hc0_1 : l0_1.length ≤ c0_1) (hr0_2 : Kd.C k24 w A0_2 l0_2.length l0_2) (hc0_2 : l0_2.length ≤ c0_2) (h : laws_FnExactGroupOk.f k a0_0 l0_1 l0_2 = some r) (hr_ : Aside0 (r = true)) :
   Calls Try.prog 10 #[.agg #[.int .i64 a0_0, .slice A0_1 l0_1.length c0_1, .slice A0_2 l0_2.length c0_2]] w fun e w' => e = .returned (.bool r) ∧ Below w.heap.size w w' := by
 have hu68 := Try.underlying68
 have hu53 := Try.underlying53
 have HR0_1 := am hr0_1
 have HC0_1 := am hc0_1
 clear hr0_1 hc0_1
 have HR0_2 := am hr0_2
 have HC0_2 := am hc0_2
 clear hr0_2 hc0_2
 have HB := am (Below.refl w.heap.size w)
 have H : ((laws_szGroup.f k a0_0 l0_1 l0_2 1048576).bind fun t325 => (if t325 < 0 then (some true) else ((laws_toGroup.f k a0_0 l0_1 l0_2).bind fun bt326 => ((spec_GroupOk.f k bt326.1 bt326.2.1 bt326.2.2).bind fun t333 => ((laws_toGroup.f k a0_0 l0_1 l0_2).bind fun bt334 => ((impl_GroupOk.f k bt334.1 bt334.2.1 bt334.2.2).bind fun t342 => (if (t342 != t333) = true then (some false) else ((laws_toGroup.f k a0_0 l0_1 l0_2).bind fun bt343 => ((laws_eqGroup.f k bt334.1 bt334.2.1 bt334.2.2 bt343.1 bt343.2.1 bt343.2.2).bind fun t350 => (if t350 = true then (some true) else (some false))))))))))) = some r := h
 clear h
 replace H := Option.bind_eq_some_iff.mp H
 obtain ⟨t325, A20, H⟩ := H
 have A2 := am A20
 clear A20
 have H9 := am H
 clear H
 go_enter Try.func10, Try.ntmps10
 go_upto_if 11 with (first | ((with_reducible refine gate_dst (N := 1) rfl ?_); refine box_event ?hg (N := 1) ?hd (cs := #[.int .i64 a0_0, .slice A0_1 l0_1.length c0_1, .slice A0_2 l0_2.length c0_2]) (t := 68) ?hr ?_; (case hd => rfl); (case hg => rfl); (case hr => first | (go_simp; done) | (go_simp; rfl)); intro gb324 hg w3 hbox hb; have n0_ := am (below_step u17_5 hb); have n1_ := am (hbox); have n2_ := am ((by rw [hg]; exact (below_size u17_5) : w.heap.size ≤ gb324)); have n3_ := am ((by rw [hg]; exact (below_size u17_5) : w.heap.size ≤ gb324)); clear HB; have HB := n0_; have BK324 := n1_; have GW324 := n2_; have GE324 := n3_; clear n0_ n1_ n2_ n3_; clear hb hbox hg; have hcz4_0 : w3.cell? ⟨gb324, 0, none⟩ = some (.int .i64 a0_0) := (blk_cell BK324.out 0).trans rfl; have hcz4_1 : w3.cell? ⟨gb324, 1, none⟩ = some (.slice A0_1 l0_1.length c0_1) := (blk_cell BK324.out 1).trans rfl; have hcz4_2 : w3.cell? ⟨gb324, 2, none⟩ = some (.slice A0_2 l0_2.length c0_2) := (blk_cell BK324.out 2).trans rfl; have hfz4_0 := blk_frozen BK324.out 0; have hfz4_1 := blk_frozen BK324.out 1; have hfz4_2 := blk_frozen BK324.out 2) | ((with_reducible refine gate_callee (f := 43) rfl ?_); refine goesL_ (some 9) rfl rfl Try.func43 kr rfl #[.agg #[.int .i64 a0_0, .slice A0_1 l0_1.length c0_1, .slice A0_2 l0_2.length c0_2], .int .i64 1048576] rfl u17_4 ?_; (with_reducible refine (laws_szGroup.calls k a0_0 _ _ l0_1 _ _ l0_2 1048576 t325 _ ?side1 ?side2 ?side3 ?side4 A2.out).mono ?_); (case side1 => exact u17_9); (case side2 => exact HC0_1.out); (case side3 => exact u17_6); (case side4 => exact HC0_2.out); rintro e w5 ⟨rfl, hb⟩; refine ⟨_, rfl, ?_⟩; have n0_ := am (blk_below (g := gb324) (o := .cells #[.int .i64 a0_0, .slice A0_1 l0_1.length c0_1, .slice A0_2 l0_2.length c0_2] 68 (0, 0)) u17_8 hb); have n1_ := am (below_step u17_1 hb); clear BK324; clear HB; have BK324 := n0_; have HB := n1_; clear n0_ n1_; (try clear hb); (try clear hb2); (try clear hk); (try clear hi)))
 have H := H9.out
 clear H9
 by_cases c6 : t325 < 0
 · rw [if_pos c6] at H
   have c6b0 : decide (t325 < 0) = true := decide_eq_true c6
   clear c6
   (first | rw [c6b0] | (simp only [i64_w, i32_w]; rw [c6b0]) | skip)
   obtain rfl := Option.some.inj H
   go_wp2
   go_ret
   exact ⟨by first | rfl | (simp [errW_none, errW_some] <;> rfl) | (simp [*, errW_none, errW_some] <;> rfl), u17_1⟩
 rw [if_neg c6] at H
 have c6b0 : decide (t325 < 0) = false := decide_eq_false c6
 clear c6
 (first | rw [c6b0] | (simp only [i64_w, i32_w]; rw [c6b0]) | skip)
 replace H := Option.bind_eq_some_iff.mp H
 obtain ⟨⟨t326, t327, t330⟩, A70, H⟩ := H
 (try dsimp only at H)
 have A7 := am A70
 clear A70
 replace H := Option.bind_eq_some_iff.mp H
 obtain ⟨t333, A80, H⟩ := H
 have A8 := am A80
 clear A80
 replace H := Option.bind_eq_some_iff.mp H
 obtain ⟨⟨t334, t335, t338⟩, A90, H⟩ := H
 (try dsimp only at H)
 have A9 := am A90
 clear A90
 replace H := Option.bind_eq_some_iff.mp H
 obtain ⟨t342, A100, H⟩ := H
 have A10 := am A100
 clear A100
 by_cases c11 : (t342 != t333) = true
 · rw [if_pos c11] at H
   have c11b0 : (t342 != t333) = true := c11
   (try (have c11b1 : decide (t342 = t333) = false := by simpa using c11))
   (try (have c11b2 : (t342 == t333) = false := by simpa using c11))
   (try (have c11b3 : ¬ (t342 = t333) := by simpa using c11))
   clear c11
   exact absurd ((Option.some.inj H).trans hr_.out) (by decide)
 rw [if_neg c11] at H
 have c11b0 : (t342 != t333) = false := by simpa using c11
 (try (have c11b1 : decide (t342 = t333) = true := by simpa using c11))
 (try (have c11b2 : (t342 == t333) = true := by simpa using c11))
 clear c11
 replace H := Option.bind_eq_some_iff.mp H
 obtain ⟨⟨t343, t344, t347⟩, A120, H⟩ := H
 (try dsimp only at H)
 have A12 := am A120
 clear A120
 replace H := Option.bind_eq_some_iff.mp H
 obtain ⟨t350, A130, H⟩ := H
 replace H : (if t350 = true then (some true) else (some false)) = some r := H
 have A13 := am A130
 clear A130
 by_cases c14 : t350 = true
 rotate_left
 · replace c14 := Bool.eq_false_iff.mpr c14
   subst c14
   rw [if_neg (show ¬ (false = true) by decide)] at H
   exact absurd ((Option.some.inj H).trans hr_.out) (by decide)
 subst c14
 rw [if_pos rfl] at H
 obtain rfl := Option.some.inj H
 have hcz15_0 : w5.cell? ⟨gb324, 0, none⟩ = some (.int .i64 a0_0) := (blk_cell BK324.out 0).trans rfl
 have hcz15_1 : w5.cell? ⟨gb324, 1, none⟩ = some (.slice A0_1 l0_1.length c0_1) := (blk_cell BK324.out 1).trans rfl
 have hcz15_2 : w5.cell? ⟨gb324, 2, none⟩ = some (.slice A0_2 l0_2.length c0_2) := (blk_cell BK324.out 2).trans rfl
 have hfz15_0 := blk_frozen BK324.out 0
 have hfz15_1 := blk_frozen BK324.out 1
 have hfz15_2 := blk_frozen BK324.out 2
 try go_wp2_with (first | ((with_reducible refine gate_callee (f := 45) rfl ?_); refine goesL_ (some 13) rfl rfl Try.func45 kr rfl #[.agg #[.int .i64 a0_0, .slice A0_1 l0_1.length c0_1, .slice A0_2 l0_2.length c0_2]] rfl u17_4 ?_; (with_reducible refine (laws_toGroup.calls k a0_0 _ _ l0_1 _ _ l0_2 t326 t327 t330 _ ?side1 ?side2 ?side3 ?side4 A7.out).mono ?_); (case side1 => exact u17_9); (case side2 => exact HC0_1.out); (case side3 => exact u17_6); (case side4 => exact HC0_2.out); rintro e w16 ⟨v328, v331, rfl, ho0, ho1, hb⟩; refine ⟨_, rfl, ?_⟩; have n0_ := am (Kd.S_lower ho0 (below_size u17_1)); have n1_ := am (Kd.S_lower ho1 (below_size u17_1)); have n2_ := am (blk_below (g := gb324) (o := .cells #[.int .i64 a0_0, .slice A0_1 l0_1.length c0_1, .slice A0_2 l0_2.length c0_2] 68 (0, 0)) u17_8 hb); have n3_ := am (below_step u17_1 hb); clear BK324; clear HB; have HO329 := n0_; have HO332 := n1_; have BK324 := n2_; have HB := n3_; clear n0_ n1_ n2_ n3_; (try clear hb); (try clear hb2); (try clear hk); (try clear hi); (try clear ho0); (try clear ho1); obtain ⟨Ao17, co17, eo17⟩ := Kd.S_slice HO329.out; subst eo17; obtain ⟨Ao18, co18, eo18⟩ := Kd.S_slice HO332.out; subst eo18) | ((with_reducible refine gate_callee (f := 44) rfl ?_); refine goesL_ (some 14) rfl rfl Try.func44 kr rfl #[.agg #[.int .i64 t326, .slice Ao17 t327.length co17, .slice Ao18 t330.length co18]] rfl u17_4 ?_; (with_reducible refine (spec_GroupOk.calls k t326 _ _ t327 _ _ t330 t333 _ ?side1 ?side2 ?side3 ?side4 A8.out).mono ?_); (case side1 => exact (by repeat (first | exact (Kd.S_reads' HO329.out).2.2 | (with_reducible refine Kd.C_alloc ?_ _) | (with_reducible refine Kd.C_drewN ?_ _) | (with_reducible refine Kd.C_drew ?_)))); (case side2 => exact (Kd.S_reads' HO329.out).2.1); (case side3 => exact (by repeat (first | exact (Kd.S_reads' HO332.out).2.2 | (with_reducible refine Kd.C_alloc ?_ _) | (with_reducible refine Kd.C_drewN ?_ _) | (with_reducible refine Kd.C_drew ?_)))); (case side4 => exact (Kd.S_reads' HO332.out).2.1); rintro e w19 ⟨rfl, hb⟩; refine ⟨_, rfl, ?_⟩; have n0_ := am (Kd.S_below u17_10 hb); have n1_ := am (Kd.S_below u17_11 hb); have n2_ := am (blk_below (g := gb324) (o := .cells #[.int .i64 a0_0, .slice A0_1 l0_1.length c0_1, .slice A0_2 l0_2.length c0_2] 68 (0, 0)) u17_8 hb); have n3_ := am (below_step u17_1 hb); clear HO329; clear HO332; clear BK324; clear HB; have HO329 := n0_; have HO332 := n1_; have BK324 := n2_; have HB := n3_; clear n0_ n1_ n2_ n3_; (try clear hb); (try clear hb2); (try clear hk); (try clear hi); have hcz20_0 : w19.cell? ⟨gb324, 0, none⟩ = some (.int .i64 a0_0) := (blk_cell BK324.out 0).trans rfl; have hcz20_1 : w19.cell? ⟨gb324, 1, none⟩ = some (.slice A0_1 l0_1.length c0_1) := (blk_cell BK324.out 1).trans rfl; have hcz20_2 : w19.cell? ⟨gb324, 2, none⟩ = some (.slice A0_2 l0_2.length c0_2) := (blk_cell BK324.out 2).trans rfl; have hfz20_0 := blk_frozen BK324.out 0; have hfz20_1 := blk_frozen BK324.out 1; have hfz20_2 := blk_frozen BK324.out 2) | ((with_reducible refine gate_callee (f := 45) rfl ?_); refine goesL_ (some 16) rfl rfl Try.func45 kr rfl #[.agg #[.int .i64 a0_0, .slice A0_1 l0_1.length c0_1, .slice A0_2 l0_2.length c0_2]] rfl u17_4 ?_; (with_reducible refine (laws_toGroup.calls k a0_0 _ _ l0_1 _ _ l0_2 t334 t335 t338 _ ?side1 ?side2 ?side3 ?side4 A9.out).mono ?_); (case side1 => exact u17_9); (case side2 => exact HC0_1.out); (case side3 => exact u17_6); (case side4 => exact HC0_2.out); rintro e w21 ⟨v336, v339, rfl, ho0, ho1, hb⟩; refine ⟨_, rfl, ?_⟩; have n0_ := am (Kd.S_elder' u17_10 (Kd.S_base ho0) hb); have n1_ := am (Kd.S_elder' u17_11 (Kd.S_base ho1) hb); have n2_ := am (Kd.S_lower (Kd.S_new' ho0 (Kd.S_lt u17_10)) (below_size u17_1)); have n3_ := am (Kd.S_lower (Kd.S_new' ho1 (Kd.S_lt u17_11)) (below_size u17_1)); have n4_ := am (blk_below (g := gb324) (o := .cells #[.int .i64 a0_0, .slice A0_1 l0_1.length c0_1, .slice A0_2 l0_2.length c0_2] 68 (0, 0)) u17_8 hb); have n5_ := am (below_step u17_1 hb); clear HO329; clear HO332; clear BK324; clear HB; have HO329 := n0_; have HO332 := n1_; have HO337 := n2_; have HO340 := n3_; have BK324 := n4_; have HB := n5_; clear n0_ n1_ n2_ n3_ n4_ n5_; (try clear hb); (try clear hb2); (try clear hk); (try clear hi); (try clear ho0); (try clear ho1)) | ((with_reducible refine gate_dst (N := 5) rfl ?_); refine box_event ?hg (N := 5) ?hd (cs := #[.int .i64 0, .slice none 0 0, .slice none 0 0]) (t := 53) ?hr ?_; (case hd => rfl); (case hg => rfl); (case hr => first | (go_simp; done) | (go_simp; rfl)); intro gb341 hg w22 hbox hb; have n0_ := am (Kd.S_below u17_10 hb); have n1_ := am (Kd.S_below u17_11 hb); have n2_ := am (Kd.S_below u17_14 hb); have n3_ := am (Kd.S_below u17_15 hb); have n4_ := am (blk_below (g := gb324) (o := .cells #[.int .i64 a0_0, .slice A0_1 l0_1.length c0_1, .slice A0_2 l0_2.length c0_2] 68 (0, 0)) u17_8 hb); have n5_ := am (below_step u17_1 hb); have n6_ := am (hbox); have n7_ := am ((by rw [hg]; exact (below_size u17_1) : w.heap.size ≤ gb341)); have n8_ := am ((by rw [hg]; exact (below_size u17_1) : w.heap.size ≤ gb341)); have n9_ := am ((by rw [hg]; exact Nat.ne_of_lt (blk_lt (g := gb324) (o := .cells #[.int .i64 a0_0, .slice A0_1 l0_1.length c0_1, .slice A0_2 l0_2.length c0_2] 68 (0, 0)) u17_8) : gb324 ≠ gb341)); have n10_ := am ((by rw [hg]; exact Nat.ne_of_gt (blk_lt (g := gb324) (o := .cells #[.int .i64 a0_0, .slice A0_1 l0_1.length c0_1, .slice A0_2 l0_2.length c0_2] 68 (0, 0)) u17_8) : gb341 ≠ gb324)); clear HO329; clear HO332; clear HO337; clear HO340; clear BK324; clear HB; have HO329 := n0_; have HO332 := n1_; have HO337 := n2_; have HO340 := n3_; have BK324 := n4_; have HB := n5_; have BK341 := n6_; have GW341 := n7_; have GE341 := n8_; have NB324_341 := n9_; have NB341_324 := n10_; clear n0_ n1_ n2_ n3_ n4_ n5_ n6_ n7_ n8_ n9_ n10_; clear hb hbox hg; have hnb23 := NB341_324.out; have hnc23 := NB324_341.out; have hcz24_0 : w22.cell? ⟨gb341, 0, none⟩ = some (.int .i64 0) := (blk_cell BK341.out 0).trans rfl; have hcz24_1 : w22.cell? ⟨gb341, 1, none⟩ = some (.slice none 0 0) := (blk_cell BK341.out 1).trans rfl; have hcz24_2 : w22.cell? ⟨gb341, 2, none⟩ = some (.slice none 0 0) := (blk_cell BK341.out 2).trans rfl; have hfz24_0 := blk_frozen BK341.out 0; have hfz24_1 := blk_frozen BK341.out 1; have hfz24_2 := blk_frozen BK341.out 2; obtain ⟨Ao25, co25, eo25⟩ := Kd.S_slice HO337.out; subst eo25; obtain ⟨Ao26, co26, eo26⟩ := Kd.S_slice HO340.out; subst eo26) | ((with_reducible refine gate_callee (f := 46) rfl ?_); refine goesL_ (some 18) rfl rfl Try.func46 kr rfl #[.agg #[.int .i64 t334, .slice Ao25 t335.length co25, .slice Ao26 t338.length co26]] rfl u17_4 ?_; (with_reducible refine (impl_GroupOk.calls k t334 _ _ t335 _ _ t338 t342 _ ?side1 ?side2 ?side3 ?side4 A10.out).mono ?_); (case side1 => exact (by refine (Kd.S_reads' (e := 37) (base := w.heap.size) (ok := fun k_ => (True ∧ some k_ ≠ (.slice Ao17 t327.length co17 : Value).ownBlock)) (n := t335.length) (c := co25) ?_).2.2; exact u17_12)); (case side2 => exact (Kd.S_reads' HO337.out).2.1); (case side3 => exact (by refine (Kd.S_reads' (e := 29) (base := w.heap.size) (ok := fun k_ => (True ∧ some k_ ≠ (.slice Ao18 t330.length co18 : Value).ownBlock)) (n := t338.length) (c := co26) ?_).2.2; exact u17_13)); (case side4 => exact (Kd.S_reads' HO340.out).2.1); rintro e w27 ⟨rfl, hb⟩; refine ⟨_, rfl, ?_⟩; have n0_ := am (Kd.S_below (by (with_reducible repeat (first | apply Kd.S_alloc | apply Kd.S_drewN | apply Kd.S_drew)); exact (Kd.S_mono (Kd.S_far (p := ⟨gb341, 2, none⟩) (Kd.S_far (p := ⟨gb341, 1, none⟩) (Kd.S_far (p := ⟨gb341, 0, none⟩) (Kd.S_types HO329.out BK341.out (by decide)) (fun _ hk => hk.2) (.int .i64 t334)) (fun _ hk => hk.2) (.slice Ao25 t335.length co25)) (fun _ hk => hk.2) (.slice Ao26 t338.length co26)) (fun _ h_ => h_.1))) hb); have n1_ := am (Kd.S_below (by (with_reducible repeat (first | apply Kd.S_alloc | apply Kd.S_drewN | apply Kd.S_drew)); exact (Kd.S_mono (Kd.S_far (p := ⟨gb341, 2, none⟩) (Kd.S_far (p := ⟨gb341, 1, none⟩) (Kd.S_far (p := ⟨gb341, 0, none⟩) (Kd.S_types HO332.out BK341.out (by decide)) (fun _ hk => hk.2) (.int .i64 t334)) (fun _ hk => hk.2) (.slice Ao25 t335.length co25)) (fun _ hk => hk.2) (.slice Ao26 t338.length co26)) (fun _ h_ => h_.1))) hb); have n2_ := am (Kd.S_below u17_12 hb); have n3_ := am (Kd.S_below u17_13 hb); have n4_ := am (blk_below (g := gb324) (o := .cells #[.int .i64 a0_0, .slice A0_1 l0_1.length c0_1, .slice A0_2 l0_2.length c0_2] 68 (0, 0)) (by (with_reducible repeat (first | refine blk_drewN ?_ _ | refine blk_drew ?_ | refine blk_alloc ?_ _)); refine blk_far ?_ NB324_341.out _; (with_reducible repeat (first | refine blk_drewN ?_ _ | refine blk_drew ?_ | refine blk_alloc ?_ _)); refine blk_far ?_ NB324_341.out _; (with_reducible repeat (first | refine blk_drewN ?_ _ | refine blk_drew ?_ | refine blk_alloc ?_ _)); refine blk_far ?_ NB324_341.out _; (with_reducible repeat (first | refine blk_drewN ?_ _ | refine blk_drew ?_ | refine blk_alloc ?_ _)); exact BK324.out) hb); have n5_ := am (blk_below (g := gb341) (o := .cells #[.int .i64 t334, .slice Ao25 t335.length co25, .slice Ao26 t338.length co26] 53 (0, 0)) (by (with_reducible repeat (first | refine blk_drewN ?_ _ | refine blk_drew ?_ | refine blk_alloc ?_ _)); refine blk_put (cs := #[.int .i64 t334, .slice Ao25 t335.length co25, .slice none 0 0]) ?_ 2 _ rfl; (with_reducible repeat (first | refine blk_drewN ?_ _ | refine blk_drew ?_ | refine blk_alloc ?_ _)); refine blk_put (cs := #[.int .i64 t334, .slice none 0 0, .slice none 0 0]) ?_ 1 _ rfl; (with_reducible repeat (first | refine blk_drewN ?_ _ | refine blk_drew ?_ | refine blk_alloc ?_ _)); refine blk_put (cs := #[.int .i64 0, .slice none 0 0, .slice none 0 0]) ?_ 0 _ rfl; (with_reducible repeat (first | refine blk_drewN ?_ _ | refine blk_drew ?_ | refine blk_alloc ?_ _)); exact BK341.out) hb); have n6_ := am (below_step u17_7 hb); clear HO329; clear HO332; clear HO337; clear HO340; clear BK324; clear BK341; clear HB; have HO329 := n0_; have HO332 := n1_; have HO337 := n2_; have HO340 := n3_; have BK324 := n4_; have BK341 := n5_; have HB := n6_; clear n0_ n1_ n2_ n3_ n4_ n5_ n6_; (try clear hb); (try clear hb2); (try clear hk); (try clear hi)))
 have n0_ := am (Kd.S_drew HO329.out)
 have n1_ := am (Kd.S_drew HO332.out)
 have n2_ := am (Kd.S_drew HO337.out)
 have n3_ := am (Kd.S_drew HO340.out)
 have n4_ := am (blk_drew BK324.out)
 have n5_ := am (blk_drew BK341.out)
 have n6_ := am (below_drew1 HB.out)
 clear HO329
 clear HO332
 clear HO337
 clear HO340
 clear BK324
 clear BK341
 clear HB
 have HO329 := n0_
 have HO332 := n1_
 have HO337 := n2_
 have HO340 := n3_
 have BK324 := n4_
 have BK341 := n5_
 have HB := n6_
 clear n0_ n1_ n2_ n3_ n4_ n5_ n6_
 refine start_ (n := 5) (S := fun w' => w'.cell? ⟨gb341, 0, none⟩ = some (.int .i64 t334) ∧ w'.cell? ⟨gb341, 1, none⟩ = some (.slice Ao25 t335.length co25) ∧ w'.cell? ⟨gb341, 2, none⟩ = some (.slice Ao26 t338.length co26) ∧ w'.cell? ⟨gb324, 0, none⟩ = some (.int .i64 a0_0) ∧ w'.cell? ⟨gb324, 1, none⟩ = some (.slice A0_1 l0_1.length c0_1) ∧ w'.cell? ⟨gb324, 2, none⟩ = some (.slice A0_2 l0_2.length c0_2)) (ds := []) #[false, false, false, false, false] kr rfl rfl ⟨(blk_cell BK341.out 0).trans rfl, (blk_cell BK341.out 1).trans rfl, (blk_cell BK341.out 2).trans rfl, (blk_cell BK324.out 0).trans rfl, (blk_cell BK324.out 1).trans rfl, (blk_cell BK324.out 2).trans rfl⟩ (fun hHeld => ?_)
 generalize w27.drew = w28 at HO329 HO332 HO337 HO340 BK324 BK341 HB hHeld ⊢
 refine take_ (i := 0) (N := some 22) (v := ?_) (a' := ?_) #[true, false, false, false, false] rfl rfl kr (fun _ _ _ h => h) (Or.inl ⟨by rfl, ?_⟩) hHeld ?_ ?_
 rotate_left
 · rintro w' ⟨s0, s1, s2, s3, s4, s5⟩
   go_simp
   with_reducible rfl
 rotate_left
 · simp only [Act.put, la, lb, lc, i64_w, i32_w]
   rfl
 refine take_ (i := 1) (N := some 23) (v := ?_) (a' := ?_) #[true, true, false, false, false] rfl rfl kr (fun _ _ _ h => h) (Or.inl ⟨by rfl, ?_⟩) hHeld ?_ ?_
 rotate_left
 · rintro w' ⟨s0, s1, s2, s3, s4, s5⟩
   go_simp
   with_reducible rfl
 rotate_left
 · simp only [Act.put, la, lb, lc, i64_w, i32_w]
   rfl
 refine one_ (i := 2) (N := some 24) #[true, true, true, false, false] rfl rfl kr (by decide) (fun K hK => ?_)
 refine goes_ Try.func45 kr rfl #[.agg #[.int .i64 a0_0, .slice A0_1 l0_1.length c0_1, .slice A0_2 l0_2.length c0_2]] (by rfl) rfl rfl u17_4 ?_
 with_reducible refine (laws_toGroup.calls k a0_0 _ _ l0_1 _ _ l0_2 t343 t344 t347 _ ?side1 ?side2 ?side3 ?side4 A12.out).mono ?_
 (case side1 => exact u17_9)
 (case side2 => exact HC0_1.out)
 (case side3 => exact u17_6)
 (case side4 => exact HC0_2.out)
 rintro e w29 ⟨v345, v348, rfl, ho0, ho1, hb⟩
 refine ⟨_, rfl, ?_⟩
 have n0_ := am (Kd.S_elder' u17_10 (Kd.S_base ho0) hb)
 have n1_ := am (Kd.S_elder' u17_11 (Kd.S_base ho1) hb)
 have n2_ := am (Kd.S_elder' u17_14 (Kd.S_base ho0) hb)
 have n3_ := am (Kd.S_elder' u17_15 (Kd.S_base ho1) hb)
 have n4_ := am (Kd.S_lower (Kd.S_new' (Kd.S_new' ho0 (Kd.S_lt u17_10)) (Kd.S_lt u17_14)) (below_size u17_7))
 have n5_ := am (Kd.S_lower (Kd.S_new' (Kd.S_new' ho1 (Kd.S_lt u17_11)) (Kd.S_lt u17_15)) (below_size u17_7))
 have n6_ := am (blk_below (g := gb324) (o := .cells #[.int .i64 a0_0, .slice A0_1 l0_1.length c0_1, .slice A0_2 l0_2.length c0_2] 68 (0, 0)) u17_8 hb)
 have n7_ := am (blk_below (g := gb341) (o := .cells #[.int .i64 t334, .slice Ao25 t335.length co25, .slice Ao26 t338.length co26] 53 (0, 0)) u17_19 hb)
 have n8_ := am (below_step u17_7 hb)
 clear HO329
 clear HO332
 clear HO337
 clear HO340
 clear BK324
 clear BK341
 clear HB
 have HO329 := n0_
 have HO332 := n1_
 have HO337 := n2_
 have HO340 := n3_
 have HO346 := n4_
 have HO349 := n5_
 have BK324 := n6_
 have BK341 := n7_
 have HB := n8_
 clear n0_ n1_ n2_ n3_ n4_ n5_ n6_ n7_ n8_
 (try clear hb)
 (try clear hb2)
 (try clear hk)
 (try clear hi)
 (try clear ho0)
 (try clear ho1)
 obtain ⟨Ao30, co30, eo30⟩ := Kd.S_slice HO346.out
 (first | subst eo30 | (injection eo30 with f1_ f2_ f3_; have f4_ := f1_.symm; have f5_ := f3_.symm; clear f1_ f2_ f3_; subst f4_; subst f5_))
 obtain ⟨Ao31, co31, eo31⟩ := Kd.S_slice HO349.out
 (first | subst eo31 | (injection eo31 with f1_ f2_ f3_; have f4_ := f1_.symm; have f5_ := f3_.symm; clear f1_ f2_ f3_; subst f4_; subst f5_))
 refine hK.out _ _ ⟨(blk_cell BK341.out 0).trans rfl, (blk_cell BK341.out 1).trans rfl, (blk_cell BK341.out 2).trans rfl, (blk_cell BK324.out 0).trans rfl, (blk_cell BK324.out 1).trans rfl, (blk_cell BK324.out 2).trans rfl⟩ (fun hHeld => ?_)
 clear hK K
 refine norm_ (a' := ?_) ?_ ?_
 rotate_left
 · show Act.put _ (some 24) _ = _
   simp only [Act.put, la, lb, lc, i64_w, i32_w]
   rfl
 refine one_ (i := 3) (N := some 25) #[true, true, true, true, false] rfl rfl kr (by decide) (fun K hK => ?_)
 refine goes_ Try.func31 kr rfl #[.agg #[.int .i64 t334, .slice Ao25 t335.length co25, .slice Ao26 t338.length co26], .agg #[.int .i64 t343, .slice Ao30 t344.length co30, .slice Ao31 t347.length co31]] (by rfl) rfl rfl u17_4 ?_
 with_reducible refine (laws_eqGroup.calls k t334 _ _ t335 _ _ t338 t343 _ _ t344 _ _ t347 true _ ?side1 ?side2 ?side3 ?side4 ?side5 ?side6 ?side7 ?side8 A13.out).mono ?_
 (case side1 => exact (by repeat (first | exact (Kd.S_reads' HO337.out).2.2 | (with_reducible refine Kd.C_alloc ?_ _) | (with_reducible refine Kd.C_drewN ?_ _) | (with_reducible refine Kd.C_drew ?_))))
 (case side2 => exact (Kd.S_reads' HO337.out).2.1)
 (case side3 => exact (by repeat (first | exact (Kd.S_reads' HO340.out).2.2 | (with_reducible refine Kd.C_alloc ?_ _) | (with_reducible refine Kd.C_drewN ?_ _) | (with_reducible refine Kd.C_drew ?_))))
 (case side4 => exact (Kd.S_reads' HO340.out).2.1)
 (case side5 => exact (by repeat (first | exact (Kd.S_reads' HO346.out).2.2 | (with_reducible refine Kd.C_alloc ?_ _) | (with_reducible refine Kd.C_drewN ?_ _) | (with_reducible refine Kd.C_drew ?_))))
 (case side6 => exact (Kd.S_reads' HO346.out).2.1)
 (case side7 => exact (by repeat (first | exact (Kd.S_reads' HO349.out).2.2 | (with_reducible refine Kd.C_alloc ?_ _) | (with_reducible refine Kd.C_drewN ?_ _) | (with_reducible refine Kd.C_drew ?_))))
 (case side8 => exact (Kd.S_reads' HO349.out).2.1)
 rintro e w32 ⟨rfl, hb⟩
 refine ⟨_, rfl, ?_⟩
 have n0_ := am (Kd.S_below u17_10 hb)
 have n1_ := am (Kd.S_below u17_11 hb)
 have n2_ := am (Kd.S_below u17_14 hb)
 have n3_ := am (Kd.S_below u17_15 hb)
 have n4_ := am (Kd.S_below (by (with_reducible repeat (first | apply Kd.S_alloc | apply Kd.S_drewN | apply Kd.S_drew)); exact HO346.out) hb)
 have n5_ := am (Kd.S_below (by (with_reducible repeat (first | apply Kd.S_alloc | apply Kd.S_drewN | apply Kd.S_drew)); exact HO349.out) hb)
 have n6_ := am (blk_below (g := gb324) (o := .cells #[.int .i64 a0_0, .slice A0_1 l0_1.length c0_1, .slice A0_2 l0_2.length c0_2] 68 (0, 0)) u17_8 hb)
 have n7_ := am (blk_below (g := gb341) (o := .cells #[.int .i64 t334, .slice Ao25 t335.length co25, .slice Ao26 t338.length co26] 53 (0, 0)) u17_19 hb)
 have n8_ := am (below_step u17_7 hb)
 clear HO329
 clear HO332
 clear HO337
 clear HO340
 clear HO346
 clear HO349
 clear BK324
 clear BK341
 clear HB
 have HO329 := n0_
 have HO332 := n1_
 have HO337 := n2_
 have HO340 := n3_
 have HO346 := n4_
 have HO349 := n5_
 have BK324 := n6_
 have BK341 := n7_
 have HB := n8_
 clear n0_ n1_ n2_ n3_ n4_ n5_ n6_ n7_ n8_
 (try clear hb)
 (try clear hb2)
 (try clear hk)
 (try clear hi)
 refine hK.out _ _ ⟨(blk_cell BK341.out 0).trans rfl, (blk_cell BK341.out 1).trans rfl, (blk_cell BK341.out 2).trans rfl, (blk_cell BK324.out 0).trans rfl, (blk_cell BK324.out 1).trans rfl, (blk_cell BK324.out 2).trans rfl⟩ (fun hHeld => ?_)
 clear hK K
 refine norm_ (a' := ?_) ?_ ?_
 rotate_left
 · show Act.put _ (some 25) _ = _
   simp only [Act.put, la, lb, lc, i64_w, i32_w]
   rfl
 refine pure_ (i := 4) (N := some 26) (v := ?_) (a' := ?_) #[true, true, true, true, true] rfl rfl kr (fun _ _ _ h => h) (Or.inl ⟨by rfl, ?_⟩) ?_ ?_
 rotate_left; (intro w'; go_simp; with_reducible rfl); rotate_left; (simp only [Act.put, la, lb, lc, i64_w, i32_w]; rfl)
 refine done_ kr ?_
 try go_wp2
 go_ret
 exact ⟨by first | rfl | (simp [errW_none, errW_some] <;> rfl) | (simp [*, errW_none, errW_some] <;> rfl), u17_7⟩

end Go.Proofs.Ytkcadcoohmofcaa.QFnExactGroupOk
