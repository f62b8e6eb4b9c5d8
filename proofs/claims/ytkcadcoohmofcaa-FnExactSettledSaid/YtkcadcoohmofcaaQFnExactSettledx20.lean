import Derived.Test.YtkcadcoohmofcaaSqFnExactSettled
import Derived.Test.YtkcadcoohmofcaaQFnExactSettledx0
import Derived.Test.YtkcadcoohmofcaaQFnExactSettledx17
import Derived.Test.YtkcadcoohmofcaaQFnExactSettledx19
namespace Go.Proofs.Ytkcadcoohmofcaa.QFnExactSettled
open Go.RowKit Go.Proofs.YtkcadcoohmofcaaW.PrintWords Go.Proofs.YtkcadcoohmofcaaW.PrintLast Go.Proofs.YtkcadcoohmofcaaW.PrintMore Go.Proofs.Ytkcadcoohmofcaa.SqFnExactSettled
attribute [local go_sem] max2_int min2_int max_two min_two max_three min_three max_four min_four Go.Proofs.Ytkcadcoohmofcaa.Set.isSome_setCell
set_option linter.unusedVariables false
set_option linter.unusedSimpArgs false
theorem u20_0 {P : Prop} (h : P := by (with_reducible repeat (first | apply b1_ | apply b2_ | apply b3_)); refine blk_put (cs := #[.int .i64 ((rd_T37 l0_1 x3_1).f0), .int .i64 ((rd_T37 l0_1 x3_1).f1), .int .i64 ((rd_T37 l0_1 x3_1).f2), .int .i64 ((rd_T37 l0_1 x3_1).f3), .int .i64 ((rd_T37 l0_1 x3_1).f4), .int .i64 ((rd_T37 l0_1 x3_1).f5.f0), .int .i64 ((rd_T37 l0_1 x3_1).f5.f1), .slice A378_7 ((rd_T37 l0_1 x3_1).f5.f2).length c378_7, .slice A378_8 ((rd_T37 l0_1 x3_1).f6).length c378_8, .slice none 0 0]) ?_ 9 _ rfl; (with_reducible repeat (first | apply b1_ | apply b2_ | apply b3_)); refine blk_put (cs := #[.int .i64 ((rd_T37 l0_1 x3_1).f0), .int .i64 ((rd_T37 l0_1 x3_1).f1), .int .i64 ((rd_T37 l0_1 x3_1).f2), .int .i64 ((rd_T37 l0_1 x3_1).f3), .int .i64 ((rd_T37 l0_1 x3_1).f4), .int .i64 ((rd_T37 l0_1 x3_1).f5.f0), .int .i64 ((rd_T37 l0_1 x3_1).f5.f1), .slice A378_7 ((rd_T37 l0_1 x3_1).f5.f2).length c378_7, .slice none 0 0, .slice none 0 0]) ?_ 8 _ rfl; (with_reducible repeat (first | apply b1_ | apply b2_ | apply b3_)); refine blk_put (cs := #[.int .i64 ((rd_T37 l0_1 x3_1).f0), .int .i64 ((rd_T37 l0_1 x3_1).f1), .int .i64 ((rd_T37 l0_1 x3_1).f2), .int .i64 ((rd_T37 l0_1 x3_1).f3), .int .i64 ((rd_T37 l0_1 x3_1).f4), .int .i64 ((rd_T37 l0_1 x3_1).f5.f0), .int .i64 ((rd_T37 l0_1 x3_1).f5.f1), .slice none 0 0, .slice none 0 0, .slice none 0 0]) ?_ 7 _ rfl; (with_reducible repeat (first | apply b1_ | apply b2_ | apply b3_)); refine blk_put (cs := #[.int .i64 ((rd_T37 l0_1 x3_1).f0), .int .i64 ((rd_T37 l0_1 x3_1).f1), .int .i64 ((rd_T37 l0_1 x3_1).f2), .int .i64 ((rd_T37 l0_1 x3_1).f3), .int .i64 ((rd_T37 l0_1 x3_1).f4), .int .i64 ((rd_T37 l0_1 x3_1).f5.f0), .int .i64 0, .slice none 0 0, .slice none 0 0, .slice none 0 0]) ?_ 6 _ rfl; (with_reducible repeat (first | apply b1_ | apply b2_ | apply b3_)); refine blk_put (cs := #[.int .i64 ((rd_T37 l0_1 x3_1).f0), .int .i64 ((rd_T37 l0_1 x3_1).f1), .int .i64 ((rd_T37 l0_1 x3_1).f2), .int .i64 ((rd_T37 l0_1 x3_1).f3), .int .i64 ((rd_T37 l0_1 x3_1).f4), .int .i64 0, .int .i64 0, .slice none 0 0, .slice none 0 0, .slice none 0 0]) ?_ 5 _ rfl; (with_reducible repeat (first | apply b1_ | apply b2_ | apply b3_)); refine blk_put (cs := #[.int .i64 ((rd_T37 l0_1 x3_1).f0), .int .i64 ((rd_T37 l0_1 x3_1).f1), .int .i64 ((rd_T37 l0_1 x3_1).f2), .int .i64 ((rd_T37 l0_1 x3_1).f3), .int .i64 0, .int .i64 0, .int .i64 0, .slice none 0 0, .slice none 0 0, .slice none 0 0]) ?_ 4 _ rfl; (with_reducible repeat (first | apply b1_ | apply b2_ | apply b3_)); refine blk_put (cs := #[.int .i64 ((rd_T37 l0_1 x3_1).f0), .int .i64 ((rd_T37 l0_1 x3_1).f1), .int .i64 ((rd_T37 l0_1 x3_1).f2), .int .i64 0, .int .i64 0, .int .i64 0, .int .i64 0, .slice none 0 0, .slice none 0 0, .slice none 0 0]) ?_ 3 _ rfl; (with_reducible repeat (first | apply b1_ | apply b2_ | apply b3_)); refine blk_put (cs := #[.int .i64 ((rd_T37 l0_1 x3_1).f0), .int .i64 ((rd_T37 l0_1 x3_1).f1), .int .i64 0, .int .i64 0, .int .i64 0, .int .i64 0, .int .i64 0, .slice none 0 0, .slice none 0 0, .slice none 0 0]) ?_ 2 _ rfl; (with_reducible repeat (first | apply b1_ | apply b2_ | apply b3_)); refine blk_put (cs := #[.int .i64 ((rd_T37 l0_1 x3_1).f0), .int .i64 0, .int .i64 0, .int .i64 0, .int .i64 0, .int .i64 0, .int .i64 0, .slice none 0 0, .slice none 0 0, .slice none 0 0]) ?_ 1 _ rfl; (with_reducible repeat (first | apply b1_ | apply b2_ | apply b3_)); refine blk_put (cs := #[.int .i64 0, .int .i64 0, .int .i64 0, .int .i64 0, .int .i64 0, .int .i64 0, .int .i64 0, .slice none 0 0, .slice none 0 0, .slice none 0 0]) ?_ 0 _ rfl; (with_reducible repeat (first | apply b1_ | apply b2_ | apply b3_)); exact BK379.out) : P := h
theorem u20_1 {P : Prop} (h : P := by first | (rw [add_block]; exact hn377_0) | (show (Addr.add _ _).block ≠ _; rw [add_block]; exact hn377_0) | exact hn377_0) : P := h
theorem u20_2 {P : Prop} (h : P := by first | (rw [add_block]; exact hn377_1) | (show (Addr.add _ _).block ≠ _; rw [add_block]; exact hn377_1) | exact hn377_1) : P := h
theorem u20_3 {P : Prop} (h : P := by first | (rw [add_block]; exact hn377_2) | (show (Addr.add _ _).block ≠ _; rw [add_block]; exact hn377_2) | exact hn377_2) : P := h
theorem u20_4 {P : Prop} (h : P := by first | (rw [add_block]; exact hn377_3) | (show (Addr.add _ _).block ≠ _; rw [add_block]; exact hn377_3) | exact hn377_3) : P := h
theorem u20_5 {P : Prop} (h : P := by first | (rw [add_block]; exact hn377_4) | (show (Addr.add _ _).block ≠ _; rw [add_block]; exact hn377_4) | exact hn377_4) : P := h
theorem u20_6 {P : Prop} (h : P := by first | (rw [add_block]; exact hn377_5) | (show (Addr.add _ _).block ≠ _; rw [add_block]; exact hn377_5) | exact hn377_5) : P := h
theorem u20_7 {P : Prop} (h : P := by first | (rw [add_block]; exact hn377_6) | (show (Addr.add _ _).block ≠ _; rw [add_block]; exact hn377_6) | exact hn377_6) : P := h
theorem u20_8 {P : Prop} (h : P := by first | (rw [add_block]; exact hn377_7) | (show (Addr.add _ _).block ≠ _; rw [add_block]; exact hn377_7) | exact hn377_7) : P := h
theorem u20_9 {P : Prop} (h : P := by first | (rw [add_block]; exact hn377_8) | (show (Addr.add _ _).block ≠ _; rw [add_block]; exact hn377_8) | exact hn377_8) : P := h
theorem u20_10 {P : Prop} (h : P := by first | (rw [add_block]; exact hn377_9) | (show (Addr.add _ _).block ≠ _; rw [add_block]; exact hn377_9) | exact hn377_9) : P := h
theorem u20_11 {P : Prop} (h : P := by have := World.block_lt_of_cell? _ _ hx377_0; first | rwa [add_block] at this | exact this) : P := h
theorem u20_14 {P : Prop} (h : P := by (with_reducible repeat (first | apply b1_ | apply b2_ | apply b3_)); exact BK374.out) : P := h
theorem u20_16 {P : Prop} (h : P := by (with_reducible repeat (first | apply b1_ | apply b2_ | apply b3_)); refine blk_far ?_ NB374_379.out _; (with_reducible repeat (first | apply b1_ | apply b2_ | apply b3_)); refine blk_far ?_ NB374_379.out _; (with_reducible repeat (first | apply b1_ | apply b2_ | apply b3_)); refine blk_far ?_ NB374_379.out _; (with_reducible repeat (first | apply b1_ | apply b2_ | apply b3_)); refine blk_far ?_ NB374_379.out _; (with_reducible repeat (first | apply b1_ | apply b2_ | apply b3_)); refine blk_far ?_ NB374_379.out _; (with_reducible repeat (first | apply b1_ | apply b2_ | apply b3_)); refine blk_far ?_ NB374_379.out _; (with_reducible repeat (first | apply b1_ | apply b2_ | apply b3_)); refine blk_far ?_ NB374_379.out _; (with_reducible repeat (first | apply b1_ | apply b2_ | apply b3_)); refine blk_far ?_ NB374_379.out _; (with_reducible repeat (first | apply b1_ | apply b2_ | apply b3_)); refine blk_far ?_ NB374_379.out _; (with_reducible repeat (first | apply b1_ | apply b2_ | apply b3_)); refine blk_far ?_ NB374_379.out _; (with_reducible repeat (first | apply b1_ | apply b2_ | apply b3_)); exact BK374.out) : P := h
theorem u20_17 {P : Prop} (h : P := by (with_reducible repeat (first | apply b1_ | apply b2_ | apply b3_)); refine blk_far ?_ NB374_376.out _; (with_reducible repeat (first | apply b1_ | apply b2_ | apply b3_)); refine blk_far ?_ NB374_376.out _; (with_reducible repeat (first | apply b1_ | apply b2_ | apply b3_)); refine blk_far ?_ NB374_376.out _; (with_reducible repeat (first | apply b1_ | apply b2_ | apply b3_)); refine blk_far ?_ NB374_376.out _; (with_reducible repeat (first | apply b1_ | apply b2_ | apply b3_)); refine blk_far ?_ NB374_376.out _; (with_reducible repeat (first | apply b1_ | apply b2_ | apply b3_)); refine blk_far ?_ NB374_376.out _; (with_reducible repeat (first | apply b1_ | apply b2_ | apply b3_)); refine blk_far ?_ NB374_376.out _; (with_reducible repeat (first | apply b1_ | apply b2_ | apply b3_)); refine blk_far ?_ NB374_376.out _; (with_reducible repeat (first | apply b1_ | apply b2_ | apply b3_)); refine blk_far ?_ NB374_376.out _; (with_reducible repeat (first | apply b1_ | apply b2_ | apply b3_)); refine blk_far ?_ NB374_376.out _; (with_reducible repeat (first | apply b1_ | apply b2_ | apply b3_)); exact BK374.out) : P := h
theorem u20_18 {P : Prop} (h : P := by (with_reducible repeat (first | apply b1_ | apply b2_ | apply b3_)); exact BK369.out) : P := h
theorem u20_28 {P : Prop} (h : P := by (with_reducible repeat (first | apply b1_ | apply b2_ | apply b3_)); exact BK379.out) : P := h
theorem u20_29 {P : Prop} (h : P := by (with_reducible repeat (first | apply b1_ | apply b2_ | apply b3_)); exact BK390.out) : P := h
theorem u20_30 {P : Prop} (h : P := by (with_reducible repeat (first | apply r1_ | apply r2_ | apply r3_)); exact HO382.out) : P := h
def impl_Msg.o (k : Nat) (n : Int) : List S29 → Option Bool
 | [] => some false
 | y :: ys => (impl_isMsg.f k y.f0 y.f1 y.f2 y.f3 y.f4 y.f5 y.f6 y.f7 y.f8 n).bind fun t => if t = true then impl_Msg.o k n ys else some true
def impl_Msg.f (k : Nat) (l0 : List S29) (a1_0 : Int) (l1_1 : List (S37)) (l1_2 : List (S29)) : Option Bool := impl_Msg.o k a1_0 l0
theorem impl_Msg.mono : ∀ l0 a1_0 l1_1 l1_2 k, LeO (impl_Msg.f k l0 a1_0 l1_1 l1_2) (impl_Msg.f (k + 1) l0 a1_0 l1_1 l1_2) := by
 intro l0 a1_0 l1_1 l1_2 k
 unfold impl_Msg.f
 induction l0 with
 | nil => exact fun r h => h
 | cons y ys ih =>
   unfold impl_Msg.o
   refine LeO.bind (impl_isMsg.mono _ _ _ _ _ _ _ _ _ _ _) (fun t => ?_)
   refine LeO.ite ?_ ?_
   · exact ih
   exact fun r h => h
set_option maxHeartbeats 1600000 in
set_option maxRecDepth 100000 in
theorem impl_Msg.lit (k : Nat) (b : Nat) (a1_0 : Int) (y : S29) (A8 : Option Addr) (c8 : Nat) (t : Bool) (w : World) (hid : w.cell? ⟨b, 0, none⟩ = some (.int .i64 a1_0)) (hr : Kd.C k85 w A8 y.f8.length y.f8) (hc : y.f8.length ≤ c8) (h : impl_isMsg.f k y.f0 y.f1 y.f2 y.f3 y.f4 y.f5 y.f6 y.f7 y.f8 a1_0 = some t) :
   Calls Try.prog 121 #[.agg #[.int .i64 y.f0, .int .i64 y.f1, .int .i64 y.f2, .int .i64 y.f3, .int .i64 y.f4, .int .i64 y.f5, .int .i64 y.f6, .bool y.f7, .slice A8 y.f8.length c8], .pointer (some ⟨b, 0, none⟩)] w fun e w' => e = .returned (.bool (!t)) ∧ Below w.heap.size w w' := by
 have hu := Try.underlying29
 have hu2 := Try.underlying53
 have hlt := World.block_lt_of_cell? w _ hid
 have HE := am h
 have HR := am hr
 have HC := am hc
 have hid2 : ∀ o, (w.alloc o).cell? ⟨b, 0, none⟩ = some (.int .i64 a1_0) := fun o => ((below_alloc (Below.refl w.heap.size w) o).cell (p := ⟨b, 0, none⟩) hlt).trans hid
 clear h hr hc hid hlt
 go_enter Try.func121, Try.ntmps121
 go_wp2_with (go_at_call 66; refine (impl_isMsg.calls k _ _ _ _ _ _ _ _ _ _ _ _ t _ ?hr ?hc HE.out).mono ?_; (case hr => exact Kd.C_below HR.out (below_alloc (Below.refl _ _) _)); (case hc => exact HC.out); rintro e w' ⟨rfl, hb'⟩; have HB := am (below_step (below_alloc (Below.refl w.heap.size w) _) hb'); clear hb')
 go_ret
 exact ⟨by first | rfl | simp, HB.out⟩
set_option maxHeartbeats 3200000 in
set_option maxRecDepth 100000 in
theorem impl_Msg.idx (k : Nat) (b : Nat) (a1_0 : Int) (A0 : Option Addr) (c0 : Nat) (l0 : List S29) (r : Bool) (w : World) (hr0 : Kd.C k29 w A0 l0.length l0) (hc0 : l0.length ≤ c0) (hid : w.cell? ⟨b, 0, none⟩ = some (.int .i64 a1_0)) (h : impl_Msg.o k a1_0 l0 = some r) :
   Calls Try.prog 124 #[.slice A0 l0.length c0, .func (.func 121) #[] #[.pointer (some ⟨b, 0, none⟩)]] w fun e w' => ∃ j : Int, e = .returned (.int .i64 j) ∧ decide (j ≥ 0) = r ∧ Below w.heap.size w w' := by
 have hu := Try.underlying29
 have hn : l0.length ≤ 9223372036854775807 := hr0.2.1
 have HR := am hr0
 have HI := am hid
 have H0 := am h
 clear hr0 hid h
 go_enter Try.func124, Try.ntmps124
 go_wp2
 go_loopg [5, 8] l0.length (fun gg _ s8 wr => ∃ kk : Int, 0 ≤ kk ∧ kk ≤ l0.length ∧ l0.length - kk.toNat ≤ gg ∧ s8 = .int .i64 kk ∧ Aside0 (Below w.heap.size w wr) ∧ Aside0 (impl_Msg.o k a1_0 (l0.drop kk.toNat) = some r))
 case atStart => exact ⟨0, by omega, by omega, by omega, rfl, ⟨Below.refl _ w⟩, ⟨H0.out⟩⟩
 obtain ⟨kk, h0, hk, hg, rfl, BW, HA⟩ := hrel
 by_cases hlt : kk < (l0.length : Int)
 rotate_left
 · have h1 := HA.out
   rw [List.drop_of_length_le (by omega)] at h1
   have HQ := am (Option.some.inj h1)
   clear h1 HA
   go_wp2
   go_ret
   exact ⟨-1, rfl, by rw [← HQ.out]; rfl, BW.out⟩
 have hd : l0.drop kk.toNat = rd_T29 l0 kk :: l0.drop (kk + 1).toNat := by
   rw [List.drop_eq_getElem_cons (show kk.toNat < l0.length by omega), show (kk + 1).toNat = kk.toNat + 1 by omega]
   unfold rd_T29
   rw [List.getD_eq_getElem?_getD, List.getElem?_eq_getElem (show kk.toNat < l0.length by omega)]
   rfl
 have h1 := HA.out
 rw [hd] at h1
 unfold impl_Msg.o at h1
 obtain ⟨t, ht, h2⟩ := Option.bind_eq_some_iff.mp h1
 clear h1 hd HA
 obtain ⟨ad, A8, c8, e, hx0, hx1, hx2, hx3, hx4, hx5, hx6, hx7, hx8, hl8, hi8⟩ := at_T29 HR.out kk h0 hlt
 cases e
 replace hx0 := (BW.out.cell (World.block_lt_of_cell? w _ hx0)).trans hx0
 replace hx1 := (BW.out.cell (World.block_lt_of_cell? w _ hx1)).trans hx1
 replace hx2 := (BW.out.cell (World.block_lt_of_cell? w _ hx2)).trans hx2
 replace hx3 := (BW.out.cell (World.block_lt_of_cell? w _ hx3)).trans hx3
 replace hx4 := (BW.out.cell (World.block_lt_of_cell? w _ hx4)).trans hx4
 replace hx5 := (BW.out.cell (World.block_lt_of_cell? w _ hx5)).trans hx5
 replace hx6 := (BW.out.cell (World.block_lt_of_cell? w _ hx6)).trans hx6
 replace hx7 := (BW.out.cell (World.block_lt_of_cell? w _ hx7)).trans hx7
 replace hx8 := (BW.out.cell (World.block_lt_of_cell? w _ hx8)).trans hx8
 have HL := am (impl_Msg.lit k b a1_0 (rd_T29 l0 kk) A8 c8 t wr ((BW.out.cell (World.block_lt_of_cell? w _ HI.out)).trans HI.out) (Kd.C_below hi8 BW.out) hl8 ht)
 clear ht hl8 hi8
 cases t with
 | false =>
   rw [if_neg (by simp)] at h2
   have HQ := am (Option.some.inj h2)
   clear h2
   go_wp2_with (go_at_call 121; refine HL.out.mono ?_; rintro e w' ⟨rfl, hb'⟩)
   go_ret
   exact ⟨kk, rfl, (by rw [← HQ.out, decide_eq_true (by omega)]), below_step BW.out hb'⟩
 | true =>
   rw [if_pos rfl] at h2
   have HQ := am h2
   clear h2
   go_wp2_with (go_at_call 121; refine HL.out.mono ?_; rintro e w' ⟨rfl, hb'⟩)
   go_roundg (l0.length - (kk + 1).toNat)
   case measure => omega
   case rel => exact ⟨kk + 1, by omega, by omega, by omega, by go_num, ⟨below_step BW.out hb'⟩, ⟨HQ.out⟩⟩
set_option maxHeartbeats 400000 in
theorem impl_Msg.calls (k : Nat) (A0 : Option Addr) (c0 : Nat) (l0 : List S29) (a1_0 : Int) (A1_1 : Option Addr) (c1_1 : Nat) (l1_1 : List (S37)) (A1_2 : Option Addr) (c1_2 : Nat) (l1_2 : List (S29)) (r : Bool) (w : World) {b : Nat} (hr0 : Kd.C k29 w A0 l0.length l0) (hc0 : l0.length ≤ c0) (hr1_1 : Kd.C k37 w A1_1 l1_1.length l1_1) (hc1_1 : l1_1.length ≤ c1_1) (hr1_2 : Kd.C k29 w A1_2 l1_2.length l1_2) (hc1_2 : l1_2.length ≤ c1_2) (hb : w.heap[b]? = some (.cells #[.int .i64 a1_0, .slice A1_1 l1_1.length c1_1, .slice A1_2 l1_2.length c1_2] 53 (0, 0))) (h : impl_Msg.f k l0 a1_0 l1_1 l1_2 = some r) :
   Calls Try.prog 120 #[.slice A0 l0.length c0, .func (.func 121) #[] #[.pointer (some ⟨b, 0, none⟩)]] w fun e w' => e = .returned (.bool r) ∧ Below w.heap.size w w' := by
 have HI := am (impl_Msg.idx k b a1_0 A0 c0 l0 r w hr0 hc0 ((blk_cell hb 0).trans rfl) h)
 clear hr0 hc0 hb h hr1_1 hc1_1 hr1_2 hc1_2
 go_enter Try.func120, Try.ntmps120
 go_wp2_with (go_at_call 124; refine HI.out.mono ?_; rintro e w' ⟨j, rfl, hj, hb'⟩; have HJ := am hj; clear hj)
 go_ret
 exact ⟨by rw [← HJ.out]; rfl, hb'⟩
mutual
def impl_isGroup.j0 : Nat → Bool → Int → List (S37) → List (S29) → Option (Bool)
 | 0, _, _, _, _ => none
 | k + 1, x26, x370000, x370001, x370002 => if x26 = true then (some false) else (impl_isGroup.l0 k x370001 (x370001.length : Int) 0 x370000 x370001 x370002)
def impl_isGroup.l0 : Nat → List (S37) → Int → Int → Int → List (S37) → List (S29) → Option (Bool)
 | 0, _, _, _, _, _, _ => none
 | k + 1, x28, x29, x30, x370000, x370001, x370002 => if x30 < x29 then (if 0 ≤ x30 then (if x30 < (x28.length : Int) then (if ((rd_T37 x28 x30).f0) = x30 then ((impl_isNode.f k ((rd_T37 x28 x30).f0) ((rd_T37 x28 x30).f1) ((rd_T37 x28 x30).f2) ((rd_T37 x28 x30).f3) ((rd_T37 x28 x30).f4) ((rd_T37 x28 x30).f5.f0) ((rd_T37 x28 x30).f5.f1) ((rd_T37 x28 x30).f5.f2) ((rd_T37 x28 x30).f6) ((rd_T37 x28 x30).f7) x370000).bind fun t372 => (if t372 = true then (impl_isGroup.l0 k x28 x29 (wrap64 (x30 + 1)) x370000 x370001 x370002) else (some false))) else (some false)) else (none)) else (none)) else ((impl_Msg.f k x370002 x370000 x370001 x370002).bind fun t373 => (some (!t373)))
end
def impl_isGroup.f (k : Nat) (a0_0 : Int) (l0_1 : List (S37)) (l0_2 : List (S29)) : Option (Bool) := if a0_0 < 1 then (impl_isGroup.j0 k true a0_0 l0_1 l0_2) else (if a0_0 > 5 then (impl_isGroup.j0 k true a0_0 l0_1 l0_2) else (if (l0_1.length : Int) = a0_0 then (impl_isGroup.j0 k (decide ((l0_2.length : Int) > 60)) a0_0 l0_1 l0_2) else (impl_isGroup.j0 k true a0_0 l0_1 l0_2)))
theorem impl_isGroup.mono_l : ∀ k, (∀ y0 y1 y2 y3, LeO (impl_isGroup.j0 k y0 y1 y2 y3) (impl_isGroup.j0 (k + 1) y0 y1 y2 y3)) ∧ (∀ y0 y1 y2 y3 y4 y5, LeO (impl_isGroup.l0 k y0 y1 y2 y3 y4 y5) (impl_isGroup.l0 (k + 1) y0 y1 y2 y3 y4 y5))
 | 0 => ⟨fun _ _ _ _ r h => by simp [impl_isGroup.j0] at h, fun _ _ _ _ _ _ r h => by simp [impl_isGroup.l0] at h⟩
 | k + 1 => by
   obtain ⟨ih0, ih1⟩ := impl_isGroup.mono_l k
   refine ⟨?_, ?_⟩ <;> intros <;> (first | unfold impl_isGroup.j0 | unfold impl_isGroup.l0) <;> repeat' first
   | (with_reducible exact ih0 _ _ _ _)
   | (with_reducible exact ih1 _ _ _ _ _ _)
   | (with_reducible exact impl_Msg.mono _ _ _ _ _)
   | (with_reducible exact impl_isNode.mono _ _ _ _ _ _ _ _ _ _ _ _)
   | (with_reducible exact LeO.refl _)
   | (with_reducible exact LeO.none _)
   | (with_reducible refine LeO.ite ?_ ?_)
   | (with_reducible refine LeO.bind ?_ (fun _ => ?_))
   | exact ih0 _ _ _ _
   | exact ih1 _ _ _ _ _ _
   | exact impl_Msg.mono _ _ _ _ _
   | exact impl_isNode.mono _ _ _ _ _ _ _ _ _ _ _ _
   | exact LeO.none _
   | refine LeO.ite ?_ ?_
   | refine LeO.bind ?_ (fun _ => ?_)
theorem impl_isGroup.mono : ∀ a0 a1 a2 k, LeO (impl_isGroup.f k a0 a1 a2) (impl_isGroup.f (k + 1) a0 a1 a2) := by
 intro a0 a1 a2 k
 obtain ⟨ih0, ih1⟩ := impl_isGroup.mono_l k
 unfold impl_isGroup.f
 repeat' first
     | (with_reducible exact ih0 _ _ _ _)
     | (with_reducible exact ih1 _ _ _ _ _ _)
     | (with_reducible exact impl_Msg.mono _ _ _ _ _)
     | (with_reducible exact impl_isNode.mono _ _ _ _ _ _ _ _ _ _ _ _)
     | (with_reducible exact LeO.refl _)
     | (with_reducible exact LeO.none _)
     | (with_reducible refine LeO.ite ?_ ?_)
     | (with_reducible refine LeO.bind ?_ (fun _ => ?_))
     | exact ih0 _ _ _ _
     | exact ih1 _ _ _ _ _ _
     | exact impl_Msg.mono _ _ _ _ _
     | exact impl_isNode.mono _ _ _ _ _ _ _ _ _ _ _ _
     | exact LeO.none _
     | refine LeO.ite ?_ ?_
     | refine LeO.bind ?_ (fun _ => ?_)
set_option maxHeartbeats 8000000 in
set_option maxRecDepth 100000 in
theorem impl_isGroup.calls (k : Nat) (a0_0 : Int) (A0_1 : Option Addr) (c0_1 : Nat) (l0_1 : List (S37)) (A0_2 : Option Addr) (c0_2 : Nat) (l0_2 : List (S29)) (r : Bool) (w : World) (hr0_1 : Kd.C k37 w A0_1 l0_1.length l0_1) (hc0_1 : l0_1.length ≤ c0_1) (hr0_2 : Kd.C k29 w A0_2 l0_2.length l0_2) (hc0_2 : l0_2.length ≤ c0_2) (h : impl_isGroup.f k a0_0 l0_1 l0_2 = some r) :
   Calls Try.prog 98 #[.agg #[.int .i64 a0_0, .slice A0_1 l0_1.length c0_1, .slice A0_2 l0_2.length c0_2]] w fun e w' => e = .returned (.bool r) ∧ Below w.heap.size w w' := by
 have hu53 := Try.underlying53
 have hu37 := Try.underlying37
 have HR0_1 := am hr0_1
 have HC0_1 := am hc0_1
 clear hr0_1 hc0_1
 have HR0_2 := am hr0_2
 have HC0_2 := am hc0_2
 clear hr0_2 hc0_2
 have HB := am (Below.refl w.heap.size w)
 have H : (if a0_0 < 1 then (impl_isGroup.j0 k true a0_0 l0_1 l0_2) else (if a0_0 > 5 then (impl_isGroup.j0 k true a0_0 l0_1 l0_2) else (if (l0_1.length : Int) = a0_0 then (impl_isGroup.j0 k (decide ((l0_2.length : Int) > 60)) a0_0 l0_1 l0_2) else (impl_isGroup.j0 k true a0_0 l0_1 l0_2)))) = some r := h
 clear h
 have HC2 := am H
 clear H
 go_enter Try.func98, Try.ntmps98
 go_upto_region 1 with (first | ((with_reducible refine gate_dst (N := 1) rfl ?_); (try (refine gate_guard (by rfl) ?_; dsimp only)); refine box_event ?hg (N := 1) ?hd (cs := #[.int .i64 a0_0, .slice A0_1 l0_1.length c0_1, .slice A0_2 l0_2.length c0_2]) (t := 53) ?hr ?_; (case hd => rfl); (case hg => rfl); (case hr => first | (go_simp; done) | (go_simp; rfl)); intro gb369 hg w3 hbox hb; have BK369 := am (hbox); have GW369 := am ((by rw [hg]; exact (below_size Q2) : w.heap.size ≤ gb369)); have GE369 := am ((by rw [hg]; exact (below_size Q2) : w.heap.size ≤ gb369)); replace HB := am (below_step Q2 hb); clear hb hbox hg))
 (try simp only [Act.put, la, lb, lc])
 go_cut [26] (fun v26 wc => ∃ (kq : Nat) (x26_1 : Bool), v26 = .bool x26_1 ∧ Aside0 (impl_isGroup.j0 kq x26_1 a0_0 l0_1 l0_2 = some r) ∧ Aside0 (kq ≤ k) ∧ Aside0 (wc.heap[gb369]? = some (.cells #[.int .i64 a0_0, (.slice A0_1 l0_1.length c0_1), (.slice A0_2 l0_2.length c0_2)] 53 (0, 0))) ∧ Aside0 (Below w.heap.size w wc))
 case first =>
   have H := HC2.out
   clear HC2
   by_cases c4 : a0_0 < 1
   · rw [if_pos c4] at H
     have c4b0 : decide (a0_0 < 1) = true := decide_eq_true c4
     clear c4
     (first | rw [c4b0] | (simp only [i64_w, i32_w]; rw [c4b0]) | skip)
     have H' := am H
     clear H
     obtain ⟨hcz5_0, hcz5_1, hcz5_2, hfz5_0, hfz5_1, hfz5_2⟩ := bc3f w3 BK369.out
     go_wp2
     go_meet
     case rel => exact ⟨_, (true), Q3, H', ⟨by first | omega | exact Nat.le_refl _⟩, ⟨u20_18⟩, ⟨Q2⟩⟩
   rw [if_neg c4] at H
   have c4b0 : decide (a0_0 < 1) = false := decide_eq_false c4
   clear c4
   (first | rw [c4b0] | (simp only [i64_w, i32_w]; rw [c4b0]) | skip)
   by_cases c6 : a0_0 > 5
   · rw [if_pos c6] at H
     have c6b0 : decide (5 < a0_0) = true := decide_eq_true c6
     clear c6
     have H' := am H
     clear H
     obtain ⟨hcz7_0, hcz7_1, hcz7_2, hfz7_0, hfz7_1, hfz7_2⟩ := bc3f w3 BK369.out
     go_wp2
     go_meet
     case rel => exact ⟨_, (true), Q3, H', ⟨by first | omega | exact Nat.le_refl _⟩, ⟨u20_18⟩, ⟨Q2⟩⟩
   rw [if_neg c6] at H
   have c6b0 : decide (5 < a0_0) = false := decide_eq_false c6
   clear c6
   by_cases c8 : (l0_1.length : Int) = a0_0
   rotate_left
   · rw [if_neg c8] at H
     have c8b0 : ((l0_1.length : Int) == a0_0) = false := beq_eq_false_iff_ne.mpr c8
     have c8b1 : ((l0_1.length : Int) != a0_0) = true := bne_iff_ne.mpr c8
     have H' := am H
     clear H
     obtain ⟨hcz10_0, hcz10_1, hcz10_2, hfz10_0, hfz10_1, hfz10_2⟩ := bc3f w3 BK369.out
     go_wp2
     go_meet
     case rel => exact ⟨_, (true), Q3, H', ⟨by first | omega | exact Nat.le_refl _⟩, ⟨u20_18⟩, ⟨Q2⟩⟩
   rw [if_pos c8] at H
   have c8b0 : ((l0_1.length : Int) == a0_0) = true := beq_iff_eq.mpr c8
   have c8b1 : ((l0_1.length : Int) != a0_0) = false := bne_eq_false_iff_eq.mpr c8
   clear c8
   have H' := am H
   clear H
   obtain ⟨hcz9_0, hcz9_1, hcz9_2, hfz9_0, hfz9_1, hfz9_2⟩ := bc3f w3 BK369.out
   go_wp2
   go_meet
   case rel => exact ⟨_, (decide ((l0_2.length : Int) > 60)), Q3, H', ⟨by first | omega | exact Nat.le_refl _⟩, ⟨u20_18⟩, ⟨Q2⟩⟩
 clear HC2
 obtain ⟨kq, x26_1, rfl, HA, HJ1, BK369, HB⟩ := hcut
 cases kq with
 | zero => exact absurd HA.out (by simp [impl_isGroup.j0])
 | succ kj1 =>
   have H := HA.out
   clear HA
   simp only [impl_isGroup.j0] at H
   by_cases c11 : x26_1 = true
   · subst c11
     rw [if_pos rfl] at H
     obtain rfl := sj H
     go_wp2
     go_ret
     exact ⟨er, Q2⟩
   replace c11 := Bool.eq_false_iff.mpr c11
   subst c11
   rw [nf] at H
   have H' := am H
   clear H
   obtain ⟨hcz12_0, hcz12_1, hcz12_2, hfz12_0, hfz12_1, hfz12_2⟩ := bc3f wc BK369.out
   go_wp2
   go_loopg [30] kj1 (fun kq v30 w' => ∃ (x30_2 : Int), v30 = .int .i64 x30_2 ∧ Aside0 (impl_isGroup.l0 kq l0_1 (l0_1.length : Int) x30_2 a0_0 l0_1 l0_2 = some r) ∧ Aside0 (kq ≤ kj1) ∧ Aside0 (w'.heap[gb369]? = some (.cells #[.int .i64 a0_0, (.slice A0_1 l0_1.length c0_1), (.slice A0_2 l0_2.length c0_2)] 53 (0, 0))) ∧ Aside0 (Below w.heap.size w w'))
   case atStart => exact ⟨(0), Q3, H', ⟨Nat.le_refl _⟩, ⟨u20_18⟩, ⟨Q2⟩⟩
   clear H'
   try clear c11
   try clear hcz12_0
   try clear hcz12_1
   try clear hcz12_2
   try clear hfz12_0
   try clear hfz12_1
   try clear hfz12_2
   obtain ⟨x30_2, rfl, HA, HK2, BK369, HB⟩ := hrel
   cases gk with
   | zero => exact absurd HA.out (by simp [impl_isGroup.l0])
   | succ k2 =>
     have H := HA.out
     clear HA
     simp only [impl_isGroup.l0] at H
     by_cases c13 : x30_2 < (l0_1.length : Int)
     rotate_left
     · rw [if_neg c13] at H
       have c13b0 : decide (x30_2 < (l0_1.length : Int)) = false := decide_eq_false c13
       clear c13
       replace H := Option.bind_eq_some_iff.mp H
       obtain ⟨t373, A270, H⟩ := H
       replace H : (some (!t373)) = some r := H
       have A27 := am A270
       clear A270
       obtain rfl := sj H
       obtain ⟨hcz28_0, hcz28_1, hcz28_2, hfz28_0, hfz28_1, hfz28_2⟩ := bc3f wr BK369.out
       go_wp2_with (first | ((with_reducible refine gate_callee (f := 120) rfl ?_); refine goesL_ (some 50) rfl rfl Try.func120 kr rfl #[.slice A0_2 l0_2.length c0_2, .func (.func 121) #[] #[.pointer (some ⟨gb369, 0, none⟩)]] rfl Q0 ?_; (with_reducible refine (impl_Msg.calls k2 _ _ l0_2 a0_0 A0_1 c0_1 l0_1 A0_2 c0_2 l0_2 t373 _ ?side1 ?side2 ?side3 ?side4 ?side5 ?side6 ?side7 A27.out).mono ?_); (case side1 => exact Q11); (case side2 => exact HC0_2.out); (case side3 => exact Q13); (case side4 => exact HC0_1.out); (case side5 => exact Q11); (case side6 => exact HC0_2.out); (case side7 => exact (by exact u20_18)); rintro e w29 ⟨rfl, hb⟩; refine ⟨_, rfl, ?_⟩; replace BK369 := am (bb_ BK369.out u20_18 hb); replace HB := am (below_step Q2 hb); (try clear hb); (try clear hb2); (try clear hk); (try clear hi)))
       go_ret
       exact ⟨er, Q2⟩
     rw [if_pos c13] at H
     have c13b0 : decide (x30_2 < (l0_1.length : Int)) = true := decide_eq_true c13
     clear c13
     by_cases c14 : 0 ≤ x30_2
     rotate_left
     · rw [if_neg c14] at H
       exact absurd H (by simp)
     rw [if_pos c14] at H
     have c14b0 : decide (0 ≤ x30_2) = true := decide_eq_true c14
     clear c14
     by_cases c15 : x30_2 < (l0_1.length : Int)
     rotate_left
     · rw [if_neg c15] at H
       exact absurd H (by simp)
     rw [if_pos c15] at H
     have c15b0 : decide (x30_2 < (l0_1.length : Int)) = true := decide_eq_true c15
     clear c15
     by_cases c16 : ((rd_T37 l0_1 x30_2).f0) = x30_2
     rotate_left
     · rw [if_neg c16] at H
       have c16b0 : (((rd_T37 l0_1 x30_2).f0) == x30_2) = false := beq_eq_false_iff_ne.mpr c16
       have c16b1 : (((rd_T37 l0_1 x30_2).f0) != x30_2) = true := bne_iff_ne.mpr c16
       obtain rfl := sj H
       have p370 : 0 ≤ (x30_2 : Int) := of_decide_eq_true Q1
       have q370 : x30_2 < (l0_1.length : Int) := of_decide_eq_true Q1
       obtain ⟨ad370, A370_7, c370_7, A370_8, c370_8, A370_9, c370_9, e370, hx370_0, hx370_1, hx370_2, hx370_3, hx370_4, hx370_5, hx370_6, hx370_7, hx370_8, hx370_9, hl370_7, hi370_7, hl370_8, hi370_8, hl370_9, hi370_9⟩ := at_T37 HR0_1.out x30_2 p370 q370
       cases e370
       replace hx370_0 := cm HB.out hx370_0
       replace hx370_1 := cm HB.out hx370_1
       replace hx370_2 := cm HB.out hx370_2
       replace hx370_3 := cm HB.out hx370_3
       replace hx370_4 := cm HB.out hx370_4
       replace hx370_5 := cm HB.out hx370_5
       replace hx370_6 := cm HB.out hx370_6
       replace hx370_7 := cm HB.out hx370_7
       replace hx370_8 := cm HB.out hx370_8
       replace hx370_9 := cm HB.out hx370_9
       have HR370_7 := am hi370_7
       have HC370_7 := am hl370_7
       clear hi370_7 hl370_7
       have HR370_8 := am hi370_8
       have HC370_8 := am hl370_8
       clear hi370_8 hl370_8
       have HR370_9 := am hi370_9
       have HC370_9 := am hl370_9
       clear hi370_9 hl370_9
       replace p370 := eq_true p370
       replace q370 := eq_true q370
       go_wp2_with (first | ((with_reducible refine gate_dst (N := 4) rfl ?_); (try (refine gate_guard (by rfl) ?_; dsimp only)); refine box_event ?hg (N := 4) ?hd (cs := #[.int .i64 0, .int .i64 0, .int .i64 0, .int .i64 0, .int .i64 0, .int .i64 0, .int .i64 0, .slice none 0 0, .slice none 0 0, .slice none 0 0]) (t := 37) ?hr ?_; (case hd => rfl); (case hg => rfl); (case hr => first | (go_simp; done) | (go_simp; rfl)); intro gb371 hg w24 hbox hb; have BK371 := am (hbox); have GW371 := am ((by rw [hg]; exact (below_size Q2) : w.heap.size ≤ gb371)); have GE371 := am ((by rw [hg]; exact (below_size Q2) : w.heap.size ≤ gb371)); replace HB := am (below_step Q2 hb); have NB369_371 := am ((by rw [hg]; exact Nat.ne_of_lt (blk_lt (g := gb369) (o := .cells #[.int .i64 a0_0, .slice (some ad370) l0_1.length c0_1, .slice A0_2 l0_2.length c0_2] 53 (0, 0)) u20_18) : gb369 ≠ gb371)); have NB371_369 := am ((by rw [hg]; exact Nat.ne_of_gt (blk_lt (g := gb369) (o := .cells #[.int .i64 a0_0, .slice (some ad370) l0_1.length c0_1, .slice A0_2 l0_2.length c0_2] 53 (0, 0)) u20_18) : gb371 ≠ gb369)); replace BK369 := am (bb_ BK369.out u20_18 hb); clear hb hbox hg; have hnb25 := NB371_369.out; have hnc25 := NB369_371.out; obtain ⟨hcz26_0, hcz26_1, hcz26_2, hcz26_3, hcz26_4, hcz26_5, hcz26_6, hcz26_7, hcz26_8, hcz26_9, hfz26_0, hfz26_1, hfz26_2, hfz26_3, hfz26_4, hfz26_5, hfz26_6, hfz26_7, hfz26_8, hfz26_9⟩ := bc10f w24 BK371.out))
       go_ret
       exact ⟨er, Q2⟩
     rw [if_pos c16] at H
     have c16b0 : (((rd_T37 l0_1 x30_2).f0) == x30_2) = true := beq_iff_eq.mpr c16
     have c16b1 : (((rd_T37 l0_1 x30_2).f0) != x30_2) = false := bne_eq_false_iff_eq.mpr c16
     clear c16
     replace H := Option.bind_eq_some_iff.mp H
     obtain ⟨t372, A170, H⟩ := H
     have A17 := am A170
     clear A170
     have H9 := am H
     clear H
     have p370 : 0 ≤ (x30_2 : Int) := of_decide_eq_true Q1
     have q370 : x30_2 < (l0_1.length : Int) := of_decide_eq_true Q1
     obtain ⟨ad370, A370_7, c370_7, A370_8, c370_8, A370_9, c370_9, e370, hx370_0, hx370_1, hx370_2, hx370_3, hx370_4, hx370_5, hx370_6, hx370_7, hx370_8, hx370_9, hl370_7, hi370_7, hl370_8, hi370_8, hl370_9, hi370_9⟩ := at_T37 HR0_1.out x30_2 p370 q370
     cases e370
     replace hx370_0 := cm HB.out hx370_0
     replace hx370_1 := cm HB.out hx370_1
     replace hx370_2 := cm HB.out hx370_2
     replace hx370_3 := cm HB.out hx370_3
     replace hx370_4 := cm HB.out hx370_4
     replace hx370_5 := cm HB.out hx370_5
     replace hx370_6 := cm HB.out hx370_6
     replace hx370_7 := cm HB.out hx370_7
     replace hx370_8 := cm HB.out hx370_8
     replace hx370_9 := cm HB.out hx370_9
     have HR370_7 := am hi370_7
     have HC370_7 := am hl370_7
     clear hi370_7 hl370_7
     have HR370_8 := am hi370_8
     have HC370_8 := am hl370_8
     clear hi370_8 hl370_8
     have HR370_9 := am hi370_9
     have HC370_9 := am hl370_9
     clear hi370_9 hl370_9
     replace p370 := eq_true p370
     replace q370 := eq_true q370
     go_upto_if 45 with (first | ((with_reducible refine gate_dst (N := 4) rfl ?_); (try (refine gate_guard (by rfl) ?_; dsimp only)); refine box_event ?hg (N := 4) ?hd (cs := #[.int .i64 0, .int .i64 0, .int .i64 0, .int .i64 0, .int .i64 0, .int .i64 0, .int .i64 0, .slice none 0 0, .slice none 0 0, .slice none 0 0]) (t := 37) ?hr ?_; (case hd => rfl); (case hg => rfl); (case hr => first | (go_simp; done) | (go_simp; rfl)); intro gb371 hg w18 hbox hb; have BK371 := am (hbox); have GW371 := am ((by rw [hg]; exact (below_size Q2) : w.heap.size ≤ gb371)); have GE371 := am ((by rw [hg]; exact (below_size Q2) : w.heap.size ≤ gb371)); replace HB := am (below_step Q2 hb); have NB369_371 := am ((by rw [hg]; exact Nat.ne_of_lt (blk_lt (g := gb369) (o := .cells #[.int .i64 a0_0, .slice (some ad370) l0_1.length c0_1, .slice A0_2 l0_2.length c0_2] 53 (0, 0)) u20_18) : gb369 ≠ gb371)); have NB371_369 := am ((by rw [hg]; exact Nat.ne_of_gt (blk_lt (g := gb369) (o := .cells #[.int .i64 a0_0, .slice (some ad370) l0_1.length c0_1, .slice A0_2 l0_2.length c0_2] 53 (0, 0)) u20_18) : gb371 ≠ gb369)); replace BK369 := am (bb_ BK369.out u20_18 hb); clear hb hbox hg; have hnb19 := NB371_369.out; have hnc19 := NB369_371.out; obtain ⟨hcz20_0, hcz20_1, hcz20_2, hcz20_3, hcz20_4, hcz20_5, hcz20_6, hcz20_7, hcz20_8, hcz20_9, hfz20_0, hfz20_1, hfz20_2, hfz20_3, hfz20_4, hfz20_5, hfz20_6, hfz20_7, hfz20_8, hfz20_9⟩ := bc10f w18 BK371.out; obtain ⟨hcz21_0, hcz21_1, hcz21_2, hfz21_0, hfz21_1, hfz21_2⟩ := bc3f w18 BK369.out) | (go_at_call 78; (with_reducible refine (impl_isNode.calls k2 ((rd_T37 l0_1 x30_2).f0) ((rd_T37 l0_1 x30_2).f1) ((rd_T37 l0_1 x30_2).f2) ((rd_T37 l0_1 x30_2).f3) ((rd_T37 l0_1 x30_2).f4) ((rd_T37 l0_1 x30_2).f5.f0) ((rd_T37 l0_1 x30_2).f5.f1) _ _ ((rd_T37 l0_1 x30_2).f5.f2) _ _ ((rd_T37 l0_1 x30_2).f6) _ _ ((rd_T37 l0_1 x30_2).f7) a0_0 t372 _ ?side1 ?side2 ?side3 ?side4 ?side5 ?side6 A17.out).mono ?_); (case side1 => exact (by exact Kd.C_below HR370_7.out Q2)); (case side2 => exact HC370_7.out); (case side3 => exact (by exact Kd.C_below HR370_8.out Q2)); (case side4 => exact HC370_8.out); (case side5 => exact (by exact Kd.C_below HR370_9.out Q2)); (case side6 => exact HC370_9.out); rintro e w22 ⟨rfl, hb⟩; replace BK369 := am (blk_below (g := gb369) (o := .cells #[.int .i64 a0_0, .slice (some ad370) l0_1.length c0_1, .slice A0_2 l0_2.length c0_2] 53 (0, 0)) (by (with_reducible repeat (first | apply b1_ | apply b2_ | apply b3_)); refine blk_far ?_ NB369_371.out _; (with_reducible repeat (first | apply b1_ | apply b2_ | apply b3_)); refine blk_far ?_ NB369_371.out _; (with_reducible repeat (first | apply b1_ | apply b2_ | apply b3_)); refine blk_far ?_ NB369_371.out _; (with_reducible repeat (first | apply b1_ | apply b2_ | apply b3_)); refine blk_far ?_ NB369_371.out _; (with_reducible repeat (first | apply b1_ | apply b2_ | apply b3_)); refine blk_far ?_ NB369_371.out _; (with_reducible repeat (first | apply b1_ | apply b2_ | apply b3_)); refine blk_far ?_ NB369_371.out _; (with_reducible repeat (first | apply b1_ | apply b2_ | apply b3_)); refine blk_far ?_ NB369_371.out _; (with_reducible repeat (first | apply b1_ | apply b2_ | apply b3_)); refine blk_far ?_ NB369_371.out _; (with_reducible repeat (first | apply b1_ | apply b2_ | apply b3_)); refine blk_far ?_ NB369_371.out _; (with_reducible repeat (first | apply b1_ | apply b2_ | apply b3_)); refine blk_far ?_ NB369_371.out _; (with_reducible repeat (first | apply b1_ | apply b2_ | apply b3_)); exact BK369.out) hb); replace BK371 := am (blk_below (g := gb371) (o := .cells #[.int .i64 ((rd_T37 l0_1 x30_2).f0), .int .i64 ((rd_T37 l0_1 x30_2).f1), .int .i64 ((rd_T37 l0_1 x30_2).f2), .int .i64 ((rd_T37 l0_1 x30_2).f3), .int .i64 ((rd_T37 l0_1 x30_2).f4), .int .i64 ((rd_T37 l0_1 x30_2).f5.f0), .int .i64 ((rd_T37 l0_1 x30_2).f5.f1), .slice A370_7 ((rd_T37 l0_1 x30_2).f5.f2).length c370_7, .slice A370_8 ((rd_T37 l0_1 x30_2).f6).length c370_8, .slice A370_9 ((rd_T37 l0_1 x30_2).f7).length c370_9] 37 (0, 0)) (by (with_reducible repeat (first | apply b1_ | apply b2_ | apply b3_)); refine blk_put (cs := #[.int .i64 ((rd_T37 l0_1 x30_2).f0), .int .i64 ((rd_T37 l0_1 x30_2).f1), .int .i64 ((rd_T37 l0_1 x30_2).f2), .int .i64 ((rd_T37 l0_1 x30_2).f3), .int .i64 ((rd_T37 l0_1 x30_2).f4), .int .i64 ((rd_T37 l0_1 x30_2).f5.f0), .int .i64 ((rd_T37 l0_1 x30_2).f5.f1), .slice A370_7 ((rd_T37 l0_1 x30_2).f5.f2).length c370_7, .slice A370_8 ((rd_T37 l0_1 x30_2).f6).length c370_8, .slice none 0 0]) ?_ 9 _ rfl; (with_reducible repeat (first | apply b1_ | apply b2_ | apply b3_)); refine blk_put (cs := #[.int .i64 ((rd_T37 l0_1 x30_2).f0), .int .i64 ((rd_T37 l0_1 x30_2).f1), .int .i64 ((rd_T37 l0_1 x30_2).f2), .int .i64 ((rd_T37 l0_1 x30_2).f3), .int .i64 ((rd_T37 l0_1 x30_2).f4), .int .i64 ((rd_T37 l0_1 x30_2).f5.f0), .int .i64 ((rd_T37 l0_1 x30_2).f5.f1), .slice A370_7 ((rd_T37 l0_1 x30_2).f5.f2).length c370_7, .slice none 0 0, .slice none 0 0]) ?_ 8 _ rfl; (with_reducible repeat (first | apply b1_ | apply b2_ | apply b3_)); refine blk_put (cs := #[.int .i64 ((rd_T37 l0_1 x30_2).f0), .int .i64 ((rd_T37 l0_1 x30_2).f1), .int .i64 ((rd_T37 l0_1 x30_2).f2), .int .i64 ((rd_T37 l0_1 x30_2).f3), .int .i64 ((rd_T37 l0_1 x30_2).f4), .int .i64 ((rd_T37 l0_1 x30_2).f5.f0), .int .i64 ((rd_T37 l0_1 x30_2).f5.f1), .slice none 0 0, .slice none 0 0, .slice none 0 0]) ?_ 7 _ rfl; (with_reducible repeat (first | apply b1_ | apply b2_ | apply b3_)); refine blk_put (cs := #[.int .i64 ((rd_T37 l0_1 x30_2).f0), .int .i64 ((rd_T37 l0_1 x30_2).f1), .int .i64 ((rd_T37 l0_1 x30_2).f2), .int .i64 ((rd_T37 l0_1 x30_2).f3), .int .i64 ((rd_T37 l0_1 x30_2).f4), .int .i64 ((rd_T37 l0_1 x30_2).f5.f0), .int .i64 0, .slice none 0 0, .slice none 0 0, .slice none 0 0]) ?_ 6 _ rfl; (with_reducible repeat (first | apply b1_ | apply b2_ | apply b3_)); refine blk_put (cs := #[.int .i64 ((rd_T37 l0_1 x30_2).f0), .int .i64 ((rd_T37 l0_1 x30_2).f1), .int .i64 ((rd_T37 l0_1 x30_2).f2), .int .i64 ((rd_T37 l0_1 x30_2).f3), .int .i64 ((rd_T37 l0_1 x30_2).f4), .int .i64 0, .int .i64 0, .slice none 0 0, .slice none 0 0, .slice none 0 0]) ?_ 5 _ rfl; (with_reducible repeat (first | apply b1_ | apply b2_ | apply b3_)); refine blk_put (cs := #[.int .i64 ((rd_T37 l0_1 x30_2).f0), .int .i64 ((rd_T37 l0_1 x30_2).f1), .int .i64 ((rd_T37 l0_1 x30_2).f2), .int .i64 ((rd_T37 l0_1 x30_2).f3), .int .i64 0, .int .i64 0, .int .i64 0, .slice none 0 0, .slice none 0 0, .slice none 0 0]) ?_ 4 _ rfl; (with_reducible repeat (first | apply b1_ | apply b2_ | apply b3_)); refine blk_put (cs := #[.int .i64 ((rd_T37 l0_1 x30_2).f0), .int .i64 ((rd_T37 l0_1 x30_2).f1), .int .i64 ((rd_T37 l0_1 x30_2).f2), .int .i64 0, .int .i64 0, .int .i64 0, .int .i64 0, .slice none 0 0, .slice none 0 0, .slice none 0 0]) ?_ 3 _ rfl; (with_reducible repeat (first | apply b1_ | apply b2_ | apply b3_)); refine blk_put (cs := #[.int .i64 ((rd_T37 l0_1 x30_2).f0), .int .i64 ((rd_T37 l0_1 x30_2).f1), .int .i64 0, .int .i64 0, .int .i64 0, .int .i64 0, .int .i64 0, .slice none 0 0, .slice none 0 0, .slice none 0 0]) ?_ 2 _ rfl; (with_reducible repeat (first | apply b1_ | apply b2_ | apply b3_)); refine blk_put (cs := #[.int .i64 ((rd_T37 l0_1 x30_2).f0), .int .i64 0, .int .i64 0, .int .i64 0, .int .i64 0, .int .i64 0, .int .i64 0, .slice none 0 0, .slice none 0 0, .slice none 0 0]) ?_ 1 _ rfl; (with_reducible repeat (first | apply b1_ | apply b2_ | apply b3_)); refine blk_put (cs := #[.int .i64 0, .int .i64 0, .int .i64 0, .int .i64 0, .int .i64 0, .int .i64 0, .int .i64 0, .slice none 0 0, .slice none 0 0, .slice none 0 0]) ?_ 0 _ rfl; (with_reducible repeat (first | apply b1_ | apply b2_ | apply b3_)); exact BK371.out) hb); replace HB := am (below_step Q2 hb); (try clear hb); (try clear hb2); (try clear hk); (try clear hi)))
     have H := H9.out
     clear H9
     by_cases c23 : t372 = true
     rotate_left
     · replace c23 := Bool.eq_false_iff.mpr c23
       subst c23
       rw [nf] at H
       obtain rfl := sj H
       go_wp2
       go_ret
       exact ⟨er, Q2⟩
     subst c23
     rw [if_pos rfl] at H
     have H' := am H
     clear H
     go_wp2
     go_roundg k2
     case measure => have := HJ1.out; have := HK2.out; omega
     case rel => exact ⟨(wrap64 (x30_2 + 1)), Q3, H', ⟨(by have := HJ1.out; have := HK2.out; omega)⟩, ⟨u20_18⟩, ⟨Q2⟩⟩
def impl_settled.l0 : Nat → Int → List (S37) → Int → Int → Int → List (S37) → List (S29) → Option ((List (S85)))
 | 0, _, _, _, _, _, _, _ => none
 | k + 1, x3, x8, x9, x10, x375000, x375001, x375002 => if x10 < x9 then (if 0 ≤ x10 then (if x10 < (x8.length : Int) then (if 0 ≤ x3 then (if x3 < (x375001.length : Int) then (if ((rd_T37 x8 x10).f4) > ((rd_T37 x375001 x3).f4) then (impl_settled.l0 k x10 x8 x9 (wrap64 (x10 + 1)) x375000 x375001 x375002) else (impl_settled.l0 k x3 x8 x9 (wrap64 (x10 + 1)) x375000 x375001 x375002)) else (none)) else (none)) else (none)) else (none)) else (if 0 ≤ x3 then (if x3 < (x375001.length : Int) then ((some (([] : List (S85)) : List (S85))).bind fun y380 => (if 0 ≤ ((rd_T37 x375001 x3).f4) then (if ((rd_T37 x375001 x3).f4) ≤ (((rd_T37 x375001 x3).f5.f2).length : Int) then ((some (((rd_T37 x375001 x3).f5.f2).take (((rd_T37 x375001 x3).f4) : Int).toNat : List (S85))).bind fun y383 => (if y380.length + y383.length < 5864062014805 then (some (y380 ++ y383)) else (none))) else (none)) else (none))) else (none)) else (none))
def impl_settled.f (k : Nat) (a0_0 : Int) (l0_1 : List (S37)) (l0_2 : List (S29)) : Option ((List (S85))) := impl_settled.l0 k 0 l0_1 (l0_1.length : Int) 0 a0_0 l0_1 l0_2
theorem impl_settled.mono_l : ∀ k, (∀ y0 y1 y2 y3 y4 y5 y6, LeO (impl_settled.l0 k y0 y1 y2 y3 y4 y5 y6) (impl_settled.l0 (k + 1) y0 y1 y2 y3 y4 y5 y6))
 | 0 => fun _ _ _ _ _ _ _ r h => by simp [impl_settled.l0] at h
 | k + 1 => by
   have ih0 := impl_settled.mono_l k
   · intro y0 y1 y2 y3 y4 y5 y6
     unfold impl_settled.l0
     repeat' first
     | (with_reducible exact ih0 _ _ _ _ _ _ _)
     | (with_reducible exact LeO.refl _)
     | (with_reducible exact LeO.none _)
     | (with_reducible refine LeO.ite ?_ ?_)
     | (with_reducible refine LeO.bind ?_ (fun _ => ?_))
     | exact ih0 _ _ _ _ _ _ _
     | exact LeO.none _
     | refine LeO.ite ?_ ?_
     | refine LeO.bind ?_ (fun _ => ?_)
theorem impl_settled.mono : ∀ a0 a1 a2 k, LeO (impl_settled.f k a0 a1 a2) (impl_settled.f (k + 1) a0 a1 a2) := by
 intro a0 a1 a2 k
 have ih0 := impl_settled.mono_l k
 unfold impl_settled.f
 repeat' first
     | (with_reducible exact ih0 _ _ _ _ _ _ _)
     | (with_reducible exact LeO.refl _)
     | (with_reducible exact LeO.none _)
     | (with_reducible refine LeO.ite ?_ ?_)
     | (with_reducible refine LeO.bind ?_ (fun _ => ?_))
     | exact ih0 _ _ _ _ _ _ _
     | exact LeO.none _
     | refine LeO.ite ?_ ?_
     | refine LeO.bind ?_ (fun _ => ?_)
set_option maxHeartbeats 8000000 in
set_option maxRecDepth 100000 in
theorem impl_settled.calls (k : Nat) (a0_0 : Int) (A0_1 : Option Addr) (c0_1 : Nat) (l0_1 : List (S37)) (A0_2 : Option Addr) (c0_2 : Nat) (l0_2 : List (S29)) (r : List (S85)) (w : World) (hr0_1 : Kd.C k37 w A0_1 l0_1.length l0_1) (hc0_1 : l0_1.length ≤ c0_1) (hr0_2 : Kd.C k29 w A0_2 l0_2.length l0_2) (hc0_2 : l0_2.length ≤ c0_2) (h : impl_settled.f k a0_0 l0_1 l0_2 = some r) :
   Calls Try.prog 104 #[.agg #[.int .i64 a0_0, .slice A0_1 l0_1.length c0_1, .slice A0_2 l0_2.length c0_2]] w fun e w' => ∃ v0_ : Value, e = .returned (v0_) ∧ Kd.R k85 85 w' w.heap.size (fun _ => True) v0_ r ∧ Below w.heap.size w w' := by
 have hu53 := Try.underlying53
 have hu37 := Try.underlying37
 have HR0_1 := am hr0_1
 have HC0_1 := am hc0_1
 clear hr0_1 hc0_1
 have HR0_2 := am hr0_2
 have HC0_2 := am hc0_2
 clear hr0_2 hc0_2
 have HB := am (Below.refl w.heap.size w)
 have H : (impl_settled.l0 k 0 l0_1 (l0_1.length : Int) 0 a0_0 l0_1 l0_2) = some r := h
 clear h
 have H' := am H
 clear H
 go_enter Try.func104, Try.ntmps104
 go_wp2_with (first | (first | ((with_reducible refine gate_dst (N := 1) rfl ?_); refine box_event ?hg (N := 1) ?hd (cs := #[.int .i64 a0_0, .slice A0_1 l0_1.length c0_1, .slice A0_2 l0_2.length c0_2]) (t := 53) ?hr ?_; (case hd => rfl); (case hg => rfl); (case hr => first | (go_simp; done) | (go_simp; rfl)); intro gb374 hg w2 hbox hb; have BK374 := am (hbox); have GW374 := am ((by rw [hg]; exact (below_size Q2) : w.heap.size ≤ gb374)); have GE374 := am ((by rw [hg]; exact (below_size Q2) : w.heap.size ≤ gb374)); replace HB := am (below_step Q2 hb); clear hb hbox hg; obtain ⟨hcz3_0, hcz3_1, hcz3_2, hfz3_0, hfz3_1, hfz3_2⟩ := bc3f w2 BK374.out)) | go_quiet (fail))
 go_loopg [3, 10] k (fun kq v3 v10 w' => ∃ (x3_1 : Int) (x10_1 : Int), v3 = .int .i64 x3_1 ∧ v10 = .int .i64 x10_1 ∧ Aside0 (impl_settled.l0 kq x3_1 l0_1 (l0_1.length : Int) x10_1 a0_0 l0_1 l0_2 = some r) ∧ Aside0 (kq ≤ k) ∧ Aside0 (w'.heap[gb374]? = some (.cells #[.int .i64 a0_0, (.slice A0_1 l0_1.length c0_1), (.slice A0_2 l0_2.length c0_2)] 53 (0, 0))) ∧ Aside0 (Below w.heap.size w w'))
 case atStart => exact ⟨(0), (0), Q3, Q3, H', ⟨Nat.le_refl _⟩, ⟨u20_14⟩, ⟨Q2⟩⟩
 clear H'
 try clear hcz3_0
 try clear hcz3_1
 try clear hcz3_2
 try clear hfz3_0
 try clear hfz3_1
 try clear hfz3_2
 obtain ⟨x3_1, x10_1, rfl, rfl, HA, HK1, BK374, HB⟩ := hrel
 cases gk with
 | zero => exact absurd HA.out (by simp [impl_settled.l0])
 | succ k1 =>
   have H := HA.out
   clear HA
   simp only [impl_settled.l0] at H
   by_cases c4 : x10_1 < (l0_1.length : Int)
   rotate_left
   · rw [if_neg c4] at H
     have c4b0 : decide (x10_1 < (l0_1.length : Int)) = false := decide_eq_false c4
     clear c4
     by_cases c14 : 0 ≤ x3_1
     rotate_left
     · rw [if_neg c14] at H
       exact absurd H (by simp)
     rw [if_pos c14] at H
     have c14b0 : decide (0 ≤ x3_1) = true := decide_eq_true c14
     clear c14
     by_cases c15 : x3_1 < (l0_1.length : Int)
     rotate_left
     · rw [if_neg c15] at H
       exact absurd H (by simp)
     rw [if_pos c15] at H
     have c15b0 : decide (x3_1 < (l0_1.length : Int)) = true := decide_eq_true c15
     clear c15
     obtain ⟨y380, hy380⟩ : ∃ y_ : List (S85), y_ = (([] : List (S85))) := ⟨_, rfl⟩
     replace H : (if 0 ≤ ((rd_T37 l0_1 x3_1).f4) then (if ((rd_T37 l0_1 x3_1).f4) ≤ (((rd_T37 l0_1 x3_1).f5.f2).length : Int) then ((some (((rd_T37 l0_1 x3_1).f5.f2).take (((rd_T37 l0_1 x3_1).f4) : Int).toNat : List (S85))).bind fun y383 => (if y380.length + y383.length < 5864062014805 then (some (y380 ++ y383)) else (none))) else (none)) else (none)) = some r := by first | (rw [hy380]; with_reducible exact H) | (have H2_ := (Option.bind_some _ _).symm.trans H; rw [hy380]; with_reducible exact H2_) | (have H2_ := (Option.bind_some _ _).symm.trans H; with_reducible exact H2_) | with_reducible exact H | (rw [hy380]; exact H) | exact H
     have Ny380 := am hy380
     clear hy380
     by_cases c16 : 0 ≤ ((rd_T37 l0_1 x3_1).f4)
     rotate_left
     · rw [if_neg c16] at H
       exact absurd H (by simp)
     rw [if_pos c16] at H
     have c16b0 := eq_true c16
     have c16b1 : decide (0 ≤ ((rd_T37 l0_1 x3_1).f4)) = true := decide_eq_true c16
     clear c16
     by_cases c17 : ((rd_T37 l0_1 x3_1).f4) ≤ (((rd_T37 l0_1 x3_1).f5.f2).length : Int)
     rotate_left
     · rw [if_neg c17] at H
       exact absurd H (by simp)
     rw [if_pos c17] at H
     have c17b0 := eq_true c17
     have c17b1 : decide (((rd_T37 l0_1 x3_1).f4) ≤ (((rd_T37 l0_1 x3_1).f5.f2).length : Int)) = true := decide_eq_true c17
     clear c17
     obtain ⟨y383, hy383⟩ : ∃ y_ : List (S85), y_ = (((rd_T37 l0_1 x3_1).f5.f2).take (((rd_T37 l0_1 x3_1).f4) : Int).toNat) := ⟨_, rfl⟩
     replace H : (if y380.length + y383.length < 5864062014805 then (some (y380 ++ y383)) else (none)) = some r := by first | (rw [hy383]; with_reducible exact H) | (have H2_ := (Option.bind_some _ _).symm.trans H; rw [hy383]; with_reducible exact H2_) | (have H2_ := (Option.bind_some _ _).symm.trans H; with_reducible exact H2_) | with_reducible exact H | (rw [hy383]; exact H) | exact H
     have Ny383 := am hy383
     clear hy383
     by_cases c18 : y380.length + y383.length < 5864062014805
     rotate_left
     · rw [if_neg c18] at H
       exact absurd H (by simp)
     rw [if_pos c18] at H
     have LMc18 := am c18
     clear c18
     obtain ⟨y387, hy387⟩ : ∃ y_ : List (S85), y_ = (y380 ++ y383) := ⟨_, rfl⟩
     replace H : (some y387) = some r := by first | (rw [hy387]; with_reducible exact H) | (have H2_ := (Option.bind_some _ _).symm.trans H; rw [hy387]; with_reducible exact H2_) | (have H2_ := (Option.bind_some _ _).symm.trans H; with_reducible exact H2_) | with_reducible exact H | (rw [hy387]; exact H) | exact H
     have Ny387 := am hy387
     clear hy387
     obtain rfl := sj H
     obtain ⟨hcz19_0, hcz19_1, hcz19_2, hfz19_0, hfz19_1, hfz19_2⟩ := bc3f wr BK374.out
     have p378 : 0 ≤ (x3_1 : Int) := of_decide_eq_true Q1
     have q378 : x3_1 < (l0_1.length : Int) := of_decide_eq_true Q1
     obtain ⟨ad378, A378_7, c378_7, A378_8, c378_8, A378_9, c378_9, e378, hx378_0, hx378_1, hx378_2, hx378_3, hx378_4, hx378_5, hx378_6, hx378_7, hx378_8, hx378_9, hl378_7, hi378_7, hl378_8, hi378_8, hl378_9, hi378_9⟩ := at_T37 HR0_1.out x3_1 p378 q378
     cases e378
     replace hx378_0 := cm HB.out hx378_0
     replace hx378_1 := cm HB.out hx378_1
     replace hx378_2 := cm HB.out hx378_2
     replace hx378_3 := cm HB.out hx378_3
     replace hx378_4 := cm HB.out hx378_4
     replace hx378_5 := cm HB.out hx378_5
     replace hx378_6 := cm HB.out hx378_6
     replace hx378_7 := cm HB.out hx378_7
     replace hx378_8 := cm HB.out hx378_8
     replace hx378_9 := cm HB.out hx378_9
     have HR378_7 := am hi378_7
     have HC378_7 := am hl378_7
     clear hi378_7 hl378_7
     have HR378_8 := am hi378_8
     have HC378_8 := am hl378_8
     clear hi378_8 hl378_8
     have HR378_9 := am hi378_9
     have HC378_9 := am hl378_9
     clear hi378_9 hl378_9
     replace p378 := eq_true p378
     replace q378 := eq_true q378
     go_wp2_with (first | (first | ((with_reducible refine gate_dst (N := 6) rfl ?_); refine box_event ?hg (N := 6) ?hd (cs := #[.int .i64 0, .int .i64 0, .int .i64 0, .int .i64 0, .int .i64 0, .int .i64 0, .int .i64 0, .slice none 0 0, .slice none 0 0, .slice none 0 0]) (t := 37) ?hr ?_; (case hd => rfl); (case hg => rfl); (case hr => first | (go_simp; done) | (go_simp; rfl)); intro gb379 hg w20 hbox hb; have BK379 := am (hbox); have GW379 := am ((by rw [hg]; exact (below_size Q2) : w.heap.size ≤ gb379)); have GE379 := am ((by rw [hg]; exact (below_size Q2) : w.heap.size ≤ gb379)); replace HB := am (below_step Q2 hb); have NB374_379 := am ((by rw [hg]; exact Nat.ne_of_lt (blk_lt (g := gb374) (o := .cells #[.int .i64 a0_0, .slice (some ad378) l0_1.length c0_1, .slice A0_2 l0_2.length c0_2] 53 (0, 0)) u20_14) : gb374 ≠ gb379)); have NB379_374 := am ((by rw [hg]; exact Nat.ne_of_gt (blk_lt (g := gb374) (o := .cells #[.int .i64 a0_0, .slice (some ad378) l0_1.length c0_1, .slice A0_2 l0_2.length c0_2] 53 (0, 0)) u20_14) : gb379 ≠ gb374)); replace BK374 := am (bb_ BK374.out u20_14 hb); clear hb hbox hg; have hnb21 := NB379_374.out; have hnc21 := NB374_379.out; obtain ⟨hcz22_0, hcz22_1, hcz22_2, hcz22_3, hcz22_4, hcz22_5, hcz22_6, hcz22_7, hcz22_8, hcz22_9, hfz22_0, hfz22_1, hfz22_2, hfz22_3, hfz22_4, hfz22_5, hfz22_6, hfz22_7, hfz22_8, hfz22_9⟩ := bc10f w20 BK379.out) | ((with_reducible refine gate_dst (N := 31) rfl ?_); refine Kd.R_lit k85 _ 85 ?hg (N := 31) ?hd (xs := ([] : List (S85))) (inner := []) (ok := fun _ => True) (okp := fun _ => True) ?hr ?hp (fun _ hk => hk) trivial (Below.refl _ _) (Nat.le_refl _) (by simp) ?_; (case hd => rfl); (case hg => rfl); (case hr => first | (go_simp; done) | (go_simp; rfl)); (case hp => exact (Reps.none _ _)); intro v381 w23 ho24 hb hg_ hnew_; clear hg_ hnew_; (first | rw [← Ny380.out] at ho24 | (simp only [Int.reduceToNat] at ho24; rw [← Ny380.out] at ho24)); have HO382 := am (Kd.R_lower ho24 (below_size Q2)); replace BK374 := am (blk_below (g := gb374) (o := .cells #[.int .i64 a0_0, .slice (some ad378) l0_1.length c0_1, .slice A0_2 l0_2.length c0_2] 53 (0, 0)) u20_16 hb); replace BK379 := am (blk_below (g := gb379) (o := .cells #[.int .i64 ((rd_T37 l0_1 x3_1).f0), .int .i64 ((rd_T37 l0_1 x3_1).f1), .int .i64 ((rd_T37 l0_1 x3_1).f2), .int .i64 ((rd_T37 l0_1 x3_1).f3), .int .i64 ((rd_T37 l0_1 x3_1).f4), .int .i64 ((rd_T37 l0_1 x3_1).f5.f0), .int .i64 ((rd_T37 l0_1 x3_1).f5.f1), .slice A378_7 ((rd_T37 l0_1 x3_1).f5.f2).length c378_7, .slice A378_8 ((rd_T37 l0_1 x3_1).f6).length c378_8, .slice A378_9 ((rd_T37 l0_1 x3_1).f7).length c378_9] 37 (0, 0)) u20_0 hb); replace HB := am (below_step Q2 hb); clear hb ho24; obtain ⟨hcz25_0, hcz25_1, hcz25_2, hcz25_3, hcz25_4, hcz25_5, hcz25_6, hcz25_7, hcz25_8, hcz25_9, hfz25_0, hfz25_1, hfz25_2, hfz25_3, hfz25_4, hfz25_5, hfz25_6, hfz25_7, hfz25_8, hfz25_9⟩ := bc10f w23 BK379.out; have q26 : (((rd_T37 l0_1 x3_1).f4) : Int) ≤ ((((rd_T37 l0_1 x3_1).f5.f2).length : Int) : Int) := of_decide_eq_true Q1; obtain ⟨i026, hi026, _, hsz26, _⟩ := info_parts info85; have hroom26 : ((rd_T37 l0_1 x3_1).f5.f2).length ≤ c378_7 := HC378_7.out; have hC26 : Kd.C k85 _ A378_7 ((rd_T37 l0_1 x3_1).f5.f2).length ((rd_T37 l0_1 x3_1).f5.f2) := HR378_7.out; have hcut26 := cut_to (P := Try.prog) 27 85 .i64 Try.underlying27 hi026 A378_7 ((rd_T37 l0_1 x3_1).f5.f2).length c378_7 ((rd_T37 l0_1 x3_1).f4) (of_decide_eq_true Q1) q26 hroom26; have hr26 := Kd.C_take (m := (((rd_T37 l0_1 x3_1).f4) : Int).toNat) hC26 (by omega); have hy26 : y383.length = (((rd_T37 l0_1 x3_1).f4) : Int).toNat := (by rw [Ny383.out, List.length_take]; omega); rw [← Ny383.out] at hr26; rw [← hy26] at hcut26; have HR386 := am hr26; have HC386 := am (show y383.length ≤ c378_7 from by omega); clear hr26 hC26 hroom26 hi026 hsz26; have KY26 := am hy26; clear hy26; replace q26 := eq_true q26) | ((with_reducible refine gate_builtin (b := .append) (xs := #[.tmp 31, .tmp 37]) rfl ?_); at_builtin; refine Kd.R_append_rows k85 (w0 := w) w.heap.size rfl (.tmp 31) (.tmp 37) 27 85 (.agg #[(.int .i64 0), (.string ⟨#[]⟩)]) 24 rfl Try.underlying27 info85 rfl (by decide) (by omega) v381 y380 y383 _ _ _ (fun _ => True) (fun _ => False) rfl rfl ?aO ?aR (fun _ _ h => h) (fun _ h => h.elim) ?aF ?aB ?aS ?aL ?_; (case aR => repeat (first | exact (Kd.C_below HR386.out HB.out) | (with_reducible refine Kd.C_alloc ?_ _) | (with_reducible refine Kd.C_drewN ?_ _) | (with_reducible refine Kd.C_drew ?_))); (case aB => exact Q2); (case aF => exact (fun _ _ => trivial)); (case aO => exact u20_30); (case aS => exact (below_size Q2)); (case aL => have := LMc18.out; omega); intro v388 w27 ho hb hg hat; rw [← Ny387.out] at ho; replace BK374 := am (blk_grown (g := gb374) (o := .cells #[.int .i64 a0_0, .slice (some ad378) l0_1.length c0_1, .slice A0_2 l0_2.length c0_2] 53 (0, 0)) u20_14 hg (Kd.R_ne HO382.out BK374.out (by decide))); replace BK379 := am (blk_grown (g := gb379) (o := .cells #[.int .i64 ((rd_T37 l0_1 x3_1).f0), .int .i64 ((rd_T37 l0_1 x3_1).f1), .int .i64 ((rd_T37 l0_1 x3_1).f2), .int .i64 ((rd_T37 l0_1 x3_1).f3), .int .i64 ((rd_T37 l0_1 x3_1).f4), .int .i64 ((rd_T37 l0_1 x3_1).f5.f0), .int .i64 ((rd_T37 l0_1 x3_1).f5.f1), .slice A378_7 ((rd_T37 l0_1 x3_1).f5.f2).length c378_7, .slice A378_8 ((rd_T37 l0_1 x3_1).f6).length c378_8, .slice A378_9 ((rd_T37 l0_1 x3_1).f7).length c378_9] 37 (0, 0)) u20_28 hg (Kd.R_ne HO382.out BK379.out (by decide))); replace HB := am (hb); have HO389 := am (ho); clear HO382; clear ho hb hg hat)) | go_quiet (first | ((with_reducible refine gate_dst (N := 31) rfl ?_); refine Kd.R_lit k85 _ 85 ?hg (N := 31) ?hd (xs := ([] : List (S85))) (inner := []) (ok := fun _ => True) (okp := fun _ => True) ?hr ?hp (fun _ hk => hk) trivial (Below.refl _ _) (Nat.le_refl _) (by simp) ?_; (case hd => rfl); (case hg => rfl); (case hr => first | (go_simp; done) | (go_simp; rfl)); (case hp => exact (Reps.none _ _)); intro v381 w23 ho24 hb hg_ hnew_; clear hg_ hnew_; (first | rw [← Ny380.out] at ho24 | (simp only [Int.reduceToNat] at ho24; rw [← Ny380.out] at ho24)); have HO382 := am (Kd.R_lower ho24 (below_size Q2)); replace BK374 := am (blk_below (g := gb374) (o := .cells #[.int .i64 a0_0, .slice (some ad378) l0_1.length c0_1, .slice A0_2 l0_2.length c0_2] 53 (0, 0)) u20_16 hb); replace BK379 := am (blk_below (g := gb379) (o := .cells #[.int .i64 ((rd_T37 l0_1 x3_1).f0), .int .i64 ((rd_T37 l0_1 x3_1).f1), .int .i64 ((rd_T37 l0_1 x3_1).f2), .int .i64 ((rd_T37 l0_1 x3_1).f3), .int .i64 ((rd_T37 l0_1 x3_1).f4), .int .i64 ((rd_T37 l0_1 x3_1).f5.f0), .int .i64 ((rd_T37 l0_1 x3_1).f5.f1), .slice A378_7 ((rd_T37 l0_1 x3_1).f5.f2).length c378_7, .slice A378_8 ((rd_T37 l0_1 x3_1).f6).length c378_8, .slice A378_9 ((rd_T37 l0_1 x3_1).f7).length c378_9] 37 (0, 0)) u20_0 hb); replace HB := am (below_step Q2 hb); clear hb ho24; obtain ⟨hcz25_0, hcz25_1, hcz25_2, hcz25_3, hcz25_4, hcz25_5, hcz25_6, hcz25_7, hcz25_8, hcz25_9, hfz25_0, hfz25_1, hfz25_2, hfz25_3, hfz25_4, hfz25_5, hfz25_6, hfz25_7, hfz25_8, hfz25_9⟩ := bc10f w23 BK379.out; have q26 : (((rd_T37 l0_1 x3_1).f4) : Int) ≤ ((((rd_T37 l0_1 x3_1).f5.f2).length : Int) : Int) := of_decide_eq_true Q1; obtain ⟨i026, hi026, _, hsz26, _⟩ := info_parts info85; have hroom26 : ((rd_T37 l0_1 x3_1).f5.f2).length ≤ c378_7 := HC378_7.out; have hC26 : Kd.C k85 _ A378_7 ((rd_T37 l0_1 x3_1).f5.f2).length ((rd_T37 l0_1 x3_1).f5.f2) := HR378_7.out; have hcut26 := cut_to (P := Try.prog) 27 85 .i64 Try.underlying27 hi026 A378_7 ((rd_T37 l0_1 x3_1).f5.f2).length c378_7 ((rd_T37 l0_1 x3_1).f4) (of_decide_eq_true Q1) q26 hroom26; have hr26 := Kd.C_take (m := (((rd_T37 l0_1 x3_1).f4) : Int).toNat) hC26 (by omega); have hy26 : y383.length = (((rd_T37 l0_1 x3_1).f4) : Int).toNat := (by rw [Ny383.out, List.length_take]; omega); rw [← Ny383.out] at hr26; rw [← hy26] at hcut26; have HR386 := am hr26; have HC386 := am (show y383.length ≤ c378_7 from by omega); clear hr26 hC26 hroom26 hi026 hsz26; have KY26 := am hy26; clear hy26; replace q26 := eq_true q26) | ((with_reducible refine gate_builtin (b := .append) (xs := #[.tmp 31, .tmp 37]) rfl ?_); at_builtin; refine Kd.R_append_rows k85 (w0 := w) w.heap.size rfl (.tmp 31) (.tmp 37) 27 85 (.agg #[(.int .i64 0), (.string ⟨#[]⟩)]) 24 rfl Try.underlying27 info85 rfl (by decide) (by omega) v381 y380 y383 _ _ _ (fun _ => True) (fun _ => False) rfl rfl ?aO ?aR (fun _ _ h => h) (fun _ h => h.elim) ?aF ?aB ?aS ?aL ?_; (case aR => repeat (first | exact (Kd.C_below HR386.out HB.out) | (with_reducible refine Kd.C_alloc ?_ _) | (with_reducible refine Kd.C_drewN ?_ _) | (with_reducible refine Kd.C_drew ?_))); (case aB => exact Q2); (case aF => exact (fun _ _ => trivial)); (case aO => exact u20_30); (case aS => exact (below_size Q2)); (case aL => have := LMc18.out; omega); intro v388 w27 ho hb hg hat; rw [← Ny387.out] at ho; replace BK374 := am (blk_grown (g := gb374) (o := .cells #[.int .i64 a0_0, .slice (some ad378) l0_1.length c0_1, .slice A0_2 l0_2.length c0_2] 53 (0, 0)) u20_14 hg (Kd.R_ne HO382.out BK374.out (by decide))); replace BK379 := am (blk_grown (g := gb379) (o := .cells #[.int .i64 ((rd_T37 l0_1 x3_1).f0), .int .i64 ((rd_T37 l0_1 x3_1).f1), .int .i64 ((rd_T37 l0_1 x3_1).f2), .int .i64 ((rd_T37 l0_1 x3_1).f3), .int .i64 ((rd_T37 l0_1 x3_1).f4), .int .i64 ((rd_T37 l0_1 x3_1).f5.f0), .int .i64 ((rd_T37 l0_1 x3_1).f5.f1), .slice A378_7 ((rd_T37 l0_1 x3_1).f5.f2).length c378_7, .slice A378_8 ((rd_T37 l0_1 x3_1).f6).length c378_8, .slice A378_9 ((rd_T37 l0_1 x3_1).f7).length c378_9] 37 (0, 0)) u20_28 hg (Kd.R_ne HO382.out BK379.out (by decide))); replace HB := am (hb); have HO389 := am (ho); clear HO382; clear ho hb hg hat)))
     go_ret
     exact ⟨_, er, (by (with_reducible repeat (first | apply r1_ | apply r2_ | apply r3_)); exact HO389.out), Q2⟩
   rw [if_pos c4] at H
   have c4b0 : decide (x10_1 < (l0_1.length : Int)) = true := decide_eq_true c4
   clear c4
   by_cases c5 : 0 ≤ x10_1
   rotate_left
   · rw [if_neg c5] at H
     exact absurd H (by simp)
   rw [if_pos c5] at H
   have c5b0 : decide (0 ≤ x10_1) = true := decide_eq_true c5
   clear c5
   by_cases c6 : x10_1 < (l0_1.length : Int)
   rotate_left
   · rw [if_neg c6] at H
     exact absurd H (by simp)
   rw [if_pos c6] at H
   have c6b0 : decide (x10_1 < (l0_1.length : Int)) = true := decide_eq_true c6
   clear c6
   by_cases c7 : 0 ≤ x3_1
   rotate_left
   · rw [if_neg c7] at H
     exact absurd H (by simp)
   rw [if_pos c7] at H
   have c7b0 : decide (0 ≤ x3_1) = true := decide_eq_true c7
   clear c7
   by_cases c8 : x3_1 < (l0_1.length : Int)
   rotate_left
   · rw [if_neg c8] at H
     exact absurd H (by simp)
   rw [if_pos c8] at H
   have c8b0 : decide (x3_1 < (l0_1.length : Int)) = true := decide_eq_true c8
   clear c8
   have H9 := am H
   clear H
   have p375 : 0 ≤ (x10_1 : Int) := of_decide_eq_true Q1
   have q375 : x10_1 < (l0_1.length : Int) := of_decide_eq_true Q1
   obtain ⟨ad375, A375_7, c375_7, A375_8, c375_8, A375_9, c375_9, e375, hx375_0, hx375_1, hx375_2, hx375_3, hx375_4, hx375_5, hx375_6, hx375_7, hx375_8, hx375_9, hl375_7, hi375_7, hl375_8, hi375_8, hl375_9, hi375_9⟩ := at_T37 HR0_1.out x10_1 p375 q375
   cases e375
   replace hx375_0 := cm HB.out hx375_0
   replace hx375_1 := cm HB.out hx375_1
   replace hx375_2 := cm HB.out hx375_2
   replace hx375_3 := cm HB.out hx375_3
   replace hx375_4 := cm HB.out hx375_4
   replace hx375_5 := cm HB.out hx375_5
   replace hx375_6 := cm HB.out hx375_6
   replace hx375_7 := cm HB.out hx375_7
   replace hx375_8 := cm HB.out hx375_8
   replace hx375_9 := cm HB.out hx375_9
   have HR375_7 := am hi375_7
   have HC375_7 := am hl375_7
   clear hi375_7 hl375_7
   have HR375_8 := am hi375_8
   have HC375_8 := am hl375_8
   clear hi375_8 hl375_8
   have HR375_9 := am hi375_9
   have HC375_9 := am hl375_9
   clear hi375_9 hl375_9
   replace p375 := eq_true p375
   replace q375 := eq_true q375
   go_upto_if 23 with (first | ((with_reducible refine gate_dst (N := 5) rfl ?_); refine box_event ?hg (N := 5) ?hd (cs := #[.int .i64 0, .int .i64 0, .int .i64 0, .int .i64 0, .int .i64 0, .int .i64 0, .int .i64 0, .slice none 0 0, .slice none 0 0, .slice none 0 0]) (t := 37) ?hr ?_; (case hd => rfl); (case hg => rfl); (case hr => first | (go_simp; done) | (go_simp; rfl)); intro gb376 hg w9 hbox hb; have BK376 := am (hbox); have GW376 := am ((by rw [hg]; exact (below_size Q2) : w.heap.size ≤ gb376)); have GE376 := am ((by rw [hg]; exact (below_size Q2) : w.heap.size ≤ gb376)); replace HB := am (below_step Q2 hb); have NB374_376 := am ((by rw [hg]; exact Nat.ne_of_lt (blk_lt (g := gb374) (o := .cells #[.int .i64 a0_0, .slice (some ad375) l0_1.length c0_1, .slice A0_2 l0_2.length c0_2] 53 (0, 0)) u20_14) : gb374 ≠ gb376)); have NB376_374 := am ((by rw [hg]; exact Nat.ne_of_gt (blk_lt (g := gb374) (o := .cells #[.int .i64 a0_0, .slice (some ad375) l0_1.length c0_1, .slice A0_2 l0_2.length c0_2] 53 (0, 0)) u20_14) : gb376 ≠ gb374)); replace BK374 := am (bb_ BK374.out u20_14 hb); clear hb hbox hg; have hnb10 := NB376_374.out; have hnc10 := NB374_376.out; obtain ⟨hcz11_0, hcz11_1, hcz11_2, hcz11_3, hcz11_4, hcz11_5, hcz11_6, hcz11_7, hcz11_8, hcz11_9, hfz11_0, hfz11_1, hfz11_2, hfz11_3, hfz11_4, hfz11_5, hfz11_6, hfz11_7, hfz11_8, hfz11_9⟩ := bc10f w9 BK376.out; obtain ⟨hcz12_0, hcz12_1, hcz12_2, hfz12_0, hfz12_1, hfz12_2⟩ := bc3f w9 BK374.out; have p377 : 0 ≤ (x3_1 : Int) := of_decide_eq_true Q1; have q377 : x3_1 < (l0_1.length : Int) := of_decide_eq_true Q1; obtain ⟨ad377, A377_7, c377_7, A377_8, c377_8, A377_9, c377_9, e377, hx377_0, hx377_1, hx377_2, hx377_3, hx377_4, hx377_5, hx377_6, hx377_7, hx377_8, hx377_9, hl377_7, hi377_7, hl377_8, hi377_8, hl377_9, hi377_9⟩ := at_T37 HR0_1.out x3_1 p377 q377; obtain rfl : ad375 = ad377 := (by injection e377); have hn377_0 : ad375.block ≠ gb376 := Nat.ne_of_lt (Nat.lt_of_lt_of_le u20_11 GW376.out); have hn377_1 : ad375.block ≠ gb376 := Nat.ne_of_lt (Nat.lt_of_lt_of_le u20_11 GW376.out); have hn377_2 : ad375.block ≠ gb376 := Nat.ne_of_lt (Nat.lt_of_lt_of_le u20_11 GW376.out); have hn377_3 : ad375.block ≠ gb376 := Nat.ne_of_lt (Nat.lt_of_lt_of_le u20_11 GW376.out); have hn377_4 : ad375.block ≠ gb376 := Nat.ne_of_lt (Nat.lt_of_lt_of_le u20_11 GW376.out); have hn377_5 : ad375.block ≠ gb376 := Nat.ne_of_lt (Nat.lt_of_lt_of_le u20_11 GW376.out); have hn377_6 : ad375.block ≠ gb376 := Nat.ne_of_lt (Nat.lt_of_lt_of_le u20_11 GW376.out); have hn377_7 : ad375.block ≠ gb376 := Nat.ne_of_lt (Nat.lt_of_lt_of_le u20_11 GW376.out); have hn377_8 : ad375.block ≠ gb376 := Nat.ne_of_lt (Nat.lt_of_lt_of_le u20_11 GW376.out); have hn377_9 : ad375.block ≠ gb376 := Nat.ne_of_lt (Nat.lt_of_lt_of_le u20_11 GW376.out); replace hx377_0 := cm HB.out hx377_0; replace hx377_1 := cm HB.out hx377_1; replace hx377_2 := cm HB.out hx377_2; replace hx377_3 := cm HB.out hx377_3; replace hx377_4 := cm HB.out hx377_4; replace hx377_5 := cm HB.out hx377_5; replace hx377_6 := cm HB.out hx377_6; replace hx377_7 := cm HB.out hx377_7; replace hx377_8 := cm HB.out hx377_8; replace hx377_9 := cm HB.out hx377_9; have HR377_7 := am hi377_7; have HC377_7 := am hl377_7; clear hi377_7 hl377_7; have HR377_8 := am hi377_8; have HC377_8 := am hl377_8; clear hi377_8 hl377_8; have HR377_9 := am hi377_9; have HC377_9 := am hl377_9; clear hi377_9 hl377_9; replace hx377_0 := (cell_far (p := ⟨gb376, 0, none⟩) u20_1 (.int .i64 ((rd_T37 l0_1 x10_1).f0))).trans hx377_0; replace hx377_1 := (cell_far (p := ⟨gb376, 0, none⟩) u20_1 (.int .i64 ((rd_T37 l0_1 x10_1).f0))).trans hx377_1; replace hx377_2 := (cell_far (p := ⟨gb376, 0, none⟩) u20_1 (.int .i64 ((rd_T37 l0_1 x10_1).f0))).trans hx377_2; replace hx377_3 := (cell_far (p := ⟨gb376, 0, none⟩) u20_1 (.int .i64 ((rd_T37 l0_1 x10_1).f0))).trans hx377_3; replace hx377_4 := (cell_far (p := ⟨gb376, 0, none⟩) u20_1 (.int .i64 ((rd_T37 l0_1 x10_1).f0))).trans hx377_4; replace hx377_5 := (cell_far (p := ⟨gb376, 0, none⟩) u20_1 (.int .i64 ((rd_T37 l0_1 x10_1).f0))).trans hx377_5; replace hx377_6 := (cell_far (p := ⟨gb376, 0, none⟩) u20_1 (.int .i64 ((rd_T37 l0_1 x10_1).f0))).trans hx377_6; replace hx377_7 := (cell_far (p := ⟨gb376, 0, none⟩) u20_1 (.int .i64 ((rd_T37 l0_1 x10_1).f0))).trans hx377_7; replace hx377_8 := (cell_far (p := ⟨gb376, 0, none⟩) u20_1 (.int .i64 ((rd_T37 l0_1 x10_1).f0))).trans hx377_8; replace hx377_9 := (cell_far (p := ⟨gb376, 0, none⟩) u20_1 (.int .i64 ((rd_T37 l0_1 x10_1).f0))).trans hx377_9; replace hx377_0 := (cell_far (p := ⟨gb376, 1, none⟩) u20_2 (.int .i64 ((rd_T37 l0_1 x10_1).f1))).trans hx377_0; replace hx377_1 := (cell_far (p := ⟨gb376, 1, none⟩) u20_2 (.int .i64 ((rd_T37 l0_1 x10_1).f1))).trans hx377_1; replace hx377_2 := (cell_far (p := ⟨gb376, 1, none⟩) u20_2 (.int .i64 ((rd_T37 l0_1 x10_1).f1))).trans hx377_2; replace hx377_3 := (cell_far (p := ⟨gb376, 1, none⟩) u20_2 (.int .i64 ((rd_T37 l0_1 x10_1).f1))).trans hx377_3; replace hx377_4 := (cell_far (p := ⟨gb376, 1, none⟩) u20_2 (.int .i64 ((rd_T37 l0_1 x10_1).f1))).trans hx377_4; replace hx377_5 := (cell_far (p := ⟨gb376, 1, none⟩) u20_2 (.int .i64 ((rd_T37 l0_1 x10_1).f1))).trans hx377_5; replace hx377_6 := (cell_far (p := ⟨gb376, 1, none⟩) u20_2 (.int .i64 ((rd_T37 l0_1 x10_1).f1))).trans hx377_6; replace hx377_7 := (cell_far (p := ⟨gb376, 1, none⟩) u20_2 (.int .i64 ((rd_T37 l0_1 x10_1).f1))).trans hx377_7; replace hx377_8 := (cell_far (p := ⟨gb376, 1, none⟩) u20_2 (.int .i64 ((rd_T37 l0_1 x10_1).f1))).trans hx377_8; replace hx377_9 := (cell_far (p := ⟨gb376, 1, none⟩) u20_2 (.int .i64 ((rd_T37 l0_1 x10_1).f1))).trans hx377_9; replace hx377_0 := (cell_far (p := ⟨gb376, 2, none⟩) u20_3 (.int .i64 ((rd_T37 l0_1 x10_1).f2))).trans hx377_0; replace hx377_1 := (cell_far (p := ⟨gb376, 2, none⟩) u20_3 (.int .i64 ((rd_T37 l0_1 x10_1).f2))).trans hx377_1; replace hx377_2 := (cell_far (p := ⟨gb376, 2, none⟩) u20_3 (.int .i64 ((rd_T37 l0_1 x10_1).f2))).trans hx377_2; replace hx377_3 := (cell_far (p := ⟨gb376, 2, none⟩) u20_3 (.int .i64 ((rd_T37 l0_1 x10_1).f2))).trans hx377_3; replace hx377_4 := (cell_far (p := ⟨gb376, 2, none⟩) u20_3 (.int .i64 ((rd_T37 l0_1 x10_1).f2))).trans hx377_4; replace hx377_5 := (cell_far (p := ⟨gb376, 2, none⟩) u20_3 (.int .i64 ((rd_T37 l0_1 x10_1).f2))).trans hx377_5; replace hx377_6 := (cell_far (p := ⟨gb376, 2, none⟩) u20_3 (.int .i64 ((rd_T37 l0_1 x10_1).f2))).trans hx377_6; replace hx377_7 := (cell_far (p := ⟨gb376, 2, none⟩) u20_3 (.int .i64 ((rd_T37 l0_1 x10_1).f2))).trans hx377_7; replace hx377_8 := (cell_far (p := ⟨gb376, 2, none⟩) u20_3 (.int .i64 ((rd_T37 l0_1 x10_1).f2))).trans hx377_8; replace hx377_9 := (cell_far (p := ⟨gb376, 2, none⟩) u20_3 (.int .i64 ((rd_T37 l0_1 x10_1).f2))).trans hx377_9; replace hx377_0 := (cell_far (p := ⟨gb376, 3, none⟩) u20_4 (.int .i64 ((rd_T37 l0_1 x10_1).f3))).trans hx377_0; replace hx377_1 := (cell_far (p := ⟨gb376, 3, none⟩) u20_4 (.int .i64 ((rd_T37 l0_1 x10_1).f3))).trans hx377_1; replace hx377_2 := (cell_far (p := ⟨gb376, 3, none⟩) u20_4 (.int .i64 ((rd_T37 l0_1 x10_1).f3))).trans hx377_2; replace hx377_3 := (cell_far (p := ⟨gb376, 3, none⟩) u20_4 (.int .i64 ((rd_T37 l0_1 x10_1).f3))).trans hx377_3; replace hx377_4 := (cell_far (p := ⟨gb376, 3, none⟩) u20_4 (.int .i64 ((rd_T37 l0_1 x10_1).f3))).trans hx377_4; replace hx377_5 := (cell_far (p := ⟨gb376, 3, none⟩) u20_4 (.int .i64 ((rd_T37 l0_1 x10_1).f3))).trans hx377_5; replace hx377_6 := (cell_far (p := ⟨gb376, 3, none⟩) u20_4 (.int .i64 ((rd_T37 l0_1 x10_1).f3))).trans hx377_6; replace hx377_7 := (cell_far (p := ⟨gb376, 3, none⟩) u20_4 (.int .i64 ((rd_T37 l0_1 x10_1).f3))).trans hx377_7; replace hx377_8 := (cell_far (p := ⟨gb376, 3, none⟩) u20_4 (.int .i64 ((rd_T37 l0_1 x10_1).f3))).trans hx377_8; replace hx377_9 := (cell_far (p := ⟨gb376, 3, none⟩) u20_4 (.int .i64 ((rd_T37 l0_1 x10_1).f3))).trans hx377_9; replace hx377_0 := (cell_far (p := ⟨gb376, 4, none⟩) u20_5 (.int .i64 ((rd_T37 l0_1 x10_1).f4))).trans hx377_0; replace hx377_1 := (cell_far (p := ⟨gb376, 4, none⟩) u20_5 (.int .i64 ((rd_T37 l0_1 x10_1).f4))).trans hx377_1; replace hx377_2 := (cell_far (p := ⟨gb376, 4, none⟩) u20_5 (.int .i64 ((rd_T37 l0_1 x10_1).f4))).trans hx377_2; replace hx377_3 := (cell_far (p := ⟨gb376, 4, none⟩) u20_5 (.int .i64 ((rd_T37 l0_1 x10_1).f4))).trans hx377_3; replace hx377_4 := (cell_far (p := ⟨gb376, 4, none⟩) u20_5 (.int .i64 ((rd_T37 l0_1 x10_1).f4))).trans hx377_4; replace hx377_5 := (cell_far (p := ⟨gb376, 4, none⟩) u20_5 (.int .i64 ((rd_T37 l0_1 x10_1).f4))).trans hx377_5; replace hx377_6 := (cell_far (p := ⟨gb376, 4, none⟩) u20_5 (.int .i64 ((rd_T37 l0_1 x10_1).f4))).trans hx377_6; replace hx377_7 := (cell_far (p := ⟨gb376, 4, none⟩) u20_5 (.int .i64 ((rd_T37 l0_1 x10_1).f4))).trans hx377_7; replace hx377_8 := (cell_far (p := ⟨gb376, 4, none⟩) u20_5 (.int .i64 ((rd_T37 l0_1 x10_1).f4))).trans hx377_8; replace hx377_9 := (cell_far (p := ⟨gb376, 4, none⟩) u20_5 (.int .i64 ((rd_T37 l0_1 x10_1).f4))).trans hx377_9; replace hx377_0 := (cell_far (p := ⟨gb376, 5, none⟩) u20_6 (.int .i64 ((rd_T37 l0_1 x10_1).f5.f0))).trans hx377_0; replace hx377_1 := (cell_far (p := ⟨gb376, 5, none⟩) u20_6 (.int .i64 ((rd_T37 l0_1 x10_1).f5.f0))).trans hx377_1; replace hx377_2 := (cell_far (p := ⟨gb376, 5, none⟩) u20_6 (.int .i64 ((rd_T37 l0_1 x10_1).f5.f0))).trans hx377_2; replace hx377_3 := (cell_far (p := ⟨gb376, 5, none⟩) u20_6 (.int .i64 ((rd_T37 l0_1 x10_1).f5.f0))).trans hx377_3; replace hx377_4 := (cell_far (p := ⟨gb376, 5, none⟩) u20_6 (.int .i64 ((rd_T37 l0_1 x10_1).f5.f0))).trans hx377_4; replace hx377_5 := (cell_far (p := ⟨gb376, 5, none⟩) u20_6 (.int .i64 ((rd_T37 l0_1 x10_1).f5.f0))).trans hx377_5; replace hx377_6 := (cell_far (p := ⟨gb376, 5, none⟩) u20_6 (.int .i64 ((rd_T37 l0_1 x10_1).f5.f0))).trans hx377_6; replace hx377_7 := (cell_far (p := ⟨gb376, 5, none⟩) u20_6 (.int .i64 ((rd_T37 l0_1 x10_1).f5.f0))).trans hx377_7; replace hx377_8 := (cell_far (p := ⟨gb376, 5, none⟩) u20_6 (.int .i64 ((rd_T37 l0_1 x10_1).f5.f0))).trans hx377_8; replace hx377_9 := (cell_far (p := ⟨gb376, 5, none⟩) u20_6 (.int .i64 ((rd_T37 l0_1 x10_1).f5.f0))).trans hx377_9; replace hx377_0 := (cell_far (p := ⟨gb376, 6, none⟩) u20_7 (.int .i64 ((rd_T37 l0_1 x10_1).f5.f1))).trans hx377_0; replace hx377_1 := (cell_far (p := ⟨gb376, 6, none⟩) u20_7 (.int .i64 ((rd_T37 l0_1 x10_1).f5.f1))).trans hx377_1; replace hx377_2 := (cell_far (p := ⟨gb376, 6, none⟩) u20_7 (.int .i64 ((rd_T37 l0_1 x10_1).f5.f1))).trans hx377_2; replace hx377_3 := (cell_far (p := ⟨gb376, 6, none⟩) u20_7 (.int .i64 ((rd_T37 l0_1 x10_1).f5.f1))).trans hx377_3; replace hx377_4 := (cell_far (p := ⟨gb376, 6, none⟩) u20_7 (.int .i64 ((rd_T37 l0_1 x10_1).f5.f1))).trans hx377_4; replace hx377_5 := (cell_far (p := ⟨gb376, 6, none⟩) u20_7 (.int .i64 ((rd_T37 l0_1 x10_1).f5.f1))).trans hx377_5; replace hx377_6 := (cell_far (p := ⟨gb376, 6, none⟩) u20_7 (.int .i64 ((rd_T37 l0_1 x10_1).f5.f1))).trans hx377_6; replace hx377_7 := (cell_far (p := ⟨gb376, 6, none⟩) u20_7 (.int .i64 ((rd_T37 l0_1 x10_1).f5.f1))).trans hx377_7; replace hx377_8 := (cell_far (p := ⟨gb376, 6, none⟩) u20_7 (.int .i64 ((rd_T37 l0_1 x10_1).f5.f1))).trans hx377_8; replace hx377_9 := (cell_far (p := ⟨gb376, 6, none⟩) u20_7 (.int .i64 ((rd_T37 l0_1 x10_1).f5.f1))).trans hx377_9; replace hx377_0 := (cell_far (p := ⟨gb376, 7, none⟩) u20_8 (.slice A375_7 ((rd_T37 l0_1 x10_1).f5.f2).length c375_7)).trans hx377_0; replace hx377_1 := (cell_far (p := ⟨gb376, 7, none⟩) u20_8 (.slice A375_7 ((rd_T37 l0_1 x10_1).f5.f2).length c375_7)).trans hx377_1; replace hx377_2 := (cell_far (p := ⟨gb376, 7, none⟩) u20_8 (.slice A375_7 ((rd_T37 l0_1 x10_1).f5.f2).length c375_7)).trans hx377_2; replace hx377_3 := (cell_far (p := ⟨gb376, 7, none⟩) u20_8 (.slice A375_7 ((rd_T37 l0_1 x10_1).f5.f2).length c375_7)).trans hx377_3; replace hx377_4 := (cell_far (p := ⟨gb376, 7, none⟩) u20_8 (.slice A375_7 ((rd_T37 l0_1 x10_1).f5.f2).length c375_7)).trans hx377_4; replace hx377_5 := (cell_far (p := ⟨gb376, 7, none⟩) u20_8 (.slice A375_7 ((rd_T37 l0_1 x10_1).f5.f2).length c375_7)).trans hx377_5; replace hx377_6 := (cell_far (p := ⟨gb376, 7, none⟩) u20_8 (.slice A375_7 ((rd_T37 l0_1 x10_1).f5.f2).length c375_7)).trans hx377_6; replace hx377_7 := (cell_far (p := ⟨gb376, 7, none⟩) u20_8 (.slice A375_7 ((rd_T37 l0_1 x10_1).f5.f2).length c375_7)).trans hx377_7; replace hx377_8 := (cell_far (p := ⟨gb376, 7, none⟩) u20_8 (.slice A375_7 ((rd_T37 l0_1 x10_1).f5.f2).length c375_7)).trans hx377_8; replace hx377_9 := (cell_far (p := ⟨gb376, 7, none⟩) u20_8 (.slice A375_7 ((rd_T37 l0_1 x10_1).f5.f2).length c375_7)).trans hx377_9; replace hx377_0 := (cell_far (p := ⟨gb376, 8, none⟩) u20_9 (.slice A375_8 ((rd_T37 l0_1 x10_1).f6).length c375_8)).trans hx377_0; replace hx377_1 := (cell_far (p := ⟨gb376, 8, none⟩) u20_9 (.slice A375_8 ((rd_T37 l0_1 x10_1).f6).length c375_8)).trans hx377_1; replace hx377_2 := (cell_far (p := ⟨gb376, 8, none⟩) u20_9 (.slice A375_8 ((rd_T37 l0_1 x10_1).f6).length c375_8)).trans hx377_2; replace hx377_3 := (cell_far (p := ⟨gb376, 8, none⟩) u20_9 (.slice A375_8 ((rd_T37 l0_1 x10_1).f6).length c375_8)).trans hx377_3; replace hx377_4 := (cell_far (p := ⟨gb376, 8, none⟩) u20_9 (.slice A375_8 ((rd_T37 l0_1 x10_1).f6).length c375_8)).trans hx377_4; replace hx377_5 := (cell_far (p := ⟨gb376, 8, none⟩) u20_9 (.slice A375_8 ((rd_T37 l0_1 x10_1).f6).length c375_8)).trans hx377_5; replace hx377_6 := (cell_far (p := ⟨gb376, 8, none⟩) u20_9 (.slice A375_8 ((rd_T37 l0_1 x10_1).f6).length c375_8)).trans hx377_6; replace hx377_7 := (cell_far (p := ⟨gb376, 8, none⟩) u20_9 (.slice A375_8 ((rd_T37 l0_1 x10_1).f6).length c375_8)).trans hx377_7; replace hx377_8 := (cell_far (p := ⟨gb376, 8, none⟩) u20_9 (.slice A375_8 ((rd_T37 l0_1 x10_1).f6).length c375_8)).trans hx377_8; replace hx377_9 := (cell_far (p := ⟨gb376, 8, none⟩) u20_9 (.slice A375_8 ((rd_T37 l0_1 x10_1).f6).length c375_8)).trans hx377_9; replace hx377_0 := (cell_far (p := ⟨gb376, 9, none⟩) u20_10 (.slice A375_9 ((rd_T37 l0_1 x10_1).f7).length c375_9)).trans hx377_0; replace hx377_1 := (cell_far (p := ⟨gb376, 9, none⟩) u20_10 (.slice A375_9 ((rd_T37 l0_1 x10_1).f7).length c375_9)).trans hx377_1; replace hx377_2 := (cell_far (p := ⟨gb376, 9, none⟩) u20_10 (.slice A375_9 ((rd_T37 l0_1 x10_1).f7).length c375_9)).trans hx377_2; replace hx377_3 := (cell_far (p := ⟨gb376, 9, none⟩) u20_10 (.slice A375_9 ((rd_T37 l0_1 x10_1).f7).length c375_9)).trans hx377_3; replace hx377_4 := (cell_far (p := ⟨gb376, 9, none⟩) u20_10 (.slice A375_9 ((rd_T37 l0_1 x10_1).f7).length c375_9)).trans hx377_4; replace hx377_5 := (cell_far (p := ⟨gb376, 9, none⟩) u20_10 (.slice A375_9 ((rd_T37 l0_1 x10_1).f7).length c375_9)).trans hx377_5; replace hx377_6 := (cell_far (p := ⟨gb376, 9, none⟩) u20_10 (.slice A375_9 ((rd_T37 l0_1 x10_1).f7).length c375_9)).trans hx377_6; replace hx377_7 := (cell_far (p := ⟨gb376, 9, none⟩) u20_10 (.slice A375_9 ((rd_T37 l0_1 x10_1).f7).length c375_9)).trans hx377_7; replace hx377_8 := (cell_far (p := ⟨gb376, 9, none⟩) u20_10 (.slice A375_9 ((rd_T37 l0_1 x10_1).f7).length c375_9)).trans hx377_8; replace hx377_9 := (cell_far (p := ⟨gb376, 9, none⟩) u20_10 (.slice A375_9 ((rd_T37 l0_1 x10_1).f7).length c375_9)).trans hx377_9; (try have hch_ := fun (n_ : Nat) => (show ((((((((((((w9.drewN n_).setCell ⟨gb376, 0, none⟩ (.int .i64 ((rd_T37 l0_1 x10_1).f0))).setCell ⟨gb376, 1, none⟩ (.int .i64 ((rd_T37 l0_1 x10_1).f1))).setCell ⟨gb376, 2, none⟩ (.int .i64 ((rd_T37 l0_1 x10_1).f2))).setCell ⟨gb376, 3, none⟩ (.int .i64 ((rd_T37 l0_1 x10_1).f3))).setCell ⟨gb376, 4, none⟩ (.int .i64 ((rd_T37 l0_1 x10_1).f4))).setCell ⟨gb376, 5, none⟩ (.int .i64 ((rd_T37 l0_1 x10_1).f5.f0))).setCell ⟨gb376, 6, none⟩ (.int .i64 ((rd_T37 l0_1 x10_1).f5.f1))).setCell ⟨gb376, 7, none⟩ (.slice A375_7 ((rd_T37 l0_1 x10_1).f5.f2).length c375_7)).setCell ⟨gb376, 8, none⟩ (.slice A375_8 ((rd_T37 l0_1 x10_1).f6).length c375_8)).setCell ⟨gb376, 9, none⟩ (.slice A375_9 ((rd_T37 l0_1 x10_1).f7).length c375_9))) = World.drewN (((((((((((w9.setCell ⟨gb376, 0, none⟩ (.int .i64 ((rd_T37 l0_1 x10_1).f0))).setCell ⟨gb376, 1, none⟩ (.int .i64 ((rd_T37 l0_1 x10_1).f1))).setCell ⟨gb376, 2, none⟩ (.int .i64 ((rd_T37 l0_1 x10_1).f2))).setCell ⟨gb376, 3, none⟩ (.int .i64 ((rd_T37 l0_1 x10_1).f3))).setCell ⟨gb376, 4, none⟩ (.int .i64 ((rd_T37 l0_1 x10_1).f4))).setCell ⟨gb376, 5, none⟩ (.int .i64 ((rd_T37 l0_1 x10_1).f5.f0))).setCell ⟨gb376, 6, none⟩ (.int .i64 ((rd_T37 l0_1 x10_1).f5.f1))).setCell ⟨gb376, 7, none⟩ (.slice A375_7 ((rd_T37 l0_1 x10_1).f5.f2).length c375_7)).setCell ⟨gb376, 8, none⟩ (.slice A375_8 ((rd_T37 l0_1 x10_1).f6).length c375_8)).setCell ⟨gb376, 9, none⟩ (.slice A375_9 ((rd_T37 l0_1 x10_1).f7).length c375_9))) n_ from by simp only [Go.Proofs.Ytkcadcoohmofcaa.Slc.setCell_drewN])); (try have hy377_0 := fun (n_ : Nat) => Go.Proofs.Ytkcadcoohmofcaa.Slc.cell_of (hch_ n_) hx377_0); (try have hy377_1 := fun (n_ : Nat) => Go.Proofs.Ytkcadcoohmofcaa.Slc.cell_of (hch_ n_) hx377_1); (try have hy377_2 := fun (n_ : Nat) => Go.Proofs.Ytkcadcoohmofcaa.Slc.cell_of (hch_ n_) hx377_2); (try have hy377_3 := fun (n_ : Nat) => Go.Proofs.Ytkcadcoohmofcaa.Slc.cell_of (hch_ n_) hx377_3); (try have hy377_4 := fun (n_ : Nat) => Go.Proofs.Ytkcadcoohmofcaa.Slc.cell_of (hch_ n_) hx377_4); (try have hy377_5 := fun (n_ : Nat) => Go.Proofs.Ytkcadcoohmofcaa.Slc.cell_of (hch_ n_) hx377_5); (try have hy377_6 := fun (n_ : Nat) => Go.Proofs.Ytkcadcoohmofcaa.Slc.cell_of (hch_ n_) hx377_6); (try have hy377_7 := fun (n_ : Nat) => Go.Proofs.Ytkcadcoohmofcaa.Slc.cell_of (hch_ n_) hx377_7); (try have hy377_8 := fun (n_ : Nat) => Go.Proofs.Ytkcadcoohmofcaa.Slc.cell_of (hch_ n_) hx377_8); (try have hy377_9 := fun (n_ : Nat) => Go.Proofs.Ytkcadcoohmofcaa.Slc.cell_of (hch_ n_) hx377_9); clear hn377_0; clear hn377_1; clear hn377_2; clear hn377_3; clear hn377_4; clear hn377_5; clear hn377_6; clear hn377_7; clear hn377_8; clear hn377_9; replace p377 := eq_true p377; replace q377 := eq_true q377))
   repeat (go_quiet (first | ((with_reducible refine gate_dst (N := 5) rfl ?_); refine box_event ?hg (N := 5) ?hd (cs := #[.int .i64 0, .int .i64 0, .int .i64 0, .int .i64 0, .int .i64 0, .int .i64 0, .int .i64 0, .slice none 0 0, .slice none 0 0, .slice none 0 0]) (t := 37) ?hr ?_; (case hd => rfl); (case hg => rfl); (case hr => first | (go_simp; done) | (go_simp; rfl)); intro gb376 hg w9 hbox hb; have BK376 := am (hbox); have GW376 := am ((by rw [hg]; exact (below_size Q2) : w.heap.size ≤ gb376)); have GE376 := am ((by rw [hg]; exact (below_size Q2) : w.heap.size ≤ gb376)); replace HB := am (below_step Q2 hb); have NB374_376 := am ((by rw [hg]; exact Nat.ne_of_lt (blk_lt (g := gb374) (o := .cells #[.int .i64 a0_0, .slice (some ad375) l0_1.length c0_1, .slice A0_2 l0_2.length c0_2] 53 (0, 0)) u20_14) : gb374 ≠ gb376)); have NB376_374 := am ((by rw [hg]; exact Nat.ne_of_gt (blk_lt (g := gb374) (o := .cells #[.int .i64 a0_0, .slice (some ad375) l0_1.length c0_1, .slice A0_2 l0_2.length c0_2] 53 (0, 0)) u20_14) : gb376 ≠ gb374)); replace BK374 := am (bb_ BK374.out u20_14 hb); clear hb hbox hg; have hnb10 := NB376_374.out; have hnc10 := NB374_376.out; obtain ⟨hcz11_0, hcz11_1, hcz11_2, hcz11_3, hcz11_4, hcz11_5, hcz11_6, hcz11_7, hcz11_8, hcz11_9, hfz11_0, hfz11_1, hfz11_2, hfz11_3, hfz11_4, hfz11_5, hfz11_6, hfz11_7, hfz11_8, hfz11_9⟩ := bc10f w9 BK376.out; obtain ⟨hcz12_0, hcz12_1, hcz12_2, hfz12_0, hfz12_1, hfz12_2⟩ := bc3f w9 BK374.out; have p377 : 0 ≤ (x3_1 : Int) := of_decide_eq_true Q1; have q377 : x3_1 < (l0_1.length : Int) := of_decide_eq_true Q1; obtain ⟨ad377, A377_7, c377_7, A377_8, c377_8, A377_9, c377_9, e377, hx377_0, hx377_1, hx377_2, hx377_3, hx377_4, hx377_5, hx377_6, hx377_7, hx377_8, hx377_9, hl377_7, hi377_7, hl377_8, hi377_8, hl377_9, hi377_9⟩ := at_T37 HR0_1.out x3_1 p377 q377; obtain rfl : ad375 = ad377 := (by injection e377); have hn377_0 : ad375.block ≠ gb376 := Nat.ne_of_lt (Nat.lt_of_lt_of_le u20_11 GW376.out); have hn377_1 : ad375.block ≠ gb376 := Nat.ne_of_lt (Nat.lt_of_lt_of_le u20_11 GW376.out); have hn377_2 : ad375.block ≠ gb376 := Nat.ne_of_lt (Nat.lt_of_lt_of_le u20_11 GW376.out); have hn377_3 : ad375.block ≠ gb376 := Nat.ne_of_lt (Nat.lt_of_lt_of_le u20_11 GW376.out); have hn377_4 : ad375.block ≠ gb376 := Nat.ne_of_lt (Nat.lt_of_lt_of_le u20_11 GW376.out); have hn377_5 : ad375.block ≠ gb376 := Nat.ne_of_lt (Nat.lt_of_lt_of_le u20_11 GW376.out); have hn377_6 : ad375.block ≠ gb376 := Nat.ne_of_lt (Nat.lt_of_lt_of_le u20_11 GW376.out); have hn377_7 : ad375.block ≠ gb376 := Nat.ne_of_lt (Nat.lt_of_lt_of_le u20_11 GW376.out); have hn377_8 : ad375.block ≠ gb376 := Nat.ne_of_lt (Nat.lt_of_lt_of_le u20_11 GW376.out); have hn377_9 : ad375.block ≠ gb376 := Nat.ne_of_lt (Nat.lt_of_lt_of_le u20_11 GW376.out); replace hx377_0 := cm HB.out hx377_0; replace hx377_1 := cm HB.out hx377_1; replace hx377_2 := cm HB.out hx377_2; replace hx377_3 := cm HB.out hx377_3; replace hx377_4 := cm HB.out hx377_4; replace hx377_5 := cm HB.out hx377_5; replace hx377_6 := cm HB.out hx377_6; replace hx377_7 := cm HB.out hx377_7; replace hx377_8 := cm HB.out hx377_8; replace hx377_9 := cm HB.out hx377_9; have HR377_7 := am hi377_7; have HC377_7 := am hl377_7; clear hi377_7 hl377_7; have HR377_8 := am hi377_8; have HC377_8 := am hl377_8; clear hi377_8 hl377_8; have HR377_9 := am hi377_9; have HC377_9 := am hl377_9; clear hi377_9 hl377_9; replace hx377_0 := (cell_far (p := ⟨gb376, 0, none⟩) u20_1 (.int .i64 ((rd_T37 l0_1 x10_1).f0))).trans hx377_0; replace hx377_1 := (cell_far (p := ⟨gb376, 0, none⟩) u20_1 (.int .i64 ((rd_T37 l0_1 x10_1).f0))).trans hx377_1; replace hx377_2 := (cell_far (p := ⟨gb376, 0, none⟩) u20_1 (.int .i64 ((rd_T37 l0_1 x10_1).f0))).trans hx377_2; replace hx377_3 := (cell_far (p := ⟨gb376, 0, none⟩) u20_1 (.int .i64 ((rd_T37 l0_1 x10_1).f0))).trans hx377_3; replace hx377_4 := (cell_far (p := ⟨gb376, 0, none⟩) u20_1 (.int .i64 ((rd_T37 l0_1 x10_1).f0))).trans hx377_4; replace hx377_5 := (cell_far (p := ⟨gb376, 0, none⟩) u20_1 (.int .i64 ((rd_T37 l0_1 x10_1).f0))).trans hx377_5; replace hx377_6 := (cell_far (p := ⟨gb376, 0, none⟩) u20_1 (.int .i64 ((rd_T37 l0_1 x10_1).f0))).trans hx377_6; replace hx377_7 := (cell_far (p := ⟨gb376, 0, none⟩) u20_1 (.int .i64 ((rd_T37 l0_1 x10_1).f0))).trans hx377_7; replace hx377_8 := (cell_far (p := ⟨gb376, 0, none⟩) u20_1 (.int .i64 ((rd_T37 l0_1 x10_1).f0))).trans hx377_8; replace hx377_9 := (cell_far (p := ⟨gb376, 0, none⟩) u20_1 (.int .i64 ((rd_T37 l0_1 x10_1).f0))).trans hx377_9; replace hx377_0 := (cell_far (p := ⟨gb376, 1, none⟩) u20_2 (.int .i64 ((rd_T37 l0_1 x10_1).f1))).trans hx377_0; replace hx377_1 := (cell_far (p := ⟨gb376, 1, none⟩) u20_2 (.int .i64 ((rd_T37 l0_1 x10_1).f1))).trans hx377_1; replace hx377_2 := (cell_far (p := ⟨gb376, 1, none⟩) u20_2 (.int .i64 ((rd_T37 l0_1 x10_1).f1))).trans hx377_2; replace hx377_3 := (cell_far (p := ⟨gb376, 1, none⟩) u20_2 (.int .i64 ((rd_T37 l0_1 x10_1).f1))).trans hx377_3; replace hx377_4 := (cell_far (p := ⟨gb376, 1, none⟩) u20_2 (.int .i64 ((rd_T37 l0_1 x10_1).f1))).trans hx377_4; replace hx377_5 := (cell_far (p := ⟨gb376, 1, none⟩) u20_2 (.int .i64 ((rd_T37 l0_1 x10_1).f1))).trans hx377_5; replace hx377_6 := (cell_far (p := ⟨gb376, 1, none⟩) u20_2 (.int .i64 ((rd_T37 l0_1 x10_1).f1))).trans hx377_6; replace hx377_7 := (cell_far (p := ⟨gb376, 1, none⟩) u20_2 (.int .i64 ((rd_T37 l0_1 x10_1).f1))).trans hx377_7; replace hx377_8 := (cell_far (p := ⟨gb376, 1, none⟩) u20_2 (.int .i64 ((rd_T37 l0_1 x10_1).f1))).trans hx377_8; replace hx377_9 := (cell_far (p := ⟨gb376, 1, none⟩) u20_2 (.int .i64 ((rd_T37 l0_1 x10_1).f1))).trans hx377_9; replace hx377_0 := (cell_far (p := ⟨gb376, 2, none⟩) u20_3 (.int .i64 ((rd_T37 l0_1 x10_1).f2))).trans hx377_0; replace hx377_1 := (cell_far (p := ⟨gb376, 2, none⟩) u20_3 (.int .i64 ((rd_T37 l0_1 x10_1).f2))).trans hx377_1; replace hx377_2 := (cell_far (p := ⟨gb376, 2, none⟩) u20_3 (.int .i64 ((rd_T37 l0_1 x10_1).f2))).trans hx377_2; replace hx377_3 := (cell_far (p := ⟨gb376, 2, none⟩) u20_3 (.int .i64 ((rd_T37 l0_1 x10_1).f2))).trans hx377_3; replace hx377_4 := (cell_far (p := ⟨gb376, 2, none⟩) u20_3 (.int .i64 ((rd_T37 l0_1 x10_1).f2))).trans hx377_4; replace hx377_5 := (cell_far (p := ⟨gb376, 2, none⟩) u20_3 (.int .i64 ((rd_T37 l0_1 x10_1).f2))).trans hx377_5; replace hx377_6 := (cell_far (p := ⟨gb376, 2, none⟩) u20_3 (.int .i64 ((rd_T37 l0_1 x10_1).f2))).trans hx377_6; replace hx377_7 := (cell_far (p := ⟨gb376, 2, none⟩) u20_3 (.int .i64 ((rd_T37 l0_1 x10_1).f2))).trans hx377_7; replace hx377_8 := (cell_far (p := ⟨gb376, 2, none⟩) u20_3 (.int .i64 ((rd_T37 l0_1 x10_1).f2))).trans hx377_8; replace hx377_9 := (cell_far (p := ⟨gb376, 2, none⟩) u20_3 (.int .i64 ((rd_T37 l0_1 x10_1).f2))).trans hx377_9; replace hx377_0 := (cell_far (p := ⟨gb376, 3, none⟩) u20_4 (.int .i64 ((rd_T37 l0_1 x10_1).f3))).trans hx377_0; replace hx377_1 := (cell_far (p := ⟨gb376, 3, none⟩) u20_4 (.int .i64 ((rd_T37 l0_1 x10_1).f3))).trans hx377_1; replace hx377_2 := (cell_far (p := ⟨gb376, 3, none⟩) u20_4 (.int .i64 ((rd_T37 l0_1 x10_1).f3))).trans hx377_2; replace hx377_3 := (cell_far (p := ⟨gb376, 3, none⟩) u20_4 (.int .i64 ((rd_T37 l0_1 x10_1).f3))).trans hx377_3; replace hx377_4 := (cell_far (p := ⟨gb376, 3, none⟩) u20_4 (.int .i64 ((rd_T37 l0_1 x10_1).f3))).trans hx377_4; replace hx377_5 := (cell_far (p := ⟨gb376, 3, none⟩) u20_4 (.int .i64 ((rd_T37 l0_1 x10_1).f3))).trans hx377_5; replace hx377_6 := (cell_far (p := ⟨gb376, 3, none⟩) u20_4 (.int .i64 ((rd_T37 l0_1 x10_1).f3))).trans hx377_6; replace hx377_7 := (cell_far (p := ⟨gb376, 3, none⟩) u20_4 (.int .i64 ((rd_T37 l0_1 x10_1).f3))).trans hx377_7; replace hx377_8 := (cell_far (p := ⟨gb376, 3, none⟩) u20_4 (.int .i64 ((rd_T37 l0_1 x10_1).f3))).trans hx377_8; replace hx377_9 := (cell_far (p := ⟨gb376, 3, none⟩) u20_4 (.int .i64 ((rd_T37 l0_1 x10_1).f3))).trans hx377_9; replace hx377_0 := (cell_far (p := ⟨gb376, 4, none⟩) u20_5 (.int .i64 ((rd_T37 l0_1 x10_1).f4))).trans hx377_0; replace hx377_1 := (cell_far (p := ⟨gb376, 4, none⟩) u20_5 (.int .i64 ((rd_T37 l0_1 x10_1).f4))).trans hx377_1; replace hx377_2 := (cell_far (p := ⟨gb376, 4, none⟩) u20_5 (.int .i64 ((rd_T37 l0_1 x10_1).f4))).trans hx377_2; replace hx377_3 := (cell_far (p := ⟨gb376, 4, none⟩) u20_5 (.int .i64 ((rd_T37 l0_1 x10_1).f4))).trans hx377_3; replace hx377_4 := (cell_far (p := ⟨gb376, 4, none⟩) u20_5 (.int .i64 ((rd_T37 l0_1 x10_1).f4))).trans hx377_4; replace hx377_5 := (cell_far (p := ⟨gb376, 4, none⟩) u20_5 (.int .i64 ((rd_T37 l0_1 x10_1).f4))).trans hx377_5; replace hx377_6 := (cell_far (p := ⟨gb376, 4, none⟩) u20_5 (.int .i64 ((rd_T37 l0_1 x10_1).f4))).trans hx377_6; replace hx377_7 := (cell_far (p := ⟨gb376, 4, none⟩) u20_5 (.int .i64 ((rd_T37 l0_1 x10_1).f4))).trans hx377_7; replace hx377_8 := (cell_far (p := ⟨gb376, 4, none⟩) u20_5 (.int .i64 ((rd_T37 l0_1 x10_1).f4))).trans hx377_8; replace hx377_9 := (cell_far (p := ⟨gb376, 4, none⟩) u20_5 (.int .i64 ((rd_T37 l0_1 x10_1).f4))).trans hx377_9; replace hx377_0 := (cell_far (p := ⟨gb376, 5, none⟩) u20_6 (.int .i64 ((rd_T37 l0_1 x10_1).f5.f0))).trans hx377_0; replace hx377_1 := (cell_far (p := ⟨gb376, 5, none⟩) u20_6 (.int .i64 ((rd_T37 l0_1 x10_1).f5.f0))).trans hx377_1; replace hx377_2 := (cell_far (p := ⟨gb376, 5, none⟩) u20_6 (.int .i64 ((rd_T37 l0_1 x10_1).f5.f0))).trans hx377_2; replace hx377_3 := (cell_far (p := ⟨gb376, 5, none⟩) u20_6 (.int .i64 ((rd_T37 l0_1 x10_1).f5.f0))).trans hx377_3; replace hx377_4 := (cell_far (p := ⟨gb376, 5, none⟩) u20_6 (.int .i64 ((rd_T37 l0_1 x10_1).f5.f0))).trans hx377_4; replace hx377_5 := (cell_far (p := ⟨gb376, 5, none⟩) u20_6 (.int .i64 ((rd_T37 l0_1 x10_1).f5.f0))).trans hx377_5; replace hx377_6 := (cell_far (p := ⟨gb376, 5, none⟩) u20_6 (.int .i64 ((rd_T37 l0_1 x10_1).f5.f0))).trans hx377_6; replace hx377_7 := (cell_far (p := ⟨gb376, 5, none⟩) u20_6 (.int .i64 ((rd_T37 l0_1 x10_1).f5.f0))).trans hx377_7; replace hx377_8 := (cell_far (p := ⟨gb376, 5, none⟩) u20_6 (.int .i64 ((rd_T37 l0_1 x10_1).f5.f0))).trans hx377_8; replace hx377_9 := (cell_far (p := ⟨gb376, 5, none⟩) u20_6 (.int .i64 ((rd_T37 l0_1 x10_1).f5.f0))).trans hx377_9; replace hx377_0 := (cell_far (p := ⟨gb376, 6, none⟩) u20_7 (.int .i64 ((rd_T37 l0_1 x10_1).f5.f1))).trans hx377_0; replace hx377_1 := (cell_far (p := ⟨gb376, 6, none⟩) u20_7 (.int .i64 ((rd_T37 l0_1 x10_1).f5.f1))).trans hx377_1; replace hx377_2 := (cell_far (p := ⟨gb376, 6, none⟩) u20_7 (.int .i64 ((rd_T37 l0_1 x10_1).f5.f1))).trans hx377_2; replace hx377_3 := (cell_far (p := ⟨gb376, 6, none⟩) u20_7 (.int .i64 ((rd_T37 l0_1 x10_1).f5.f1))).trans hx377_3; replace hx377_4 := (cell_far (p := ⟨gb376, 6, none⟩) u20_7 (.int .i64 ((rd_T37 l0_1 x10_1).f5.f1))).trans hx377_4; replace hx377_5 := (cell_far (p := ⟨gb376, 6, none⟩) u20_7 (.int .i64 ((rd_T37 l0_1 x10_1).f5.f1))).trans hx377_5; replace hx377_6 := (cell_far (p := ⟨gb376, 6, none⟩) u20_7 (.int .i64 ((rd_T37 l0_1 x10_1).f5.f1))).trans hx377_6; replace hx377_7 := (cell_far (p := ⟨gb376, 6, none⟩) u20_7 (.int .i64 ((rd_T37 l0_1 x10_1).f5.f1))).trans hx377_7; replace hx377_8 := (cell_far (p := ⟨gb376, 6, none⟩) u20_7 (.int .i64 ((rd_T37 l0_1 x10_1).f5.f1))).trans hx377_8; replace hx377_9 := (cell_far (p := ⟨gb376, 6, none⟩) u20_7 (.int .i64 ((rd_T37 l0_1 x10_1).f5.f1))).trans hx377_9; replace hx377_0 := (cell_far (p := ⟨gb376, 7, none⟩) u20_8 (.slice A375_7 ((rd_T37 l0_1 x10_1).f5.f2).length c375_7)).trans hx377_0; replace hx377_1 := (cell_far (p := ⟨gb376, 7, none⟩) u20_8 (.slice A375_7 ((rd_T37 l0_1 x10_1).f5.f2).length c375_7)).trans hx377_1; replace hx377_2 := (cell_far (p := ⟨gb376, 7, none⟩) u20_8 (.slice A375_7 ((rd_T37 l0_1 x10_1).f5.f2).length c375_7)).trans hx377_2; replace hx377_3 := (cell_far (p := ⟨gb376, 7, none⟩) u20_8 (.slice A375_7 ((rd_T37 l0_1 x10_1).f5.f2).length c375_7)).trans hx377_3; replace hx377_4 := (cell_far (p := ⟨gb376, 7, none⟩) u20_8 (.slice A375_7 ((rd_T37 l0_1 x10_1).f5.f2).length c375_7)).trans hx377_4; replace hx377_5 := (cell_far (p := ⟨gb376, 7, none⟩) u20_8 (.slice A375_7 ((rd_T37 l0_1 x10_1).f5.f2).length c375_7)).trans hx377_5; replace hx377_6 := (cell_far (p := ⟨gb376, 7, none⟩) u20_8 (.slice A375_7 ((rd_T37 l0_1 x10_1).f5.f2).length c375_7)).trans hx377_6; replace hx377_7 := (cell_far (p := ⟨gb376, 7, none⟩) u20_8 (.slice A375_7 ((rd_T37 l0_1 x10_1).f5.f2).length c375_7)).trans hx377_7; replace hx377_8 := (cell_far (p := ⟨gb376, 7, none⟩) u20_8 (.slice A375_7 ((rd_T37 l0_1 x10_1).f5.f2).length c375_7)).trans hx377_8; replace hx377_9 := (cell_far (p := ⟨gb376, 7, none⟩) u20_8 (.slice A375_7 ((rd_T37 l0_1 x10_1).f5.f2).length c375_7)).trans hx377_9; replace hx377_0 := (cell_far (p := ⟨gb376, 8, none⟩) u20_9 (.slice A375_8 ((rd_T37 l0_1 x10_1).f6).length c375_8)).trans hx377_0; replace hx377_1 := (cell_far (p := ⟨gb376, 8, none⟩) u20_9 (.slice A375_8 ((rd_T37 l0_1 x10_1).f6).length c375_8)).trans hx377_1; replace hx377_2 := (cell_far (p := ⟨gb376, 8, none⟩) u20_9 (.slice A375_8 ((rd_T37 l0_1 x10_1).f6).length c375_8)).trans hx377_2; replace hx377_3 := (cell_far (p := ⟨gb376, 8, none⟩) u20_9 (.slice A375_8 ((rd_T37 l0_1 x10_1).f6).length c375_8)).trans hx377_3; replace hx377_4 := (cell_far (p := ⟨gb376, 8, none⟩) u20_9 (.slice A375_8 ((rd_T37 l0_1 x10_1).f6).length c375_8)).trans hx377_4; replace hx377_5 := (cell_far (p := ⟨gb376, 8, none⟩) u20_9 (.slice A375_8 ((rd_T37 l0_1 x10_1).f6).length c375_8)).trans hx377_5; replace hx377_6 := (cell_far (p := ⟨gb376, 8, none⟩) u20_9 (.slice A375_8 ((rd_T37 l0_1 x10_1).f6).length c375_8)).trans hx377_6; replace hx377_7 := (cell_far (p := ⟨gb376, 8, none⟩) u20_9 (.slice A375_8 ((rd_T37 l0_1 x10_1).f6).length c375_8)).trans hx377_7; replace hx377_8 := (cell_far (p := ⟨gb376, 8, none⟩) u20_9 (.slice A375_8 ((rd_T37 l0_1 x10_1).f6).length c375_8)).trans hx377_8; replace hx377_9 := (cell_far (p := ⟨gb376, 8, none⟩) u20_9 (.slice A375_8 ((rd_T37 l0_1 x10_1).f6).length c375_8)).trans hx377_9; replace hx377_0 := (cell_far (p := ⟨gb376, 9, none⟩) u20_10 (.slice A375_9 ((rd_T37 l0_1 x10_1).f7).length c375_9)).trans hx377_0; replace hx377_1 := (cell_far (p := ⟨gb376, 9, none⟩) u20_10 (.slice A375_9 ((rd_T37 l0_1 x10_1).f7).length c375_9)).trans hx377_1; replace hx377_2 := (cell_far (p := ⟨gb376, 9, none⟩) u20_10 (.slice A375_9 ((rd_T37 l0_1 x10_1).f7).length c375_9)).trans hx377_2; replace hx377_3 := (cell_far (p := ⟨gb376, 9, none⟩) u20_10 (.slice A375_9 ((rd_T37 l0_1 x10_1).f7).length c375_9)).trans hx377_3; replace hx377_4 := (cell_far (p := ⟨gb376, 9, none⟩) u20_10 (.slice A375_9 ((rd_T37 l0_1 x10_1).f7).length c375_9)).trans hx377_4; replace hx377_5 := (cell_far (p := ⟨gb376, 9, none⟩) u20_10 (.slice A375_9 ((rd_T37 l0_1 x10_1).f7).length c375_9)).trans hx377_5; replace hx377_6 := (cell_far (p := ⟨gb376, 9, none⟩) u20_10 (.slice A375_9 ((rd_T37 l0_1 x10_1).f7).length c375_9)).trans hx377_6; replace hx377_7 := (cell_far (p := ⟨gb376, 9, none⟩) u20_10 (.slice A375_9 ((rd_T37 l0_1 x10_1).f7).length c375_9)).trans hx377_7; replace hx377_8 := (cell_far (p := ⟨gb376, 9, none⟩) u20_10 (.slice A375_9 ((rd_T37 l0_1 x10_1).f7).length c375_9)).trans hx377_8; replace hx377_9 := (cell_far (p := ⟨gb376, 9, none⟩) u20_10 (.slice A375_9 ((rd_T37 l0_1 x10_1).f7).length c375_9)).trans hx377_9; (try have hch_ := fun (n_ : Nat) => (show ((((((((((((w9.drewN n_).setCell ⟨gb376, 0, none⟩ (.int .i64 ((rd_T37 l0_1 x10_1).f0))).setCell ⟨gb376, 1, none⟩ (.int .i64 ((rd_T37 l0_1 x10_1).f1))).setCell ⟨gb376, 2, none⟩ (.int .i64 ((rd_T37 l0_1 x10_1).f2))).setCell ⟨gb376, 3, none⟩ (.int .i64 ((rd_T37 l0_1 x10_1).f3))).setCell ⟨gb376, 4, none⟩ (.int .i64 ((rd_T37 l0_1 x10_1).f4))).setCell ⟨gb376, 5, none⟩ (.int .i64 ((rd_T37 l0_1 x10_1).f5.f0))).setCell ⟨gb376, 6, none⟩ (.int .i64 ((rd_T37 l0_1 x10_1).f5.f1))).setCell ⟨gb376, 7, none⟩ (.slice A375_7 ((rd_T37 l0_1 x10_1).f5.f2).length c375_7)).setCell ⟨gb376, 8, none⟩ (.slice A375_8 ((rd_T37 l0_1 x10_1).f6).length c375_8)).setCell ⟨gb376, 9, none⟩ (.slice A375_9 ((rd_T37 l0_1 x10_1).f7).length c375_9))) = World.drewN (((((((((((w9.setCell ⟨gb376, 0, none⟩ (.int .i64 ((rd_T37 l0_1 x10_1).f0))).setCell ⟨gb376, 1, none⟩ (.int .i64 ((rd_T37 l0_1 x10_1).f1))).setCell ⟨gb376, 2, none⟩ (.int .i64 ((rd_T37 l0_1 x10_1).f2))).setCell ⟨gb376, 3, none⟩ (.int .i64 ((rd_T37 l0_1 x10_1).f3))).setCell ⟨gb376, 4, none⟩ (.int .i64 ((rd_T37 l0_1 x10_1).f4))).setCell ⟨gb376, 5, none⟩ (.int .i64 ((rd_T37 l0_1 x10_1).f5.f0))).setCell ⟨gb376, 6, none⟩ (.int .i64 ((rd_T37 l0_1 x10_1).f5.f1))).setCell ⟨gb376, 7, none⟩ (.slice A375_7 ((rd_T37 l0_1 x10_1).f5.f2).length c375_7)).setCell ⟨gb376, 8, none⟩ (.slice A375_8 ((rd_T37 l0_1 x10_1).f6).length c375_8)).setCell ⟨gb376, 9, none⟩ (.slice A375_9 ((rd_T37 l0_1 x10_1).f7).length c375_9))) n_ from by simp only [Go.Proofs.Ytkcadcoohmofcaa.Slc.setCell_drewN])); (try have hy377_0 := fun (n_ : Nat) => Go.Proofs.Ytkcadcoohmofcaa.Slc.cell_of (hch_ n_) hx377_0); (try have hy377_1 := fun (n_ : Nat) => Go.Proofs.Ytkcadcoohmofcaa.Slc.cell_of (hch_ n_) hx377_1); (try have hy377_2 := fun (n_ : Nat) => Go.Proofs.Ytkcadcoohmofcaa.Slc.cell_of (hch_ n_) hx377_2); (try have hy377_3 := fun (n_ : Nat) => Go.Proofs.Ytkcadcoohmofcaa.Slc.cell_of (hch_ n_) hx377_3); (try have hy377_4 := fun (n_ : Nat) => Go.Proofs.Ytkcadcoohmofcaa.Slc.cell_of (hch_ n_) hx377_4); (try have hy377_5 := fun (n_ : Nat) => Go.Proofs.Ytkcadcoohmofcaa.Slc.cell_of (hch_ n_) hx377_5); (try have hy377_6 := fun (n_ : Nat) => Go.Proofs.Ytkcadcoohmofcaa.Slc.cell_of (hch_ n_) hx377_6); (try have hy377_7 := fun (n_ : Nat) => Go.Proofs.Ytkcadcoohmofcaa.Slc.cell_of (hch_ n_) hx377_7); (try have hy377_8 := fun (n_ : Nat) => Go.Proofs.Ytkcadcoohmofcaa.Slc.cell_of (hch_ n_) hx377_8); (try have hy377_9 := fun (n_ : Nat) => Go.Proofs.Ytkcadcoohmofcaa.Slc.cell_of (hch_ n_) hx377_9); clear hn377_0; clear hn377_1; clear hn377_2; clear hn377_3; clear hn377_4; clear hn377_5; clear hn377_6; clear hn377_7; clear hn377_8; clear hn377_9; replace p377 := eq_true p377; replace q377 := eq_true q377)); go_upto_if 23 with (first | ((with_reducible refine gate_dst (N := 5) rfl ?_); refine box_event ?hg (N := 5) ?hd (cs := #[.int .i64 0, .int .i64 0, .int .i64 0, .int .i64 0, .int .i64 0, .int .i64 0, .int .i64 0, .slice none 0 0, .slice none 0 0, .slice none 0 0]) (t := 37) ?hr ?_; (case hd => rfl); (case hg => rfl); (case hr => first | (go_simp; done) | (go_simp; rfl)); intro gb376 hg w9 hbox hb; have BK376 := am (hbox); have GW376 := am ((by rw [hg]; exact (below_size Q2) : w.heap.size ≤ gb376)); have GE376 := am ((by rw [hg]; exact (below_size Q2) : w.heap.size ≤ gb376)); replace HB := am (below_step Q2 hb); have NB374_376 := am ((by rw [hg]; exact Nat.ne_of_lt (blk_lt (g := gb374) (o := .cells #[.int .i64 a0_0, .slice (some ad375) l0_1.length c0_1, .slice A0_2 l0_2.length c0_2] 53 (0, 0)) u20_14) : gb374 ≠ gb376)); have NB376_374 := am ((by rw [hg]; exact Nat.ne_of_gt (blk_lt (g := gb374) (o := .cells #[.int .i64 a0_0, .slice (some ad375) l0_1.length c0_1, .slice A0_2 l0_2.length c0_2] 53 (0, 0)) u20_14) : gb376 ≠ gb374)); replace BK374 := am (bb_ BK374.out u20_14 hb); clear hb hbox hg; have hnb10 := NB376_374.out; have hnc10 := NB374_376.out; obtain ⟨hcz11_0, hcz11_1, hcz11_2, hcz11_3, hcz11_4, hcz11_5, hcz11_6, hcz11_7, hcz11_8, hcz11_9, hfz11_0, hfz11_1, hfz11_2, hfz11_3, hfz11_4, hfz11_5, hfz11_6, hfz11_7, hfz11_8, hfz11_9⟩ := bc10f w9 BK376.out; obtain ⟨hcz12_0, hcz12_1, hcz12_2, hfz12_0, hfz12_1, hfz12_2⟩ := bc3f w9 BK374.out; have p377 : 0 ≤ (x3_1 : Int) := of_decide_eq_true Q1; have q377 : x3_1 < (l0_1.length : Int) := of_decide_eq_true Q1; obtain ⟨ad377, A377_7, c377_7, A377_8, c377_8, A377_9, c377_9, e377, hx377_0, hx377_1, hx377_2, hx377_3, hx377_4, hx377_5, hx377_6, hx377_7, hx377_8, hx377_9, hl377_7, hi377_7, hl377_8, hi377_8, hl377_9, hi377_9⟩ := at_T37 HR0_1.out x3_1 p377 q377; obtain rfl : ad375 = ad377 := (by injection e377); have hn377_0 : ad375.block ≠ gb376 := Nat.ne_of_lt (Nat.lt_of_lt_of_le u20_11 GW376.out); have hn377_1 : ad375.block ≠ gb376 := Nat.ne_of_lt (Nat.lt_of_lt_of_le u20_11 GW376.out); have hn377_2 : ad375.block ≠ gb376 := Nat.ne_of_lt (Nat.lt_of_lt_of_le u20_11 GW376.out); have hn377_3 : ad375.block ≠ gb376 := Nat.ne_of_lt (Nat.lt_of_lt_of_le u20_11 GW376.out); have hn377_4 : ad375.block ≠ gb376 := Nat.ne_of_lt (Nat.lt_of_lt_of_le u20_11 GW376.out); have hn377_5 : ad375.block ≠ gb376 := Nat.ne_of_lt (Nat.lt_of_lt_of_le u20_11 GW376.out); have hn377_6 : ad375.block ≠ gb376 := Nat.ne_of_lt (Nat.lt_of_lt_of_le u20_11 GW376.out); have hn377_7 : ad375.block ≠ gb376 := Nat.ne_of_lt (Nat.lt_of_lt_of_le u20_11 GW376.out); have hn377_8 : ad375.block ≠ gb376 := Nat.ne_of_lt (Nat.lt_of_lt_of_le u20_11 GW376.out); have hn377_9 : ad375.block ≠ gb376 := Nat.ne_of_lt (Nat.lt_of_lt_of_le u20_11 GW376.out); replace hx377_0 := cm HB.out hx377_0; replace hx377_1 := cm HB.out hx377_1; replace hx377_2 := cm HB.out hx377_2; replace hx377_3 := cm HB.out hx377_3; replace hx377_4 := cm HB.out hx377_4; replace hx377_5 := cm HB.out hx377_5; replace hx377_6 := cm HB.out hx377_6; replace hx377_7 := cm HB.out hx377_7; replace hx377_8 := cm HB.out hx377_8; replace hx377_9 := cm HB.out hx377_9; have HR377_7 := am hi377_7; have HC377_7 := am hl377_7; clear hi377_7 hl377_7; have HR377_8 := am hi377_8; have HC377_8 := am hl377_8; clear hi377_8 hl377_8; have HR377_9 := am hi377_9; have HC377_9 := am hl377_9; clear hi377_9 hl377_9; replace hx377_0 := (cell_far (p := ⟨gb376, 0, none⟩) u20_1 (.int .i64 ((rd_T37 l0_1 x10_1).f0))).trans hx377_0; replace hx377_1 := (cell_far (p := ⟨gb376, 0, none⟩) u20_1 (.int .i64 ((rd_T37 l0_1 x10_1).f0))).trans hx377_1; replace hx377_2 := (cell_far (p := ⟨gb376, 0, none⟩) u20_1 (.int .i64 ((rd_T37 l0_1 x10_1).f0))).trans hx377_2; replace hx377_3 := (cell_far (p := ⟨gb376, 0, none⟩) u20_1 (.int .i64 ((rd_T37 l0_1 x10_1).f0))).trans hx377_3; replace hx377_4 := (cell_far (p := ⟨gb376, 0, none⟩) u20_1 (.int .i64 ((rd_T37 l0_1 x10_1).f0))).trans hx377_4; replace hx377_5 := (cell_far (p := ⟨gb376, 0, none⟩) u20_1 (.int .i64 ((rd_T37 l0_1 x10_1).f0))).trans hx377_5; replace hx377_6 := (cell_far (p := ⟨gb376, 0, none⟩) u20_1 (.int .i64 ((rd_T37 l0_1 x10_1).f0))).trans hx377_6; replace hx377_7 := (cell_far (p := ⟨gb376, 0, none⟩) u20_1 (.int .i64 ((rd_T37 l0_1 x10_1).f0))).trans hx377_7; replace hx377_8 := (cell_far (p := ⟨gb376, 0, none⟩) u20_1 (.int .i64 ((rd_T37 l0_1 x10_1).f0))).trans hx377_8; replace hx377_9 := (cell_far (p := ⟨gb376, 0, none⟩) u20_1 (.int .i64 ((rd_T37 l0_1 x10_1).f0))).trans hx377_9; replace hx377_0 := (cell_far (p := ⟨gb376, 1, none⟩) u20_2 (.int .i64 ((rd_T37 l0_1 x10_1).f1))).trans hx377_0; replace hx377_1 := (cell_far (p := ⟨gb376, 1, none⟩) u20_2 (.int .i64 ((rd_T37 l0_1 x10_1).f1))).trans hx377_1; replace hx377_2 := (cell_far (p := ⟨gb376, 1, none⟩) u20_2 (.int .i64 ((rd_T37 l0_1 x10_1).f1))).trans hx377_2; replace hx377_3 := (cell_far (p := ⟨gb376, 1, none⟩) u20_2 (.int .i64 ((rd_T37 l0_1 x10_1).f1))).trans hx377_3; replace hx377_4 := (cell_far (p := ⟨gb376, 1, none⟩) u20_2 (.int .i64 ((rd_T37 l0_1 x10_1).f1))).trans hx377_4; replace hx377_5 := (cell_far (p := ⟨gb376, 1, none⟩) u20_2 (.int .i64 ((rd_T37 l0_1 x10_1).f1))).trans hx377_5; replace hx377_6 := (cell_far (p := ⟨gb376, 1, none⟩) u20_2 (.int .i64 ((rd_T37 l0_1 x10_1).f1))).trans hx377_6; replace hx377_7 := (cell_far (p := ⟨gb376, 1, none⟩) u20_2 (.int .i64 ((rd_T37 l0_1 x10_1).f1))).trans hx377_7; replace hx377_8 := (cell_far (p := ⟨gb376, 1, none⟩) u20_2 (.int .i64 ((rd_T37 l0_1 x10_1).f1))).trans hx377_8; replace hx377_9 := (cell_far (p := ⟨gb376, 1, none⟩) u20_2 (.int .i64 ((rd_T37 l0_1 x10_1).f1))).trans hx377_9; replace hx377_0 := (cell_far (p := ⟨gb376, 2, none⟩) u20_3 (.int .i64 ((rd_T37 l0_1 x10_1).f2))).trans hx377_0; replace hx377_1 := (cell_far (p := ⟨gb376, 2, none⟩) u20_3 (.int .i64 ((rd_T37 l0_1 x10_1).f2))).trans hx377_1; replace hx377_2 := (cell_far (p := ⟨gb376, 2, none⟩) u20_3 (.int .i64 ((rd_T37 l0_1 x10_1).f2))).trans hx377_2; replace hx377_3 := (cell_far (p := ⟨gb376, 2, none⟩) u20_3 (.int .i64 ((rd_T37 l0_1 x10_1).f2))).trans hx377_3; replace hx377_4 := (cell_far (p := ⟨gb376, 2, none⟩) u20_3 (.int .i64 ((rd_T37 l0_1 x10_1).f2))).trans hx377_4; replace hx377_5 := (cell_far (p := ⟨gb376, 2, none⟩) u20_3 (.int .i64 ((rd_T37 l0_1 x10_1).f2))).trans hx377_5; replace hx377_6 := (cell_far (p := ⟨gb376, 2, none⟩) u20_3 (.int .i64 ((rd_T37 l0_1 x10_1).f2))).trans hx377_6; replace hx377_7 := (cell_far (p := ⟨gb376, 2, none⟩) u20_3 (.int .i64 ((rd_T37 l0_1 x10_1).f2))).trans hx377_7; replace hx377_8 := (cell_far (p := ⟨gb376, 2, none⟩) u20_3 (.int .i64 ((rd_T37 l0_1 x10_1).f2))).trans hx377_8; replace hx377_9 := (cell_far (p := ⟨gb376, 2, none⟩) u20_3 (.int .i64 ((rd_T37 l0_1 x10_1).f2))).trans hx377_9; replace hx377_0 := (cell_far (p := ⟨gb376, 3, none⟩) u20_4 (.int .i64 ((rd_T37 l0_1 x10_1).f3))).trans hx377_0; replace hx377_1 := (cell_far (p := ⟨gb376, 3, none⟩) u20_4 (.int .i64 ((rd_T37 l0_1 x10_1).f3))).trans hx377_1; replace hx377_2 := (cell_far (p := ⟨gb376, 3, none⟩) u20_4 (.int .i64 ((rd_T37 l0_1 x10_1).f3))).trans hx377_2; replace hx377_3 := (cell_far (p := ⟨gb376, 3, none⟩) u20_4 (.int .i64 ((rd_T37 l0_1 x10_1).f3))).trans hx377_3; replace hx377_4 := (cell_far (p := ⟨gb376, 3, none⟩) u20_4 (.int .i64 ((rd_T37 l0_1 x10_1).f3))).trans hx377_4; replace hx377_5 := (cell_far (p := ⟨gb376, 3, none⟩) u20_4 (.int .i64 ((rd_T37 l0_1 x10_1).f3))).trans hx377_5; replace hx377_6 := (cell_far (p := ⟨gb376, 3, none⟩) u20_4 (.int .i64 ((rd_T37 l0_1 x10_1).f3))).trans hx377_6; replace hx377_7 := (cell_far (p := ⟨gb376, 3, none⟩) u20_4 (.int .i64 ((rd_T37 l0_1 x10_1).f3))).trans hx377_7; replace hx377_8 := (cell_far (p := ⟨gb376, 3, none⟩) u20_4 (.int .i64 ((rd_T37 l0_1 x10_1).f3))).trans hx377_8; replace hx377_9 := (cell_far (p := ⟨gb376, 3, none⟩) u20_4 (.int .i64 ((rd_T37 l0_1 x10_1).f3))).trans hx377_9; replace hx377_0 := (cell_far (p := ⟨gb376, 4, none⟩) u20_5 (.int .i64 ((rd_T37 l0_1 x10_1).f4))).trans hx377_0; replace hx377_1 := (cell_far (p := ⟨gb376, 4, none⟩) u20_5 (.int .i64 ((rd_T37 l0_1 x10_1).f4))).trans hx377_1; replace hx377_2 := (cell_far (p := ⟨gb376, 4, none⟩) u20_5 (.int .i64 ((rd_T37 l0_1 x10_1).f4))).trans hx377_2; replace hx377_3 := (cell_far (p := ⟨gb376, 4, none⟩) u20_5 (.int .i64 ((rd_T37 l0_1 x10_1).f4))).trans hx377_3; replace hx377_4 := (cell_far (p := ⟨gb376, 4, none⟩) u20_5 (.int .i64 ((rd_T37 l0_1 x10_1).f4))).trans hx377_4; replace hx377_5 := (cell_far (p := ⟨gb376, 4, none⟩) u20_5 (.int .i64 ((rd_T37 l0_1 x10_1).f4))).trans hx377_5; replace hx377_6 := (cell_far (p := ⟨gb376, 4, none⟩) u20_5 (.int .i64 ((rd_T37 l0_1 x10_1).f4))).trans hx377_6; replace hx377_7 := (cell_far (p := ⟨gb376, 4, none⟩) u20_5 (.int .i64 ((rd_T37 l0_1 x10_1).f4))).trans hx377_7; replace hx377_8 := (cell_far (p := ⟨gb376, 4, none⟩) u20_5 (.int .i64 ((rd_T37 l0_1 x10_1).f4))).trans hx377_8; replace hx377_9 := (cell_far (p := ⟨gb376, 4, none⟩) u20_5 (.int .i64 ((rd_T37 l0_1 x10_1).f4))).trans hx377_9; replace hx377_0 := (cell_far (p := ⟨gb376, 5, none⟩) u20_6 (.int .i64 ((rd_T37 l0_1 x10_1).f5.f0))).trans hx377_0; replace hx377_1 := (cell_far (p := ⟨gb376, 5, none⟩) u20_6 (.int .i64 ((rd_T37 l0_1 x10_1).f5.f0))).trans hx377_1; replace hx377_2 := (cell_far (p := ⟨gb376, 5, none⟩) u20_6 (.int .i64 ((rd_T37 l0_1 x10_1).f5.f0))).trans hx377_2; replace hx377_3 := (cell_far (p := ⟨gb376, 5, none⟩) u20_6 (.int .i64 ((rd_T37 l0_1 x10_1).f5.f0))).trans hx377_3; replace hx377_4 := (cell_far (p := ⟨gb376, 5, none⟩) u20_6 (.int .i64 ((rd_T37 l0_1 x10_1).f5.f0))).trans hx377_4; replace hx377_5 := (cell_far (p := ⟨gb376, 5, none⟩) u20_6 (.int .i64 ((rd_T37 l0_1 x10_1).f5.f0))).trans hx377_5; replace hx377_6 := (cell_far (p := ⟨gb376, 5, none⟩) u20_6 (.int .i64 ((rd_T37 l0_1 x10_1).f5.f0))).trans hx377_6; replace hx377_7 := (cell_far (p := ⟨gb376, 5, none⟩) u20_6 (.int .i64 ((rd_T37 l0_1 x10_1).f5.f0))).trans hx377_7; replace hx377_8 := (cell_far (p := ⟨gb376, 5, none⟩) u20_6 (.int .i64 ((rd_T37 l0_1 x10_1).f5.f0))).trans hx377_8; replace hx377_9 := (cell_far (p := ⟨gb376, 5, none⟩) u20_6 (.int .i64 ((rd_T37 l0_1 x10_1).f5.f0))).trans hx377_9; replace hx377_0 := (cell_far (p := ⟨gb376, 6, none⟩) u20_7 (.int .i64 ((rd_T37 l0_1 x10_1).f5.f1))).trans hx377_0; replace hx377_1 := (cell_far (p := ⟨gb376, 6, none⟩) u20_7 (.int .i64 ((rd_T37 l0_1 x10_1).f5.f1))).trans hx377_1; replace hx377_2 := (cell_far (p := ⟨gb376, 6, none⟩) u20_7 (.int .i64 ((rd_T37 l0_1 x10_1).f5.f1))).trans hx377_2; replace hx377_3 := (cell_far (p := ⟨gb376, 6, none⟩) u20_7 (.int .i64 ((rd_T37 l0_1 x10_1).f5.f1))).trans hx377_3; replace hx377_4 := (cell_far (p := ⟨gb376, 6, none⟩) u20_7 (.int .i64 ((rd_T37 l0_1 x10_1).f5.f1))).trans hx377_4; replace hx377_5 := (cell_far (p := ⟨gb376, 6, none⟩) u20_7 (.int .i64 ((rd_T37 l0_1 x10_1).f5.f1))).trans hx377_5; replace hx377_6 := (cell_far (p := ⟨gb376, 6, none⟩) u20_7 (.int .i64 ((rd_T37 l0_1 x10_1).f5.f1))).trans hx377_6; replace hx377_7 := (cell_far (p := ⟨gb376, 6, none⟩) u20_7 (.int .i64 ((rd_T37 l0_1 x10_1).f5.f1))).trans hx377_7; replace hx377_8 := (cell_far (p := ⟨gb376, 6, none⟩) u20_7 (.int .i64 ((rd_T37 l0_1 x10_1).f5.f1))).trans hx377_8; replace hx377_9 := (cell_far (p := ⟨gb376, 6, none⟩) u20_7 (.int .i64 ((rd_T37 l0_1 x10_1).f5.f1))).trans hx377_9; replace hx377_0 := (cell_far (p := ⟨gb376, 7, none⟩) u20_8 (.slice A375_7 ((rd_T37 l0_1 x10_1).f5.f2).length c375_7)).trans hx377_0; replace hx377_1 := (cell_far (p := ⟨gb376, 7, none⟩) u20_8 (.slice A375_7 ((rd_T37 l0_1 x10_1).f5.f2).length c375_7)).trans hx377_1; replace hx377_2 := (cell_far (p := ⟨gb376, 7, none⟩) u20_8 (.slice A375_7 ((rd_T37 l0_1 x10_1).f5.f2).length c375_7)).trans hx377_2; replace hx377_3 := (cell_far (p := ⟨gb376, 7, none⟩) u20_8 (.slice A375_7 ((rd_T37 l0_1 x10_1).f5.f2).length c375_7)).trans hx377_3; replace hx377_4 := (cell_far (p := ⟨gb376, 7, none⟩) u20_8 (.slice A375_7 ((rd_T37 l0_1 x10_1).f5.f2).length c375_7)).trans hx377_4; replace hx377_5 := (cell_far (p := ⟨gb376, 7, none⟩) u20_8 (.slice A375_7 ((rd_T37 l0_1 x10_1).f5.f2).length c375_7)).trans hx377_5; replace hx377_6 := (cell_far (p := ⟨gb376, 7, none⟩) u20_8 (.slice A375_7 ((rd_T37 l0_1 x10_1).f5.f2).length c375_7)).trans hx377_6; replace hx377_7 := (cell_far (p := ⟨gb376, 7, none⟩) u20_8 (.slice A375_7 ((rd_T37 l0_1 x10_1).f5.f2).length c375_7)).trans hx377_7; replace hx377_8 := (cell_far (p := ⟨gb376, 7, none⟩) u20_8 (.slice A375_7 ((rd_T37 l0_1 x10_1).f5.f2).length c375_7)).trans hx377_8; replace hx377_9 := (cell_far (p := ⟨gb376, 7, none⟩) u20_8 (.slice A375_7 ((rd_T37 l0_1 x10_1).f5.f2).length c375_7)).trans hx377_9; replace hx377_0 := (cell_far (p := ⟨gb376, 8, none⟩) u20_9 (.slice A375_8 ((rd_T37 l0_1 x10_1).f6).length c375_8)).trans hx377_0; replace hx377_1 := (cell_far (p := ⟨gb376, 8, none⟩) u20_9 (.slice A375_8 ((rd_T37 l0_1 x10_1).f6).length c375_8)).trans hx377_1; replace hx377_2 := (cell_far (p := ⟨gb376, 8, none⟩) u20_9 (.slice A375_8 ((rd_T37 l0_1 x10_1).f6).length c375_8)).trans hx377_2; replace hx377_3 := (cell_far (p := ⟨gb376, 8, none⟩) u20_9 (.slice A375_8 ((rd_T37 l0_1 x10_1).f6).length c375_8)).trans hx377_3; replace hx377_4 := (cell_far (p := ⟨gb376, 8, none⟩) u20_9 (.slice A375_8 ((rd_T37 l0_1 x10_1).f6).length c375_8)).trans hx377_4; replace hx377_5 := (cell_far (p := ⟨gb376, 8, none⟩) u20_9 (.slice A375_8 ((rd_T37 l0_1 x10_1).f6).length c375_8)).trans hx377_5; replace hx377_6 := (cell_far (p := ⟨gb376, 8, none⟩) u20_9 (.slice A375_8 ((rd_T37 l0_1 x10_1).f6).length c375_8)).trans hx377_6; replace hx377_7 := (cell_far (p := ⟨gb376, 8, none⟩) u20_9 (.slice A375_8 ((rd_T37 l0_1 x10_1).f6).length c375_8)).trans hx377_7; replace hx377_8 := (cell_far (p := ⟨gb376, 8, none⟩) u20_9 (.slice A375_8 ((rd_T37 l0_1 x10_1).f6).length c375_8)).trans hx377_8; replace hx377_9 := (cell_far (p := ⟨gb376, 8, none⟩) u20_9 (.slice A375_8 ((rd_T37 l0_1 x10_1).f6).length c375_8)).trans hx377_9; replace hx377_0 := (cell_far (p := ⟨gb376, 9, none⟩) u20_10 (.slice A375_9 ((rd_T37 l0_1 x10_1).f7).length c375_9)).trans hx377_0; replace hx377_1 := (cell_far (p := ⟨gb376, 9, none⟩) u20_10 (.slice A375_9 ((rd_T37 l0_1 x10_1).f7).length c375_9)).trans hx377_1; replace hx377_2 := (cell_far (p := ⟨gb376, 9, none⟩) u20_10 (.slice A375_9 ((rd_T37 l0_1 x10_1).f7).length c375_9)).trans hx377_2; replace hx377_3 := (cell_far (p := ⟨gb376, 9, none⟩) u20_10 (.slice A375_9 ((rd_T37 l0_1 x10_1).f7).length c375_9)).trans hx377_3; replace hx377_4 := (cell_far (p := ⟨gb376, 9, none⟩) u20_10 (.slice A375_9 ((rd_T37 l0_1 x10_1).f7).length c375_9)).trans hx377_4; replace hx377_5 := (cell_far (p := ⟨gb376, 9, none⟩) u20_10 (.slice A375_9 ((rd_T37 l0_1 x10_1).f7).length c375_9)).trans hx377_5; replace hx377_6 := (cell_far (p := ⟨gb376, 9, none⟩) u20_10 (.slice A375_9 ((rd_T37 l0_1 x10_1).f7).length c375_9)).trans hx377_6; replace hx377_7 := (cell_far (p := ⟨gb376, 9, none⟩) u20_10 (.slice A375_9 ((rd_T37 l0_1 x10_1).f7).length c375_9)).trans hx377_7; replace hx377_8 := (cell_far (p := ⟨gb376, 9, none⟩) u20_10 (.slice A375_9 ((rd_T37 l0_1 x10_1).f7).length c375_9)).trans hx377_8; replace hx377_9 := (cell_far (p := ⟨gb376, 9, none⟩) u20_10 (.slice A375_9 ((rd_T37 l0_1 x10_1).f7).length c375_9)).trans hx377_9; (try have hch_ := fun (n_ : Nat) => (show ((((((((((((w9.drewN n_).setCell ⟨gb376, 0, none⟩ (.int .i64 ((rd_T37 l0_1 x10_1).f0))).setCell ⟨gb376, 1, none⟩ (.int .i64 ((rd_T37 l0_1 x10_1).f1))).setCell ⟨gb376, 2, none⟩ (.int .i64 ((rd_T37 l0_1 x10_1).f2))).setCell ⟨gb376, 3, none⟩ (.int .i64 ((rd_T37 l0_1 x10_1).f3))).setCell ⟨gb376, 4, none⟩ (.int .i64 ((rd_T37 l0_1 x10_1).f4))).setCell ⟨gb376, 5, none⟩ (.int .i64 ((rd_T37 l0_1 x10_1).f5.f0))).setCell ⟨gb376, 6, none⟩ (.int .i64 ((rd_T37 l0_1 x10_1).f5.f1))).setCell ⟨gb376, 7, none⟩ (.slice A375_7 ((rd_T37 l0_1 x10_1).f5.f2).length c375_7)).setCell ⟨gb376, 8, none⟩ (.slice A375_8 ((rd_T37 l0_1 x10_1).f6).length c375_8)).setCell ⟨gb376, 9, none⟩ (.slice A375_9 ((rd_T37 l0_1 x10_1).f7).length c375_9))) = World.drewN (((((((((((w9.setCell ⟨gb376, 0, none⟩ (.int .i64 ((rd_T37 l0_1 x10_1).f0))).setCell ⟨gb376, 1, none⟩ (.int .i64 ((rd_T37 l0_1 x10_1).f1))).setCell ⟨gb376, 2, none⟩ (.int .i64 ((rd_T37 l0_1 x10_1).f2))).setCell ⟨gb376, 3, none⟩ (.int .i64 ((rd_T37 l0_1 x10_1).f3))).setCell ⟨gb376, 4, none⟩ (.int .i64 ((rd_T37 l0_1 x10_1).f4))).setCell ⟨gb376, 5, none⟩ (.int .i64 ((rd_T37 l0_1 x10_1).f5.f0))).setCell ⟨gb376, 6, none⟩ (.int .i64 ((rd_T37 l0_1 x10_1).f5.f1))).setCell ⟨gb376, 7, none⟩ (.slice A375_7 ((rd_T37 l0_1 x10_1).f5.f2).length c375_7)).setCell ⟨gb376, 8, none⟩ (.slice A375_8 ((rd_T37 l0_1 x10_1).f6).length c375_8)).setCell ⟨gb376, 9, none⟩ (.slice A375_9 ((rd_T37 l0_1 x10_1).f7).length c375_9))) n_ from by simp only [Go.Proofs.Ytkcadcoohmofcaa.Slc.setCell_drewN])); (try have hy377_0 := fun (n_ : Nat) => Go.Proofs.Ytkcadcoohmofcaa.Slc.cell_of (hch_ n_) hx377_0); (try have hy377_1 := fun (n_ : Nat) => Go.Proofs.Ytkcadcoohmofcaa.Slc.cell_of (hch_ n_) hx377_1); (try have hy377_2 := fun (n_ : Nat) => Go.Proofs.Ytkcadcoohmofcaa.Slc.cell_of (hch_ n_) hx377_2); (try have hy377_3 := fun (n_ : Nat) => Go.Proofs.Ytkcadcoohmofcaa.Slc.cell_of (hch_ n_) hx377_3); (try have hy377_4 := fun (n_ : Nat) => Go.Proofs.Ytkcadcoohmofcaa.Slc.cell_of (hch_ n_) hx377_4); (try have hy377_5 := fun (n_ : Nat) => Go.Proofs.Ytkcadcoohmofcaa.Slc.cell_of (hch_ n_) hx377_5); (try have hy377_6 := fun (n_ : Nat) => Go.Proofs.Ytkcadcoohmofcaa.Slc.cell_of (hch_ n_) hx377_6); (try have hy377_7 := fun (n_ : Nat) => Go.Proofs.Ytkcadcoohmofcaa.Slc.cell_of (hch_ n_) hx377_7); (try have hy377_8 := fun (n_ : Nat) => Go.Proofs.Ytkcadcoohmofcaa.Slc.cell_of (hch_ n_) hx377_8); (try have hy377_9 := fun (n_ : Nat) => Go.Proofs.Ytkcadcoohmofcaa.Slc.cell_of (hch_ n_) hx377_9); clear hn377_0; clear hn377_1; clear hn377_2; clear hn377_3; clear hn377_4; clear hn377_5; clear hn377_6; clear hn377_7; clear hn377_8; clear hn377_9; replace p377 := eq_true p377; replace q377 := eq_true q377)))
   have H := H9.out
   clear H9
   by_cases c13 : ((rd_T37 l0_1 x10_1).f4) > ((rd_T37 l0_1 x3_1).f4)
   · rw [if_pos c13] at H
     have c13b0 : decide (((rd_T37 l0_1 x3_1).f4) < ((rd_T37 l0_1 x10_1).f4)) = true := decide_eq_true c13
     clear c13
     (first | rw [c13b0] | (simp only [i64_w, i32_w]; rw [c13b0]) | skip)
     have H' := am H
     clear H
     go_wp2
     repeat (go_quiet (fail); try go_wp2)
     go_roundg k1
     case measure => have := HK1.out; omega
     case rel => exact ⟨(x10_1), (wrap64 (x10_1 + 1)), Q3, Q3, H', ⟨by have := HK1.out; omega⟩, ⟨u20_17⟩, ⟨Q2⟩⟩
   rw [if_neg c13] at H
   have c13b0 : decide (((rd_T37 l0_1 x3_1).f4) < ((rd_T37 l0_1 x10_1).f4)) = false := decide_eq_false c13
   clear c13
   (first | rw [c13b0] | (simp only [i64_w, i32_w]; rw [c13b0]) | skip)
   have H' := am H
   clear H
   go_wp2
   repeat (go_quiet (fail); try go_wp2)
   go_roundg k1
   case measure => have := HK1.out; omega
   case rel => exact ⟨(x3_1), (wrap64 (x10_1 + 1)), Q3, Q3, H', ⟨by have := HK1.out; omega⟩, ⟨u20_17⟩, ⟨Q2⟩⟩
def impl_Settled.f (k : Nat) (a0_0 : Int) (l0_1 : List (S37)) (l0_2 : List (S29)) : Option ((List (S85))) := (impl_isGroup.f k a0_0 l0_1 l0_2).bind fun t391 => (if t391 = true then ((impl_settled.f k a0_0 l0_1 l0_2).bind fun t392 => (some t392)) else (some ([] : List (S85))))
theorem impl_Settled.mono : ∀ a0 a1 a2 k, LeO (impl_Settled.f k a0 a1 a2) (impl_Settled.f (k + 1) a0 a1 a2) := by
 intro a0 a1 a2 k
 unfold impl_Settled.f
 repeat' first
     | (with_reducible exact impl_isGroup.mono _ _ _ _)
     | (with_reducible exact impl_settled.mono _ _ _ _)
     | (with_reducible exact LeO.refl _)
     | (with_reducible exact LeO.none _)
     | (with_reducible refine LeO.ite ?_ ?_)
     | (with_reducible refine LeO.bind ?_ (fun _ => ?_))
     | exact impl_isGroup.mono _ _ _ _
     | exact impl_settled.mono _ _ _ _
     | exact LeO.none _
     | refine LeO.ite ?_ ?_
     | refine LeO.bind ?_ (fun _ => ?_)
set_option maxHeartbeats 8000000 in
set_option maxRecDepth 100000 in
theorem impl_Settled.calls (k : Nat) (a0_0 : Int) (A0_1 : Option Addr) (c0_1 : Nat) (l0_1 : List (S37)) (A0_2 : Option Addr) (c0_2 : Nat) (l0_2 : List (S29)) (r : List (S85)) (w : World) (hr0_1 : Kd.C k37 w A0_1 l0_1.length l0_1) (hc0_1 : l0_1.length ≤ c0_1) (hr0_2 : Kd.C k29 w A0_2 l0_2.length l0_2) (hc0_2 : l0_2.length ≤ c0_2) (h : impl_Settled.f k a0_0 l0_1 l0_2 = some r) :
   Calls Try.prog 57 #[.agg #[.int .i64 a0_0, .slice A0_1 l0_1.length c0_1, .slice A0_2 l0_2.length c0_2]] w fun e w' => ∃ v0_ : Value, e = .returned (v0_) ∧ Kd.R k85 85 w' w.heap.size (fun _ => True) v0_ r ∧ Below w.heap.size w w' := by
 have hu53 := Try.underlying53
 have HR0_1 := am hr0_1
 have HC0_1 := am hc0_1
 clear hr0_1 hc0_1
 have HR0_2 := am hr0_2
 have HC0_2 := am hc0_2
 clear hr0_2 hc0_2
 have HB := am (Below.refl w.heap.size w)
 have H : ((impl_isGroup.f k a0_0 l0_1 l0_2).bind fun t391 => (if t391 = true then ((impl_settled.f k a0_0 l0_1 l0_2).bind fun t392 => (some t392)) else (some ([] : List (S85))))) = some r := h
 clear h
 replace H := Option.bind_eq_some_iff.mp H
 obtain ⟨t391, A20, H⟩ := H
 have A2 := am A20
 clear A20
 have H9 := am H
 clear H
 go_enter Try.func57, Try.ntmps57
 go_upto_if 5 with (first | ((with_reducible refine gate_dst (N := 1) rfl ?_); refine box_event ?hg (N := 1) ?hd (cs := #[.int .i64 a0_0, .slice A0_1 l0_1.length c0_1, .slice A0_2 l0_2.length c0_2]) (t := 53) ?hr ?_; (case hd => rfl); (case hg => rfl); (case hr => first | (go_simp; done) | (go_simp; rfl)); intro gb390 hg w3 hbox hb; have BK390 := am (hbox); have GW390 := am ((by rw [hg]; exact (below_size Q2) : w.heap.size ≤ gb390)); have GE390 := am ((by rw [hg]; exact (below_size Q2) : w.heap.size ≤ gb390)); replace HB := am (below_step Q2 hb); clear hb hbox hg; obtain ⟨hcz4_0, hcz4_1, hcz4_2⟩ := bc3 w3 BK390.out) | ((with_reducible refine gate_callee (f := 98) rfl ?_); refine goesL_ (some 4) rfl rfl Try.func98 kr rfl #[.agg #[.int .i64 a0_0, .slice A0_1 l0_1.length c0_1, .slice A0_2 l0_2.length c0_2]] rfl Q0 ?_; (with_reducible refine (impl_isGroup.calls k a0_0 _ _ l0_1 _ _ l0_2 t391 _ ?side1 ?side2 ?side3 ?side4 A2.out).mono ?_); (case side1 => exact Q13); (case side2 => exact HC0_1.out); (case side3 => exact Q11); (case side4 => exact HC0_2.out); rintro e w5 ⟨rfl, hb⟩; refine ⟨_, rfl, ?_⟩; replace BK390 := am (bb_ BK390.out u20_29 hb); replace HB := am (below_step Q2 hb); (try clear hb); (try clear hb2); (try clear hk); (try clear hi)))
 have H := H9.out
 clear H9
 by_cases c6 : t391 = true
 rotate_left
 · replace c6 := Bool.eq_false_iff.mpr c6
   subst c6
   rw [nf] at H
   obtain rfl := sj H
   go_wp2
   go_ret
   exact ⟨_, er, (by first | exact Kd.R_nil _ _ _ _ _ | exact Kd.N_nil _ _ _ _ _ | exact Kd.V_nil _ _ _ _ _ | exact Kd.Q_nil _ _ _ _ _ | exact Kd.S_nil _ _ _ _ _), Q2⟩
 subst c6
 rw [if_pos rfl] at H
 replace H := Option.bind_eq_some_iff.mp H
 obtain ⟨t392, A70, H⟩ := H
 replace H : (some t392) = some r := H
 have A7 := am A70
 clear A70
 obtain rfl := sj H
 obtain ⟨hcz8_0, hcz8_1, hcz8_2⟩ := bc3 w5 BK390.out
 go_wp2_with (first | ((with_reducible refine gate_callee (f := 104) rfl ?_); refine goesL_ (some 7) rfl rfl Try.func104 kr rfl #[.agg #[.int .i64 a0_0, .slice A0_1 l0_1.length c0_1, .slice A0_2 l0_2.length c0_2]] rfl Q0 ?_; (with_reducible refine (impl_settled.calls k a0_0 _ _ l0_1 _ _ l0_2 t392 _ ?side1 ?side2 ?side3 ?side4 A7.out).mono ?_); (case side1 => exact Q13); (case side2 => exact HC0_1.out); (case side3 => exact Q11); (case side4 => exact HC0_2.out); rintro e w9 ⟨v393, rfl, ho0, hb⟩; refine ⟨_, rfl, ?_⟩; have HO394 := am (Kd.R_lower ho0 (below_size Q2)); replace BK390 := am (bb_ BK390.out u20_29 hb); replace HB := am (below_step Q2 hb); (try clear hb); (try clear hb2); (try clear hk); (try clear hi); (try clear ho0)))
 go_ret
 exact ⟨_, er, (by (with_reducible repeat (first | apply r1_ | apply r2_ | apply r3_)); exact HO394.out), Q2⟩
end Go.Proofs.Ytkcadcoohmofcaa.QFnExactSettled
