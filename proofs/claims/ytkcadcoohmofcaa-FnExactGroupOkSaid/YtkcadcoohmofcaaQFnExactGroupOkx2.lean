-- Printed by the session's own program wip/prx.py.
import Derived.Test.YtkcadcoohmofcaaSqFnExactGroupOk
import Derived.Test.YtkcadcoohmofcaaQFnExactGroupOkx0
import Derived.Test.YtkcadcoohmofcaaQFnExactGroupOkx1
namespace Go.Proofs.Ytkcadcoohmofcaa.QFnExactGroupOk
open Go.RowKit Go.Proofs.YtkcadcoohmofcaaW.PrintWords Go.Proofs.YtkcadcoohmofcaaW.PrintLast Go.Proofs.YtkcadcoohmofcaaW.PrintMore Go.Proofs.Ytkcadcoohmofcaa.SqFnExactGroupOk
attribute [local go_sem] max2_int min2_int max_two min_two max_three min_three max_four min_four Go.Proofs.Ytkcadcoohmofcaa.Set.isSome_setCell
set_option linter.unusedVariables false
set_option linter.unusedSimpArgs false

-- squeezed
theorem u2_0 {P : Prop} (h : P := by repeat (first | (with_reducible first | exact HB.out | apply below_alloc | apply pw_below_drewN | apply below_drew1) | exact HB.out)) : P := h
theorem u2_1 {P : Prop} (h : P := by repeat (first | (with_reducible first | exact HB.out | apply below_alloc | apply pw_below_drewN | apply below_drew1 | refine below_set ?_ GE114.out | refine below_set ?_ GE115.out) | exact HB.out)) : P := h
theorem u2_2 {P : Prop} (h : P := by (with_reducible repeat (first | refine blk_drewN ?_ _ | refine blk_drew ?_ | refine blk_alloc ?_ _)); exact BK114.out) : P := h
theorem u2_3 {P : Prop} (h : P := by repeat (first | (with_reducible first | exact HB.out | apply below_alloc | apply pw_below_drewN | apply below_drew1 | refine below_set ?_ GE114.out) | exact HB.out)) : P := h
theorem u2_4 {P : Prop} (h : P := by first | (with_reducible assumption) | assumption) : P := h
theorem u2_5 {P : Prop} (h : P := by repeat (first | exact Drawn0.refl _ | apply Drawn0.step)) : P := h
theorem u2_6 {P : Prop} (h : P := by (try simp only [List.map_toArray, List.map_cons, List.map_nil]); first | done | rfl | (simp only [List.length_drop, List.length_take]; rfl)) : P := h
theorem u2_7 {P : Prop} (h : P := by first | rfl | (simp; done) | (simp [*]; done)) : P := h
/-! ### laws_eqMsgS: function 40 -/
def laws_eqMsgS.l0 : Nat → List (S29) → List (S29) → Int → Option (Bool)
 | 0, _, _, _ => none
 | k + 1, x0, x1, x5 => if x5 < (x0.length : Int) then (if 0 ≤ x5 then (if x5 < (x1.length : Int) then ((laws_eqMsg.f k ((rd_T29 x0 x5).f0) ((rd_T29 x0 x5).f1) ((rd_T29 x0 x5).f2) ((rd_T29 x0 x5).f3) ((rd_T29 x0 x5).f4) ((rd_T29 x0 x5).f5) ((rd_T29 x0 x5).f6) ((rd_T29 x0 x5).f7) ((rd_T29 x0 x5).f8) ((rd_T29 x1 x5).f0) ((rd_T29 x1 x5).f1) ((rd_T29 x1 x5).f2) ((rd_T29 x1 x5).f3) ((rd_T29 x1 x5).f4) ((rd_T29 x1 x5).f5) ((rd_T29 x1 x5).f6) ((rd_T29 x1 x5).f7) ((rd_T29 x1 x5).f8)).bind fun t111 => (if t111 = true then (laws_eqMsgS.l0 k x0 x1 (wrap64 (x5 + 1))) else (some false))) else (none)) else (none)) else (some true)
def laws_eqMsgS.f (k : Nat) (l0 : List (S29)) (l1 : List (S29)) : Option (Bool) := if (l0.length : Int) = (l1.length : Int) then (laws_eqMsgS.l0 k l0 l1 0) else (some false)
theorem laws_eqMsgS.mono_l : ∀ k, (∀ y0 y1 y2, LeO (laws_eqMsgS.l0 k y0 y1 y2) (laws_eqMsgS.l0 (k + 1) y0 y1 y2))
 | 0 => fun _ _ _ r h => by simp [laws_eqMsgS.l0] at h
 | k + 1 => by
   have ih0 := laws_eqMsgS.mono_l k
   · intro y0 y1 y2
     unfold laws_eqMsgS.l0
     repeat' first
     | (with_reducible exact ih0 _ _ _)
     | (with_reducible exact laws_eqMsg.mono _ _ _ _ _ _ _ _ _ _ _ _ _ _ _ _ _ _ _)
     | (with_reducible exact LeO.refl _)
     | (with_reducible exact LeO.none _)
     | (with_reducible refine LeO.ite ?_ ?_)
     | (with_reducible refine LeO.bind ?_ (fun _ => ?_))
     | exact ih0 _ _ _
     | exact laws_eqMsg.mono _ _ _ _ _ _ _ _ _ _ _ _ _ _ _ _ _ _ _
     | exact LeO.none _
     | refine LeO.ite ?_ ?_
     | refine LeO.bind ?_ (fun _ => ?_)
theorem laws_eqMsgS.mono : ∀ a0 a1 k, LeO (laws_eqMsgS.f k a0 a1) (laws_eqMsgS.f (k + 1) a0 a1) := by
 intro a0 a1 k
 have ih0 := laws_eqMsgS.mono_l k
 unfold laws_eqMsgS.f
 repeat' first
     | (with_reducible exact ih0 _ _ _)
     | (with_reducible exact laws_eqMsg.mono _ _ _ _ _ _ _ _ _ _ _ _ _ _ _ _ _ _ _)
     | (with_reducible exact LeO.refl _)
     | (with_reducible exact LeO.none _)
     | (with_reducible refine LeO.ite ?_ ?_)
     | (with_reducible refine LeO.bind ?_ (fun _ => ?_))
     | exact ih0 _ _ _
     | exact laws_eqMsg.mono _ _ _ _ _ _ _ _ _ _ _ _ _ _ _ _ _ _ _
     | exact LeO.none _
     | refine LeO.ite ?_ ?_
     | refine LeO.bind ?_ (fun _ => ?_)
def laws_eqMsgS.T6 : Bool × List (List Nat × List Nat) := (true, [([], []), ([], []), ([0, 1], [0, 1]), ([2], [2]), ([], []), ([], []), ([4, 5], [4, 5]), ([6], [6]), ([3, 7], [3, 7]), ([8], [8])])
def laws_eqMsgS.B6 : List Nat := [0, 0, 3, 7, 0, 0, 48, 112, 255, 511]
theorem laws_eqMsgS.tab6 : rtab .any (opsOf Try.f40 6) = laws_eqMsgS.T6 := by kernel_rfl
theorem laws_eqMsgS.bits6 : waitsOk laws_eqMsgS.T6.2 laws_eqMsgS.B6 = true := by kernel_rfl
set_option maxHeartbeats 8000000 in
set_option maxRecDepth 100000 in
theorem laws_eqMsgS.calls (k : Nat) (A0 : Option Addr) (c0 : Nat) (l0 : List (S29)) (A1 : Option Addr) (c1 : Nat) (l1 : List (S29)) (r : Bool) (w : World) (hr0 : Kd.C k29 w A0 l0.length l0) (hc0 : l0.length ≤ c0) (hr1 : Kd.C k29 w A1 l1.length l1) (hc1 : l1.length ≤ c1) (h : laws_eqMsgS.f k l0 l1 = some r) :
   Calls Try.prog 40 #[.slice A0 l0.length c0, .slice A1 l1.length c1] w fun e w' => e = .returned (.bool r) ∧ Below w.heap.size w w' := by
 have hu29 := Try.underlying29
 have HR0 := am hr0
 have HC0 := am hc0
 clear hr0 hc0
 have HR1 := am hr1
 have HC1 := am hc1
 clear hr1 hc1
 have HB := am (Below.refl w.heap.size w)
 have H : (if (l0.length : Int) = (l1.length : Int) then (laws_eqMsgS.l0 k l0 l1 0) else (some false)) = some r := h
 clear h
 by_cases c3 : (l0.length : Int) = (l1.length : Int)
 rotate_left
 · rw [if_neg c3] at H
   have c3b0 : ((l0.length : Int) == (l1.length : Int)) = false := beq_eq_false_iff_ne.mpr c3
   have c3b1 : ((l0.length : Int) != (l1.length : Int)) = true := bne_iff_ne.mpr c3
   have c3b2 : (l0.length == l1.length) = false := by first | simpa using c3 | (simp at c3 ⊢; omega)
   obtain rfl := Option.some.inj H
   go_enter Try.func40, Try.ntmps40
   go_wp2
   go_ret
   exact ⟨by first | rfl | (simp [errW_none, errW_some] <;> rfl) | (simp [*, errW_none, errW_some] <;> rfl), u2_0⟩
 rw [if_pos c3] at H
 have c3b0 : ((l0.length : Int) == (l1.length : Int)) = true := beq_iff_eq.mpr c3
 have c3b1 : ((l0.length : Int) != (l1.length : Int)) = false := bne_eq_false_iff_eq.mpr c3
 have c3b2 : (l0.length == l1.length) = true := by first | simpa using c3 | (simp at c3 ⊢; omega)
 clear c3
 have H' := am H
 clear H
 go_enter Try.func40, Try.ntmps40
 go_wp2
 go_loopg [5] k (fun kq v5 w' => ∃ (x5_1 : Int), v5 = .int .i64 x5_1 ∧ Aside0 (laws_eqMsgS.l0 kq l0 l1 x5_1 = some r) ∧ Aside0 (kq ≤ k) ∧ Aside0 (Below w.heap.size w w'))
 case atStart => exact ⟨(0), u2_7, H', ⟨Nat.le_refl _⟩, ⟨u2_0⟩⟩
 clear H'
 try clear c1
 try clear p2
 try clear c3
 try clear c3b0
 try clear c3b1
 try clear c3b2
 obtain ⟨x5_1, rfl, HA, HK1, HB⟩ := hrel
 cases gk with
 | zero => exact absurd HA.out (by simp [laws_eqMsgS.l0])
 | succ k1 =>
   have H := HA.out
   clear HA
   simp only [laws_eqMsgS.l0] at H
   by_cases c4 : x5_1 < (l0.length : Int)
   rotate_left
   · rw [if_neg c4] at H
     have c4b0 : decide (x5_1 < (l0.length : Int)) = false := decide_eq_false c4
     clear c4
     obtain rfl := Option.some.inj H
     go_wp2
     go_ret
     exact ⟨by first | rfl | (simp [errW_none, errW_some] <;> rfl) | (simp [*, errW_none, errW_some] <;> rfl), u2_0⟩
   rw [if_pos c4] at H
   have c4b0 : decide (x5_1 < (l0.length : Int)) = true := decide_eq_true c4
   clear c4
   by_cases c5 : 0 ≤ x5_1
   rotate_left
   · rw [if_neg c5] at H
     exact absurd H (by simp)
   rw [if_pos c5] at H
   have c5b0 : decide (0 ≤ x5_1) = true := decide_eq_true c5
   clear c5
   by_cases c6 : x5_1 < (l1.length : Int)
   rotate_left
   · rw [if_neg c6] at H
     exact absurd H (by simp)
   rw [if_pos c6] at H
   have c6b0 : decide (x5_1 < (l1.length : Int)) = true := decide_eq_true c6
   clear c6
   replace H := Option.bind_eq_some_iff.mp H
   obtain ⟨t111, A70, H⟩ := H
   replace H : (if t111 = true then (laws_eqMsgS.l0 k1 l0 l1 (wrap64 (x5_1 + 1))) else (some false)) = some r := H
   have A7 := am A70
   clear A70
   have H9 := am H
   clear H
   try go_wp2
   have n0_ := am (below_drew1 HB.out)
   clear HB
   have HB := n0_
   clear n0_
   have p109 : 0 ≤ (x5_1 : Int) := of_decide_eq_true u2_4
   have q109 : x5_1 < (l0.length : Int) := of_decide_eq_true u2_4
   obtain ⟨ad109, A109_8, c109_8, e109, hx109_0, hx109_1, hx109_2, hx109_3, hx109_4, hx109_5, hx109_6, hx109_7, hx109_8, hl109_8, hi109_8⟩ := at_T29 HR0.out x5_1 p109 q109
   have hw109_8 := hx109_8
   have hw109_7 := hx109_7
   have hw109_6 := hx109_6
   have hw109_5 := hx109_5
   have hw109_4 := hx109_4
   have hw109_3 := hx109_3
   have hw109_2 := hx109_2
   have hw109_1 := hx109_1
   have hw109_0 := hx109_0
   cases e109
   replace hx109_0 := (HB.out.cell (World.block_lt_of_cell? w _ hx109_0)).trans hx109_0
   replace hx109_1 := (HB.out.cell (World.block_lt_of_cell? w _ hx109_1)).trans hx109_1
   replace hx109_2 := (HB.out.cell (World.block_lt_of_cell? w _ hx109_2)).trans hx109_2
   replace hx109_3 := (HB.out.cell (World.block_lt_of_cell? w _ hx109_3)).trans hx109_3
   replace hx109_4 := (HB.out.cell (World.block_lt_of_cell? w _ hx109_4)).trans hx109_4
   replace hx109_5 := (HB.out.cell (World.block_lt_of_cell? w _ hx109_5)).trans hx109_5
   replace hx109_6 := (HB.out.cell (World.block_lt_of_cell? w _ hx109_6)).trans hx109_6
   replace hx109_7 := (HB.out.cell (World.block_lt_of_cell? w _ hx109_7)).trans hx109_7
   replace hx109_8 := (HB.out.cell (World.block_lt_of_cell? w _ hx109_8)).trans hx109_8
   have HR109_8 := am hi109_8
   have HC109_8 := am hl109_8
   clear hi109_8 hl109_8
   replace p109 := eq_true p109
   replace q109 := eq_true q109
   have p110 : 0 ≤ (x5_1 : Int) := of_decide_eq_true u2_4
   have q110 : x5_1 < (l1.length : Int) := of_decide_eq_true u2_4
   obtain ⟨ad110, A110_8, c110_8, e110, hx110_0, hx110_1, hx110_2, hx110_3, hx110_4, hx110_5, hx110_6, hx110_7, hx110_8, hl110_8, hi110_8⟩ := at_T29 HR1.out x5_1 p110 q110
   have hw110_8 := hx110_8
   have hw110_7 := hx110_7
   have hw110_6 := hx110_6
   have hw110_5 := hx110_5
   have hw110_4 := hx110_4
   have hw110_3 := hx110_3
   have hw110_2 := hx110_2
   have hw110_1 := hx110_1
   have hw110_0 := hx110_0
   cases e110
   replace hx110_0 := (HB.out.cell (World.block_lt_of_cell? w _ hx110_0)).trans hx110_0
   replace hx110_1 := (HB.out.cell (World.block_lt_of_cell? w _ hx110_1)).trans hx110_1
   replace hx110_2 := (HB.out.cell (World.block_lt_of_cell? w _ hx110_2)).trans hx110_2
   replace hx110_3 := (HB.out.cell (World.block_lt_of_cell? w _ hx110_3)).trans hx110_3
   replace hx110_4 := (HB.out.cell (World.block_lt_of_cell? w _ hx110_4)).trans hx110_4
   replace hx110_5 := (HB.out.cell (World.block_lt_of_cell? w _ hx110_5)).trans hx110_5
   replace hx110_6 := (HB.out.cell (World.block_lt_of_cell? w _ hx110_6)).trans hx110_6
   replace hx110_7 := (HB.out.cell (World.block_lt_of_cell? w _ hx110_7)).trans hx110_7
   replace hx110_8 := (HB.out.cell (World.block_lt_of_cell? w _ hx110_8)).trans hx110_8
   have HR110_8 := am hi110_8
   have HC110_8 := am hl110_8
   clear hi110_8 hl110_8
   replace p110 := eq_true p110
   replace q110 := eq_true q110
   refine start_ (n := 10) (S := fun w' => w'.cell? (ad109.add ((x5_1).toNat * 9)) = some (.int .i64 ((rd_T29 l0 x5_1).f0)) ∧ w'.cell? ⟨(ad109.add ((x5_1).toNat * 9)).block, (ad109.add ((x5_1).toNat * 9)).off + 1, none⟩ = some (.int .i64 ((rd_T29 l0 x5_1).f1)) ∧ w'.cell? ⟨(ad109.add ((x5_1).toNat * 9)).block, (ad109.add ((x5_1).toNat * 9)).off + 2, none⟩ = some (.int .i64 ((rd_T29 l0 x5_1).f2)) ∧ w'.cell? ⟨(ad109.add ((x5_1).toNat * 9)).block, (ad109.add ((x5_1).toNat * 9)).off + 3, none⟩ = some (.int .i64 ((rd_T29 l0 x5_1).f3)) ∧ w'.cell? ⟨(ad109.add ((x5_1).toNat * 9)).block, (ad109.add ((x5_1).toNat * 9)).off + 4, none⟩ = some (.int .i64 ((rd_T29 l0 x5_1).f4)) ∧ w'.cell? ⟨(ad109.add ((x5_1).toNat * 9)).block, (ad109.add ((x5_1).toNat * 9)).off + 5, none⟩ = some (.int .i64 ((rd_T29 l0 x5_1).f5)) ∧ w'.cell? ⟨(ad109.add ((x5_1).toNat * 9)).block, (ad109.add ((x5_1).toNat * 9)).off + 6, none⟩ = some (.int .i64 ((rd_T29 l0 x5_1).f6)) ∧ w'.cell? ⟨(ad109.add ((x5_1).toNat * 9)).block, (ad109.add ((x5_1).toNat * 9)).off + 7, none⟩ = some (.bool ((rd_T29 l0 x5_1).f7)) ∧ w'.cell? ⟨(ad109.add ((x5_1).toNat * 9)).block, (ad109.add ((x5_1).toNat * 9)).off + 8, none⟩ = some (.slice A109_8 ((rd_T29 l0 x5_1).f8).length c109_8) ∧ w'.cell? (ad110.add ((x5_1).toNat * 9)) = some (.int .i64 ((rd_T29 l1 x5_1).f0)) ∧ w'.cell? ⟨(ad110.add ((x5_1).toNat * 9)).block, (ad110.add ((x5_1).toNat * 9)).off + 1, none⟩ = some (.int .i64 ((rd_T29 l1 x5_1).f1)) ∧ w'.cell? ⟨(ad110.add ((x5_1).toNat * 9)).block, (ad110.add ((x5_1).toNat * 9)).off + 2, none⟩ = some (.int .i64 ((rd_T29 l1 x5_1).f2)) ∧ w'.cell? ⟨(ad110.add ((x5_1).toNat * 9)).block, (ad110.add ((x5_1).toNat * 9)).off + 3, none⟩ = some (.int .i64 ((rd_T29 l1 x5_1).f3)) ∧ w'.cell? ⟨(ad110.add ((x5_1).toNat * 9)).block, (ad110.add ((x5_1).toNat * 9)).off + 4, none⟩ = some (.int .i64 ((rd_T29 l1 x5_1).f4)) ∧ w'.cell? ⟨(ad110.add ((x5_1).toNat * 9)).block, (ad110.add ((x5_1).toNat * 9)).off + 5, none⟩ = some (.int .i64 ((rd_T29 l1 x5_1).f5)) ∧ w'.cell? ⟨(ad110.add ((x5_1).toNat * 9)).block, (ad110.add ((x5_1).toNat * 9)).off + 6, none⟩ = some (.int .i64 ((rd_T29 l1 x5_1).f6)) ∧ w'.cell? ⟨(ad110.add ((x5_1).toNat * 9)).block, (ad110.add ((x5_1).toNat * 9)).off + 7, none⟩ = some (.bool ((rd_T29 l1 x5_1).f7)) ∧ w'.cell? ⟨(ad110.add ((x5_1).toNat * 9)).block, (ad110.add ((x5_1).toNat * 9)).off + 8, none⟩ = some (.slice A110_8 ((rd_T29 l1 x5_1).f8).length c110_8)) (ds := []) b0_10 kr rfl rfl ⟨((HB.out.cell (World.block_lt_of_cell? w _ hw109_0)).trans hw109_0), ((HB.out.cell (World.block_lt_of_cell? w _ hw109_1)).trans hw109_1), ((HB.out.cell (World.block_lt_of_cell? w _ hw109_2)).trans hw109_2), ((HB.out.cell (World.block_lt_of_cell? w _ hw109_3)).trans hw109_3), ((HB.out.cell (World.block_lt_of_cell? w _ hw109_4)).trans hw109_4), ((HB.out.cell (World.block_lt_of_cell? w _ hw109_5)).trans hw109_5), ((HB.out.cell (World.block_lt_of_cell? w _ hw109_6)).trans hw109_6), ((HB.out.cell (World.block_lt_of_cell? w _ hw109_7)).trans hw109_7), ((HB.out.cell (World.block_lt_of_cell? w _ hw109_8)).trans hw109_8), ((HB.out.cell (World.block_lt_of_cell? w _ hw110_0)).trans hw110_0), ((HB.out.cell (World.block_lt_of_cell? w _ hw110_1)).trans hw110_1), ((HB.out.cell (World.block_lt_of_cell? w _ hw110_2)).trans hw110_2), ((HB.out.cell (World.block_lt_of_cell? w _ hw110_3)).trans hw110_3), ((HB.out.cell (World.block_lt_of_cell? w _ hw110_4)).trans hw110_4), ((HB.out.cell (World.block_lt_of_cell? w _ hw110_5)).trans hw110_5), ((HB.out.cell (World.block_lt_of_cell? w _ hw110_6)).trans hw110_6), ((HB.out.cell (World.block_lt_of_cell? w _ hw110_7)).trans hw110_7), ((HB.out.cell (World.block_lt_of_cell? w _ hw110_8)).trans hw110_8)⟩ (fun hHeld => ?_); refine with_tabW laws_eqMsgS.tab6 laws_eqMsgS.bits6 (fun HT_ HW_ => ?_)
   generalize wr.drew = w8 at HB HR109_8 HR110_8 hx109_0 hx109_1 hx109_2 hx109_3 hx109_4 hx109_5 hx109_6 hx109_7 hx109_8 hx110_0 hx110_1 hx110_2 hx110_3 hx110_4 hx110_5 hx110_6 hx110_7 hx110_8 hHeld ⊢
   refine pure_ (i := 0) (N := some 17) (v := ?_) (a' := ?_) b1_10 rfl rfl (any_of HT_.out kr) (fun _ _ _ h => h) (Or.inl ⟨by rfl, ?_⟩) ?_ ?_
   rotate_left; (intro w'; go_simp; with_reducible rfl); rotate_left; (simp only [Act.put, la, lb, lc, i64_w, i32_w]; rfl)
   refine pure_ (i := 1) (N := some 18) (v := ?_) (a' := ?_) b2_10 rfl rfl (any_of HT_.out kr) (fun _ _ _ h => h) (Or.inl ⟨by rfl, ?_⟩) ?_ ?_
   rotate_left; (intro w'; go_simp; with_reducible rfl); rotate_left; (simp only [Act.put, la, lb, lc, i64_w, i32_w]; rfl)
   refine pure_ (i := 2) (N := some 19) (v := ?_) (a' := ?_) b3_10 rfl rfl (any_of HT_.out kr) (fun _ _ _ h => h) (Or.inl ⟨by rfl, ?_⟩) ?_ ?_
   rotate_left; (intro w'; go_simp; with_reducible rfl); rotate_left; (simp only [Act.put, la, lb, lc, i64_w, i32_w]; rfl)
   refine pure_ (i := 4) (N := some 21) (v := ?_) (a' := ?_) bx4 rfl rfl (any_of HT_.out kr) (fun _ _ _ h => h) (Or.inl ⟨by rfl, ?_⟩) ?_ ?_
   rotate_left; (intro w'; go_simp; with_reducible rfl); rotate_left; (simp only [Act.put, la, lb, lc, i64_w, i32_w]; rfl)
   refine pure_ (i := 5) (N := some 22) (v := ?_) (a' := ?_) bx5 rfl rfl (any_of HT_.out kr) (fun _ _ _ h => h) (Or.inl ⟨by rfl, ?_⟩) ?_ ?_
   rotate_left; (intro w'; go_simp; with_reducible rfl); rotate_left; (simp only [Act.put, la, lb, lc, i64_w, i32_w]; rfl)
   refine pure_ (i := 6) (N := some 23) (v := ?_) (a' := ?_) bx6 rfl rfl (any_of HT_.out kr) (fun _ _ _ h => h) (Or.inl ⟨by rfl, ?_⟩) ?_ ?_
   rotate_left; (intro w'; go_simp; with_reducible rfl); rotate_left; (simp only [Act.put, la, lb, lc, i64_w, i32_w]; rfl)
   refine take_ (i := 3) (N := some 20) (v := ?_) (a' := ?_) b7_10 rfl rfl (take_ofW HT_.out HW_.out kr) (fun _ _ _ h => h) (Or.inl ⟨by rfl, ?_⟩) hHeld ?_ ?_
   rotate_left
   · rintro w' ⟨s0, s1, s2, s3, s4, s5, s6, s7, s8, s9, s10, s11, s12, s13, s14, s15, s16, s17⟩
     go_simp
     with_reducible rfl
   rotate_left
   · simp only [Act.put, la, lb, lc, i64_w, i32_w]
     rfl
   refine take_ (i := 7) (N := some 24) (v := ?_) (a' := ?_) b8_10 rfl rfl (take_ofW HT_.out HW_.out kr) (fun _ _ _ h => h) (Or.inl ⟨by rfl, ?_⟩) hHeld ?_ ?_
   rotate_left
   · rintro w' ⟨s0, s1, s2, s3, s4, s5, s6, s7, s8, s9, s10, s11, s12, s13, s14, s15, s16, s17⟩
     go_simp
     with_reducible rfl
   rotate_left
   · simp only [Act.put, la, lb, lc, i64_w, i32_w]
     rfl
   refine one_ (i := 8) (N := some 25) b9_10 rfl rfl (one_of HT_.out kr) (by decide) (fun K hK => ?_)
   refine goes_ Try.func19 kr rfl #[.agg #[.int .i64 ((rd_T29 l0 x5_1).f0), .int .i64 ((rd_T29 l0 x5_1).f1), .int .i64 ((rd_T29 l0 x5_1).f2), .int .i64 ((rd_T29 l0 x5_1).f3), .int .i64 ((rd_T29 l0 x5_1).f4), .int .i64 ((rd_T29 l0 x5_1).f5), .int .i64 ((rd_T29 l0 x5_1).f6), .bool ((rd_T29 l0 x5_1).f7), .slice A109_8 ((rd_T29 l0 x5_1).f8).length c109_8], .agg #[.int .i64 ((rd_T29 l1 x5_1).f0), .int .i64 ((rd_T29 l1 x5_1).f1), .int .i64 ((rd_T29 l1 x5_1).f2), .int .i64 ((rd_T29 l1 x5_1).f3), .int .i64 ((rd_T29 l1 x5_1).f4), .int .i64 ((rd_T29 l1 x5_1).f5), .int .i64 ((rd_T29 l1 x5_1).f6), .bool ((rd_T29 l1 x5_1).f7), .slice A110_8 ((rd_T29 l1 x5_1).f8).length c110_8]] (by rfl) rfl rfl u2_6 ?_
   with_reducible refine (laws_eqMsg.calls k1 ((rd_T29 l0 x5_1).f0) ((rd_T29 l0 x5_1).f1) ((rd_T29 l0 x5_1).f2) ((rd_T29 l0 x5_1).f3) ((rd_T29 l0 x5_1).f4) ((rd_T29 l0 x5_1).f5) ((rd_T29 l0 x5_1).f6) ((rd_T29 l0 x5_1).f7) _ _ ((rd_T29 l0 x5_1).f8) ((rd_T29 l1 x5_1).f0) ((rd_T29 l1 x5_1).f1) ((rd_T29 l1 x5_1).f2) ((rd_T29 l1 x5_1).f3) ((rd_T29 l1 x5_1).f4) ((rd_T29 l1 x5_1).f5) ((rd_T29 l1 x5_1).f6) ((rd_T29 l1 x5_1).f7) _ _ ((rd_T29 l1 x5_1).f8) t111 _ ?side1 ?side2 ?side3 ?side4 A7.out).mono ?_
   (case side1 => exact (by repeat (first | exact (Kd.C_below HR109_8.out HB.out) | (with_reducible refine Kd.C_alloc ?_ _) | (with_reducible refine Kd.C_drewN ?_ _) | (with_reducible refine Kd.C_drew ?_))))
   (case side2 => exact HC109_8.out)
   (case side3 => exact (by repeat (first | exact (Kd.C_below HR110_8.out HB.out) | (with_reducible refine Kd.C_alloc ?_ _) | (with_reducible refine Kd.C_drewN ?_ _) | (with_reducible refine Kd.C_drew ?_))))
   (case side4 => exact HC110_8.out)
   rintro e w9 ⟨rfl, hb⟩
   refine ⟨_, rfl, ?_⟩
   have n0_ := am (below_step u2_0 hb)
   clear HB
   have HB := n0_
   clear n0_
   (try clear hb)
   (try clear hb2)
   (try clear hk)
   (try clear hi)
   refine hK.out _ _ ⟨((HB.out.cell (World.block_lt_of_cell? w _ hw109_0)).trans hw109_0), ((HB.out.cell (World.block_lt_of_cell? w _ hw109_1)).trans hw109_1), ((HB.out.cell (World.block_lt_of_cell? w _ hw109_2)).trans hw109_2), ((HB.out.cell (World.block_lt_of_cell? w _ hw109_3)).trans hw109_3), ((HB.out.cell (World.block_lt_of_cell? w _ hw109_4)).trans hw109_4), ((HB.out.cell (World.block_lt_of_cell? w _ hw109_5)).trans hw109_5), ((HB.out.cell (World.block_lt_of_cell? w _ hw109_6)).trans hw109_6), ((HB.out.cell (World.block_lt_of_cell? w _ hw109_7)).trans hw109_7), ((HB.out.cell (World.block_lt_of_cell? w _ hw109_8)).trans hw109_8), ((HB.out.cell (World.block_lt_of_cell? w _ hw110_0)).trans hw110_0), ((HB.out.cell (World.block_lt_of_cell? w _ hw110_1)).trans hw110_1), ((HB.out.cell (World.block_lt_of_cell? w _ hw110_2)).trans hw110_2), ((HB.out.cell (World.block_lt_of_cell? w _ hw110_3)).trans hw110_3), ((HB.out.cell (World.block_lt_of_cell? w _ hw110_4)).trans hw110_4), ((HB.out.cell (World.block_lt_of_cell? w _ hw110_5)).trans hw110_5), ((HB.out.cell (World.block_lt_of_cell? w _ hw110_6)).trans hw110_6), ((HB.out.cell (World.block_lt_of_cell? w _ hw110_7)).trans hw110_7), ((HB.out.cell (World.block_lt_of_cell? w _ hw110_8)).trans hw110_8)⟩ (fun hHeld => ?_)
   clear hK K
   refine norm_ (a' := ?_) ?_ ?_
   rotate_left
   · show Act.put _ (some 25) _ = _
     simp only [Act.put, la, lb, lc, i64_w, i32_w]
     rfl
   refine pure_ (i := 9) (N := some 26) (v := ?_) (a' := ?_) b10_10 rfl rfl (any_of HT_.out kr) (fun _ _ _ h => h) (Or.inl ⟨by rfl, ?_⟩) ?_ ?_
   rotate_left; (intro w'; go_simp; with_reducible rfl); rotate_left; (simp only [Act.put, la, lb, lc, i64_w, i32_w]; rfl)
   refine done_ (done_of HT_.out kr) ?_
   go_upto_if 26 with (fail)
   have H := H9.out
   clear H9
   by_cases c10 : t111 = true
   · subst c10
     rw [if_pos rfl] at H
     have H' := am H
     clear H
     go_wp2
     go_roundg k1
     case measure => have := HK1.out; omega
     case rel => exact ⟨(wrap64 (x5_1 + 1)), u2_7, H', ⟨by have := HK1.out; omega⟩, ⟨u2_0⟩⟩
   replace c10 := Bool.eq_false_iff.mpr c10
   subst c10
   rw [if_neg (show ¬ (false = true) by decide)] at H
   obtain rfl := Option.some.inj H
   go_wp2
   go_ret
   exact ⟨by first | rfl | (simp [errW_none, errW_some] <;> rfl) | (simp [*, errW_none, errW_some] <;> rfl), u2_0⟩

/-! ### laws_eqIntS: function 53 -/
def laws_eqIntS.l0 : Nat → List Int → List Int → Int → Option (Bool)
 | 0, _, _, _ => none
 | k + 1, x0, x1, x5 => if x5 < (x0.length : Int) then (if 0 ≤ x5 then (if x5 < (x1.length : Int) then (if (rd x0 x5) = (rd x1 x5) then (laws_eqIntS.l0 k x0 x1 (wrap64 (x5 + 1))) else (some false)) else (none)) else (none)) else (some true)
def laws_eqIntS.f (k : Nat) (l0 : List Int) (l1 : List Int) : Option (Bool) := if (l0.length : Int) = (l1.length : Int) then (laws_eqIntS.l0 k l0 l1 0) else (some false)
theorem laws_eqIntS.mono_l : ∀ k, (∀ y0 y1 y2, LeO (laws_eqIntS.l0 k y0 y1 y2) (laws_eqIntS.l0 (k + 1) y0 y1 y2))
 | 0 => fun _ _ _ r h => by simp [laws_eqIntS.l0] at h
 | k + 1 => by
   have ih0 := laws_eqIntS.mono_l k
   · intro y0 y1 y2
     unfold laws_eqIntS.l0
     repeat' first
     | (with_reducible exact ih0 _ _ _)
     | (with_reducible exact LeO.refl _)
     | (with_reducible exact LeO.none _)
     | (with_reducible refine LeO.ite ?_ ?_)
     | (with_reducible refine LeO.bind ?_ (fun _ => ?_))
     | exact ih0 _ _ _
     | exact LeO.none _
     | refine LeO.ite ?_ ?_
     | refine LeO.bind ?_ (fun _ => ?_)
theorem laws_eqIntS.mono : ∀ a0 a1 k, LeO (laws_eqIntS.f k a0 a1) (laws_eqIntS.f (k + 1) a0 a1) := by
 intro a0 a1 k
 have ih0 := laws_eqIntS.mono_l k
 unfold laws_eqIntS.f
 repeat' first
     | (with_reducible exact ih0 _ _ _)
     | (with_reducible exact LeO.refl _)
     | (with_reducible exact LeO.none _)
     | (with_reducible refine LeO.ite ?_ ?_)
     | (with_reducible refine LeO.bind ?_ (fun _ => ?_))
     | exact ih0 _ _ _
     | exact LeO.none _
     | refine LeO.ite ?_ ?_
     | refine LeO.bind ?_ (fun _ => ?_)
set_option maxHeartbeats 8000000 in
set_option maxRecDepth 100000 in
theorem laws_eqIntS.calls (k : Nat) (A0 : Option Addr) (c0 : Nat) (l0 : List Int) (A1 : Option Addr) (c1 : Nat) (l1 : List Int) (r : Bool) (w : World) (hr0 : Kd.C (Kd.int .i64) w A0 l0.length l0) (hc0 : l0.length ≤ c0) (hr1 : Kd.C (Kd.int .i64) w A1 l1.length l1) (hc1 : l1.length ≤ c1) (h : laws_eqIntS.f k l0 l1 = some r) :
   Calls Try.prog 53 #[.slice A0 l0.length c0, .slice A1 l1.length c1] w fun e w' => e = .returned (.bool r) ∧ Drawn0 w w' := by
 have HR0 := am hr0
 have HC0 := am hc0
 clear hr0 hc0
 have HR1 := am hr1
 have HC1 := am hc1
 clear hr1 hc1
 have H : (if (l0.length : Int) = (l1.length : Int) then (laws_eqIntS.l0 k l0 l1 0) else (some false)) = some r := h
 clear h
 by_cases c3 : (l0.length : Int) = (l1.length : Int)
 rotate_left
 · rw [if_neg c3] at H
   have c3b0 : ((l0.length : Int) == (l1.length : Int)) = false := beq_eq_false_iff_ne.mpr c3
   have c3b1 : ((l0.length : Int) != (l1.length : Int)) = true := bne_iff_ne.mpr c3
   have c3b2 : (l0.length == l1.length) = false := by first | simpa using c3 | (simp at c3 ⊢; omega)
   obtain rfl := Option.some.inj H
   go_enter Try.func53, Try.ntmps53
   go_wp2
   repeat (go_quiet (fail); try go_wp2)
   go_ret
   exact ⟨by first | rfl | (simp; done) | (simp [*]; done), u2_5⟩
 rw [if_pos c3] at H
 have c3b0 : ((l0.length : Int) == (l1.length : Int)) = true := beq_iff_eq.mpr c3
 have c3b1 : ((l0.length : Int) != (l1.length : Int)) = false := bne_eq_false_iff_eq.mpr c3
 have c3b2 : (l0.length == l1.length) = true := by first | simpa using c3 | (simp at c3 ⊢; omega)
 clear c3
 have H' := am H
 clear H
 go_enter Try.func53, Try.ntmps53
 go_wp2
 repeat (go_quiet (fail); try go_wp2)
 go_loopg [5] k (fun kq v5 w' => ∃ (x5_1 : Int), v5 = .int .i64 x5_1 ∧ Aside0 (laws_eqIntS.l0 kq l0 l1 x5_1 = some r) ∧ Aside0 (kq ≤ k) ∧ Drawn0 w w')
 case atStart => exact ⟨(0), u2_7, H', ⟨Nat.le_refl _⟩, u2_5⟩
 clear H'
 try clear c1
 try clear p2
 try clear c3
 try clear c3b0
 try clear c3b1
 try clear c3b2
 obtain ⟨x5_1, rfl, HA, HK1, ⟨m1, rfl⟩⟩ := hrel
 cases gk with
 | zero => exact absurd HA.out (by simp [laws_eqIntS.l0])
 | succ k1 =>
   have H := HA.out
   clear HA
   simp only [laws_eqIntS.l0] at H
   by_cases c4 : x5_1 < (l0.length : Int)
   rotate_left
   · rw [if_neg c4] at H
     have c4b0 : decide (x5_1 < (l0.length : Int)) = false := decide_eq_false c4
     clear c4
     obtain rfl := Option.some.inj H
     go_wp2
     repeat (go_quiet (fail); try go_wp2)
     go_ret
     exact ⟨by first | rfl | (simp; done) | (simp [*]; done), u2_5⟩
   rw [if_pos c4] at H
   have c4b0 : decide (x5_1 < (l0.length : Int)) = true := decide_eq_true c4
   clear c4
   by_cases c5 : 0 ≤ x5_1
   rotate_left
   · rw [if_neg c5] at H
     exact absurd H (by simp)
   rw [if_pos c5] at H
   have c5b0 : decide (0 ≤ x5_1) = true := decide_eq_true c5
   clear c5
   by_cases c6 : x5_1 < (l1.length : Int)
   rotate_left
   · rw [if_neg c6] at H
     exact absurd H (by simp)
   rw [if_pos c6] at H
   have c6b0 : decide (x5_1 < (l1.length : Int)) = true := decide_eq_true c6
   clear c6
   have H9 := am H
   clear H
   have p112 : 0 ≤ (x5_1 : Int) := of_decide_eq_true u2_4
   have q112 : x5_1 < (l0.length : Int) := of_decide_eq_true u2_4
   obtain ⟨ad112, e112, hx112_0⟩ := Kd.at_int HR0.out x5_1 p112 q112
   cases e112
   replace p112 := eq_true p112
   replace q112 := eq_true q112
   have p113 : 0 ≤ (x5_1 : Int) := of_decide_eq_true u2_4
   have q113 : x5_1 < (l1.length : Int) := of_decide_eq_true u2_4
   obtain ⟨ad113, e113, hx113_0⟩ := Kd.at_int HR1.out x5_1 p113 q113
   cases e113
   replace p113 := eq_true p113
   replace q113 := eq_true q113
   go_upto_if 25 with (fail)
   repeat (go_quiet (fail); go_upto_if 25 with (fail))
   have H := H9.out
   clear H9
   by_cases c7 : (rd l0 x5_1) = (rd l1 x5_1)
   rotate_left
   · rw [if_neg c7] at H
     have c7b0 : ((rd l0 x5_1) == (rd l1 x5_1)) = false := beq_eq_false_iff_ne.mpr c7
     have c7b1 : ((rd l0 x5_1) != (rd l1 x5_1)) = true := bne_iff_ne.mpr c7
     (first | rw [c7b0] | (simp only [i64_w, i32_w]; rw [c7b0]) | skip)
     obtain rfl := Option.some.inj H
     go_wp2
     repeat (go_quiet (fail); try go_wp2)
     go_ret
     exact ⟨by first | rfl | (simp; done) | (simp [*]; done), u2_5⟩
   rw [if_pos c7] at H
   have c7b0 : ((rd l0 x5_1) == (rd l1 x5_1)) = true := beq_iff_eq.mpr c7
   have c7b1 : ((rd l0 x5_1) != (rd l1 x5_1)) = false := bne_eq_false_iff_eq.mpr c7
   clear c7
   (first | rw [c7b0] | (simp only [i64_w, i32_w]; rw [c7b0]) | skip)
   have H' := am H
   clear H
   go_wp2
   repeat (go_quiet (fail); try go_wp2)
   go_roundg k1
   case measure => have := HK1.out; omega
   case rel => exact ⟨(wrap64 (x5_1 + 1)), u2_7, H', ⟨by have := HK1.out; omega⟩, u2_5⟩

/-! ### laws_eqRLog: function 67 -/
def laws_eqRLog.f (k : Nat) (a0_0 : Int) (a0_1 : Int) (l0_2 : List (S85)) (a1_0 : Int) (a1_1 : Int) (l1_2 : List (S85)) : Option (Bool) := if a0_0 = a1_0 then (if a0_1 = a1_1 then ((laws_eqEntryS.f k l0_2 l1_2).bind fun t116 => (if t116 = true then (some true) else (some false))) else (some false)) else (some false)
theorem laws_eqRLog.mono : ∀ a0 a1 a2 a3 a4 a5 k, LeO (laws_eqRLog.f k a0 a1 a2 a3 a4 a5) (laws_eqRLog.f (k + 1) a0 a1 a2 a3 a4 a5) := by
 intro a0 a1 a2 a3 a4 a5 k
 unfold laws_eqRLog.f
 repeat' first
     | (with_reducible exact laws_eqEntryS.mono _ _ _)
     | (with_reducible exact LeO.refl _)
     | (with_reducible exact LeO.none _)
     | (with_reducible refine LeO.ite ?_ ?_)
     | (with_reducible refine LeO.bind ?_ (fun _ => ?_))
     | exact laws_eqEntryS.mono _ _ _
     | exact LeO.none _
     | refine LeO.ite ?_ ?_
     | refine LeO.bind ?_ (fun _ => ?_)
set_option maxHeartbeats 8000000 in
set_option maxRecDepth 100000 in
theorem laws_eqRLog.calls (k : Nat) (a0_0 : Int) (a0_1 : Int) (A0_2 : Option Addr) (c0_2 : Nat) (l0_2 : List (S85)) (a1_0 : Int) (a1_1 : Int) (A1_2 : Option Addr) (c1_2 : Nat) (l1_2 : List (S85)) (r : Bool) (w : World) (hr0_2 : Kd.C k85 w A0_2 l0_2.length l0_2) (hc0_2 : l0_2.length ≤ c0_2) (hr1_2 : Kd.C k85 w A1_2 l1_2.length l1_2) (hc1_2 : l1_2.length ≤ c1_2) (h : laws_eqRLog.f k a0_0 a0_1 l0_2 a1_0 a1_1 l1_2 = some r) :
   Calls Try.prog 67 #[.agg #[.int .i64 a0_0, .int .i64 a0_1, .slice A0_2 l0_2.length c0_2], .agg #[.int .i64 a1_0, .int .i64 a1_1, .slice A1_2 l1_2.length c1_2]] w fun e w' => e = .returned (.bool r) ∧ Below w.heap.size w w' := by
 have hu34 := Try.underlying34
 have HR0_2 := am hr0_2
 have HC0_2 := am hc0_2
 clear hr0_2 hc0_2
 have HR1_2 := am hr1_2
 have HC1_2 := am hc1_2
 clear hr1_2 hc1_2
 have HB := am (Below.refl w.heap.size w)
 have H : (if a0_0 = a1_0 then (if a0_1 = a1_1 then ((laws_eqEntryS.f k l0_2 l1_2).bind fun t116 => (if t116 = true then (some true) else (some false))) else (some false)) else (some false)) = some r := h
 clear h
 have H9 := am H
 clear H
 go_enter Try.func67, Try.ntmps67
 go_upto_if 9 with (first | ((with_reducible refine gate_dst (N := 2) rfl ?_); refine box_event ?hg (N := 2) ?hd (cs := #[.int .i64 a0_0, .int .i64 a0_1, .slice A0_2 l0_2.length c0_2]) (t := 34) ?hr ?_; (case hd => rfl); (case hg => rfl); (case hr => first | (go_simp; done) | (go_simp; rfl)); intro gb114 hg w3 hbox hb; have n0_ := am (below_step u2_0 hb); have n1_ := am (hbox); have n2_ := am ((by rw [hg]; exact (below_size u2_0) : w.heap.size ≤ gb114)); have n3_ := am ((by rw [hg]; exact (below_size u2_0) : w.heap.size ≤ gb114)); clear HB; have HB := n0_; have BK114 := n1_; have GW114 := n2_; have GE114 := n3_; clear n0_ n1_ n2_ n3_; clear hb hbox hg) | ((with_reducible refine gate_dst (N := 3) rfl ?_); refine box_event ?hg (N := 3) ?hd (cs := #[.int .i64 a1_0, .int .i64 a1_1, .slice A1_2 l1_2.length c1_2]) (t := 34) ?hr ?_; (case hd => rfl); (case hg => rfl); (case hr => first | (go_simp; done) | (go_simp; rfl)); intro gb115 hg w4 hbox hb; have n0_ := am (blk_below (g := gb114) (o := .cells #[.int .i64 a0_0, .int .i64 a0_1, .slice A0_2 l0_2.length c0_2] 34 (0, 0)) u2_2 hb); have n1_ := am (below_step u2_3 hb); have n2_ := am (hbox); have n3_ := am ((by rw [hg]; exact (below_size u2_3) : w.heap.size ≤ gb115)); have n4_ := am ((by rw [hg]; exact (below_size u2_3) : w.heap.size ≤ gb115)); have n5_ := am ((by rw [hg]; exact Nat.ne_of_lt (blk_lt (g := gb114) (o := .cells #[.int .i64 a0_0, .int .i64 a0_1, .slice A0_2 l0_2.length c0_2] 34 (0, 0)) u2_2) : gb114 ≠ gb115)); have n6_ := am ((by rw [hg]; exact Nat.ne_of_gt (blk_lt (g := gb114) (o := .cells #[.int .i64 a0_0, .int .i64 a0_1, .slice A0_2 l0_2.length c0_2] 34 (0, 0)) u2_2) : gb115 ≠ gb114)); clear BK114; clear HB; have BK114 := n0_; have HB := n1_; have BK115 := n2_; have GW115 := n3_; have GE115 := n4_; have NB114_115 := n5_; have NB115_114 := n6_; clear n0_ n1_ n2_ n3_ n4_ n5_ n6_; clear hb hbox hg; have hnb5 := NB114_115.out; have hnc5 := NB115_114.out; have hcz6_0 : w4.cell? ⟨gb114, 0, none⟩ = some (.int .i64 a0_0) := (blk_cell BK114.out 0).trans rfl; have hcz6_1 : w4.cell? ⟨gb114, 1, none⟩ = some (.int .i64 a0_1) := (blk_cell BK114.out 1).trans rfl; have hcz6_2 : w4.cell? ⟨gb114, 2, none⟩ = some (.slice A0_2 l0_2.length c0_2) := (blk_cell BK114.out 2).trans rfl; have hcz7_0 : w4.cell? ⟨gb115, 0, none⟩ = some (.int .i64 a1_0) := (blk_cell BK115.out 0).trans rfl; have hcz7_1 : w4.cell? ⟨gb115, 1, none⟩ = some (.int .i64 a1_1) := (blk_cell BK115.out 1).trans rfl; have hcz7_2 : w4.cell? ⟨gb115, 2, none⟩ = some (.slice A1_2 l1_2.length c1_2) := (blk_cell BK115.out 2).trans rfl; have hfz7_0 := blk_frozen BK115.out 0; have hfz7_1 := blk_frozen BK115.out 1; have hfz7_2 := blk_frozen BK115.out 2))
 have H := H9.out
 clear H9
 by_cases c8 : a0_0 = a1_0
 rotate_left
 · rw [if_neg c8] at H
   have c8b0 : (a0_0 == a1_0) = false := beq_eq_false_iff_ne.mpr c8
   have c8b1 : (a0_0 != a1_0) = true := bne_iff_ne.mpr c8
   (first | rw [c8b0] | (simp only [i64_w, i32_w]; rw [c8b0]) | skip)
   obtain rfl := Option.some.inj H
   go_wp2
   go_ret
   exact ⟨by first | rfl | (simp [errW_none, errW_some] <;> rfl) | (simp [*, errW_none, errW_some] <;> rfl), u2_1⟩
 rw [if_pos c8] at H
 have c8b0 : (a0_0 == a1_0) = true := beq_iff_eq.mpr c8
 have c8b1 : (a0_0 != a1_0) = false := bne_eq_false_iff_eq.mpr c8
 clear c8
 (first | rw [c8b0] | (simp only [i64_w, i32_w]; rw [c8b0]) | skip)
 by_cases c9 : a0_1 = a1_1
 rotate_left
 · rw [if_neg c9] at H
   have c9b0 : (a0_1 == a1_1) = false := beq_eq_false_iff_ne.mpr c9
   have c9b1 : (a0_1 != a1_1) = true := bne_iff_ne.mpr c9
   obtain rfl := Option.some.inj H
   have hnb16 := NB114_115.out
   have hnc16 := NB115_114.out
   have hcz17_0 : w4.cell? ⟨gb114, 0, none⟩ = some (.int .i64 a0_0) := (blk_cell BK114.out 0).trans rfl
   have hcz17_1 : w4.cell? ⟨gb114, 1, none⟩ = some (.int .i64 a0_1) := (blk_cell BK114.out 1).trans rfl
   have hcz17_2 : w4.cell? ⟨gb114, 2, none⟩ = some (.slice A0_2 l0_2.length c0_2) := (blk_cell BK114.out 2).trans rfl
   have hcz18_0 : w4.cell? ⟨gb115, 0, none⟩ = some (.int .i64 a1_0) := (blk_cell BK115.out 0).trans rfl
   have hcz18_1 : w4.cell? ⟨gb115, 1, none⟩ = some (.int .i64 a1_1) := (blk_cell BK115.out 1).trans rfl
   have hcz18_2 : w4.cell? ⟨gb115, 2, none⟩ = some (.slice A1_2 l1_2.length c1_2) := (blk_cell BK115.out 2).trans rfl
   have hfz18_0 := blk_frozen BK115.out 0
   have hfz18_1 := blk_frozen BK115.out 1
   have hfz18_2 := blk_frozen BK115.out 2
   go_wp2
   go_ret
   exact ⟨by first | rfl | (simp [errW_none, errW_some] <;> rfl) | (simp [*, errW_none, errW_some] <;> rfl), u2_1⟩
 rw [if_pos c9] at H
 have c9b0 : (a0_1 == a1_1) = true := beq_iff_eq.mpr c9
 have c9b1 : (a0_1 != a1_1) = false := bne_eq_false_iff_eq.mpr c9
 clear c9
 replace H := Option.bind_eq_some_iff.mp H
 obtain ⟨t116, A100, H⟩ := H
 replace H : (if t116 = true then (some true) else (some false)) = some r := H
 have A10 := am A100
 clear A100
 have H9 := am H
 clear H
 have hnb11 := NB114_115.out
 have hnc11 := NB115_114.out
 have hcz12_0 : w4.cell? ⟨gb114, 0, none⟩ = some (.int .i64 a0_0) := (blk_cell BK114.out 0).trans rfl
 have hcz12_1 : w4.cell? ⟨gb114, 1, none⟩ = some (.int .i64 a0_1) := (blk_cell BK114.out 1).trans rfl
 have hcz12_2 : w4.cell? ⟨gb114, 2, none⟩ = some (.slice A0_2 l0_2.length c0_2) := (blk_cell BK114.out 2).trans rfl
 have hcz13_0 : w4.cell? ⟨gb115, 0, none⟩ = some (.int .i64 a1_0) := (blk_cell BK115.out 0).trans rfl
 have hcz13_1 : w4.cell? ⟨gb115, 1, none⟩ = some (.int .i64 a1_1) := (blk_cell BK115.out 1).trans rfl
 have hcz13_2 : w4.cell? ⟨gb115, 2, none⟩ = some (.slice A1_2 l1_2.length c1_2) := (blk_cell BK115.out 2).trans rfl
 have hfz13_0 := blk_frozen BK115.out 0
 have hfz13_1 := blk_frozen BK115.out 1
 have hfz13_2 := blk_frozen BK115.out 2
 go_upto_if 20 with (first | ((with_reducible refine gate_callee (f := 58) rfl ?_); refine goesL_ (some 19) rfl rfl Try.func58 kr rfl #[.slice A0_2 l0_2.length c0_2, .slice A1_2 l1_2.length c1_2] rfl u2_6 ?_; (with_reducible refine (laws_eqEntryS.calls k _ _ l0_2 _ _ l1_2 t116 _ ?side1 ?side2 ?side3 ?side4 A10.out).mono ?_); (case side1 => exact (by repeat (first | exact (Kd.C_below HR0_2.out HB.out) | (with_reducible refine Kd.C_alloc ?_ _) | (with_reducible refine Kd.C_drewN ?_ _) | (with_reducible refine Kd.C_drew ?_)))); (case side2 => exact HC0_2.out); (case side3 => exact (by repeat (first | exact (Kd.C_below HR1_2.out HB.out) | (with_reducible refine Kd.C_alloc ?_ _) | (with_reducible refine Kd.C_drewN ?_ _) | (with_reducible refine Kd.C_drew ?_)))); (case side4 => exact HC1_2.out); rintro e w14 ⟨rfl, hb⟩; refine ⟨_, rfl, ?_⟩; have n0_ := am (blk_below (g := gb114) (o := .cells #[.int .i64 a0_0, .int .i64 a0_1, .slice A0_2 l0_2.length c0_2] 34 (0, 0)) u2_2 hb); have n1_ := am (blk_below (g := gb115) (o := .cells #[.int .i64 a1_0, .int .i64 a1_1, .slice A1_2 l1_2.length c1_2] 34 (0, 0)) (by (with_reducible repeat (first | refine blk_drewN ?_ _ | refine blk_drew ?_ | refine blk_alloc ?_ _)); exact BK115.out) hb); have n2_ := am (below_step u2_1 hb); clear BK114; clear BK115; clear HB; have BK114 := n0_; have BK115 := n1_; have HB := n2_; clear n0_ n1_ n2_; (try clear hb); (try clear hb2); (try clear hk); (try clear hi)))
 have H := H9.out
 clear H9
 by_cases c15 : t116 = true
 · subst c15
   rw [if_pos rfl] at H
   obtain rfl := Option.some.inj H
   go_wp2
   go_ret
   exact ⟨by first | rfl | (simp [errW_none, errW_some] <;> rfl) | (simp [*, errW_none, errW_some] <;> rfl), u2_1⟩
 replace c15 := Bool.eq_false_iff.mpr c15
 subst c15
 rw [if_neg (show ¬ (false = true) by decide)] at H
 obtain rfl := Option.some.inj H
 go_wp2
 go_ret
 exact ⟨by first | rfl | (simp [errW_none, errW_some] <;> rfl) | (simp [*, errW_none, errW_some] <;> rfl), u2_1⟩

end Go.Proofs.Ytkcadcoohmofcaa.QFnExactGroupOk
