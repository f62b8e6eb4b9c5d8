-- Printed by the session's own program wip/prx.py.
import Derived.Test.YtkcadcoohmofcaaSqFnExactGroupOk
import Derived.Test.YtkcadcoohmofcaaQFnExactGroupOkx0
import Derived.Test.YtkcadcoohmofcaaQFnExactGroupOkx5
import Derived.Test.YtkcadcoohmofcaaQFnExactGroupOkx6
import Derived.Test.YtkcadcoohmofcaaQFnExactGroupOkx9
namespace Go.Proofs.Ytkcadcoohmofcaa.QFnExactGroupOk
open Go.RowKit Go.Proofs.YtkcadcoohmofcaaW.PrintWords Go.Proofs.YtkcadcoohmofcaaW.PrintLast Go.Proofs.YtkcadcoohmofcaaW.PrintMore Go.Proofs.Ytkcadcoohmofcaa.SqFnExactGroupOk
attribute [local go_sem] max2_int min2_int max_two min_two max_three min_three max_four min_four Go.Proofs.Ytkcadcoohmofcaa.Set.isSome_setCell
set_option linter.unusedVariables false
set_option linter.unusedSimpArgs false

-- squeezed
theorem u10_0 {P : Prop} (h : P := by repeat (first | (with_reducible first | exact HB.out | apply below_alloc | apply pw_below_drewN | apply below_drew1 | refine below_set ?_ GE196.out) | exact HB.out)) : P := h
theorem u10_1 {P : Prop} (h : P := by (with_reducible repeat (first | refine blk_drewN ?_ _ | refine blk_drew ?_ | refine blk_alloc ?_ _)); exact BK196.out) : P := h
theorem u10_2 {P : Prop} (h : P := by (try simp only [List.map_toArray, List.map_cons, List.map_nil]); first | done | rfl | (simp only [List.length_drop, List.length_take]; rfl)) : P := h
theorem u10_3 {P : Prop} (h : P := by first | (with_reducible assumption) | assumption) : P := h
theorem u10_4 {P : Prop} (h : P := by repeat (first | (with_reducible first | exact HB.out | apply below_alloc | apply pw_below_drewN | apply below_drew1) | exact HB.out)) : P := h
theorem u10_5 {P : Prop} (h : P := by first | rfl | (simp; done) | (simp [*]; done)) : P := h
/-! ### spec_GroupOk: function 44 -/
mutual
def spec_GroupOk.j0 : Nat → Bool → Int → List (S37) → List (S29) → Option (Bool)
 | 0, _, _, _, _ => none
 | k + 1, x22, x197000, x197001, x197002 => if x22 = true then (some false) else (spec_GroupOk.l0 k 0 x197000 x197001 x197002)
def spec_GroupOk.l0 : Nat → Int → Int → List (S37) → List (S29) → Option (Bool)
 | 0, _, _, _, _ => none
 | k + 1, x3, x197000, x197001, x197002 => if x3 < x197000 then (if 0 ≤ x3 then (if x3 < (x197001.length : Int) then (if ((rd_T37 x197001 x3).f0) = x3 then ((spec_NodeOk.f k ((rd_T37 x197001 x3).f0) ((rd_T37 x197001 x3).f1) ((rd_T37 x197001 x3).f2) ((rd_T37 x197001 x3).f3) ((rd_T37 x197001 x3).f4) ((rd_T37 x197001 x3).f5.f0) ((rd_T37 x197001 x3).f5.f1) ((rd_T37 x197001 x3).f5.f2) ((rd_T37 x197001 x3).f6) ((rd_T37 x197001 x3).f7) x197000).bind fun t200 => (if t200 = true then (spec_GroupOk.l0 k (wrap64 (x3 + 1)) x197000 x197001 x197002) else (some false))) else (some false)) else (none)) else (none)) else (spec_GroupOk.l1 k 0 x197000 x197001 x197002)
def spec_GroupOk.l1 : Nat → Int → Int → List (S37) → List (S29) → Option (Bool)
 | 0, _, _, _, _ => none
 | k + 1, x4, x197000, x197001, x197002 => if x4 < (x197002.length : Int) then (if 0 ≤ x4 then ((spec_MsgOk.f k ((rd_T29 x197002 x4).f0) ((rd_T29 x197002 x4).f1) ((rd_T29 x197002 x4).f2) ((rd_T29 x197002 x4).f3) ((rd_T29 x197002 x4).f4) ((rd_T29 x197002 x4).f5) ((rd_T29 x197002 x4).f6) ((rd_T29 x197002 x4).f7) ((rd_T29 x197002 x4).f8) x197000).bind fun t202 => (if t202 = true then (spec_GroupOk.l1 k (wrap64 (x4 + 1)) x197000 x197001 x197002) else (some false))) else (none)) else (some true)
end
def spec_GroupOk.f (k : Nat) (a0_0 : Int) (l0_1 : List (S37)) (l0_2 : List (S29)) : Option (Bool) := (spec_l07Size.f a0_0).bind fun t197 => (if t197 = true then (if (l0_1.length : Int) = a0_0 then (spec_GroupOk.j0 k (decide ((l0_2.length : Int) > 60)) a0_0 l0_1 l0_2) else (spec_GroupOk.j0 k true a0_0 l0_1 l0_2)) else (spec_GroupOk.j0 k true a0_0 l0_1 l0_2))
theorem spec_GroupOk.mono_l : ∀ k, (∀ y0 y1 y2 y3, LeO (spec_GroupOk.j0 k y0 y1 y2 y3) (spec_GroupOk.j0 (k + 1) y0 y1 y2 y3)) ∧ (∀ y0 y1 y2 y3, LeO (spec_GroupOk.l0 k y0 y1 y2 y3) (spec_GroupOk.l0 (k + 1) y0 y1 y2 y3)) ∧ (∀ y0 y1 y2 y3, LeO (spec_GroupOk.l1 k y0 y1 y2 y3) (spec_GroupOk.l1 (k + 1) y0 y1 y2 y3))
 | 0 => ⟨fun _ _ _ _ r h => by simp [spec_GroupOk.j0] at h, fun _ _ _ _ r h => by simp [spec_GroupOk.l0] at h, fun _ _ _ _ r h => by simp [spec_GroupOk.l1] at h⟩
 | k + 1 => by
   obtain ⟨ih0, ih1, ih2⟩ := spec_GroupOk.mono_l k
   refine ⟨?_, ?_, ?_⟩
   · intro y0 y1 y2 y3
     unfold spec_GroupOk.j0
     repeat' first
     | (with_reducible exact ih0 _ _ _ _)
     | (with_reducible exact ih1 _ _ _ _)
     | (with_reducible exact ih2 _ _ _ _)
     | (with_reducible exact spec_MsgOk.mono _ _ _ _ _ _ _ _ _ _ _)
     | (with_reducible exact spec_NodeOk.mono _ _ _ _ _ _ _ _ _ _ _ _)
     | (with_reducible exact LeO.refl _)
     | (with_reducible exact LeO.none _)
     | (with_reducible refine LeO.ite ?_ ?_)
     | (with_reducible refine LeO.bind ?_ (fun _ => ?_))
     | exact ih0 _ _ _ _
     | exact ih1 _ _ _ _
     | exact ih2 _ _ _ _
     | exact spec_MsgOk.mono _ _ _ _ _ _ _ _ _ _ _
     | exact spec_NodeOk.mono _ _ _ _ _ _ _ _ _ _ _ _
     | exact LeO.none _
     | refine LeO.ite ?_ ?_
     | refine LeO.bind ?_ (fun _ => ?_)
   · intro y0 y1 y2 y3
     unfold spec_GroupOk.l0
     repeat' first
     | (with_reducible exact ih0 _ _ _ _)
     | (with_reducible exact ih1 _ _ _ _)
     | (with_reducible exact ih2 _ _ _ _)
     | (with_reducible exact spec_MsgOk.mono _ _ _ _ _ _ _ _ _ _ _)
     | (with_reducible exact spec_NodeOk.mono _ _ _ _ _ _ _ _ _ _ _ _)
     | (with_reducible exact LeO.refl _)
     | (with_reducible exact LeO.none _)
     | (with_reducible refine LeO.ite ?_ ?_)
     | (with_reducible refine LeO.bind ?_ (fun _ => ?_))
     | exact ih0 _ _ _ _
     | exact ih1 _ _ _ _
     | exact ih2 _ _ _ _
     | exact spec_MsgOk.mono _ _ _ _ _ _ _ _ _ _ _
     | exact spec_NodeOk.mono _ _ _ _ _ _ _ _ _ _ _ _
     | exact LeO.none _
     | refine LeO.ite ?_ ?_
     | refine LeO.bind ?_ (fun _ => ?_)
   · intro y0 y1 y2 y3
     unfold spec_GroupOk.l1
     repeat' first
     | (with_reducible exact ih0 _ _ _ _)
     | (with_reducible exact ih1 _ _ _ _)
     | (with_reducible exact ih2 _ _ _ _)
     | (with_reducible exact spec_MsgOk.mono _ _ _ _ _ _ _ _ _ _ _)
     | (with_reducible exact spec_NodeOk.mono _ _ _ _ _ _ _ _ _ _ _ _)
     | (with_reducible exact LeO.refl _)
     | (with_reducible exact LeO.none _)
     | (with_reducible refine LeO.ite ?_ ?_)
     | (with_reducible refine LeO.bind ?_ (fun _ => ?_))
     | exact ih0 _ _ _ _
     | exact ih1 _ _ _ _
     | exact ih2 _ _ _ _
     | exact spec_MsgOk.mono _ _ _ _ _ _ _ _ _ _ _
     | exact spec_NodeOk.mono _ _ _ _ _ _ _ _ _ _ _ _
     | exact LeO.none _
     | refine LeO.ite ?_ ?_
     | refine LeO.bind ?_ (fun _ => ?_)
theorem spec_GroupOk.mono : ∀ a0 a1 a2 k, LeO (spec_GroupOk.f k a0 a1 a2) (spec_GroupOk.f (k + 1) a0 a1 a2) := by
 intro a0 a1 a2 k
 obtain ⟨ih0, ih1, ih2⟩ := spec_GroupOk.mono_l k
 unfold spec_GroupOk.f
 repeat' first
     | (with_reducible exact ih0 _ _ _ _)
     | (with_reducible exact ih1 _ _ _ _)
     | (with_reducible exact ih2 _ _ _ _)
     | (with_reducible exact spec_MsgOk.mono _ _ _ _ _ _ _ _ _ _ _)
     | (with_reducible exact spec_NodeOk.mono _ _ _ _ _ _ _ _ _ _ _ _)
     | (with_reducible exact LeO.refl _)
     | (with_reducible exact LeO.none _)
     | (with_reducible refine LeO.ite ?_ ?_)
     | (with_reducible refine LeO.bind ?_ (fun _ => ?_))
     | exact ih0 _ _ _ _
     | exact ih1 _ _ _ _
     | exact ih2 _ _ _ _
     | exact spec_MsgOk.mono _ _ _ _ _ _ _ _ _ _ _
     | exact spec_NodeOk.mono _ _ _ _ _ _ _ _ _ _ _ _
     | exact LeO.none _
     | refine LeO.ite ?_ ?_
     | refine LeO.bind ?_ (fun _ => ?_)
def spec_GroupOk.T6 : Bool × List (List Nat × List Nat) := (true, [([], []), ([0], [0]), ([], []), ([1, 2], [1, 2]), ([3], [3]), ([4], [4]), ([], []), ([5, 6], [5, 6]), ([7], [7]), ([8], [8]), ([9, 8], [8, 9]), ([8], [8]), ([10, 11, 8], [8, 10, 11]), ([12, 8], [8, 12]), ([8], [8]), ([14, 8], [8, 14]), ([13, 15, 8, 8], [8, 13, 15]), ([16, 8], [8, 16]), ([8, 17], [8, 17])])
def spec_GroupOk.B6 : List Nat := [0, 1, 0, 7, 15, 31, 0, 127, 255, 511, 1023, 511, 4095, 8191, 511, 16895, 65535, 131071, 262143]
theorem spec_GroupOk.tab6 : rtab .any (opsOf Try.f44 6) = spec_GroupOk.T6 := by kernel_rfl
theorem spec_GroupOk.bits6 : waitsOk spec_GroupOk.T6.2 spec_GroupOk.B6 = true := by kernel_rfl
def spec_GroupOk.T11 : Bool × List (List Nat × List Nat) := (true, [([], []), ([0], [0]), ([], []), ([1, 2], [1, 2]), ([3], [3]), ([], []), ([5], [5]), ([4, 6], [4, 6]), ([7], [7])])
def spec_GroupOk.B11 : List Nat := [0, 1, 0, 7, 15, 0, 32, 127, 255]
theorem spec_GroupOk.tab11 : rtab .any (opsOf Try.f44 11) = spec_GroupOk.T11 := by kernel_rfl
theorem spec_GroupOk.bits11 : waitsOk spec_GroupOk.T11.2 spec_GroupOk.B11 = true := by kernel_rfl
set_option maxHeartbeats 8000000 in
set_option maxRecDepth 100000 in
theorem spec_GroupOk.calls (k : Nat) (a0_0 : Int) (A0_1 : Option Addr) (c0_1 : Nat) (l0_1 : List (S37)) (A0_2 : Option Addr) (c0_2 : Nat) (l0_2 : List (S29)) (r : Bool) (w : World) (hr0_1 : Kd.C k37 w A0_1 l0_1.length l0_1) (hc0_1 : l0_1.length ≤ c0_1) (hr0_2 : Kd.C k29 w A0_2 l0_2.length l0_2) (hc0_2 : l0_2.length ≤ c0_2) (h : spec_GroupOk.f k a0_0 l0_1 l0_2 = some r) :
   Calls Try.prog 44 #[.agg #[.int .i64 a0_0, .slice A0_1 l0_1.length c0_1, .slice A0_2 l0_2.length c0_2]] w fun e w' => e = .returned (.bool r) ∧ Below w.heap.size w w' := by
 have hu53 := Try.underlying53
 have hu37 := Try.underlying37
 have hu29 := Try.underlying29
 have HR0_1 := am hr0_1
 have HC0_1 := am hc0_1
 clear hr0_1 hc0_1
 have HR0_2 := am hr0_2
 have HC0_2 := am hc0_2
 clear hr0_2 hc0_2
 have HB := am (Below.refl w.heap.size w)
 have H : ((spec_l07Size.f a0_0).bind fun t197 => (if t197 = true then (if (l0_1.length : Int) = a0_0 then (spec_GroupOk.j0 k (decide ((l0_2.length : Int) > 60)) a0_0 l0_1 l0_2) else (spec_GroupOk.j0 k true a0_0 l0_1 l0_2)) else (spec_GroupOk.j0 k true a0_0 l0_1 l0_2))) = some r := h
 clear h
 have HC2 := am H
 clear H
 go_enter Try.func44, Try.ntmps44
 go_upto_region 1 with (first | ((with_reducible refine gate_dst (N := 1) rfl ?_); (try (refine gate_guard (by rfl) ?_; dsimp only)); refine box_event ?hg (N := 1) ?hd (cs := #[.int .i64 a0_0, .slice A0_1 l0_1.length c0_1, .slice A0_2 l0_2.length c0_2]) (t := 53) ?hr ?_; (case hd => rfl); (case hg => rfl); (case hr => first | (go_simp; done) | (go_simp; rfl)); intro gb196 hg w3 hbox hb; have n0_ := am (below_step u10_4 hb); have n1_ := am (hbox); have n2_ := am ((by rw [hg]; exact (below_size u10_4) : w.heap.size ≤ gb196)); have n3_ := am ((by rw [hg]; exact (below_size u10_4) : w.heap.size ≤ gb196)); clear HB; have HB := n0_; have BK196 := n1_; have GW196 := n2_; have GE196 := n3_; clear n0_ n1_ n2_ n3_; clear hb hbox hg))
 (try simp only [Act.put, la, lb, lc])
 go_cut [22] (fun v22 wc => ∃ (kq : Nat) (x22_1 : Bool), v22 = .bool x22_1 ∧ Aside0 (spec_GroupOk.j0 kq x22_1 a0_0 l0_1 l0_2 = some r) ∧ Aside0 (kq ≤ k) ∧ Aside0 (wc.heap[gb196]? = some (.cells #[.int .i64 a0_0, (.slice A0_1 l0_1.length c0_1), (.slice A0_2 l0_2.length c0_2)] 53 (0, 0))) ∧ Aside0 (Below w.heap.size w wc))
 case first =>
   have H := HC2.out
   clear HC2
   replace H := Option.bind_eq_some_iff.mp H
   obtain ⟨t197, A40, H⟩ := H
   have A4 := am A40
   clear A40
   by_cases c5 : t197 = true
   rotate_left
   · replace c5 := Bool.eq_false_iff.mpr c5
     subst c5
     rw [if_neg (show ¬ (false = true) by decide)] at H
     have H' := am H
     clear H
     have hcz9_0 : w3.cell? ⟨gb196, 0, none⟩ = some (.int .i64 a0_0) := (blk_cell BK196.out 0).trans rfl
     have hcz9_1 : w3.cell? ⟨gb196, 1, none⟩ = some (.slice A0_1 l0_1.length c0_1) := (blk_cell BK196.out 1).trans rfl
     have hcz9_2 : w3.cell? ⟨gb196, 2, none⟩ = some (.slice A0_2 l0_2.length c0_2) := (blk_cell BK196.out 2).trans rfl
     go_wp2_with (first | ((with_reducible refine gate_callee (f := 62) rfl ?_); refine goesL_ (some 7) rfl rfl Try.func62 kr rfl #[.int .i64 a0_0] rfl u10_2 ?_; (with_reducible refine (spec_l07Size.calls a0_0 false _ A4.out).mono ?_); rintro e w' ⟨rfl, ⟨nd, rfl⟩⟩; refine ⟨_, rfl, ?_⟩))
     go_meet
     case rel => exact ⟨_, (true), u10_5, H', ⟨by first | omega | exact Nat.le_refl _⟩, ⟨u10_1⟩, ⟨u10_0⟩⟩
   subst c5
   rw [if_pos rfl] at H
   by_cases c6 : (l0_1.length : Int) = a0_0
   rotate_left
   · rw [if_neg c6] at H
     have c6b0 : ((l0_1.length : Int) == a0_0) = false := beq_eq_false_iff_ne.mpr c6
     have c6b1 : ((l0_1.length : Int) != a0_0) = true := bne_iff_ne.mpr c6
     (first | rw [c6b0] | (simp only [i64_w, i32_w]; rw [c6b0]) | skip)
     have H' := am H
     clear H
     have hcz8_0 : w3.cell? ⟨gb196, 0, none⟩ = some (.int .i64 a0_0) := (blk_cell BK196.out 0).trans rfl
     have hcz8_1 : w3.cell? ⟨gb196, 1, none⟩ = some (.slice A0_1 l0_1.length c0_1) := (blk_cell BK196.out 1).trans rfl
     have hcz8_2 : w3.cell? ⟨gb196, 2, none⟩ = some (.slice A0_2 l0_2.length c0_2) := (blk_cell BK196.out 2).trans rfl
     go_wp2_with (first | ((with_reducible refine gate_callee (f := 62) rfl ?_); refine goesL_ (some 7) rfl rfl Try.func62 kr rfl #[.int .i64 a0_0] rfl u10_2 ?_; (with_reducible refine (spec_l07Size.calls a0_0 true _ A4.out).mono ?_); rintro e w' ⟨rfl, ⟨nd, rfl⟩⟩; refine ⟨_, rfl, ?_⟩))
     go_meet
     case rel => exact ⟨_, (true), u10_5, H', ⟨by first | omega | exact Nat.le_refl _⟩, ⟨u10_1⟩, ⟨u10_0⟩⟩
   rw [if_pos c6] at H
   have c6b0 : ((l0_1.length : Int) == a0_0) = true := beq_iff_eq.mpr c6
   have c6b1 : ((l0_1.length : Int) != a0_0) = false := bne_eq_false_iff_eq.mpr c6
   clear c6
   (first | rw [c6b0] | (simp only [i64_w, i32_w]; rw [c6b0]) | skip)
   have H' := am H
   clear H
   have hcz7_0 : w3.cell? ⟨gb196, 0, none⟩ = some (.int .i64 a0_0) := (blk_cell BK196.out 0).trans rfl
   have hcz7_1 : w3.cell? ⟨gb196, 1, none⟩ = some (.slice A0_1 l0_1.length c0_1) := (blk_cell BK196.out 1).trans rfl
   have hcz7_2 : w3.cell? ⟨gb196, 2, none⟩ = some (.slice A0_2 l0_2.length c0_2) := (blk_cell BK196.out 2).trans rfl
   go_wp2_with (first | ((with_reducible refine gate_callee (f := 62) rfl ?_); refine goesL_ (some 7) rfl rfl Try.func62 kr rfl #[.int .i64 a0_0] rfl u10_2 ?_; (with_reducible refine (spec_l07Size.calls a0_0 true _ A4.out).mono ?_); rintro e w' ⟨rfl, ⟨nd, rfl⟩⟩; refine ⟨_, rfl, ?_⟩))
   go_meet
   case rel => exact ⟨_, (decide ((l0_2.length : Int) > 60)), u10_5, H', ⟨by first | omega | exact Nat.le_refl _⟩, ⟨u10_1⟩, ⟨u10_0⟩⟩
 clear HC2
 try clear p2
 try clear c4
 try clear c5
 try clear c6
 try clear c6b0
 try clear c6b1
 try clear hcz7_0
 try clear hcz7_1
 try clear hcz7_2
 try clear hcz8_0
 try clear hcz8_1
 try clear hcz8_2
 try clear hcz9_0
 try clear hcz9_1
 try clear hcz9_2
 obtain ⟨kq, x22_1, rfl, HA, HJ1, BK196, HB⟩ := hcut
 cases kq with
 | zero => exact absurd HA.out (by simp [spec_GroupOk.j0])
 | succ kj1 =>
   have H := HA.out
   clear HA
   simp only [spec_GroupOk.j0] at H
   by_cases c10 : x22_1 = true
   · subst c10
     rw [if_pos rfl] at H
     obtain rfl := Option.some.inj H
     go_wp2
     go_ret
     exact ⟨by first | rfl | (simp [errW_none, errW_some] <;> rfl) | (simp [*, errW_none, errW_some] <;> rfl), u10_0⟩
   replace c10 := Bool.eq_false_iff.mpr c10
   subst c10
   rw [if_neg (show ¬ (false = true) by decide)] at H
   have H' := am H
   clear H
   go_wp2
   go_loopg [3] kj1 (fun kq v3 w' => ∃ (x3_2 : Int), v3 = .int .i64 x3_2 ∧ Aside0 (spec_GroupOk.l0 kq x3_2 a0_0 l0_1 l0_2 = some r) ∧ Aside0 (kq ≤ kj1) ∧ Aside0 (w'.heap[gb196]? = some (.cells #[.int .i64 a0_0, (.slice A0_1 l0_1.length c0_1), (.slice A0_2 l0_2.length c0_2)] 53 (0, 0))) ∧ Aside0 (Below w.heap.size w w'))
   case atStart => exact ⟨(0), u10_5, H', ⟨Nat.le_refl _⟩, ⟨u10_1⟩, ⟨u10_0⟩⟩
   clear H'
   try clear c1
   try clear p2
   try clear c4
   try clear c5
   try clear c6
   try clear c6b0
   try clear c6b1
   try clear c10
   try clear hcz7_0
   try clear hcz7_1
   try clear hcz7_2
   try clear hcz8_0
   try clear hcz8_1
   try clear hcz8_2
   try clear hcz9_0
   try clear hcz9_1
   try clear hcz9_2
   try clear p2
   obtain ⟨x3_2, rfl, HA, HK2, BK196, HB⟩ := hrel
   cases gk with
   | zero => exact absurd HA.out (by simp [spec_GroupOk.l0])
   | succ k2 =>
     have H := HA.out
     clear HA
     simp only [spec_GroupOk.l0] at H
     by_cases c11 : x3_2 < a0_0
     rotate_left
     · rw [if_neg c11] at H
       have c11b0 : decide (x3_2 < a0_0) = false := decide_eq_false c11
       clear c11
       have H' := am H
       clear H
       have hcz22_0 : wr.cell? ⟨gb196, 0, none⟩ = some (.int .i64 a0_0) := (blk_cell BK196.out 0).trans rfl
       have hcz22_1 : wr.cell? ⟨gb196, 1, none⟩ = some (.slice A0_1 l0_1.length c0_1) := (blk_cell BK196.out 1).trans rfl
       have hcz22_2 : wr.cell? ⟨gb196, 2, none⟩ = some (.slice A0_2 l0_2.length c0_2) := (blk_cell BK196.out 2).trans rfl
       go_wp2
       go_loopg [4] k2 (fun kq v4 w' => ∃ (x4_3 : Int), v4 = .int .i64 x4_3 ∧ Aside0 (spec_GroupOk.l1 kq x4_3 a0_0 l0_1 l0_2 = some r) ∧ Aside0 (kq ≤ k2) ∧ Aside0 (w'.heap[gb196]? = some (.cells #[.int .i64 a0_0, (.slice A0_1 l0_1.length c0_1), (.slice A0_2 l0_2.length c0_2)] 53 (0, 0))) ∧ Aside0 (Below w.heap.size w w'))
       case atStart => exact ⟨(0), u10_5, H', ⟨Nat.le_refl _⟩, ⟨u10_1⟩, ⟨u10_0⟩⟩
       clear H'
       try clear c1
       try clear p1
       try clear q1
       try clear hx1
       try clear c2
       try clear p2
       try clear c4
       try clear c5
       try clear c6
       try clear c6b0
       try clear c6b1
       try clear p6
       try clear c10
       try clear c11
       try clear c11b0
       try clear c12
       try clear c12b0
       try clear c13
       try clear c13b0
       try clear c14
       try clear c14b0
       try clear c14b1
       try clear c19
       try clear p19
       try clear q19
       try clear hx19
       try clear hcz16_0
       try clear hcz16_1
       try clear hcz16_2
       try clear hcz20_0
       try clear hcz20_1
       try clear hcz20_2
       try clear hcz22_0
       try clear hcz22_1
       try clear hcz22_2
       try clear hcz7_0
       try clear hcz7_1
       try clear hcz7_2
       try clear hcz8_0
       try clear hcz8_1
       try clear hcz8_2
       try clear hcz9_0
       try clear hcz9_1
       try clear hcz9_2
       try clear hx198_0
       try clear hx198_1
       try clear hx198_2
       try clear hx198_3
       try clear hx198_4
       try clear hx198_5
       try clear hx198_6
       try clear hx198_7
       try clear hx198_8
       try clear hx198_9
       try clear hx199_0
       try clear hx199_1
       try clear hx199_2
       try clear hx199_3
       try clear hx199_4
       try clear hx199_5
       try clear hx199_6
       try clear hx199_7
       try clear hx199_8
       try clear hx199_9
       try clear p198
       try clear p199
       try clear p2
       try clear q198
       try clear q199
       obtain ⟨x4_3, rfl, HA, HK3, BK196, HB⟩ := hrel
       cases gk with
       | zero => exact absurd HA.out (by simp [spec_GroupOk.l1])
       | succ k3 =>
         have H := HA.out
         clear HA
         simp only [spec_GroupOk.l1] at H
         by_cases c23 : x4_3 < (l0_2.length : Int)
         rotate_left
         · rw [if_neg c23] at H
           have c23b0 : decide (x4_3 < (l0_2.length : Int)) = false := decide_eq_false c23
           clear c23
           obtain rfl := Option.some.inj H
           have hcz30_0 : wr.cell? ⟨gb196, 0, none⟩ = some (.int .i64 a0_0) := (blk_cell BK196.out 0).trans rfl
           have hcz30_1 : wr.cell? ⟨gb196, 1, none⟩ = some (.slice A0_1 l0_1.length c0_1) := (blk_cell BK196.out 1).trans rfl
           have hcz30_2 : wr.cell? ⟨gb196, 2, none⟩ = some (.slice A0_2 l0_2.length c0_2) := (blk_cell BK196.out 2).trans rfl
           go_wp2
           go_ret
           exact ⟨by first | rfl | (simp [errW_none, errW_some] <;> rfl) | (simp [*, errW_none, errW_some] <;> rfl), u10_0⟩
         rw [if_pos c23] at H
         have c23b0 : decide (x4_3 < (l0_2.length : Int)) = true := decide_eq_true c23
         clear c23
         by_cases c24 : 0 ≤ x4_3
         rotate_left
         · rw [if_neg c24] at H
           exact absurd H (by simp)
         rw [if_pos c24] at H
         have c24b0 : decide (0 ≤ x4_3) = true := decide_eq_true c24
         clear c24
         replace H := Option.bind_eq_some_iff.mp H
         obtain ⟨t202, A250, H⟩ := H
         have A25 := am A250
         clear A250
         have H9 := am H
         clear H
         have hcz26_0 : wr.cell? ⟨gb196, 0, none⟩ = some (.int .i64 a0_0) := (blk_cell BK196.out 0).trans rfl
         have hcz26_1 : wr.cell? ⟨gb196, 1, none⟩ = some (.slice A0_1 l0_1.length c0_1) := (blk_cell BK196.out 1).trans rfl
         have hcz26_2 : wr.cell? ⟨gb196, 2, none⟩ = some (.slice A0_2 l0_2.length c0_2) := (blk_cell BK196.out 2).trans rfl
         try go_wp2
         have n0_ := am (blk_drew BK196.out)
         have n1_ := am (below_drew1 HB.out)
         clear BK196
         clear HB
         have BK196 := n0_
         have HB := n1_
         clear n0_ n1_
         have p201 : 0 ≤ (x4_3 : Int) := of_decide_eq_true u10_3
         have q201 : x4_3 < (l0_2.length : Int) := of_decide_eq_true u10_3
         obtain ⟨ad201, A201_8, c201_8, e201, hx201_0, hx201_1, hx201_2, hx201_3, hx201_4, hx201_5, hx201_6, hx201_7, hx201_8, hl201_8, hi201_8⟩ := at_T29 HR0_2.out x4_3 p201 q201
         have hw201_8 := hx201_8
         have hw201_7 := hx201_7
         have hw201_6 := hx201_6
         have hw201_5 := hx201_5
         have hw201_4 := hx201_4
         have hw201_3 := hx201_3
         have hw201_2 := hx201_2
         have hw201_1 := hx201_1
         have hw201_0 := hx201_0
         cases e201
         replace hx201_0 := (HB.out.cell (World.block_lt_of_cell? w _ hx201_0)).trans hx201_0
         replace hx201_1 := (HB.out.cell (World.block_lt_of_cell? w _ hx201_1)).trans hx201_1
         replace hx201_2 := (HB.out.cell (World.block_lt_of_cell? w _ hx201_2)).trans hx201_2
         replace hx201_3 := (HB.out.cell (World.block_lt_of_cell? w _ hx201_3)).trans hx201_3
         replace hx201_4 := (HB.out.cell (World.block_lt_of_cell? w _ hx201_4)).trans hx201_4
         replace hx201_5 := (HB.out.cell (World.block_lt_of_cell? w _ hx201_5)).trans hx201_5
         replace hx201_6 := (HB.out.cell (World.block_lt_of_cell? w _ hx201_6)).trans hx201_6
         replace hx201_7 := (HB.out.cell (World.block_lt_of_cell? w _ hx201_7)).trans hx201_7
         replace hx201_8 := (HB.out.cell (World.block_lt_of_cell? w _ hx201_8)).trans hx201_8
         have HR201_8 := am hi201_8
         have HC201_8 := am hl201_8
         clear hi201_8 hl201_8
         replace p201 := eq_true p201
         replace q201 := eq_true q201
         refine start_ (n := 9) (S := fun w' => w'.cell? ⟨gb196, 0, none⟩ = some (.int .i64 a0_0) ∧ w'.cell? ⟨gb196, 1, none⟩ = some (.slice A0_1 l0_1.length c0_1) ∧ w'.cell? ⟨gb196, 2, none⟩ = some (.slice (some ad201) l0_2.length c0_2) ∧ w'.cell? (ad201.add ((x4_3).toNat * 9)) = some (.int .i64 ((rd_T29 l0_2 x4_3).f0)) ∧ w'.cell? ⟨(ad201.add ((x4_3).toNat * 9)).block, (ad201.add ((x4_3).toNat * 9)).off + 1, none⟩ = some (.int .i64 ((rd_T29 l0_2 x4_3).f1)) ∧ w'.cell? ⟨(ad201.add ((x4_3).toNat * 9)).block, (ad201.add ((x4_3).toNat * 9)).off + 2, none⟩ = some (.int .i64 ((rd_T29 l0_2 x4_3).f2)) ∧ w'.cell? ⟨(ad201.add ((x4_3).toNat * 9)).block, (ad201.add ((x4_3).toNat * 9)).off + 3, none⟩ = some (.int .i64 ((rd_T29 l0_2 x4_3).f3)) ∧ w'.cell? ⟨(ad201.add ((x4_3).toNat * 9)).block, (ad201.add ((x4_3).toNat * 9)).off + 4, none⟩ = some (.int .i64 ((rd_T29 l0_2 x4_3).f4)) ∧ w'.cell? ⟨(ad201.add ((x4_3).toNat * 9)).block, (ad201.add ((x4_3).toNat * 9)).off + 5, none⟩ = some (.int .i64 ((rd_T29 l0_2 x4_3).f5)) ∧ w'.cell? ⟨(ad201.add ((x4_3).toNat * 9)).block, (ad201.add ((x4_3).toNat * 9)).off + 6, none⟩ = some (.int .i64 ((rd_T29 l0_2 x4_3).f6)) ∧ w'.cell? ⟨(ad201.add ((x4_3).toNat * 9)).block, (ad201.add ((x4_3).toNat * 9)).off + 7, none⟩ = some (.bool ((rd_T29 l0_2 x4_3).f7)) ∧ w'.cell? ⟨(ad201.add ((x4_3).toNat * 9)).block, (ad201.add ((x4_3).toNat * 9)).off + 8, none⟩ = some (.slice A201_8 ((rd_T29 l0_2 x4_3).f8).length c201_8)) (ds := []) #[false, false, false, false, false, false, false, false, false] kr rfl rfl ⟨(blk_cell BK196.out 0).trans rfl, (blk_cell BK196.out 1).trans rfl, (blk_cell BK196.out 2).trans rfl, ((HB.out.cell (World.block_lt_of_cell? w _ hw201_0)).trans hw201_0), ((HB.out.cell (World.block_lt_of_cell? w _ hw201_1)).trans hw201_1), ((HB.out.cell (World.block_lt_of_cell? w _ hw201_2)).trans hw201_2), ((HB.out.cell (World.block_lt_of_cell? w _ hw201_3)).trans hw201_3), ((HB.out.cell (World.block_lt_of_cell? w _ hw201_4)).trans hw201_4), ((HB.out.cell (World.block_lt_of_cell? w _ hw201_5)).trans hw201_5), ((HB.out.cell (World.block_lt_of_cell? w _ hw201_6)).trans hw201_6), ((HB.out.cell (World.block_lt_of_cell? w _ hw201_7)).trans hw201_7), ((HB.out.cell (World.block_lt_of_cell? w _ hw201_8)).trans hw201_8)⟩ (fun hHeld => ?_); refine with_tabW spec_GroupOk.tab11 spec_GroupOk.bits11 (fun HT_ HW_ => ?_)
         generalize wr.drew = w27 at BK196 HB HR201_8 hx201_0 hx201_1 hx201_2 hx201_3 hx201_4 hx201_5 hx201_6 hx201_7 hx201_8 hHeld ⊢
         refine pure_ (i := 0) (N := some 55) (v := ?_) (a' := ?_) #[true, false, false, false, false, false, false, false, false] rfl rfl (any_of HT_.out kr) (fun _ _ _ h => h) (Or.inl ⟨by rfl, ?_⟩) ?_ ?_
         rotate_left; (intro w'; go_simp; with_reducible rfl); rotate_left; (simp only [Act.put, la, lb, lc, i64_w, i32_w]; rfl)
         refine pure_ (i := 2) (N := some 57) (v := ?_) (a' := ?_) #[true, false, true, false, false, false, false, false, false] rfl rfl (any_of HT_.out kr) (fun _ _ _ h => h) (Or.inl ⟨by rfl, ?_⟩) ?_ ?_
         rotate_left; (intro w'; go_simp; with_reducible rfl); rotate_left; (simp only [Act.put, la, lb, lc, i64_w, i32_w]; rfl)
         refine pure_ (i := 5) (N := some 60) (v := ?_) (a' := ?_) #[true, false, true, false, false, true, false, false, false] rfl rfl (any_of HT_.out kr) (fun _ _ _ h => h) (Or.inl ⟨by rfl, ?_⟩) ?_ ?_
         rotate_left; (intro w'; go_simp; with_reducible rfl); rotate_left; (simp only [Act.put, la, lb, lc, i64_w, i32_w]; rfl)
         refine take_ (i := 1) (N := some 56) (v := ?_) (a' := ?_) #[true, true, true, false, false, true, false, false, false] rfl rfl (take_ofW HT_.out HW_.out kr) (fun _ _ _ h => h) (Or.inl ⟨by rfl, ?_⟩) hHeld ?_ ?_
         rotate_left
         · rintro w' ⟨s0, s1, s2, s3, s4, s5, s6, s7, s8, s9, s10, s11⟩
           go_simp
           with_reducible rfl
         rotate_left
         · simp only [Act.put, la, lb, lc, i64_w, i32_w]
           rfl
         refine pure_ (i := 3) (N := some 58) (v := ?_) (a' := ?_) #[true, true, true, true, false, true, false, false, false] rfl rfl (any_of HT_.out kr) (fun _ _ _ h => h) (Or.inl ⟨by rfl, ?_⟩) ?_ ?_
         rotate_left; (intro w'; go_simp; with_reducible rfl); rotate_left; (simp only [Act.put, la, lb, lc, i64_w, i32_w]; rfl)
         refine take_ (i := 4) (N := some 59) (v := ?_) (a' := ?_) #[true, true, true, true, true, true, false, false, false] rfl rfl (take_ofW HT_.out HW_.out kr) (fun _ _ _ h => h) (Or.inl ⟨by rfl, ?_⟩) hHeld ?_ ?_
         rotate_left
         · rintro w' ⟨s0, s1, s2, s3, s4, s5, s6, s7, s8, s9, s10, s11⟩
           go_simp
           with_reducible rfl
         rotate_left
         · simp only [Act.put, la, lb, lc, i64_w, i32_w]
           rfl
         refine take_ (i := 6) (N := some 61) (v := ?_) (a' := ?_) #[true, true, true, true, true, true, true, false, false] rfl rfl (take_ofW HT_.out HW_.out kr) (fun _ _ _ h => h) (Or.inl ⟨by rfl, ?_⟩) hHeld ?_ ?_
         rotate_left
         · rintro w' ⟨s0, s1, s2, s3, s4, s5, s6, s7, s8, s9, s10, s11⟩
           go_simp
           with_reducible rfl
         rotate_left
         · simp only [Act.put, la, lb, lc, i64_w, i32_w]
           rfl
         refine one_ (i := 7) (N := some 62) #[true, true, true, true, true, true, true, true, false] rfl rfl (one_of HT_.out kr) (by decide) (fun K hK => ?_)
         refine goes_ Try.func16 kr rfl #[.agg #[.int .i64 ((rd_T29 l0_2 x4_3).f0), .int .i64 ((rd_T29 l0_2 x4_3).f1), .int .i64 ((rd_T29 l0_2 x4_3).f2), .int .i64 ((rd_T29 l0_2 x4_3).f3), .int .i64 ((rd_T29 l0_2 x4_3).f4), .int .i64 ((rd_T29 l0_2 x4_3).f5), .int .i64 ((rd_T29 l0_2 x4_3).f6), .bool ((rd_T29 l0_2 x4_3).f7), .slice A201_8 ((rd_T29 l0_2 x4_3).f8).length c201_8], .int .i64 a0_0] (by rfl) rfl rfl u10_2 ?_
         with_reducible refine (spec_MsgOk.calls k3 ((rd_T29 l0_2 x4_3).f0) ((rd_T29 l0_2 x4_3).f1) ((rd_T29 l0_2 x4_3).f2) ((rd_T29 l0_2 x4_3).f3) ((rd_T29 l0_2 x4_3).f4) ((rd_T29 l0_2 x4_3).f5) ((rd_T29 l0_2 x4_3).f6) ((rd_T29 l0_2 x4_3).f7) _ _ ((rd_T29 l0_2 x4_3).f8) a0_0 t202 _ ?side1 ?side2 A25.out).mono ?_
         (case side1 => exact (by repeat (first | exact (Kd.C_below HR201_8.out HB.out) | (with_reducible refine Kd.C_alloc ?_ _) | (with_reducible refine Kd.C_drewN ?_ _) | (with_reducible refine Kd.C_drew ?_))))
         (case side2 => exact HC201_8.out)
         rintro e w28 ⟨rfl, hb⟩
         refine ⟨_, rfl, ?_⟩
         have n0_ := am (blk_below (g := gb196) (o := .cells #[.int .i64 a0_0, .slice A0_1 l0_1.length c0_1, .slice (some ad201) l0_2.length c0_2] 53 (0, 0)) u10_1 hb)
         have n1_ := am (below_step u10_0 hb)
         clear BK196
         clear HB
         have BK196 := n0_
         have HB := n1_
         clear n0_ n1_
         (try clear hb)
         (try clear hb2)
         (try clear hk)
         (try clear hi)
         refine hK.out _ _ ⟨(blk_cell BK196.out 0).trans rfl, (blk_cell BK196.out 1).trans rfl, (blk_cell BK196.out 2).trans rfl, ((HB.out.cell (World.block_lt_of_cell? w _ hw201_0)).trans hw201_0), ((HB.out.cell (World.block_lt_of_cell? w _ hw201_1)).trans hw201_1), ((HB.out.cell (World.block_lt_of_cell? w _ hw201_2)).trans hw201_2), ((HB.out.cell (World.block_lt_of_cell? w _ hw201_3)).trans hw201_3), ((HB.out.cell (World.block_lt_of_cell? w _ hw201_4)).trans hw201_4), ((HB.out.cell (World.block_lt_of_cell? w _ hw201_5)).trans hw201_5), ((HB.out.cell (World.block_lt_of_cell? w _ hw201_6)).trans hw201_6), ((HB.out.cell (World.block_lt_of_cell? w _ hw201_7)).trans hw201_7), ((HB.out.cell (World.block_lt_of_cell? w _ hw201_8)).trans hw201_8)⟩ (fun hHeld => ?_)
         clear hK K
         refine norm_ (a' := ?_) ?_ ?_
         rotate_left
         · show Act.put _ (some 62) _ = _
           simp only [Act.put, la, lb, lc, i64_w, i32_w]
           rfl
         refine pure_ (i := 8) (N := some 63) (v := ?_) (a' := ?_) #[true, true, true, true, true, true, true, true, true] rfl rfl (any_of HT_.out kr) (fun _ _ _ h => h) (Or.inl ⟨by rfl, ?_⟩) ?_ ?_
         rotate_left; (intro w'; go_simp; with_reducible rfl); rotate_left; (simp only [Act.put, la, lb, lc, i64_w, i32_w]; rfl)
         refine done_ (done_of HT_.out kr) ?_
         go_upto_if 63 with (fail)
         have H := H9.out
         clear H9
         by_cases c29 : t202 = true
         rotate_left
         · replace c29 := Bool.eq_false_iff.mpr c29
           subst c29
           rw [if_neg (show ¬ (false = true) by decide)] at H
           obtain rfl := Option.some.inj H
           go_wp2
           go_ret
           exact ⟨by first | rfl | (simp [errW_none, errW_some] <;> rfl) | (simp [*, errW_none, errW_some] <;> rfl), u10_0⟩
         subst c29
         rw [if_pos rfl] at H
         have H' := am H
         clear H
         go_wp2
         go_roundg k3
         case measure => have := HJ1.out; have := HK2.out; have := HK3.out; omega
         case rel => exact ⟨(wrap64 (x4_3 + 1)), u10_5, H', ⟨(by have := HJ1.out; have := HK2.out; have := HK3.out; omega)⟩, ⟨u10_1⟩, ⟨u10_0⟩⟩
     rw [if_pos c11] at H
     have c11b0 : decide (x3_2 < a0_0) = true := decide_eq_true c11
     clear c11
     by_cases c12 : 0 ≤ x3_2
     rotate_left
     · rw [if_neg c12] at H
       exact absurd H (by simp)
     rw [if_pos c12] at H
     have c12b0 : decide (0 ≤ x3_2) = true := decide_eq_true c12
     clear c12
     by_cases c13 : x3_2 < (l0_1.length : Int)
     rotate_left
     · rw [if_neg c13] at H
       exact absurd H (by simp)
     rw [if_pos c13] at H
     have c13b0 : decide (x3_2 < (l0_1.length : Int)) = true := decide_eq_true c13
     clear c13
     by_cases c14 : ((rd_T37 l0_1 x3_2).f0) = x3_2
     rotate_left
     · rw [if_neg c14] at H
       have c14b0 : (((rd_T37 l0_1 x3_2).f0) == x3_2) = false := beq_eq_false_iff_ne.mpr c14
       have c14b1 : (((rd_T37 l0_1 x3_2).f0) != x3_2) = true := bne_iff_ne.mpr c14
       obtain rfl := Option.some.inj H
       have hcz20_0 : wr.cell? ⟨gb196, 0, none⟩ = some (.int .i64 a0_0) := (blk_cell BK196.out 0).trans rfl
       have hcz20_1 : wr.cell? ⟨gb196, 1, none⟩ = some (.slice A0_1 l0_1.length c0_1) := (blk_cell BK196.out 1).trans rfl
       have hcz20_2 : wr.cell? ⟨gb196, 2, none⟩ = some (.slice A0_2 l0_2.length c0_2) := (blk_cell BK196.out 2).trans rfl
       try go_wp2
       have n0_ := am (blk_drew BK196.out)
       have n1_ := am (below_drew1 HB.out)
       clear BK196
       clear HB
       have BK196 := n0_
       have HB := n1_
       clear n0_ n1_
       have p198 : 0 ≤ (x3_2 : Int) := of_decide_eq_true u10_3
       have q198 : x3_2 < (l0_1.length : Int) := of_decide_eq_true u10_3
       obtain ⟨ad198, A198_7, c198_7, A198_8, c198_8, A198_9, c198_9, e198, hx198_0, hx198_1, hx198_2, hx198_3, hx198_4, hx198_5, hx198_6, hx198_7, hx198_8, hx198_9, hl198_7, hi198_7, hl198_8, hi198_8, hl198_9, hi198_9⟩ := at_T37 HR0_1.out x3_2 p198 q198
       have hw198_9 := hx198_9
       have hw198_8 := hx198_8
       have hw198_7 := hx198_7
       have hw198_6 := hx198_6
       have hw198_5 := hx198_5
       have hw198_4 := hx198_4
       have hw198_3 := hx198_3
       have hw198_2 := hx198_2
       have hw198_1 := hx198_1
       have hw198_0 := hx198_0
       cases e198
       replace hx198_0 := (HB.out.cell (World.block_lt_of_cell? w _ hx198_0)).trans hx198_0
       replace hx198_1 := (HB.out.cell (World.block_lt_of_cell? w _ hx198_1)).trans hx198_1
       replace hx198_2 := (HB.out.cell (World.block_lt_of_cell? w _ hx198_2)).trans hx198_2
       replace hx198_3 := (HB.out.cell (World.block_lt_of_cell? w _ hx198_3)).trans hx198_3
       replace hx198_4 := (HB.out.cell (World.block_lt_of_cell? w _ hx198_4)).trans hx198_4
       replace hx198_5 := (HB.out.cell (World.block_lt_of_cell? w _ hx198_5)).trans hx198_5
       replace hx198_6 := (HB.out.cell (World.block_lt_of_cell? w _ hx198_6)).trans hx198_6
       replace hx198_7 := (HB.out.cell (World.block_lt_of_cell? w _ hx198_7)).trans hx198_7
       replace hx198_8 := (HB.out.cell (World.block_lt_of_cell? w _ hx198_8)).trans hx198_8
       replace hx198_9 := (HB.out.cell (World.block_lt_of_cell? w _ hx198_9)).trans hx198_9
       have HR198_7 := am hi198_7
       have HC198_7 := am hl198_7
       clear hi198_7 hl198_7
       have HR198_8 := am hi198_8
       have HC198_8 := am hl198_8
       clear hi198_8 hl198_8
       have HR198_9 := am hi198_9
       have HC198_9 := am hl198_9
       clear hi198_9 hl198_9
       replace p198 := eq_true p198
       replace q198 := eq_true q198
       refine start_ (n := 19) (S := fun w' => w'.cell? ⟨gb196, 0, none⟩ = some (.int .i64 a0_0) ∧ w'.cell? ⟨gb196, 1, none⟩ = some (.slice (some ad198) l0_1.length c0_1) ∧ w'.cell? ⟨gb196, 2, none⟩ = some (.slice A0_2 l0_2.length c0_2) ∧ w'.cell? (ad198.add ((x3_2).toNat * 10)) = some (.int .i64 ((rd_T37 l0_1 x3_2).f0)) ∧ w'.cell? ⟨(ad198.add ((x3_2).toNat * 10)).block, (ad198.add ((x3_2).toNat * 10)).off + 1, none⟩ = some (.int .i64 ((rd_T37 l0_1 x3_2).f1)) ∧ w'.cell? ⟨(ad198.add ((x3_2).toNat * 10)).block, (ad198.add ((x3_2).toNat * 10)).off + 2, none⟩ = some (.int .i64 ((rd_T37 l0_1 x3_2).f2)) ∧ w'.cell? ⟨(ad198.add ((x3_2).toNat * 10)).block, (ad198.add ((x3_2).toNat * 10)).off + 3, none⟩ = some (.int .i64 ((rd_T37 l0_1 x3_2).f3)) ∧ w'.cell? ⟨(ad198.add ((x3_2).toNat * 10)).block, (ad198.add ((x3_2).toNat * 10)).off + 4, none⟩ = some (.int .i64 ((rd_T37 l0_1 x3_2).f4)) ∧ w'.cell? ⟨(ad198.add ((x3_2).toNat * 10)).block, (ad198.add ((x3_2).toNat * 10)).off + 5, none⟩ = some (.int .i64 ((rd_T37 l0_1 x3_2).f5.f0)) ∧ w'.cell? ⟨(ad198.add ((x3_2).toNat * 10)).block, (ad198.add ((x3_2).toNat * 10)).off + 6, none⟩ = some (.int .i64 ((rd_T37 l0_1 x3_2).f5.f1)) ∧ w'.cell? ⟨(ad198.add ((x3_2).toNat * 10)).block, (ad198.add ((x3_2).toNat * 10)).off + 7, none⟩ = some (.slice A198_7 ((rd_T37 l0_1 x3_2).f5.f2).length c198_7) ∧ w'.cell? ⟨(ad198.add ((x3_2).toNat * 10)).block, (ad198.add ((x3_2).toNat * 10)).off + 8, none⟩ = some (.slice A198_8 ((rd_T37 l0_1 x3_2).f6).length c198_8) ∧ w'.cell? ⟨(ad198.add ((x3_2).toNat * 10)).block, (ad198.add ((x3_2).toNat * 10)).off + 9, none⟩ = some (.slice A198_9 ((rd_T37 l0_1 x3_2).f7).length c198_9)) (ds := []) #[false, false, false, false, false, false, false, false, false, false, false, false, false, false, false, false, false, false, false] kr rfl rfl ⟨(blk_cell BK196.out 0).trans rfl, (blk_cell BK196.out 1).trans rfl, (blk_cell BK196.out 2).trans rfl, ((HB.out.cell (World.block_lt_of_cell? w _ hw198_0)).trans hw198_0), ((HB.out.cell (World.block_lt_of_cell? w _ hw198_1)).trans hw198_1), ((HB.out.cell (World.block_lt_of_cell? w _ hw198_2)).trans hw198_2), ((HB.out.cell (World.block_lt_of_cell? w _ hw198_3)).trans hw198_3), ((HB.out.cell (World.block_lt_of_cell? w _ hw198_4)).trans hw198_4), ((HB.out.cell (World.block_lt_of_cell? w _ hw198_5)).trans hw198_5), ((HB.out.cell (World.block_lt_of_cell? w _ hw198_6)).trans hw198_6), ((HB.out.cell (World.block_lt_of_cell? w _ hw198_7)).trans hw198_7), ((HB.out.cell (World.block_lt_of_cell? w _ hw198_8)).trans hw198_8), ((HB.out.cell (World.block_lt_of_cell? w _ hw198_9)).trans hw198_9)⟩ (fun hHeld => ?_); refine with_tabW spec_GroupOk.tab6 spec_GroupOk.bits6 (fun HT_ HW_ => ?_)
       generalize wr.drew = w21 at BK196 HB HR198_7 HR198_8 HR198_9 hx198_0 hx198_1 hx198_2 hx198_3 hx198_4 hx198_5 hx198_6 hx198_7 hx198_8 hx198_9 hHeld ⊢
       refine pure_ (i := 0) (N := some 29) (v := ?_) (a' := ?_) #[true, false, false, false, false, false, false, false, false, false, false, false, false, false, false, false, false, false, false] rfl rfl (any_of HT_.out kr) (fun _ _ _ h => h) (Or.inl ⟨by rfl, ?_⟩) ?_ ?_
       rotate_left; (intro w'; go_simp; with_reducible rfl); rotate_left; (simp only [Act.put, la, lb, lc, i64_w, i32_w]; rfl)
       refine pure_ (i := 2) (N := some 31) (v := ?_) (a' := ?_) #[true, false, true, false, false, false, false, false, false, false, false, false, false, false, false, false, false, false, false] rfl rfl (any_of HT_.out kr) (fun _ _ _ h => h) (Or.inl ⟨by rfl, ?_⟩) ?_ ?_
       rotate_left; (intro w'; go_simp; with_reducible rfl); rotate_left; (simp only [Act.put, la, lb, lc, i64_w, i32_w]; rfl)
       refine pure_ (i := 6) (N := some 35) (v := ?_) (a' := ?_) #[true, false, true, false, false, false, true, false, false, false, false, false, false, false, false, false, false, false, false] rfl rfl (any_of HT_.out kr) (fun _ _ _ h => h) (Or.inl ⟨by rfl, ?_⟩) ?_ ?_
       rotate_left; (intro w'; go_simp; with_reducible rfl); rotate_left; (simp only [Act.put, la, lb, lc, i64_w, i32_w]; rfl)
       refine take_ (i := 1) (N := some 30) (v := ?_) (a' := ?_) #[true, true, true, false, false, false, true, false, false, false, false, false, false, false, false, false, false, false, false] rfl rfl (take_ofW HT_.out HW_.out kr) (fun _ _ _ h => h) (Or.inl ⟨by rfl, ?_⟩) hHeld ?_ ?_
       rotate_left
       · rintro w' ⟨s0, s1, s2, s3, s4, s5, s6, s7, s8, s9, s10, s11, s12⟩
         go_simp
         with_reducible rfl
       rotate_left
       · simp only [Act.put, la, lb, lc, i64_w, i32_w]
         rfl
       refine pure_ (i := 3) (N := some 32) (v := ?_) (a' := ?_) #[true, true, true, true, false, false, true, false, false, false, false, false, false, false, false, false, false, false, false] rfl rfl (any_of HT_.out kr) (fun _ _ _ h => h) (Or.inl ⟨by rfl, ?_⟩) ?_ ?_
       rotate_left; (intro w'; go_simp; with_reducible rfl); rotate_left; (simp only [Act.put, la, lb, lc, i64_w, i32_w]; rfl)
       refine pure_ (i := 4) (N := some 33) (v := ?_) (a' := ?_) #[true, true, true, true, true, false, true, false, false, false, false, false, false, false, false, false, false, false, false] rfl rfl (any_of HT_.out kr) (fun _ _ _ h => h) (Or.inl ⟨by rfl, ?_⟩) ?_ ?_
       rotate_left; (intro w'; go_simp; with_reducible rfl); rotate_left; (simp only [Act.put, la, lb, lc, i64_w, i32_w]; rfl)
       refine take_ (i := 5) (N := some 34) (v := ?_) (a' := ?_) #[true, true, true, true, true, true, true, false, false, false, false, false, false, false, false, false, false, false, false] rfl rfl (take_ofW HT_.out HW_.out kr) (fun _ _ _ h => h) (Or.inl ⟨by rfl, ?_⟩) hHeld ?_ ?_
       rotate_left
       · rintro w' ⟨s0, s1, s2, s3, s4, s5, s6, s7, s8, s9, s10, s11, s12⟩
         go_simp
         with_reducible rfl
       rotate_left
       · simp only [Act.put, la, lb, lc, i64_w, i32_w]
         rfl
       refine pure_ (i := 7) (N := some 36) (v := ?_) (a' := ?_) #[true, true, true, true, true, true, true, true, false, false, false, false, false, false, false, false, false, false, false] rfl rfl (any_of HT_.out kr) (fun _ _ _ h => h) (Or.inl ⟨by rfl, ?_⟩) ?_ ?_
       rotate_left; (intro w'; go_simp; with_reducible rfl); rotate_left; (simp only [Act.put, la, lb, lc, i64_w, i32_w]; rfl)
       refine pure_ (i := 8) (N := some 37) (v := ?_) (a' := ?_) #[true, true, true, true, true, true, true, true, true, false, false, false, false, false, false, false, false, false, false] rfl rfl (any_of HT_.out kr) (fun _ _ _ h => h) (Or.inl ⟨by rfl, ?_⟩) ?_ ?_
       rotate_left; (intro w'; go_simp; with_reducible rfl); rotate_left; (simp only [Act.put, la, lb, lc, i64_w, i32_w]; rfl)
       refine pure_ (i := 9) (N := some 38) (v := undef) (a' := ?_) #[true, true, true, true, true, true, true, true, true, true, false, false, false, false, false, false, false, false, false] rfl rfl (any_of HT_.out kr) (fun _ _ _ h => h) (Or.inr ⟨by rfl, rfl⟩) ?_ ?_
       rotate_left
       · simp only [Act.put, la, lb, lc, i64_w, i32_w]
         rfl
       refine pure_ (i := 10) (N := some 39) (v := undef) (a' := ?_) #[true, true, true, true, true, true, true, true, true, true, true, false, false, false, false, false, false, false, false] rfl rfl (any_of HT_.out kr) (fun _ _ _ h => h) (Or.inr ⟨by rfl, rfl⟩) ?_ ?_
       rotate_left
       · simp only [Act.put, la, lb, lc, i64_w, i32_w]
         rfl
       refine pure_ (i := 11) (N := some 40) (v := undef) (a' := ?_) #[true, true, true, true, true, true, true, true, true, true, true, true, false, false, false, false, false, false, false] rfl rfl (any_of HT_.out kr) (fun _ _ _ h => h) (Or.inr ⟨by rfl, rfl⟩) ?_ ?_
       rotate_left
       · simp only [Act.put, la, lb, lc, i64_w, i32_w]
         rfl
       refine pure_ (i := 12) (N := some 41) (v := undef) (a' := ?_) #[true, true, true, true, true, true, true, true, true, true, true, true, true, false, false, false, false, false, false] rfl rfl (any_of HT_.out kr) (fun _ _ _ h => h) (Or.inr ⟨by rfl, rfl⟩) ?_ ?_
       rotate_left
       · simp only [Act.put, la, lb, lc, i64_w, i32_w]
         rfl
       refine pure_ (i := 13) (N := some 42) (v := undef) (a' := ?_) #[true, true, true, true, true, true, true, true, true, true, true, true, true, true, false, false, false, false, false] rfl rfl (any_of HT_.out kr) (fun _ _ _ h => h) (Or.inr ⟨by rfl, rfl⟩) ?_ ?_
       rotate_left
       · simp only [Act.put, la, lb, lc, i64_w, i32_w]
         rfl
       refine pure_ (i := 14) (N := some 43) (v := undef) (a' := ?_) #[true, true, true, true, true, true, true, true, true, true, true, true, true, true, true, false, false, false, false] rfl rfl (any_of HT_.out kr) (fun _ _ _ h => h) (Or.inr ⟨by rfl, rfl⟩) ?_ ?_
       rotate_left
       · simp only [Act.put, la, lb, lc, i64_w, i32_w]
         rfl
       refine pure_ (i := 15) (N := some 44) (v := undef) (a' := ?_) #[true, true, true, true, true, true, true, true, true, true, true, true, true, true, true, true, false, false, false] rfl rfl (any_of HT_.out kr) (fun _ _ _ h => h) (Or.inr ⟨by rfl, rfl⟩) ?_ ?_
       rotate_left
       · simp only [Act.put, la, lb, lc, i64_w, i32_w]
         rfl
       refine pure_ (i := 16) (N := some 45) (v := undef) (a' := ?_) #[true, true, true, true, true, true, true, true, true, true, true, true, true, true, true, true, true, false, false] rfl rfl (any_of HT_.out kr) (fun _ _ _ h => h) (Or.inr ⟨by rfl, rfl⟩) ?_ ?_
       rotate_left
       · simp only [Act.put, la, lb, lc, i64_w, i32_w]
         rfl
       refine pure_ (i := 17) (N := some 46) (v := undef) (a' := ?_) #[true, true, true, true, true, true, true, true, true, true, true, true, true, true, true, true, true, true, false] rfl rfl (any_of HT_.out kr) (fun _ _ _ h => h) (Or.inr ⟨by rfl, rfl⟩) ?_ ?_
       rotate_left
       · simp only [Act.put, la, lb, lc, i64_w, i32_w]
         rfl
       refine pure_ (i := 18) (N := some 47) (v := ?_) (a' := ?_) #[true, true, true, true, true, true, true, true, true, true, true, true, true, true, true, true, true, true, true] rfl rfl (any_of HT_.out kr) (fun _ _ _ h => h) (Or.inl ⟨by rfl, ?_⟩) ?_ ?_
       rotate_left; (intro w'; go_simp; with_reducible rfl); rotate_left; (simp only [Act.put, la, lb, lc, i64_w, i32_w]; rfl)
       refine done_ (done_of HT_.out kr) ?_
       try go_wp2
       go_ret
       exact ⟨by first | rfl | (simp [errW_none, errW_some] <;> rfl) | (simp [*, errW_none, errW_some] <;> rfl), u10_0⟩
     rw [if_pos c14] at H
     have c14b0 : (((rd_T37 l0_1 x3_2).f0) == x3_2) = true := beq_iff_eq.mpr c14
     have c14b1 : (((rd_T37 l0_1 x3_2).f0) != x3_2) = false := bne_eq_false_iff_eq.mpr c14
     clear c14
     replace H := Option.bind_eq_some_iff.mp H
     obtain ⟨t200, A150, H⟩ := H
     have A15 := am A150
     clear A150
     have H9 := am H
     clear H
     have hcz16_0 : wr.cell? ⟨gb196, 0, none⟩ = some (.int .i64 a0_0) := (blk_cell BK196.out 0).trans rfl
     have hcz16_1 : wr.cell? ⟨gb196, 1, none⟩ = some (.slice A0_1 l0_1.length c0_1) := (blk_cell BK196.out 1).trans rfl
     have hcz16_2 : wr.cell? ⟨gb196, 2, none⟩ = some (.slice A0_2 l0_2.length c0_2) := (blk_cell BK196.out 2).trans rfl
     try go_wp2
     have n0_ := am (blk_drew BK196.out)
     have n1_ := am (below_drew1 HB.out)
     clear BK196
     clear HB
     have BK196 := n0_
     have HB := n1_
     clear n0_ n1_
     have p198 : 0 ≤ (x3_2 : Int) := of_decide_eq_true u10_3
     have q198 : x3_2 < (l0_1.length : Int) := of_decide_eq_true u10_3
     obtain ⟨ad198, A198_7, c198_7, A198_8, c198_8, A198_9, c198_9, e198, hx198_0, hx198_1, hx198_2, hx198_3, hx198_4, hx198_5, hx198_6, hx198_7, hx198_8, hx198_9, hl198_7, hi198_7, hl198_8, hi198_8, hl198_9, hi198_9⟩ := at_T37 HR0_1.out x3_2 p198 q198
     have hw198_9 := hx198_9
     have hw198_8 := hx198_8
     have hw198_7 := hx198_7
     have hw198_6 := hx198_6
     have hw198_5 := hx198_5
     have hw198_4 := hx198_4
     have hw198_3 := hx198_3
     have hw198_2 := hx198_2
     have hw198_1 := hx198_1
     have hw198_0 := hx198_0
     cases e198
     replace hx198_0 := (HB.out.cell (World.block_lt_of_cell? w _ hx198_0)).trans hx198_0
     replace hx198_1 := (HB.out.cell (World.block_lt_of_cell? w _ hx198_1)).trans hx198_1
     replace hx198_2 := (HB.out.cell (World.block_lt_of_cell? w _ hx198_2)).trans hx198_2
     replace hx198_3 := (HB.out.cell (World.block_lt_of_cell? w _ hx198_3)).trans hx198_3
     replace hx198_4 := (HB.out.cell (World.block_lt_of_cell? w _ hx198_4)).trans hx198_4
     replace hx198_5 := (HB.out.cell (World.block_lt_of_cell? w _ hx198_5)).trans hx198_5
     replace hx198_6 := (HB.out.cell (World.block_lt_of_cell? w _ hx198_6)).trans hx198_6
     replace hx198_7 := (HB.out.cell (World.block_lt_of_cell? w _ hx198_7)).trans hx198_7
     replace hx198_8 := (HB.out.cell (World.block_lt_of_cell? w _ hx198_8)).trans hx198_8
     replace hx198_9 := (HB.out.cell (World.block_lt_of_cell? w _ hx198_9)).trans hx198_9
     have HR198_7 := am hi198_7
     have HC198_7 := am hl198_7
     clear hi198_7 hl198_7
     have HR198_8 := am hi198_8
     have HC198_8 := am hl198_8
     clear hi198_8 hl198_8
     have HR198_9 := am hi198_9
     have HC198_9 := am hl198_9
     clear hi198_9 hl198_9
     replace p198 := eq_true p198
     replace q198 := eq_true q198
     have p199 : 0 ≤ (x3_2 : Int) := of_decide_eq_true u10_3
     have q199 : x3_2 < (l0_1.length : Int) := of_decide_eq_true u10_3
     obtain ⟨ad199, A199_7, c199_7, A199_8, c199_8, A199_9, c199_9, e199, hx199_0, hx199_1, hx199_2, hx199_3, hx199_4, hx199_5, hx199_6, hx199_7, hx199_8, hx199_9, hl199_7, hi199_7, hl199_8, hi199_8, hl199_9, hi199_9⟩ := at_T37 HR0_1.out x3_2 p199 q199
     have hw199_9 := hx199_9
     have hw199_8 := hx199_8
     have hw199_7 := hx199_7
     have hw199_6 := hx199_6
     have hw199_5 := hx199_5
     have hw199_4 := hx199_4
     have hw199_3 := hx199_3
     have hw199_2 := hx199_2
     have hw199_1 := hx199_1
     have hw199_0 := hx199_0
     obtain rfl : ad198 = ad199 := (by injection e199)
     replace hx199_0 := (HB.out.cell (World.block_lt_of_cell? w _ hx199_0)).trans hx199_0
     replace hx199_1 := (HB.out.cell (World.block_lt_of_cell? w _ hx199_1)).trans hx199_1
     replace hx199_2 := (HB.out.cell (World.block_lt_of_cell? w _ hx199_2)).trans hx199_2
     replace hx199_3 := (HB.out.cell (World.block_lt_of_cell? w _ hx199_3)).trans hx199_3
     replace hx199_4 := (HB.out.cell (World.block_lt_of_cell? w _ hx199_4)).trans hx199_4
     replace hx199_5 := (HB.out.cell (World.block_lt_of_cell? w _ hx199_5)).trans hx199_5
     replace hx199_6 := (HB.out.cell (World.block_lt_of_cell? w _ hx199_6)).trans hx199_6
     replace hx199_7 := (HB.out.cell (World.block_lt_of_cell? w _ hx199_7)).trans hx199_7
     replace hx199_8 := (HB.out.cell (World.block_lt_of_cell? w _ hx199_8)).trans hx199_8
     replace hx199_9 := (HB.out.cell (World.block_lt_of_cell? w _ hx199_9)).trans hx199_9
     have HR199_7 := am hi199_7
     have HC199_7 := am hl199_7
     clear hi199_7 hl199_7
     have HR199_8 := am hi199_8
     have HC199_8 := am hl199_8
     clear hi199_8 hl199_8
     have HR199_9 := am hi199_9
     have HC199_9 := am hl199_9
     clear hi199_9 hl199_9
     replace p199 := eq_true p199
     replace q199 := eq_true q199
     have ea_ := Option.some.inj (hx198_7.symm.trans hx199_7)
     injection ea_ with ea_ en_ ec_
     subst ea_
     subst ec_
     clear en_
     have ea_ := Option.some.inj (hx198_8.symm.trans hx199_8)
     injection ea_ with ea_ en_ ec_
     subst ea_
     subst ec_
     clear en_
     have ea_ := Option.some.inj (hx198_9.symm.trans hx199_9)
     injection ea_ with ea_ en_ ec_
     subst ea_
     subst ec_
     clear en_
     refine start_ (n := 19) (S := fun w' => w'.cell? ⟨gb196, 0, none⟩ = some (.int .i64 a0_0) ∧ w'.cell? ⟨gb196, 1, none⟩ = some (.slice (some ad198) l0_1.length c0_1) ∧ w'.cell? ⟨gb196, 2, none⟩ = some (.slice A0_2 l0_2.length c0_2) ∧ w'.cell? (ad198.add ((x3_2).toNat * 10)) = some (.int .i64 ((rd_T37 l0_1 x3_2).f0)) ∧ w'.cell? ⟨(ad198.add ((x3_2).toNat * 10)).block, (ad198.add ((x3_2).toNat * 10)).off + 1, none⟩ = some (.int .i64 ((rd_T37 l0_1 x3_2).f1)) ∧ w'.cell? ⟨(ad198.add ((x3_2).toNat * 10)).block, (ad198.add ((x3_2).toNat * 10)).off + 2, none⟩ = some (.int .i64 ((rd_T37 l0_1 x3_2).f2)) ∧ w'.cell? ⟨(ad198.add ((x3_2).toNat * 10)).block, (ad198.add ((x3_2).toNat * 10)).off + 3, none⟩ = some (.int .i64 ((rd_T37 l0_1 x3_2).f3)) ∧ w'.cell? ⟨(ad198.add ((x3_2).toNat * 10)).block, (ad198.add ((x3_2).toNat * 10)).off + 4, none⟩ = some (.int .i64 ((rd_T37 l0_1 x3_2).f4)) ∧ w'.cell? ⟨(ad198.add ((x3_2).toNat * 10)).block, (ad198.add ((x3_2).toNat * 10)).off + 5, none⟩ = some (.int .i64 ((rd_T37 l0_1 x3_2).f5.f0)) ∧ w'.cell? ⟨(ad198.add ((x3_2).toNat * 10)).block, (ad198.add ((x3_2).toNat * 10)).off + 6, none⟩ = some (.int .i64 ((rd_T37 l0_1 x3_2).f5.f1)) ∧ w'.cell? ⟨(ad198.add ((x3_2).toNat * 10)).block, (ad198.add ((x3_2).toNat * 10)).off + 7, none⟩ = some (.slice A198_7 ((rd_T37 l0_1 x3_2).f5.f2).length c198_7) ∧ w'.cell? ⟨(ad198.add ((x3_2).toNat * 10)).block, (ad198.add ((x3_2).toNat * 10)).off + 8, none⟩ = some (.slice A198_8 ((rd_T37 l0_1 x3_2).f6).length c198_8) ∧ w'.cell? ⟨(ad198.add ((x3_2).toNat * 10)).block, (ad198.add ((x3_2).toNat * 10)).off + 9, none⟩ = some (.slice A198_9 ((rd_T37 l0_1 x3_2).f7).length c198_9) ∧ w'.cell? (ad198.add ((x3_2).toNat * 10)) = some (.int .i64 ((rd_T37 l0_1 x3_2).f0)) ∧ w'.cell? ⟨(ad198.add ((x3_2).toNat * 10)).block, (ad198.add ((x3_2).toNat * 10)).off + 1, none⟩ = some (.int .i64 ((rd_T37 l0_1 x3_2).f1)) ∧ w'.cell? ⟨(ad198.add ((x3_2).toNat * 10)).block, (ad198.add ((x3_2).toNat * 10)).off + 2, none⟩ = some (.int .i64 ((rd_T37 l0_1 x3_2).f2)) ∧ w'.cell? ⟨(ad198.add ((x3_2).toNat * 10)).block, (ad198.add ((x3_2).toNat * 10)).off + 3, none⟩ = some (.int .i64 ((rd_T37 l0_1 x3_2).f3)) ∧ w'.cell? ⟨(ad198.add ((x3_2).toNat * 10)).block, (ad198.add ((x3_2).toNat * 10)).off + 4, none⟩ = some (.int .i64 ((rd_T37 l0_1 x3_2).f4)) ∧ w'.cell? ⟨(ad198.add ((x3_2).toNat * 10)).block, (ad198.add ((x3_2).toNat * 10)).off + 5, none⟩ = some (.int .i64 ((rd_T37 l0_1 x3_2).f5.f0)) ∧ w'.cell? ⟨(ad198.add ((x3_2).toNat * 10)).block, (ad198.add ((x3_2).toNat * 10)).off + 6, none⟩ = some (.int .i64 ((rd_T37 l0_1 x3_2).f5.f1)) ∧ w'.cell? ⟨(ad198.add ((x3_2).toNat * 10)).block, (ad198.add ((x3_2).toNat * 10)).off + 7, none⟩ = some (.slice A198_7 ((rd_T37 l0_1 x3_2).f5.f2).length c198_7) ∧ w'.cell? ⟨(ad198.add ((x3_2).toNat * 10)).block, (ad198.add ((x3_2).toNat * 10)).off + 8, none⟩ = some (.slice A198_8 ((rd_T37 l0_1 x3_2).f6).length c198_8) ∧ w'.cell? ⟨(ad198.add ((x3_2).toNat * 10)).block, (ad198.add ((x3_2).toNat * 10)).off + 9, none⟩ = some (.slice A198_9 ((rd_T37 l0_1 x3_2).f7).length c198_9)) (ds := []) #[false, false, false, false, false, false, false, false, false, false, false, false, false, false, false, false, false, false, false] kr rfl rfl ⟨(blk_cell BK196.out 0).trans rfl, (blk_cell BK196.out 1).trans rfl, (blk_cell BK196.out 2).trans rfl, ((HB.out.cell (World.block_lt_of_cell? w _ hw198_0)).trans hw198_0), ((HB.out.cell (World.block_lt_of_cell? w _ hw198_1)).trans hw198_1), ((HB.out.cell (World.block_lt_of_cell? w _ hw198_2)).trans hw198_2), ((HB.out.cell (World.block_lt_of_cell? w _ hw198_3)).trans hw198_3), ((HB.out.cell (World.block_lt_of_cell? w _ hw198_4)).trans hw198_4), ((HB.out.cell (World.block_lt_of_cell? w _ hw198_5)).trans hw198_5), ((HB.out.cell (World.block_lt_of_cell? w _ hw198_6)).trans hw198_6), ((HB.out.cell (World.block_lt_of_cell? w _ hw198_7)).trans hw198_7), ((HB.out.cell (World.block_lt_of_cell? w _ hw198_8)).trans hw198_8), ((HB.out.cell (World.block_lt_of_cell? w _ hw198_9)).trans hw198_9), ((HB.out.cell (World.block_lt_of_cell? w _ hw199_0)).trans hw199_0), ((HB.out.cell (World.block_lt_of_cell? w _ hw199_1)).trans hw199_1), ((HB.out.cell (World.block_lt_of_cell? w _ hw199_2)).trans hw199_2), ((HB.out.cell (World.block_lt_of_cell? w _ hw199_3)).trans hw199_3), ((HB.out.cell (World.block_lt_of_cell? w _ hw199_4)).trans hw199_4), ((HB.out.cell (World.block_lt_of_cell? w _ hw199_5)).trans hw199_5), ((HB.out.cell (World.block_lt_of_cell? w _ hw199_6)).trans hw199_6), ((HB.out.cell (World.block_lt_of_cell? w _ hw199_7)).trans hw199_7), ((HB.out.cell (World.block_lt_of_cell? w _ hw199_8)).trans hw199_8), ((HB.out.cell (World.block_lt_of_cell? w _ hw199_9)).trans hw199_9)⟩ (fun hHeld => ?_); refine with_tabW spec_GroupOk.tab6 spec_GroupOk.bits6 (fun HT_ HW_ => ?_)
     generalize wr.drew = w17 at BK196 HB HR198_7 HR198_8 HR198_9 HR199_7 HR199_8 HR199_9 hx198_0 hx198_1 hx198_2 hx198_3 hx198_4 hx198_5 hx198_6 hx198_7 hx198_8 hx198_9 hx199_0 hx199_1 hx199_2 hx199_3 hx199_4 hx199_5 hx199_6 hx199_7 hx199_8 hx199_9 hHeld ⊢
     refine pure_ (i := 0) (N := some 29) (v := ?_) (a' := ?_) #[true, false, false, false, false, false, false, false, false, false, false, false, false, false, false, false, false, false, false] rfl rfl (any_of HT_.out kr) (fun _ _ _ h => h) (Or.inl ⟨by rfl, ?_⟩) ?_ ?_
     rotate_left; (intro w'; go_simp; with_reducible rfl); rotate_left; (simp only [Act.put, la, lb, lc, i64_w, i32_w]; rfl)
     refine pure_ (i := 2) (N := some 31) (v := ?_) (a' := ?_) #[true, false, true, false, false, false, false, false, false, false, false, false, false, false, false, false, false, false, false] rfl rfl (any_of HT_.out kr) (fun _ _ _ h => h) (Or.inl ⟨by rfl, ?_⟩) ?_ ?_
     rotate_left; (intro w'; go_simp; with_reducible rfl); rotate_left; (simp only [Act.put, la, lb, lc, i64_w, i32_w]; rfl)
     refine pure_ (i := 6) (N := some 35) (v := ?_) (a' := ?_) #[true, false, true, false, false, false, true, false, false, false, false, false, false, false, false, false, false, false, false] rfl rfl (any_of HT_.out kr) (fun _ _ _ h => h) (Or.inl ⟨by rfl, ?_⟩) ?_ ?_
     rotate_left; (intro w'; go_simp; with_reducible rfl); rotate_left; (simp only [Act.put, la, lb, lc, i64_w, i32_w]; rfl)
     refine take_ (i := 1) (N := some 30) (v := ?_) (a' := ?_) #[true, true, true, false, false, false, true, false, false, false, false, false, false, false, false, false, false, false, false] rfl rfl (take_ofW HT_.out HW_.out kr) (fun _ _ _ h => h) (Or.inl ⟨by rfl, ?_⟩) hHeld ?_ ?_
     rotate_left
     · rintro w' ⟨s0, s1, s2, s3, s4, s5, s6, s7, s8, s9, s10, s11, s12, s13, s14, s15, s16, s17, s18, s19, s20, s21, s22⟩
       go_simp
       with_reducible rfl
     rotate_left
     · simp only [Act.put, la, lb, lc, i64_w, i32_w]
       rfl
     refine pure_ (i := 3) (N := some 32) (v := ?_) (a' := ?_) #[true, true, true, true, false, false, true, false, false, false, false, false, false, false, false, false, false, false, false] rfl rfl (any_of HT_.out kr) (fun _ _ _ h => h) (Or.inl ⟨by rfl, ?_⟩) ?_ ?_
     rotate_left; (intro w'; go_simp; with_reducible rfl); rotate_left; (simp only [Act.put, la, lb, lc, i64_w, i32_w]; rfl)
     refine pure_ (i := 4) (N := some 33) (v := ?_) (a' := ?_) #[true, true, true, true, true, false, true, false, false, false, false, false, false, false, false, false, false, false, false] rfl rfl (any_of HT_.out kr) (fun _ _ _ h => h) (Or.inl ⟨by rfl, ?_⟩) ?_ ?_
     rotate_left; (intro w'; go_simp; with_reducible rfl); rotate_left; (simp only [Act.put, la, lb, lc, i64_w, i32_w]; rfl)
     refine take_ (i := 5) (N := some 34) (v := ?_) (a' := ?_) #[true, true, true, true, true, true, true, false, false, false, false, false, false, false, false, false, false, false, false] rfl rfl (take_ofW HT_.out HW_.out kr) (fun _ _ _ h => h) (Or.inl ⟨by rfl, ?_⟩) hHeld ?_ ?_
     rotate_left
     · rintro w' ⟨s0, s1, s2, s3, s4, s5, s6, s7, s8, s9, s10, s11, s12, s13, s14, s15, s16, s17, s18, s19, s20, s21, s22⟩
       go_simp
       with_reducible rfl
     rotate_left
     · simp only [Act.put, la, lb, lc, i64_w, i32_w]
       rfl
     refine pure_ (i := 7) (N := some 36) (v := ?_) (a' := ?_) #[true, true, true, true, true, true, true, true, false, false, false, false, false, false, false, false, false, false, false] rfl rfl (any_of HT_.out kr) (fun _ _ _ h => h) (Or.inl ⟨by rfl, ?_⟩) ?_ ?_
     rotate_left; (intro w'; go_simp; with_reducible rfl); rotate_left; (simp only [Act.put, la, lb, lc, i64_w, i32_w]; rfl)
     refine pure_ (i := 8) (N := some 37) (v := ?_) (a' := ?_) #[true, true, true, true, true, true, true, true, true, false, false, false, false, false, false, false, false, false, false] rfl rfl (any_of HT_.out kr) (fun _ _ _ h => h) (Or.inl ⟨by rfl, ?_⟩) ?_ ?_
     rotate_left; (intro w'; go_simp; with_reducible rfl); rotate_left; (simp only [Act.put, la, lb, lc, i64_w, i32_w]; rfl)
     refine pure_ (i := 9) (N := some 38) (v := ?_) (a' := ?_) #[true, true, true, true, true, true, true, true, true, true, false, false, false, false, false, false, false, false, false] rfl rfl (any_of HT_.out kr) (fun _ _ _ h => h) (Or.inl ⟨by rfl, ?_⟩) ?_ ?_
     rotate_left; (intro w'; go_simp; with_reducible rfl); rotate_left; (simp only [Act.put, la, lb, lc, i64_w, i32_w]; rfl)
     refine pure_ (i := 11) (N := some 40) (v := ?_) (a' := ?_) #[true, true, true, true, true, true, true, true, true, true, false, true, false, false, false, false, false, false, false] rfl rfl (any_of HT_.out kr) (fun _ _ _ h => h) (Or.inl ⟨by rfl, ?_⟩) ?_ ?_
     rotate_left; (intro w'; go_simp; with_reducible rfl); rotate_left; (simp only [Act.put, la, lb, lc, i64_w, i32_w]; rfl)
     refine pure_ (i := 14) (N := some 43) (v := ?_) (a' := ?_) #[true, true, true, true, true, true, true, true, true, true, false, true, false, false, true, false, false, false, false] rfl rfl (any_of HT_.out kr) (fun _ _ _ h => h) (Or.inl ⟨by rfl, ?_⟩) ?_ ?_
     rotate_left; (intro w'; go_simp; with_reducible rfl); rotate_left; (simp only [Act.put, la, lb, lc, i64_w, i32_w]; rfl)
     refine take_ (i := 10) (N := some 39) (v := ?_) (a' := ?_) #[true, true, true, true, true, true, true, true, true, true, true, true, false, false, true, false, false, false, false] rfl rfl (take_ofW HT_.out HW_.out kr) (fun _ _ _ h => h) (Or.inl ⟨by rfl, ?_⟩) hHeld ?_ ?_
     rotate_left
     · rintro w' ⟨s0, s1, s2, s3, s4, s5, s6, s7, s8, s9, s10, s11, s12, s13, s14, s15, s16, s17, s18, s19, s20, s21, s22⟩
       go_simp
       with_reducible rfl
     rotate_left
     · simp only [Act.put, la, lb, lc, i64_w, i32_w]
       rfl
     refine pure_ (i := 12) (N := some 41) (v := ?_) (a' := ?_) #[true, true, true, true, true, true, true, true, true, true, true, true, true, false, true, false, false, false, false] rfl rfl (any_of HT_.out kr) (fun _ _ _ h => h) (Or.inl ⟨by rfl, ?_⟩) ?_ ?_
     rotate_left; (intro w'; go_simp; with_reducible rfl); rotate_left; (simp only [Act.put, la, lb, lc, i64_w, i32_w]; rfl)
     refine take_ (i := 13) (N := some 42) (v := ?_) (a' := ?_) #[true, true, true, true, true, true, true, true, true, true, true, true, true, true, true, false, false, false, false] rfl rfl (take_ofW HT_.out HW_.out kr) (fun _ _ _ h => h) (Or.inl ⟨by rfl, ?_⟩) hHeld ?_ ?_
     rotate_left
     · rintro w' ⟨s0, s1, s2, s3, s4, s5, s6, s7, s8, s9, s10, s11, s12, s13, s14, s15, s16, s17, s18, s19, s20, s21, s22⟩
       go_simp
       with_reducible rfl
     rotate_left
     · simp only [Act.put, la, lb, lc, i64_w, i32_w]
       rfl
     refine take_ (i := 15) (N := some 44) (v := ?_) (a' := ?_) #[true, true, true, true, true, true, true, true, true, true, true, true, true, true, true, true, false, false, false] rfl rfl (take_ofW HT_.out HW_.out kr) (fun _ _ _ h => h) (Or.inl ⟨by rfl, ?_⟩) hHeld ?_ ?_
     rotate_left
     · rintro w' ⟨s0, s1, s2, s3, s4, s5, s6, s7, s8, s9, s10, s11, s12, s13, s14, s15, s16, s17, s18, s19, s20, s21, s22⟩
       go_simp
       with_reducible rfl
     rotate_left
     · simp only [Act.put, la, lb, lc, i64_w, i32_w]
       rfl
     refine one_ (i := 16) (N := some 45) #[true, true, true, true, true, true, true, true, true, true, true, true, true, true, true, true, true, false, false] rfl rfl (one_of HT_.out kr) (by decide) (fun K hK => ?_)
     refine goes_ Try.func26 kr rfl #[.agg #[.int .i64 ((rd_T37 l0_1 x3_2).f0), .int .i64 ((rd_T37 l0_1 x3_2).f1), .int .i64 ((rd_T37 l0_1 x3_2).f2), .int .i64 ((rd_T37 l0_1 x3_2).f3), .int .i64 ((rd_T37 l0_1 x3_2).f4), .int .i64 ((rd_T37 l0_1 x3_2).f5.f0), .int .i64 ((rd_T37 l0_1 x3_2).f5.f1), .slice A198_7 ((rd_T37 l0_1 x3_2).f5.f2).length c198_7, .slice A198_8 ((rd_T37 l0_1 x3_2).f6).length c198_8, .slice A198_9 ((rd_T37 l0_1 x3_2).f7).length c198_9], .int .i64 a0_0] (by rfl) rfl rfl u10_2 ?_
     with_reducible refine (spec_NodeOk.calls k2 ((rd_T37 l0_1 x3_2).f0) ((rd_T37 l0_1 x3_2).f1) ((rd_T37 l0_1 x3_2).f2) ((rd_T37 l0_1 x3_2).f3) ((rd_T37 l0_1 x3_2).f4) ((rd_T37 l0_1 x3_2).f5.f0) ((rd_T37 l0_1 x3_2).f5.f1) _ _ ((rd_T37 l0_1 x3_2).f5.f2) _ _ ((rd_T37 l0_1 x3_2).f6) _ _ ((rd_T37 l0_1 x3_2).f7) a0_0 t200 _ ?side1 ?side2 ?side3 ?side4 ?side5 ?side6 A15.out).mono ?_
     (case side1 => exact (by repeat (first | exact (Kd.C_below HR199_7.out HB.out) | (with_reducible refine Kd.C_alloc ?_ _) | (with_reducible refine Kd.C_drewN ?_ _) | (with_reducible refine Kd.C_drew ?_))))
     (case side2 => exact HC199_7.out)
     (case side3 => exact (by repeat (first | exact (Kd.C_below HR199_8.out HB.out) | (with_reducible refine Kd.C_alloc ?_ _) | (with_reducible refine Kd.C_drewN ?_ _) | (with_reducible refine Kd.C_drew ?_))))
     (case side4 => exact HC199_8.out)
     (case side5 => exact (by repeat (first | exact (Kd.C_below HR199_9.out HB.out) | (with_reducible refine Kd.C_alloc ?_ _) | (with_reducible refine Kd.C_drewN ?_ _) | (with_reducible refine Kd.C_drew ?_))))
     (case side6 => exact HC199_9.out)
     rintro e w18 ⟨rfl, hb⟩
     refine ⟨_, rfl, ?_⟩
     have n0_ := am (blk_below (g := gb196) (o := .cells #[.int .i64 a0_0, .slice (some ad198) l0_1.length c0_1, .slice A0_2 l0_2.length c0_2] 53 (0, 0)) u10_1 hb)
     have n1_ := am (below_step u10_0 hb)
     clear BK196
     clear HB
     have BK196 := n0_
     have HB := n1_
     clear n0_ n1_
     (try clear hb)
     (try clear hb2)
     (try clear hk)
     (try clear hi)
     refine hK.out _ _ ⟨(blk_cell BK196.out 0).trans rfl, (blk_cell BK196.out 1).trans rfl, (blk_cell BK196.out 2).trans rfl, ((HB.out.cell (World.block_lt_of_cell? w _ hw198_0)).trans hw198_0), ((HB.out.cell (World.block_lt_of_cell? w _ hw198_1)).trans hw198_1), ((HB.out.cell (World.block_lt_of_cell? w _ hw198_2)).trans hw198_2), ((HB.out.cell (World.block_lt_of_cell? w _ hw198_3)).trans hw198_3), ((HB.out.cell (World.block_lt_of_cell? w _ hw198_4)).trans hw198_4), ((HB.out.cell (World.block_lt_of_cell? w _ hw198_5)).trans hw198_5), ((HB.out.cell (World.block_lt_of_cell? w _ hw198_6)).trans hw198_6), ((HB.out.cell (World.block_lt_of_cell? w _ hw198_7)).trans hw198_7), ((HB.out.cell (World.block_lt_of_cell? w _ hw198_8)).trans hw198_8), ((HB.out.cell (World.block_lt_of_cell? w _ hw198_9)).trans hw198_9), ((HB.out.cell (World.block_lt_of_cell? w _ hw199_0)).trans hw199_0), ((HB.out.cell (World.block_lt_of_cell? w _ hw199_1)).trans hw199_1), ((HB.out.cell (World.block_lt_of_cell? w _ hw199_2)).trans hw199_2), ((HB.out.cell (World.block_lt_of_cell? w _ hw199_3)).trans hw199_3), ((HB.out.cell (World.block_lt_of_cell? w _ hw199_4)).trans hw199_4), ((HB.out.cell (World.block_lt_of_cell? w _ hw199_5)).trans hw199_5), ((HB.out.cell (World.block_lt_of_cell? w _ hw199_6)).trans hw199_6), ((HB.out.cell (World.block_lt_of_cell? w _ hw199_7)).trans hw199_7), ((HB.out.cell (World.block_lt_of_cell? w _ hw199_8)).trans hw199_8), ((HB.out.cell (World.block_lt_of_cell? w _ hw199_9)).trans hw199_9)⟩ (fun hHeld => ?_)
     clear hK K
     refine norm_ (a' := ?_) ?_ ?_
     rotate_left
     · show Act.put _ (some 45) _ = _
       simp only [Act.put, la, lb, lc, i64_w, i32_w]
       rfl
     refine pure_ (i := 17) (N := some 46) (v := ?_) (a' := ?_) #[true, true, true, true, true, true, true, true, true, true, true, true, true, true, true, true, true, true, false] rfl rfl (any_of HT_.out kr) (fun _ _ _ h => h) (Or.inl ⟨by rfl, ?_⟩) ?_ ?_
     rotate_left; (intro w'; go_simp; with_reducible rfl); rotate_left; (simp only [Act.put, la, lb, lc, i64_w, i32_w]; rfl)
     refine pure_ (i := 18) (N := some 47) (v := ?_) (a' := ?_) #[true, true, true, true, true, true, true, true, true, true, true, true, true, true, true, true, true, true, true] rfl rfl (any_of HT_.out kr) (fun _ _ _ h => h) (Or.inl ⟨by rfl, ?_⟩) ?_ ?_
     rotate_left; (intro w'; go_simp; with_reducible rfl); rotate_left; (simp only [Act.put, la, lb, lc, i64_w, i32_w]; rfl)
     refine done_ (done_of HT_.out kr) ?_
     go_upto_if 47 with (fail)
     have H := H9.out
     clear H9
     by_cases c19 : t200 = true
     rotate_left
     · replace c19 := Bool.eq_false_iff.mpr c19
       subst c19
       rw [if_neg (show ¬ (false = true) by decide)] at H
       obtain rfl := Option.some.inj H
       go_wp2
       go_ret
       exact ⟨by first | rfl | (simp [errW_none, errW_some] <;> rfl) | (simp [*, errW_none, errW_some] <;> rfl), u10_0⟩
     subst c19
     rw [if_pos rfl] at H
     have H' := am H
     clear H
     go_wp2
     go_roundg k2
     case measure => have := HJ1.out; have := HK2.out; omega
     case rel => exact ⟨(wrap64 (x3_2 + 1)), u10_5, H', ⟨(by have := HJ1.out; have := HK2.out; omega)⟩, ⟨u10_1⟩, ⟨u10_0⟩⟩

end Go.Proofs.Ytkcadcoohmofcaa.QFnExactGroupOk
