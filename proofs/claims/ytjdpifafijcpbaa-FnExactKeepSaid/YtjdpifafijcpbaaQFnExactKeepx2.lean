-- Printed by the session's own program wip/prx.py.
import Derived.Test.YtjdpifafijcpbaaQFnExactKeepx0
import Derived.Test.YtjdpifafijcpbaaQFnExactKeepx1
namespace Go.Proofs.Ytjdpifafijcpbaa.QFnExactKeep
open Go.RowKit Go.Proofs.YtjdpifafijcpbaaW.PrintWords Go.Proofs.YtjdpifafijcpbaaW.PrintLast Go.Proofs.YtjdpifafijcpbaaW.PrintMore
attribute [local go_sem] max2_int min2_int max_two min_two max_three min_three max_four min_four Go.Proofs.Ytjdpifafijcpbaa.Set.isSome_setCell   -- for this text's walks alone
set_option linter.unusedVariables false
set_option linter.unusedSimpArgs false

-- squeezed
theorem u2_0 {P : Prop} (h : P := by repeat (first | (with_reducible first | exact HB.out | apply below_alloc | apply pw_below_drewN | apply below_drew1) | exact HB.out)) : P := h
theorem u2_1 {P : Prop} (h : P := by first | (with_reducible assumption) | assumption) : P := h
theorem u2_2 {P : Prop} (h : P := by repeat (first | (with_reducible first | exact HK.out | apply Kept.alloc | apply Kept.drewN | apply Kept.drew) | exact HK.out)) : P := h
theorem u2_3 {P : Prop} (h : P := by repeat (first | (with_reducible first | exact HB.out | apply below_alloc | apply pw_below_drewN | apply below_drew1 | refine below_set ?_ GE129.out | refine below_set ?_ GE130.out) | exact HB.out)) : P := h
theorem u2_4 {P : Prop} (h : P := by (with_reducible repeat (first | apply Kd.R_alloc | apply Kd.R_drewN | apply Kd.R_drew)); exact HO_0.out) : P := h
theorem u2_5 {P : Prop} (h : P := by (try simp only [List.map_toArray, List.map_cons, List.map_nil]); first | done | rfl | (simp only [List.length_drop, List.length_take]; rfl)) : P := h
theorem u2_6 {P : Prop} (h : P := by first | rfl | (simp; done) | (simp [*]; done)) : P := h
theorem u2_7 {P : Prop} (h : P := by (with_reducible repeat (first | refine blk_drewN ?_ _ | refine blk_drew ?_ | refine blk_alloc ?_ _)); exact BK129.out) : P := h
theorem u2_8 {P : Prop} (h : P := by repeat (first | (with_reducible first | exact HB.out | apply below_alloc | apply pw_below_drewN | apply below_drew1 | refine below_set ?_ GE129.out) | exact HB.out)) : P := h
theorem u2_9 {P : Prop} (h : P := by repeat (first | (with_reducible first | exact HB.out | apply below_alloc | apply pw_below_drewN | apply below_drew1 | refine below_set ?_ GE148.out) | exact HB.out)) : P := h
theorem u2_10 {P : Prop} (h : P := by repeat (first | exact (Kd.C_below HR0_2.out HB.out) | (with_reducible refine Kd.C_alloc ?_ _) | (with_reducible refine Kd.C_drewN ?_ _) | (with_reducible refine Kd.C_drew ?_))) : P := h
theorem u2_11 {P : Prop} (h : P := by repeat (first | (with_reducible first | exact HK.out | apply Kept.alloc | apply Kept.drewN | apply Kept.drew | refine Kept.setCell ?_ (.inr GW140.out) _) | exact HK.out)) : P := h
theorem u2_12 {P : Prop} (h : P := by repeat (first | (with_reducible first | exact HB.out | apply below_alloc | apply pw_below_drewN | apply below_drew1 | refine below_set ?_ GE140.out) | exact HB.out)) : P := h
theorem u2_13 {P : Prop} (h : P := by (with_reducible repeat (first | apply Kd.R_alloc | apply Kd.R_drewN | apply Kd.R_drew)); exact HO0_2.out) : P := h
/-! ### laws_eqSessions: function 11 -/
def laws_eqSessions.f (k : Nat) (a0_0 : Int) (a0_1 : Int) (l0_2 : List (S45)) (a1_0 : Int) (a1_1 : Int) (l1_2 : List (S45)) : Option (Bool) := if a0_0 = a1_0 then (if a0_1 = a1_1 then ((laws_eqSessionS.f k l0_2 l1_2).bind fun t131 => (if t131 = true then (some true) else (some false))) else (some false)) else (some false)
theorem laws_eqSessions.mono : ∀ a0 a1 a2 a3 a4 a5 k, LeO (laws_eqSessions.f k a0 a1 a2 a3 a4 a5) (laws_eqSessions.f (k + 1) a0 a1 a2 a3 a4 a5) := by
  intro a0 a1 a2 a3 a4 a5 k
  unfold laws_eqSessions.f
  repeat' first
      | (with_reducible exact laws_eqSessionS.mono _ _ _)
      | (with_reducible exact LeO.refl _)
      | (with_reducible exact LeO.none _)
      | (with_reducible refine LeO.ite ?_ ?_)
      | (with_reducible refine LeO.bind ?_ (fun _ => ?_))
      | exact laws_eqSessionS.mono _ _ _
      | exact LeO.none _
      | refine LeO.ite ?_ ?_
      | refine LeO.bind ?_ (fun _ => ?_)
set_option maxHeartbeats 8000000 in
set_option maxRecDepth 100000 in
theorem laws_eqSessions.calls (k : Nat) (a0_0 : Int) (a0_1 : Int) (A0_2 : Option Addr) (c0_2 : Nat) (l0_2 : List (S45)) (a1_0 : Int) (a1_1 : Int) (A1_2 : Option Addr) (c1_2 : Nat) (l1_2 : List (S45)) (r : Bool) (w : World) (hr0_2 : Kd.C k45 w A0_2 l0_2.length l0_2) (hc0_2 : l0_2.length ≤ c0_2) (hr1_2 : Kd.C k45 w A1_2 l1_2.length l1_2) (hc1_2 : l1_2.length ≤ c1_2) (h : laws_eqSessions.f k a0_0 a0_1 l0_2 a1_0 a1_1 l1_2 = some r) :
    Calls Try.prog 11 #[.agg #[.int .i64 a0_0, .int .i64 a0_1, .slice A0_2 l0_2.length c0_2], .agg #[.int .i64 a1_0, .int .i64 a1_1, .slice A1_2 l1_2.length c1_2]] w fun e w' => e = .returned (.bool r) ∧ Below w.heap.size w w' := by
  have hu29 := Try.underlying29
  have HR0_2 := Aside0.mk hr0_2
  have HC0_2 := Aside0.mk hc0_2
  clear hr0_2 hc0_2
  have HR1_2 := Aside0.mk hr1_2
  have HC1_2 := Aside0.mk hc1_2
  clear hr1_2 hc1_2
  have HB := Aside0.mk (Below.refl w.heap.size w)
  have H : (if a0_0 = a1_0 then (if a0_1 = a1_1 then ((laws_eqSessionS.f k l0_2 l1_2).bind fun t131 => (if t131 = true then (some true) else (some false))) else (some false)) else (some false)) = some r := h
  clear h
  have H9 := Aside0.mk H
  clear H
  go_enter Try.func11, Try.ntmps11
  go_upto_if 9 with (first | ((with_reducible refine gate_dst (N := 2) rfl ?_); refine box_event ?hg (N := 2) ?hd (cs := #[.int .i64 a0_0, .int .i64 a0_1, .slice A0_2 l0_2.length c0_2]) (t := 29) ?hr ?_; (case hd => rfl); (case hg => rfl); (case hr => first | (go_simp; done) | (go_simp; rfl)); intro gb129 hg w3 hbox hb; have n0_ := Aside0.mk (below_step u2_0 hb); have n1_ := Aside0.mk (hbox); have n2_ := Aside0.mk ((by rw [hg]; exact (below_size u2_0) : w.heap.size ≤ gb129)); have n3_ := Aside0.mk ((by rw [hg]; exact (below_size u2_0) : w.heap.size ≤ gb129)); clear HB; have HB := n0_; have BK129 := n1_; have GW129 := n2_; have GE129 := n3_; clear n0_ n1_ n2_ n3_; clear hb hbox hg) | ((with_reducible refine gate_dst (N := 3) rfl ?_); refine box_event ?hg (N := 3) ?hd (cs := #[.int .i64 a1_0, .int .i64 a1_1, .slice A1_2 l1_2.length c1_2]) (t := 29) ?hr ?_; (case hd => rfl); (case hg => rfl); (case hr => first | (go_simp; done) | (go_simp; rfl)); intro gb130 hg w4 hbox hb; have n0_ := Aside0.mk (blk_below (g := gb129) (o := .cells #[.int .i64 a0_0, .int .i64 a0_1, .slice A0_2 l0_2.length c0_2] 29 (0, 0)) u2_7 hb); have n1_ := Aside0.mk (below_step u2_8 hb); have n2_ := Aside0.mk (hbox); have n3_ := Aside0.mk ((by rw [hg]; exact (below_size u2_8) : w.heap.size ≤ gb130)); have n4_ := Aside0.mk ((by rw [hg]; exact (below_size u2_8) : w.heap.size ≤ gb130)); have n5_ := Aside0.mk ((by rw [hg]; exact Nat.ne_of_lt (blk_lt (g := gb129) (o := .cells #[.int .i64 a0_0, .int .i64 a0_1, .slice A0_2 l0_2.length c0_2] 29 (0, 0)) u2_7) : gb129 ≠ gb130)); have n6_ := Aside0.mk ((by rw [hg]; exact Nat.ne_of_gt (blk_lt (g := gb129) (o := .cells #[.int .i64 a0_0, .int .i64 a0_1, .slice A0_2 l0_2.length c0_2] 29 (0, 0)) u2_7) : gb130 ≠ gb129)); clear BK129; clear HB; have BK129 := n0_; have HB := n1_; have BK130 := n2_; have GW130 := n3_; have GE130 := n4_; have NB129_130 := n5_; have NB130_129 := n6_; clear n0_ n1_ n2_ n3_ n4_ n5_ n6_; clear hb hbox hg; have hnb5 := NB129_130.out; have hnc5 := NB130_129.out; have hcz6_0 : w4.cell? ⟨gb129, 0, none⟩ = some (.int .i64 a0_0) := (blk_cell BK129.out 0).trans rfl; have hcz6_1 : w4.cell? ⟨gb129, 1, none⟩ = some (.int .i64 a0_1) := (blk_cell BK129.out 1).trans rfl; have hcz6_2 : w4.cell? ⟨gb129, 2, none⟩ = some (.slice A0_2 l0_2.length c0_2) := (blk_cell BK129.out 2).trans rfl; have hfz6_0 := blk_frozen BK129.out 0; have hfz6_1 := blk_frozen BK129.out 1; have hfz6_2 := blk_frozen BK129.out 2; have hcz7_0 : w4.cell? ⟨gb130, 0, none⟩ = some (.int .i64 a1_0) := (blk_cell BK130.out 0).trans rfl; have hcz7_1 : w4.cell? ⟨gb130, 1, none⟩ = some (.int .i64 a1_1) := (blk_cell BK130.out 1).trans rfl; have hcz7_2 : w4.cell? ⟨gb130, 2, none⟩ = some (.slice A1_2 l1_2.length c1_2) := (blk_cell BK130.out 2).trans rfl; have hfz7_0 := blk_frozen BK130.out 0; have hfz7_1 := blk_frozen BK130.out 1; have hfz7_2 := blk_frozen BK130.out 2))
  have H := H9.out
  clear H9
  by_cases c8 : a0_0 = a1_0
  rotate_left
  · rw [if_neg c8] at H
    have c8b0 : (a0_0 == a1_0) = false := beq_eq_false_iff_ne.mpr c8
    have c8b1 : (a0_0 != a1_0) = true := bne_iff_ne.mpr c8
    (first | rw [c8b0] | (simp only [i64_w, i32_w]; rw [c8b0]) | skip)
    obtain rfl := Option.some.inj H
    go_wp2
    go_ret
    exact ⟨by first | rfl | (simp [errW_none, errW_some] <;> rfl) | (simp [*, errW_none, errW_some] <;> rfl), u2_3⟩
  rw [if_pos c8] at H
  have c8b0 : (a0_0 == a1_0) = true := beq_iff_eq.mpr c8
  have c8b1 : (a0_0 != a1_0) = false := bne_eq_false_iff_eq.mpr c8
  clear c8
  (first | rw [c8b0] | (simp only [i64_w, i32_w]; rw [c8b0]) | skip)
  by_cases c9 : a0_1 = a1_1
  rotate_left
  · rw [if_neg c9] at H
    have c9b0 : (a0_1 == a1_1) = false := beq_eq_false_iff_ne.mpr c9
    have c9b1 : (a0_1 != a1_1) = true := bne_iff_ne.mpr c9
    obtain rfl := Option.some.inj H
    have hnb16 := NB129_130.out
    have hnc16 := NB130_129.out
    have hcz17_0 : w4.cell? ⟨gb129, 0, none⟩ = some (.int .i64 a0_0) := (blk_cell BK129.out 0).trans rfl
    have hcz17_1 : w4.cell? ⟨gb129, 1, none⟩ = some (.int .i64 a0_1) := (blk_cell BK129.out 1).trans rfl
    have hcz17_2 : w4.cell? ⟨gb129, 2, none⟩ = some (.slice A0_2 l0_2.length c0_2) := (blk_cell BK129.out 2).trans rfl
    have hfz17_0 := blk_frozen BK129.out 0
    have hfz17_1 := blk_frozen BK129.out 1
    have hfz17_2 := blk_frozen BK129.out 2
    have hcz18_0 : w4.cell? ⟨gb130, 0, none⟩ = some (.int .i64 a1_0) := (blk_cell BK130.out 0).trans rfl
    have hcz18_1 : w4.cell? ⟨gb130, 1, none⟩ = some (.int .i64 a1_1) := (blk_cell BK130.out 1).trans rfl
    have hcz18_2 : w4.cell? ⟨gb130, 2, none⟩ = some (.slice A1_2 l1_2.length c1_2) := (blk_cell BK130.out 2).trans rfl
    have hfz18_0 := blk_frozen BK130.out 0
    have hfz18_1 := blk_frozen BK130.out 1
    have hfz18_2 := blk_frozen BK130.out 2
    go_wp2
    go_ret
    exact ⟨by first | rfl | (simp [errW_none, errW_some] <;> rfl) | (simp [*, errW_none, errW_some] <;> rfl), u2_3⟩
  rw [if_pos c9] at H
  have c9b0 : (a0_1 == a1_1) = true := beq_iff_eq.mpr c9
  have c9b1 : (a0_1 != a1_1) = false := bne_eq_false_iff_eq.mpr c9
  clear c9
  replace H := Option.bind_eq_some_iff.mp H
  obtain ⟨t131, A100, H⟩ := H
  replace H : (if t131 = true then (some true) else (some false)) = some r := H
  have A10 := Aside0.mk A100
  clear A100
  have H9 := Aside0.mk H
  clear H
  have hnb11 := NB129_130.out
  have hnc11 := NB130_129.out
  have hcz12_0 : w4.cell? ⟨gb129, 0, none⟩ = some (.int .i64 a0_0) := (blk_cell BK129.out 0).trans rfl
  have hcz12_1 : w4.cell? ⟨gb129, 1, none⟩ = some (.int .i64 a0_1) := (blk_cell BK129.out 1).trans rfl
  have hcz12_2 : w4.cell? ⟨gb129, 2, none⟩ = some (.slice A0_2 l0_2.length c0_2) := (blk_cell BK129.out 2).trans rfl
  have hfz12_0 := blk_frozen BK129.out 0
  have hfz12_1 := blk_frozen BK129.out 1
  have hfz12_2 := blk_frozen BK129.out 2
  have hcz13_0 : w4.cell? ⟨gb130, 0, none⟩ = some (.int .i64 a1_0) := (blk_cell BK130.out 0).trans rfl
  have hcz13_1 : w4.cell? ⟨gb130, 1, none⟩ = some (.int .i64 a1_1) := (blk_cell BK130.out 1).trans rfl
  have hcz13_2 : w4.cell? ⟨gb130, 2, none⟩ = some (.slice A1_2 l1_2.length c1_2) := (blk_cell BK130.out 2).trans rfl
  have hfz13_0 := blk_frozen BK130.out 0
  have hfz13_1 := blk_frozen BK130.out 1
  have hfz13_2 := blk_frozen BK130.out 2
  go_upto_if 20 with (first | ((with_reducible refine gate_callee (f := 24) rfl ?_); refine goesL_ (some 19) rfl rfl Try.func24 (by kernel_rfl) rfl #[.slice A0_2 l0_2.length c0_2, .slice A1_2 l1_2.length c1_2] rfl u2_5 ?_; (with_reducible refine (laws_eqSessionS.calls k _ _ l0_2 _ _ l1_2 t131 _ ?side1 ?side2 ?side3 ?side4 A10.out).mono ?_); (case side1 => exact u2_10); (case side2 => exact HC0_2.out); (case side3 => exact (by repeat (first | exact (Kd.C_below HR1_2.out HB.out) | (with_reducible refine Kd.C_alloc ?_ _) | (with_reducible refine Kd.C_drewN ?_ _) | (with_reducible refine Kd.C_drew ?_)))); (case side4 => exact HC1_2.out); rintro e w14 ⟨rfl, hb⟩; refine ⟨_, rfl, ?_⟩; have n0_ := Aside0.mk (blk_below (g := gb129) (o := .cells #[.int .i64 a0_0, .int .i64 a0_1, .slice A0_2 l0_2.length c0_2] 29 (0, 0)) u2_7 hb); have n1_ := Aside0.mk (blk_below (g := gb130) (o := .cells #[.int .i64 a1_0, .int .i64 a1_1, .slice A1_2 l1_2.length c1_2] 29 (0, 0)) (by (with_reducible repeat (first | refine blk_drewN ?_ _ | refine blk_drew ?_ | refine blk_alloc ?_ _)); exact BK130.out) hb); have n2_ := Aside0.mk (below_step u2_3 hb); clear BK129; clear BK130; clear HB; have BK129 := n0_; have BK130 := n1_; have HB := n2_; clear n0_ n1_ n2_; (try clear hb); (try clear hb2); (try clear hk); (try clear hi)))
  have H := H9.out
  clear H9
  by_cases c15 : t131 = true
  · subst c15
    rw [if_pos rfl] at H
    obtain rfl := Option.some.inj H
    go_wp2
    go_ret
    exact ⟨by first | rfl | (simp [errW_none, errW_some] <;> rfl) | (simp [*, errW_none, errW_some] <;> rfl), u2_3⟩
  replace c15 := Bool.eq_false_iff.mpr c15
  subst c15
  rw [if_neg (show ¬ (false = true) by decide)] at H
  obtain rfl := Option.some.inj H
  go_wp2
  go_ret
  exact ⟨by first | rfl | (simp [errW_none, errW_some] <;> rfl) | (simp [*, errW_none, errW_some] <;> rfl), u2_3⟩

/-! ### laws_markText: function 42 -/
def laws_markText.l0 : Nat → Int → ByteArray → Option (ByteArray)
  | 0, _, _ => none
  | k + 1, x0, x3 => if x0 > 0 then ((some (([(wrap64 (48 + (Int.tmod x0 10))) % 256] : List Int) : List Int)).bind fun y132 => (if (strOfNums y132).size + x3.size ≤ 9223372036854775807 then (laws_markText.l0 k (wrap64 (Int.tdiv x0 10)) ((strOfNums y132) ++ x3)) else (none))) else (if 1 + x3.size ≤ 9223372036854775807 then (some ((⟨#[109]⟩ : ByteArray) ++ x3)) else (none))
def laws_markText.f (k : Nat) (a0 : Int) : Option (ByteArray) := if a0 ≤ 0 then (some (⟨#[109, 48]⟩ : ByteArray)) else (laws_markText.l0 k a0 (⟨#[]⟩ : ByteArray))
theorem laws_markText.mono_l : ∀ k, (∀ y0 y1, LeO (laws_markText.l0 k y0 y1) (laws_markText.l0 (k + 1) y0 y1))
  | 0 => fun _ _ r h => by simp [laws_markText.l0] at h
  | k + 1 => by
    have ih0 := laws_markText.mono_l k
    · intro y0 y1
      unfold laws_markText.l0
      repeat' first
      | (with_reducible exact ih0 _ _)
      | (with_reducible exact LeO.refl _)
      | (with_reducible exact LeO.none _)
      | (with_reducible refine LeO.ite ?_ ?_)
      | (with_reducible refine LeO.bind ?_ (fun _ => ?_))
      | exact ih0 _ _
      | exact LeO.none _
      | refine LeO.ite ?_ ?_
      | refine LeO.bind ?_ (fun _ => ?_)
theorem laws_markText.mono : ∀ a0 k, LeO (laws_markText.f k a0) (laws_markText.f (k + 1) a0) := by
  intro a0 k
  have ih0 := laws_markText.mono_l k
  unfold laws_markText.f
  repeat' first
      | (with_reducible exact ih0 _ _)
      | (with_reducible exact LeO.refl _)
      | (with_reducible exact LeO.none _)
      | (with_reducible refine LeO.ite ?_ ?_)
      | (with_reducible refine LeO.bind ?_ (fun _ => ?_))
      | exact ih0 _ _
      | exact LeO.none _
      | refine LeO.ite ?_ ?_
      | refine LeO.bind ?_ (fun _ => ?_)
set_option maxHeartbeats 8000000 in
set_option maxRecDepth 100000 in
theorem laws_markText.calls (k : Nat) (a0 : Int) (r : ByteArray) (w : World) (h : laws_markText.f k a0 = some r) :
    Calls Try.prog 42 #[.int .i64 a0] w fun e w' => e = .returned (.string r) ∧ Below w.heap.size w w' := by
  have HB := Aside0.mk (Below.refl w.heap.size w)
  have H : (if a0 ≤ 0 then (some (⟨#[109, 48]⟩ : ByteArray)) else (laws_markText.l0 k a0 (⟨#[]⟩ : ByteArray))) = some r := h
  clear h
  by_cases c2 : a0 ≤ 0
  · rw [if_pos c2] at H
    have c2b0 : decide (a0 ≤ 0) = true := decide_eq_true c2
    clear c2
    obtain rfl := Option.some.inj H
    go_enter Try.func42, Try.ntmps42
    go_wp2
    go_ret
    exact ⟨by first | rfl | (simp [errW_none, errW_some] <;> rfl) | (simp [*, errW_none, errW_some] <;> rfl), u2_0⟩
  rw [if_neg c2] at H
  have c2b0 : decide (a0 ≤ 0) = false := decide_eq_false c2
  clear c2
  have H' := Aside0.mk H
  clear H
  go_enter Try.func42, Try.ntmps42
  go_wp2
  go_loopg [0, 3] k (fun kq v0 v3 w' => ∃ (x0_1 : Int) (x3_1 : ByteArray), v0 = .int .i64 x0_1 ∧ v3 = .string x3_1 ∧ Aside0 (laws_markText.l0 kq x0_1 x3_1 = some r) ∧ Aside0 (kq ≤ k) ∧ Aside0 (Below w.heap.size w w'))
  case atStart => exact ⟨(a0), ((⟨#[]⟩ : ByteArray)), u2_6, u2_6, H', ⟨Nat.le_refl _⟩, ⟨u2_0⟩⟩
  clear H'
  try clear c2
  try clear c2b0
  try clear p2
  obtain ⟨x0_1, x3_1, rfl, rfl, HA, HK1, HB⟩ := hrel
  cases gk with
  | zero => exact absurd HA.out (by simp [laws_markText.l0])
  | succ k1 =>
    have H := HA.out
    clear HA
    simp only [laws_markText.l0] at H
    by_cases c3 : x0_1 > 0
    rotate_left
    · rw [if_neg c3] at H
      have c3b0 : decide (0 < x0_1) = false := decide_eq_false c3
      clear c3
      by_cases c8 : 1 + x3_1.size ≤ 9223372036854775807
      rotate_left
      · rw [if_neg c8] at H
        exact absurd H (by simp)
      rw [if_pos c8] at H
      have c8b0 := eq_true c8
      have c8b1 : decide (1 + x3_1.size ≤ 9223372036854775807) = true := decide_eq_true c8
      try have c8b2 : (9223372036854775807 < 1 + x3_1.size) = False := eq_false (Nat.not_lt.2 c8)
      obtain rfl := Option.some.inj H
      go_wp2
      go_ret
      exact ⟨by first | rfl | (simp [errW_none, errW_some] <;> rfl) | (simp [*, errW_none, errW_some] <;> rfl), u2_0⟩
    rw [if_pos c3] at H
    have c3b0 : decide (0 < x0_1) = true := decide_eq_true c3
    clear c3
    obtain ⟨y132, hy132⟩ : ∃ y_ : List Int, y_ = (([(wrap64 (48 + (Int.tmod x0_1 10))) % 256] : List Int)) := ⟨_, rfl⟩
    replace H : (if (strOfNums y132).size + x3_1.size ≤ 9223372036854775807 then (laws_markText.l0 k1 (wrap64 (Int.tdiv x0_1 10)) ((strOfNums y132) ++ x3_1)) else (none)) = some r := by first | (rw [hy132]; with_reducible exact H) | (have H2_ := (Option.bind_some _ _).symm.trans H; rw [hy132]; with_reducible exact H2_) | (have H2_ := (Option.bind_some _ _).symm.trans H; with_reducible exact H2_) | with_reducible exact H | (rw [hy132]; exact H) | exact H
    have Ny132 := Aside0.mk hy132
    clear hy132
    by_cases c4 : (strOfNums y132).size + x3_1.size ≤ 9223372036854775807
    rotate_left
    · rw [if_neg c4] at H
      exact absurd H (by simp)
    rw [if_pos c4] at H
    have c4b0 := eq_true c4
    have c4b1 : decide ((strOfNums y132).size + x3_1.size ≤ 9223372036854775807) = true := decide_eq_true c4
    try have c4b2 : (9223372036854775807 < (strOfNums y132).size + x3_1.size) = False := eq_false (Nat.not_lt.2 c4)
    have H' := Aside0.mk H
    clear H
    go_wp2_with (first | ((with_reducible refine gate_dst (N := 12) rfl ?_); refine Kd.R_lit (Kd.int .u8) _ 5 ?hg (N := 12) ?hd (xs := ([(wrap64 (48 + (Int.tmod x0_1 10))) % 256] : List Int)) (inner := [.int .u8 ((wrap64 (48 + (Int.tmod x0_1 10))) % 256)]) (ok := fun _ => True) (okp := fun _ => True) ?hr ?hp (fun _ hk => hk) trivial (Below.refl _ _) (Nat.le_refl _) (by simp) ?_; (case hd => rfl); (case hg => rfl); (case hr => first | (go_simp; done) | (go_simp; rfl)); (case hp => exact (Reps.one (show Kd.M (Kd.int .u8) _ _ _ ((wrap64 (48 + (Int.tmod x0_1 10))) % 256) [.int .u8 ((wrap64 (48 + (Int.tmod x0_1 10))) % 256)] from rfl) (Reps.none _ _))); intro v133 w5 ho6 hb hg_ hnew_; clear hg_ hnew_; (first | rw [← Ny132.out] at ho6 | (simp only [Int.reduceToNat] at ho6; rw [← Ny132.out] at ho6)); have n0_ := Aside0.mk (Kd.R_lower ho6 (below_size u2_0)); have n1_ := Aside0.mk (below_step u2_0 hb); clear HB; have HO134 := n0_; have HB := n1_; clear n0_ n1_; clear hb ho6; have hcv7 := own_string (P := Try.prog) Try.underlying62 Try.underlying5 Try.underlying9 (Kd.own_of_R HO134.out)))
    go_roundg k1
    case measure => have := HK1.out; omega
    case rel => exact ⟨(wrap64 (Int.tdiv x0_1 10)), ((strOfNums y132) ++ x3_1), u2_6, u2_6, H', ⟨by have := HK1.out; omega⟩, ⟨u2_0⟩⟩

/-! ### laws_markSessionS: function 32 -/
def laws_markSessionS.l0 : Nat → List (S45) → Int → Int → Option (Int × (List (S45)))
  | 0, _, _, _ => none
  | k + 1, x0, x1, x5 => if x5 < (x0.length : Int) then (if 0 ≤ x5 then ((some (x0.set (x5 : Int).toNat (⟨x1, (rd_T45 x0 x5).f1, (rd_T45 x0 x5).f2, (rd_T45 x0 x5).f3⟩ : S45) : List (S45))).bind fun y135 => ((some (y135.set (x5 : Int).toNat (⟨(rd_T45 y135 x5).f0, wrap64 (x1 + 1), (rd_T45 y135 x5).f2, (rd_T45 y135 x5).f3⟩ : S45) : List (S45))).bind fun y136 => ((some (y136.set (x5 : Int).toNat (⟨(rd_T45 y136 x5).f0, (rd_T45 y136 x5).f1, wrap64 ((wrap64 (x1 + 1)) + 1), (rd_T45 y136 x5).f3⟩ : S45) : List (S45))).bind fun y137 => ((laws_markText.f k (wrap64 ((wrap64 ((wrap64 (x1 + 1)) + 1)) + 1))).bind fun t138 => (laws_markSessionS.l0 k (y137.set (x5 : Int).toNat (⟨(rd_T45 y137 x5).f0, (rd_T45 y137 x5).f1, (rd_T45 y137 x5).f2, t138⟩ : S45)) (wrap64 ((wrap64 ((wrap64 ((wrap64 (x1 + 1)) + 1)) + 1)) + 1)) (wrap64 (x5 + 1))))))) else (none)) else (some (x1, x0))
def laws_markSessionS.f (k : Nat) (l0 : List (S45)) (a1 : Int) : Option (Int × (List (S45))) := laws_markSessionS.l0 k l0 a1 0
theorem laws_markSessionS.mono_l : ∀ k, (∀ y0 y1 y2, LeO (laws_markSessionS.l0 k y0 y1 y2) (laws_markSessionS.l0 (k + 1) y0 y1 y2))
  | 0 => fun _ _ _ r h => by simp [laws_markSessionS.l0] at h
  | k + 1 => by
    have ih0 := laws_markSessionS.mono_l k
    · intro y0 y1 y2
      unfold laws_markSessionS.l0
      repeat' first
      | (with_reducible exact ih0 _ _ _)
      | (with_reducible exact laws_markText.mono _ _)
      | (with_reducible exact LeO.refl _)
      | (with_reducible exact LeO.none _)
      | (with_reducible refine LeO.ite ?_ ?_)
      | (with_reducible refine LeO.bind ?_ (fun _ => ?_))
      | exact ih0 _ _ _
      | exact laws_markText.mono _ _
      | exact LeO.none _
      | refine LeO.ite ?_ ?_
      | refine LeO.bind ?_ (fun _ => ?_)
theorem laws_markSessionS.mono : ∀ a0 a1 k, LeO (laws_markSessionS.f k a0 a1) (laws_markSessionS.f (k + 1) a0 a1) := by
  intro a0 a1 k
  have ih0 := laws_markSessionS.mono_l k
  unfold laws_markSessionS.f
  repeat' first
      | (with_reducible exact ih0 _ _ _)
      | (with_reducible exact laws_markText.mono _ _)
      | (with_reducible exact LeO.refl _)
      | (with_reducible exact LeO.none _)
      | (with_reducible refine LeO.ite ?_ ?_)
      | (with_reducible refine LeO.bind ?_ (fun _ => ?_))
      | exact ih0 _ _ _
      | exact laws_markText.mono _ _
      | exact LeO.none _
      | refine LeO.ite ?_ ?_
      | refine LeO.bind ?_ (fun _ => ?_)
set_option maxHeartbeats 8000000 in
set_option maxRecDepth 100000 in
theorem laws_markSessionS.calls (k : Nat) (P0_ : Nat → Prop) (u9000_ : Value) (l0 : List (S45)) (a1 : Int) (r1 : Int) (r2 : List (S45)) (w0 w : World) (hB : Below w0.heap.size w0 w) (ho0 : Kd.R k45 45 w w0.heap.size P0_ u9000_ l0) (h : laws_markSessionS.f k l0 a1 = some (r1, r2)) :
    Calls Try.prog 32 #[u9000_, .int .i64 a1] w fun e w' => e = .returned (.int .i64 r1) ∧ Kd.R k45 45 w' w0.heap.size (fun k_ => (P0_ k_ ∨ w.heap.size ≤ k_)) u9000_ r2 ∧ Below w0.heap.size w0 w' ∧ Kept w w' (fun k_ => P0_ k_) := by
  have HO0 := Aside0.mk (show Kd.R k45 45 w w0.heap.size (fun k_ => (P0_ k_ ∨ w.heap.size ≤ k_)) u9000_ l0 from Kd.R_mono ho0 (fun k_ hk => (.inl hk)))
  have HK := Aside0.mk (Kept.refl w (fun k_ => P0_ k_))
  have HW0 := Aside0.mk hB.size
  have HB := Aside0.mk hB
  clear hB
  have H : (laws_markSessionS.l0 k l0 a1 0) = some (r1, r2) := h
  clear h
  have H' := Aside0.mk H
  clear H
  go_enter Try.func32, Try.ntmps32
  go_wp2
  go_loopg [1, 5] k (fun kq v1 v5 w' => ∃ (x0_1 : List (S45)) (x1_1 : Int) (x5_1 : Int), v1 = .int .i64 x1_1 ∧ v5 = .int .i64 x5_1 ∧ Aside0 (laws_markSessionS.l0 kq x0_1 x1_1 x5_1 = some (r1, r2)) ∧ Aside0 (kq ≤ k) ∧ Aside0 (Kd.R k45 45 w' w0.heap.size (fun k_ => (P0_ k_ ∨ w.heap.size ≤ k_)) u9000_ x0_1) ∧ Aside0 (Kept w w' (fun k_ => P0_ k_)) ∧ Aside0 (Below w0.heap.size w0 w'))
  case atStart => exact ⟨(l0), (a1), (0), u2_6, u2_6, H', ⟨Nat.le_refl _⟩, ⟨(by (with_reducible repeat (first | apply Kd.R_alloc | apply Kd.R_drewN | apply Kd.R_drew)); exact HO0.out)⟩, ⟨u2_2⟩, ⟨u2_0⟩⟩
  clear H'
  try clear p2
  obtain ⟨x0_1, x1_1, x5_1, rfl, rfl, HA, HK1, HO_0, HK, HB⟩ := hrel
  cases gk with
  | zero => exact absurd HA.out (by simp [laws_markSessionS.l0])
  | succ k1 =>
    have H := HA.out
    clear HA
    simp only [laws_markSessionS.l0] at H
    by_cases c3 : x5_1 < (x0_1.length : Int)
    rotate_left
    · rw [if_neg c3] at H
      have c3b0 : decide (x5_1 < (x0_1.length : Int)) = false := decide_eq_false c3
      clear c3
      simp only [Option.some.injEq, Prod.mk.injEq] at H
      obtain ⟨rfl, rfl⟩ := H
      obtain ⟨Ao20, co20, eo20⟩ := Kd.R_slice HO_0.out
      subst eo20
      go_wp2
      go_ret
      exact ⟨by first | rfl | (simp [errW_none, errW_some] <;> rfl) | (simp [*, errW_none, errW_some] <;> rfl), u2_4, u2_0, u2_2⟩
    rw [if_pos c3] at H
    have c3b0 : decide (x5_1 < (x0_1.length : Int)) = true := decide_eq_true c3
    clear c3
    by_cases c4 : 0 ≤ x5_1
    rotate_left
    · rw [if_neg c4] at H
      exact absurd H (by simp)
    rw [if_pos c4] at H
    have c4b0 : decide (0 ≤ x5_1) = true := decide_eq_true c4
    clear c4
    obtain ⟨y135, hy135⟩ : ∃ y_ : List (S45), y_ = (x0_1.set (x5_1 : Int).toNat (⟨x1_1, (rd_T45 x0_1 x5_1).f1, (rd_T45 x0_1 x5_1).f2, (rd_T45 x0_1 x5_1).f3⟩ : S45)) := ⟨_, rfl⟩
    replace H : ((some (y135.set (x5_1 : Int).toNat (⟨(rd_T45 y135 x5_1).f0, wrap64 (x1_1 + 1), (rd_T45 y135 x5_1).f2, (rd_T45 y135 x5_1).f3⟩ : S45) : List (S45))).bind fun y136 => ((some (y136.set (x5_1 : Int).toNat (⟨(rd_T45 y136 x5_1).f0, (rd_T45 y136 x5_1).f1, wrap64 ((wrap64 (x1_1 + 1)) + 1), (rd_T45 y136 x5_1).f3⟩ : S45) : List (S45))).bind fun y137 => ((laws_markText.f k1 (wrap64 ((wrap64 ((wrap64 (x1_1 + 1)) + 1)) + 1))).bind fun t138 => (laws_markSessionS.l0 k1 (y137.set (x5_1 : Int).toNat (⟨(rd_T45 y137 x5_1).f0, (rd_T45 y137 x5_1).f1, (rd_T45 y137 x5_1).f2, t138⟩ : S45)) (wrap64 ((wrap64 ((wrap64 ((wrap64 (x1_1 + 1)) + 1)) + 1)) + 1)) (wrap64 (x5_1 + 1)))))) = some (r1, r2) := by first | (rw [hy135]; with_reducible exact H) | (have H2_ := (Option.bind_some _ _).symm.trans H; rw [hy135]; with_reducible exact H2_) | (have H2_ := (Option.bind_some _ _).symm.trans H; with_reducible exact H2_) | with_reducible exact H | (rw [hy135]; exact H) | exact H
    have Ny135 := Aside0.mk hy135
    clear hy135
    obtain ⟨y136, hy136⟩ : ∃ y_ : List (S45), y_ = (y135.set (x5_1 : Int).toNat (⟨(rd_T45 y135 x5_1).f0, wrap64 (x1_1 + 1), (rd_T45 y135 x5_1).f2, (rd_T45 y135 x5_1).f3⟩ : S45)) := ⟨_, rfl⟩
    replace H : ((some (y136.set (x5_1 : Int).toNat (⟨(rd_T45 y136 x5_1).f0, (rd_T45 y136 x5_1).f1, wrap64 ((wrap64 (x1_1 + 1)) + 1), (rd_T45 y136 x5_1).f3⟩ : S45) : List (S45))).bind fun y137 => ((laws_markText.f k1 (wrap64 ((wrap64 ((wrap64 (x1_1 + 1)) + 1)) + 1))).bind fun t138 => (laws_markSessionS.l0 k1 (y137.set (x5_1 : Int).toNat (⟨(rd_T45 y137 x5_1).f0, (rd_T45 y137 x5_1).f1, (rd_T45 y137 x5_1).f2, t138⟩ : S45)) (wrap64 ((wrap64 ((wrap64 ((wrap64 (x1_1 + 1)) + 1)) + 1)) + 1)) (wrap64 (x5_1 + 1))))) = some (r1, r2) := by first | (rw [hy136]; with_reducible exact H) | (have H2_ := (Option.bind_some _ _).symm.trans H; rw [hy136]; with_reducible exact H2_) | (have H2_ := (Option.bind_some _ _).symm.trans H; with_reducible exact H2_) | with_reducible exact H | (rw [hy136]; exact H) | exact H
    have Ny136 := Aside0.mk hy136
    clear hy136
    obtain ⟨y137, hy137⟩ : ∃ y_ : List (S45), y_ = (y136.set (x5_1 : Int).toNat (⟨(rd_T45 y136 x5_1).f0, (rd_T45 y136 x5_1).f1, wrap64 ((wrap64 (x1_1 + 1)) + 1), (rd_T45 y136 x5_1).f3⟩ : S45)) := ⟨_, rfl⟩
    replace H : ((laws_markText.f k1 (wrap64 ((wrap64 ((wrap64 (x1_1 + 1)) + 1)) + 1))).bind fun t138 => (laws_markSessionS.l0 k1 (y137.set (x5_1 : Int).toNat (⟨(rd_T45 y137 x5_1).f0, (rd_T45 y137 x5_1).f1, (rd_T45 y137 x5_1).f2, t138⟩ : S45)) (wrap64 ((wrap64 ((wrap64 ((wrap64 (x1_1 + 1)) + 1)) + 1)) + 1)) (wrap64 (x5_1 + 1)))) = some (r1, r2) := by first | (rw [hy137]; with_reducible exact H) | (have H2_ := (Option.bind_some _ _).symm.trans H; rw [hy137]; with_reducible exact H2_) | (have H2_ := (Option.bind_some _ _).symm.trans H; with_reducible exact H2_) | with_reducible exact H | (rw [hy137]; exact H) | exact H
    have Ny137 := Aside0.mk hy137
    clear hy137
    replace H := Option.bind_eq_some_iff.mp H
    obtain ⟨t138, A80, H⟩ := H
    have A8 := Aside0.mk A80
    clear A80
    obtain ⟨y139, hy139⟩ : ∃ y_ : List (S45), y_ = (y137.set (x5_1 : Int).toNat (⟨(rd_T45 y137 x5_1).f0, (rd_T45 y137 x5_1).f1, (rd_T45 y137 x5_1).f2, t138⟩ : S45)) := ⟨_, rfl⟩
    replace H : (laws_markSessionS.l0 k1 y139 (wrap64 ((wrap64 ((wrap64 ((wrap64 (x1_1 + 1)) + 1)) + 1)) + 1)) (wrap64 (x5_1 + 1))) = some (r1, r2) := by first | (rw [hy139]; with_reducible exact H) | (have H2_ := (Option.bind_some _ _).symm.trans H; rw [hy139]; with_reducible exact H2_) | (have H2_ := (Option.bind_some _ _).symm.trans H; with_reducible exact H2_) | with_reducible exact H | (rw [hy139]; exact H) | exact H
    have Ny139 := Aside0.mk hy139
    clear hy139
    have H' := Aside0.mk H
    clear H
    obtain ⟨Ao10, co10, eo10⟩ := Kd.R_slice HO_0.out
    subst eo10
    have p5 : 0 ≤ (x5_1 : Int) := of_decide_eq_true u2_1
    have q5 : (x5_1 : Int) < ((x0_1.length : Int) : Int) := of_decide_eq_true u2_1
    obtain ⟨go5, co5, eo5, gb5, gl5, cl5, HG5⟩ := Kd.R_form HO_0.out (by omega)
    (first | cases eo5 | (injection eo5 with ea_ en_ ec_; (first | subst ea_ | (injection ea_ with ea_; subst ea_)); subst ec_; clear en_))
    have GB5 := Aside0.mk gb5
    have GG5 := Aside0.mk HG5
    clear gb5 gl5 HG5
    have HMgo5 := Aside0.mk (show (P0_ go5 ∨ w.heap.size ≤ go5) from (HO_0.out.1 _ rfl))
    obtain ⟨ce5, hcl5, hM5, hcc5, hfr5⟩ := Kd.R_elem HO_0.out z45 (x5_1 : Int) p5 q5
    obtain rfl := k45_openM hM5
    have hx5_0 : wr.cell? ⟨go5, (x5_1 : Int).toNat * 4, none⟩ = some (.int .i64 ((rd_T45 x0_1 x5_1).f0)) := hcc5 0 _ rfl
    have hx5_1 : wr.cell? ⟨go5, (x5_1 : Int).toNat * 4 + 1, none⟩ = some (.int .i64 ((rd_T45 x0_1 x5_1).f1)) := hcc5 1 _ rfl
    have hx5_2 : wr.cell? ⟨go5, (x5_1 : Int).toNat * 4 + 2, none⟩ = some (.int .i64 ((rd_T45 x0_1 x5_1).f2)) := hcc5 2 _ rfl
    have hx5_3 : wr.cell? ⟨go5, (x5_1 : Int).toNat * 4 + 3, none⟩ = some (.string ((rd_T45 x0_1 x5_1).f3)) := hcc5 3 _ rfl
    have hf5_0 : wr.frozen? ⟨go5, (x5_1 : Int).toNat * 4, none⟩ = false := hfr5 0
    have hf5_1 : wr.frozen? ⟨go5, (x5_1 : Int).toNat * 4 + 1, none⟩ = false := hfr5 1
    have hf5_2 : wr.frozen? ⟨go5, (x5_1 : Int).toNat * 4 + 2, none⟩ = false := hfr5 2
    have hf5_3 : wr.frozen? ⟨go5, (x5_1 : Int).toNat * 4 + 3, none⟩ = false := hfr5 3
    clear hcl5 hcc5 hfr5 hM5
    replace p5 := eq_true p5
    replace q5 := eq_true q5
    have HX11 := Aside0.mk (show Kd.R k45 45 wr w0.heap.size (fun k_ => (P0_ k_ ∨ w.heap.size ≤ k_)) (.slice (some ⟨go5, 0, none⟩) x0_1.length co10) x0_1 from u2_4)
    obtain ⟨ce11, hcl11, hM11, hcc11, hfr11⟩ := Kd.R_elem HX11.out z45 (x5_1 : Int) (of_decide_eq_true u2_1) (by have h_ : (x5_1 : Int) < ((x0_1.length : Int) : Int) := of_decide_eq_true u2_1; first | exact h_ | (have e_ := (Kd.R_reads' HO_0.out).1; omega) | simpa using h_)
    obtain rfl := k45_openM hM11
    have HP11 := Kd.R_seg HX11.out (x5_1 : Int) (of_decide_eq_true u2_1) (by have h_ : (x5_1 : Int) < ((x0_1.length : Int) : Int) := of_decide_eq_true u2_1; first | exact h_ | (have e_ := (Kd.R_reads' HO_0.out).1; omega) | simpa using h_) (seg := [.int .i64 x1_1]) (j := 0) hcl11 hcc11 (show 1 ≤ 4 from by decide) (x' := (⟨x1_1, (rd_T45 x0_1 x5_1).f1, (rd_T45 x0_1 x5_1).f2, (rd_T45 x0_1 x5_1).f3⟩ : S45)) (k45_mkM _ _ _ (⟨x1_1, (rd_T45 x0_1 x5_1).f1, (rd_T45 x0_1 x5_1).f2, (rd_T45 x0_1 x5_1).f3⟩ : S45) ) (fun _ hk => hk)
    have hx11_0 := hcc11 0 _ rfl
    (try simp only [show (k45).sz = 4 from rfl, Nat.mul_one, Nat.add_zero] at hx11_0)
    have hf11_0 := hfr11 0
    (try simp only [show (k45).sz = 4 from rfl, Nat.mul_one, Nat.add_zero] at hf11_0)
    clear hcl11 hcc11 hfr11 hM11
    go_wp2_with (first | ((with_reducible refine gate_store (t := 3) (p := 16) rfl ?_); refine store_event (t := 3) (p := 16) (v := ?vo_w12) (w1 := (wr.setCell ⟨go5, (x5_1 : Int).toNat * 4, none⟩ (.int .i64 x1_1))) ?hg ?ho ?hn ?hr ?_; (case ho => rfl); (case hg => rfl); (case hn => rfl); (case hr => first | (go_simp; done) | (go_simp; rfl)); intro w12 hw; have hg : wr.grownBy w12 (some go5) := (by rw [hw]; exact HP11.2); have hp_ : Kd.R k45 45 w12 w0.heap.size (fun k_ => (P0_ k_ ∨ w.heap.size ≤ k_)) (.slice (some ⟨go5, 0, none⟩) x0_1.length co10) y135 := (by rw [hw, Ny135.out]; exact HP11.1); clear HP11; have n0_ := Aside0.mk (hp_); have n1_ := Aside0.mk ((by rw [hw]; exact below_set (HB.out) GB5.out : Below w0.heap.size w0 w12)); have n2_ := Aside0.mk (Kept.of_grown (S := (fun k_ => P0_ k_)) hg u2_2 (fun k_ e_ => (HO_0.out.1 k_ e_))); clear HO_0; clear HB; clear HK; have HO_0 := n0_; have HB := n1_; have HK := n2_; clear n0_ n1_ n2_; clear hg hw hp_; have p6 : 0 ≤ (x5_1 : Int) := of_decide_eq_true u2_1; have q6 : (x5_1 : Int) < ((x0_1.length : Int) : Int) := of_decide_eq_true u2_1; obtain ⟨ce6, hcl6, hM6, hcc6, hfr6⟩ := Kd.R_elem HO_0.out z45 (x5_1 : Int) p6 q6; obtain rfl := k45_openM hM6; have hx6_0 : w12.cell? ⟨go5, (x5_1 : Int).toNat * 4, none⟩ = some (.int .i64 ((rd_T45 y135 x5_1).f0)) := hcc6 0 _ rfl; have hx6_1 : w12.cell? ⟨go5, (x5_1 : Int).toNat * 4 + 1, none⟩ = some (.int .i64 ((rd_T45 y135 x5_1).f1)) := hcc6 1 _ rfl; have hx6_2 : w12.cell? ⟨go5, (x5_1 : Int).toNat * 4 + 2, none⟩ = some (.int .i64 ((rd_T45 y135 x5_1).f2)) := hcc6 2 _ rfl; have hx6_3 : w12.cell? ⟨go5, (x5_1 : Int).toNat * 4 + 3, none⟩ = some (.string ((rd_T45 y135 x5_1).f3)) := hcc6 3 _ rfl; have hf6_0 : w12.frozen? ⟨go5, (x5_1 : Int).toNat * 4, none⟩ = false := hfr6 0; have hf6_1 : w12.frozen? ⟨go5, (x5_1 : Int).toNat * 4 + 1, none⟩ = false := hfr6 1; have hf6_2 : w12.frozen? ⟨go5, (x5_1 : Int).toNat * 4 + 2, none⟩ = false := hfr6 2; have hf6_3 : w12.frozen? ⟨go5, (x5_1 : Int).toNat * 4 + 3, none⟩ = false := hfr6 3; clear hcl6 hcc6 hfr6 hM6; replace p6 := eq_true p6; replace q6 := eq_true q6; have HX13 := Aside0.mk (show Kd.R k45 45 w12 w0.heap.size (fun k_ => (P0_ k_ ∨ w.heap.size ≤ k_)) (.slice (some ⟨go5, 0, none⟩) x0_1.length co10) y135 from u2_4); obtain ⟨ce13, hcl13, hM13, hcc13, hfr13⟩ := Kd.R_elem HX13.out z45 (x5_1 : Int) (of_decide_eq_true u2_1) (by have h_ : (x5_1 : Int) < ((x0_1.length : Int) : Int) := of_decide_eq_true u2_1; first | exact h_ | (have e_ := (Kd.R_reads' HO_0.out).1; omega) | simpa using h_); obtain rfl := k45_openM hM13; have HP13 := Kd.R_seg HX13.out (x5_1 : Int) (of_decide_eq_true u2_1) (by have h_ : (x5_1 : Int) < ((x0_1.length : Int) : Int) := of_decide_eq_true u2_1; first | exact h_ | (have e_ := (Kd.R_reads' HO_0.out).1; omega) | simpa using h_) (seg := [.int .i64 (wrap64 (x1_1 + 1))]) (j := 1) hcl13 hcc13 (show 2 ≤ 4 from by decide) (x' := (⟨(rd_T45 y135 x5_1).f0, wrap64 (x1_1 + 1), (rd_T45 y135 x5_1).f2, (rd_T45 y135 x5_1).f3⟩ : S45)) (k45_mkM _ _ _ (⟨(rd_T45 y135 x5_1).f0, wrap64 (x1_1 + 1), (rd_T45 y135 x5_1).f2, (rd_T45 y135 x5_1).f3⟩ : S45) ) (fun _ hk => hk); have hx13_1 := hcc13 1 _ rfl; (try simp only [show (k45).sz = 4 from rfl, Nat.mul_one, Nat.add_zero] at hx13_1); have hf13_1 := hfr13 1; (try simp only [show (k45).sz = 4 from rfl, Nat.mul_one, Nat.add_zero] at hf13_1); clear hcl13 hcc13 hfr13 hM13) | ((with_reducible refine gate_store (t := 3) (p := 23) rfl ?_); refine store_event (t := 3) (p := 23) (v := ?vo_w14) (w1 := (w12.setCell ⟨go5, (x5_1 : Int).toNat * 4 + 1, none⟩ (.int .i64 (wrap64 (x1_1 + 1))))) ?hg ?ho ?hn ?hr ?_; (case ho => rfl); (case hg => rfl); (case hn => rfl); (case hr => first | (go_simp; done) | (go_simp; rfl)); intro w14 hw; have hg : w12.grownBy w14 (some go5) := (by rw [hw]; exact HP13.2); have hp_ : Kd.R k45 45 w14 w0.heap.size (fun k_ => (P0_ k_ ∨ w.heap.size ≤ k_)) (.slice (some ⟨go5, 0, none⟩) x0_1.length co10) y136 := (by rw [hw, Ny136.out]; exact HP13.1); clear HP13; have n0_ := Aside0.mk (hp_); have n1_ := Aside0.mk ((by rw [hw]; exact below_set (HB.out) GB5.out : Below w0.heap.size w0 w14)); have n2_ := Aside0.mk (Kept.of_grown (S := (fun k_ => P0_ k_)) hg u2_2 (fun k_ e_ => (HO_0.out.1 k_ e_))); clear HO_0; clear HB; clear HK; have HO_0 := n0_; have HB := n1_; have HK := n2_; clear n0_ n1_ n2_; clear hg hw hp_; have p7 : 0 ≤ (x5_1 : Int) := of_decide_eq_true u2_1; have q7 : (x5_1 : Int) < ((x0_1.length : Int) : Int) := of_decide_eq_true u2_1; obtain ⟨ce7, hcl7, hM7, hcc7, hfr7⟩ := Kd.R_elem HO_0.out z45 (x5_1 : Int) p7 q7; obtain rfl := k45_openM hM7; have hx7_0 : w14.cell? ⟨go5, (x5_1 : Int).toNat * 4, none⟩ = some (.int .i64 ((rd_T45 y136 x5_1).f0)) := hcc7 0 _ rfl; have hx7_1 : w14.cell? ⟨go5, (x5_1 : Int).toNat * 4 + 1, none⟩ = some (.int .i64 ((rd_T45 y136 x5_1).f1)) := hcc7 1 _ rfl; have hx7_2 : w14.cell? ⟨go5, (x5_1 : Int).toNat * 4 + 2, none⟩ = some (.int .i64 ((rd_T45 y136 x5_1).f2)) := hcc7 2 _ rfl; have hx7_3 : w14.cell? ⟨go5, (x5_1 : Int).toNat * 4 + 3, none⟩ = some (.string ((rd_T45 y136 x5_1).f3)) := hcc7 3 _ rfl; have hf7_0 : w14.frozen? ⟨go5, (x5_1 : Int).toNat * 4, none⟩ = false := hfr7 0; have hf7_1 : w14.frozen? ⟨go5, (x5_1 : Int).toNat * 4 + 1, none⟩ = false := hfr7 1; have hf7_2 : w14.frozen? ⟨go5, (x5_1 : Int).toNat * 4 + 2, none⟩ = false := hfr7 2; have hf7_3 : w14.frozen? ⟨go5, (x5_1 : Int).toNat * 4 + 3, none⟩ = false := hfr7 3; clear hcl7 hcc7 hfr7 hM7; replace p7 := eq_true p7; replace q7 := eq_true q7; have HX15 := Aside0.mk (show Kd.R k45 45 w14 w0.heap.size (fun k_ => (P0_ k_ ∨ w.heap.size ≤ k_)) (.slice (some ⟨go5, 0, none⟩) x0_1.length co10) y136 from u2_4); obtain ⟨ce15, hcl15, hM15, hcc15, hfr15⟩ := Kd.R_elem HX15.out z45 (x5_1 : Int) (of_decide_eq_true u2_1) (by have h_ : (x5_1 : Int) < ((x0_1.length : Int) : Int) := of_decide_eq_true u2_1; first | exact h_ | (have e_ := (Kd.R_reads' HO_0.out).1; omega) | simpa using h_); obtain rfl := k45_openM hM15; have HP15 := Kd.R_seg HX15.out (x5_1 : Int) (of_decide_eq_true u2_1) (by have h_ : (x5_1 : Int) < ((x0_1.length : Int) : Int) := of_decide_eq_true u2_1; first | exact h_ | (have e_ := (Kd.R_reads' HO_0.out).1; omega) | simpa using h_) (seg := [.int .i64 (wrap64 ((wrap64 (x1_1 + 1)) + 1))]) (j := 2) hcl15 hcc15 (show 3 ≤ 4 from by decide) (x' := (⟨(rd_T45 y136 x5_1).f0, (rd_T45 y136 x5_1).f1, wrap64 ((wrap64 (x1_1 + 1)) + 1), (rd_T45 y136 x5_1).f3⟩ : S45)) (k45_mkM _ _ _ (⟨(rd_T45 y136 x5_1).f0, (rd_T45 y136 x5_1).f1, wrap64 ((wrap64 (x1_1 + 1)) + 1), (rd_T45 y136 x5_1).f3⟩ : S45) ) (fun _ hk => hk); have hx15_2 := hcc15 2 _ rfl; (try simp only [show (k45).sz = 4 from rfl, Nat.mul_one, Nat.add_zero] at hx15_2); have hf15_2 := hfr15 2; (try simp only [show (k45).sz = 4 from rfl, Nat.mul_one, Nat.add_zero] at hf15_2); clear hcl15 hcc15 hfr15 hM15) | ((with_reducible refine gate_store (t := 3) (p := 30) rfl ?_); refine store_event (t := 3) (p := 30) (v := ?vo_w16) (w1 := (w14.setCell ⟨go5, (x5_1 : Int).toNat * 4 + 2, none⟩ (.int .i64 (wrap64 ((wrap64 (x1_1 + 1)) + 1))))) ?hg ?ho ?hn ?hr ?_; (case ho => rfl); (case hg => rfl); (case hn => rfl); (case hr => first | (go_simp; done) | (go_simp; rfl)); intro w16 hw; have hg : w14.grownBy w16 (some go5) := (by rw [hw]; exact HP15.2); have hp_ : Kd.R k45 45 w16 w0.heap.size (fun k_ => (P0_ k_ ∨ w.heap.size ≤ k_)) (.slice (some ⟨go5, 0, none⟩) x0_1.length co10) y137 := (by rw [hw, Ny137.out]; exact HP15.1); clear HP15; have n0_ := Aside0.mk (hp_); have n1_ := Aside0.mk ((by rw [hw]; exact below_set (HB.out) GB5.out : Below w0.heap.size w0 w16)); have n2_ := Aside0.mk (Kept.of_grown (S := (fun k_ => P0_ k_)) hg u2_2 (fun k_ e_ => (HO_0.out.1 k_ e_))); clear HO_0; clear HB; clear HK; have HO_0 := n0_; have HB := n1_; have HK := n2_; clear n0_ n1_ n2_; clear hg hw hp_) | ((with_reducible refine gate_callee (f := 42) rfl ?_); refine goesL_ (some 36) rfl rfl Try.func42 (by kernel_rfl) rfl #[.int .i64 (wrap64 ((wrap64 ((wrap64 (x1_1 + 1)) + 1)) + 1))] rfl u2_5 ?_; (with_reducible refine (laws_markText.calls k1 (wrap64 ((wrap64 ((wrap64 (x1_1 + 1)) + 1)) + 1)) t138 _ A8.out).mono ?_); rintro e w17 ⟨rfl, hb⟩; refine ⟨_, rfl, ?_⟩; have n0_ := Aside0.mk (Kd.R_below u2_4 hb); have n1_ := Aside0.mk (Kept.below (S := (fun k_ => P0_ k_)) u2_2 hb); have n2_ := Aside0.mk (below_step u2_0 hb); clear HO_0; clear HK; clear HB; have HO_0 := n0_; have HK := n1_; have HB := n2_; clear n0_ n1_ n2_; (try clear hb); (try clear hb2); (try clear hk); (try clear hi); have p9 : 0 ≤ (x5_1 : Int) := of_decide_eq_true u2_1; have q9 : (x5_1 : Int) < ((x0_1.length : Int) : Int) := of_decide_eq_true u2_1; obtain ⟨ce9, hcl9, hM9, hcc9, hfr9⟩ := Kd.R_elem HO_0.out z45 (x5_1 : Int) p9 q9; obtain rfl := k45_openM hM9; have hx9_0 : w17.cell? ⟨go5, (x5_1 : Int).toNat * 4, none⟩ = some (.int .i64 ((rd_T45 y137 x5_1).f0)) := hcc9 0 _ rfl; have hx9_1 : w17.cell? ⟨go5, (x5_1 : Int).toNat * 4 + 1, none⟩ = some (.int .i64 ((rd_T45 y137 x5_1).f1)) := hcc9 1 _ rfl; have hx9_2 : w17.cell? ⟨go5, (x5_1 : Int).toNat * 4 + 2, none⟩ = some (.int .i64 ((rd_T45 y137 x5_1).f2)) := hcc9 2 _ rfl; have hx9_3 : w17.cell? ⟨go5, (x5_1 : Int).toNat * 4 + 3, none⟩ = some (.string ((rd_T45 y137 x5_1).f3)) := hcc9 3 _ rfl; have hf9_0 : w17.frozen? ⟨go5, (x5_1 : Int).toNat * 4, none⟩ = false := hfr9 0; have hf9_1 : w17.frozen? ⟨go5, (x5_1 : Int).toNat * 4 + 1, none⟩ = false := hfr9 1; have hf9_2 : w17.frozen? ⟨go5, (x5_1 : Int).toNat * 4 + 2, none⟩ = false := hfr9 2; have hf9_3 : w17.frozen? ⟨go5, (x5_1 : Int).toNat * 4 + 3, none⟩ = false := hfr9 3; clear hcl9 hcc9 hfr9 hM9; replace p9 := eq_true p9; replace q9 := eq_true q9; have HX18 := Aside0.mk (show Kd.R k45 45 w17 w0.heap.size (fun k_ => (P0_ k_ ∨ w.heap.size ≤ k_)) (.slice (some ⟨go5, 0, none⟩) x0_1.length co10) y137 from u2_4); obtain ⟨ce18, hcl18, hM18, hcc18, hfr18⟩ := Kd.R_elem HX18.out z45 (x5_1 : Int) (of_decide_eq_true u2_1) (by have h_ : (x5_1 : Int) < ((x0_1.length : Int) : Int) := of_decide_eq_true u2_1; first | exact h_ | (have e_ := (Kd.R_reads' HO_0.out).1; omega) | simpa using h_); obtain rfl := k45_openM hM18; have HP18 := Kd.R_seg HX18.out (x5_1 : Int) (of_decide_eq_true u2_1) (by have h_ : (x5_1 : Int) < ((x0_1.length : Int) : Int) := of_decide_eq_true u2_1; first | exact h_ | (have e_ := (Kd.R_reads' HO_0.out).1; omega) | simpa using h_) (seg := [.string t138]) (j := 3) hcl18 hcc18 (show 4 ≤ 4 from by decide) (x' := (⟨(rd_T45 y137 x5_1).f0, (rd_T45 y137 x5_1).f1, (rd_T45 y137 x5_1).f2, t138⟩ : S45)) (k45_mkM _ _ _ (⟨(rd_T45 y137 x5_1).f0, (rd_T45 y137 x5_1).f1, (rd_T45 y137 x5_1).f2, t138⟩ : S45) ) (fun _ hk => hk); have hx18_3 := hcc18 3 _ rfl; (try simp only [show (k45).sz = 4 from rfl, Nat.mul_one, Nat.add_zero] at hx18_3); have hf18_3 := hfr18 3; (try simp only [show (k45).sz = 4 from rfl, Nat.mul_one, Nat.add_zero] at hf18_3); clear hcl18 hcc18 hfr18 hM18) | ((with_reducible refine gate_store (t := 9) (p := 38) rfl ?_); refine store_event (t := 9) (p := 38) (v := ?vo_w19) (w1 := (w17.setCell ⟨go5, (x5_1 : Int).toNat * 4 + 3, none⟩ (.string t138))) ?hg ?ho ?hn ?hr ?_; (case ho => rfl); (case hg => rfl); (case hn => rfl); (case hr => first | (go_simp; done) | (go_simp; rfl)); intro w19 hw; have hg : w17.grownBy w19 (some go5) := (by rw [hw]; exact HP18.2); have hp_ : Kd.R k45 45 w19 w0.heap.size (fun k_ => (P0_ k_ ∨ w.heap.size ≤ k_)) (.slice (some ⟨go5, 0, none⟩) x0_1.length co10) y139 := (by rw [hw, Ny139.out]; exact HP18.1); clear HP18; have n0_ := Aside0.mk (hp_); have n1_ := Aside0.mk ((by rw [hw]; exact below_set (HB.out) GB5.out : Below w0.heap.size w0 w19)); have n2_ := Aside0.mk (Kept.of_grown (S := (fun k_ => P0_ k_)) hg u2_2 (fun k_ e_ => (HO_0.out.1 k_ e_))); clear HO_0; clear HB; clear HK; have HO_0 := n0_; have HB := n1_; have HK := n2_; clear n0_ n1_ n2_; clear hg hw hp_))
    go_roundg k1
    case measure => have := HK1.out; omega
    case rel => exact ⟨(y139), (wrap64 ((wrap64 ((wrap64 ((wrap64 (x1_1 + 1)) + 1)) + 1)) + 1)), (wrap64 (x5_1 + 1)), u2_6, u2_6, H', ⟨by have := HK1.out; omega⟩, ⟨u2_4⟩, ⟨u2_2⟩, ⟨u2_0⟩⟩

/-! ### laws_markSessions: function 16 -/
def laws_markSessions.f (k : Nat) (a0_0 : Int) (a0_1 : Int) (l0_2 : List (S45)) (a1 : Int) : Option (Int × (List (S45))) := (laws_markSessionS.f k l0_2 a1).bind fun bt141 => (some (bt141.1, bt141.2))
theorem laws_markSessions.mono : ∀ a0 a1 a2 a3 k, LeO (laws_markSessions.f k a0 a1 a2 a3) (laws_markSessions.f (k + 1) a0 a1 a2 a3) := by
  intro a0 a1 a2 a3 k
  unfold laws_markSessions.f
  repeat' first
      | (with_reducible exact laws_markSessionS.mono _ _ _)
      | (with_reducible exact LeO.refl _)
      | (with_reducible exact LeO.none _)
      | (with_reducible refine LeO.ite ?_ ?_)
      | (with_reducible refine LeO.bind ?_ (fun _ => ?_))
      | exact laws_markSessionS.mono _ _ _
      | exact LeO.none _
      | refine LeO.ite ?_ ?_
      | refine LeO.bind ?_ (fun _ => ?_)
set_option maxHeartbeats 8000000 in
set_option maxRecDepth 100000 in
theorem laws_markSessions.calls (k : Nat) (a0_0 : Int) (a0_1 : Int) (P0_2_ : Nat → Prop) (u9000_ : Value) (l0_2 : List (S45)) (a1 : Int) (r1 : Int) (r2 : List (S45)) (w0 w : World) (hB : Below w0.heap.size w0 w) (ho0_2 : Kd.R k45 45 w w0.heap.size P0_2_ u9000_ l0_2) (h : laws_markSessions.f k a0_0 a0_1 l0_2 a1 = some (r1, r2)) :
    Calls Try.prog 16 #[.agg #[.int .i64 a0_0, .int .i64 a0_1, u9000_], .int .i64 a1] w fun e w' => e = .returned (.int .i64 r1) ∧ Kd.R k45 45 w' w0.heap.size (fun k_ => (P0_2_ k_ ∨ w.heap.size ≤ k_)) u9000_ r2 ∧ Below w0.heap.size w0 w' ∧ Kept w w' (fun k_ => P0_2_ k_) := by
  have hu29 := Try.underlying29
  have HO0_2 := Aside0.mk (show Kd.R k45 45 w w0.heap.size (fun k_ => (P0_2_ k_ ∨ w.heap.size ≤ k_)) u9000_ l0_2 from Kd.R_mono ho0_2 (fun k_ hk => (.inl hk)))
  have HK := Aside0.mk (Kept.refl w (fun k_ => P0_2_ k_))
  have HW0 := Aside0.mk hB.size
  have HB := Aside0.mk hB
  clear hB
  have H : ((laws_markSessionS.f k l0_2 a1).bind fun bt141 => (some (bt141.1, bt141.2))) = some (r1, r2) := h
  clear h
  replace H := Option.bind_eq_some_iff.mp H
  obtain ⟨⟨t141, t142⟩, A30, H⟩ := H
  replace H : (some (t141, t142)) = some (r1, r2) := H
  have A3 := Aside0.mk A30
  clear A30
  simp only [Option.some.injEq, Prod.mk.injEq] at H
  obtain ⟨rfl, rfl⟩ := H
  obtain ⟨Ao4, co4, eo4⟩ := Kd.R_slice HO0_2.out
  subst eo4
  go_enter Try.func16, Try.ntmps16
  go_wp2_with (first | ((with_reducible refine gate_dst (N := 2) rfl ?_); refine box_event ?hg (N := 2) ?hd (cs := #[.int .i64 a0_0, .int .i64 a0_1, .slice Ao4 l0_2.length co4]) (t := 29) ?hr ?_; (case hd => rfl); (case hg => rfl); (case hr => first | (go_simp; done) | (go_simp; rfl)); intro gb140 hg w5 hbox hb; have n0_ := Aside0.mk (Kd.R_below u2_13 hb); have n1_ := Aside0.mk (Kept.below (S := (fun k_ => P0_2_ k_)) u2_2 hb); have n2_ := Aside0.mk (below_step u2_0 hb); have n3_ := Aside0.mk (hbox); have n4_ := Aside0.mk ((by rw [hg]; exact (by first | exact HK.out.1 | exact (show Kept w _ (fun k_ => P0_2_ k_) from by repeat (first | (with_reducible first | exact HK.out | apply Kept.alloc | apply Kept.drewN | apply Kept.drew) | exact HK.out)).1) : w.heap.size ≤ gb140)); have n5_ := Aside0.mk ((by rw [hg]; exact (below_size u2_0) : w0.heap.size ≤ gb140)); clear HO0_2; clear HK; clear HB; have HO0_2 := n0_; have HK := n1_; have HB := n2_; have BK140 := n3_; have GW140 := n4_; have GE140 := n5_; clear n0_ n1_ n2_ n3_ n4_ n5_; clear hb hbox hg; have hcz6_0 : w5.cell? ⟨gb140, 0, none⟩ = some (.int .i64 a0_0) := (blk_cell BK140.out 0).trans rfl; have hcz6_1 : w5.cell? ⟨gb140, 1, none⟩ = some (.int .i64 a0_1) := (blk_cell BK140.out 1).trans rfl; have hcz6_2 : w5.cell? ⟨gb140, 2, none⟩ = some (.slice Ao4 l0_2.length co4) := (blk_cell BK140.out 2).trans rfl; have hfz6_0 := blk_frozen BK140.out 0; have hfz6_1 := blk_frozen BK140.out 1; have hfz6_2 := blk_frozen BK140.out 2) | ((with_reducible refine gate_callee (f := 32) rfl ?_); refine goesL_ (some 8) rfl rfl Try.func32 (by kernel_rfl) rfl #[.slice Ao4 l0_2.length co4, .int .i64 a1] rfl u2_5 ?_; (with_reducible refine (laws_markSessionS.calls k (fun k_ => some k_ = (.slice Ao4 l0_2.length co4 : Value).ownBlock) (.slice Ao4 l0_2.length co4) l0_2 a1 t141 t142 w0 _ ?side1 ?side2 A3.out).mono ?_); (case side1 => exact u2_12); (case side2 => exact Kd.R_tight rfl HO0_2.out); rintro e w7 ⟨rfl, hy0, hb, hkp⟩; refine ⟨_, rfl, ?_⟩; have n0_ := Aside0.mk (Kd.R_reok rfl hy0 (fun k_ e_ => HO0_2.out.1 k_ e_)); have n1_ := Aside0.mk (blk_kept (by (with_reducible repeat (first | refine blk_drewN ?_ _ | refine blk_drew ?_ | refine blk_alloc ?_ _)); exact BK140.out) hkp (fun hs_ => (fun e_ => (Kd.R_ne HO0_2.out BK140.out (by decide)) e_) hs_)); have n2_ := Aside0.mk (Kept.then_ (S := (fun k_ => P0_2_ k_)) u2_11 hkp (fun k_ hs_ => (fun e_ => (HO0_2.out.1 k_ e_.symm)) hs_)); have n3_ := Aside0.mk (hb); clear HO0_2; clear BK140; clear HK; clear HB; have HO0_2 := n0_; have BK140 := n1_; have HK := n2_; have HB := n3_; clear n0_ n1_ n2_ n3_; (try clear hb); (try clear hkp); (try clear hy0)))
  go_ret
  exact ⟨by first | rfl | (simp [errW_none, errW_some] <;> rfl) | (simp [*, errW_none, errW_some] <;> rfl), u2_13, u2_12, u2_11⟩

/-! ### laws_heldSessionS: function 33 -/
def laws_heldSessionS.l0 : Nat → List (S45) → Int → Int → Option (Int)
  | 0, _, _, _ => none
  | k + 1, x0, x1, x5 => if x5 < (x0.length : Int) then (if 0 ≤ x5 then (if ((rd_T45 x0 x5).f0) = x1 then (if ((rd_T45 x0 x5).f1) = (wrap64 (x1 + 1)) then (if ((rd_T45 x0 x5).f2) = (wrap64 ((wrap64 (x1 + 1)) + 1)) then ((laws_markText.f k (wrap64 ((wrap64 ((wrap64 (x1 + 1)) + 1)) + 1))).bind fun t147 => (if ((rd_T45 x0 x5).f3).toList = t147.toList then (laws_heldSessionS.l0 k x0 (wrap64 ((wrap64 ((wrap64 ((wrap64 (x1 + 1)) + 1)) + 1)) + 1)) (wrap64 (x5 + 1))) else (some (-1)))) else (some (-1))) else (some (-1))) else (some (-1))) else (none)) else (some x1)
def laws_heldSessionS.f (k : Nat) (l0 : List (S45)) (a1 : Int) : Option (Int) := laws_heldSessionS.l0 k l0 a1 0
theorem laws_heldSessionS.mono_l : ∀ k, (∀ y0 y1 y2, LeO (laws_heldSessionS.l0 k y0 y1 y2) (laws_heldSessionS.l0 (k + 1) y0 y1 y2))
  | 0 => fun _ _ _ r h => by simp [laws_heldSessionS.l0] at h
  | k + 1 => by
    have ih0 := laws_heldSessionS.mono_l k
    · intro y0 y1 y2
      unfold laws_heldSessionS.l0
      repeat' first
      | (with_reducible exact ih0 _ _ _)
      | (with_reducible exact laws_markText.mono _ _)
      | (with_reducible exact LeO.refl _)
      | (with_reducible exact LeO.none _)
      | (with_reducible refine LeO.ite ?_ ?_)
      | (with_reducible refine LeO.bind ?_ (fun _ => ?_))
      | exact ih0 _ _ _
      | exact laws_markText.mono _ _
      | exact LeO.none _
      | refine LeO.ite ?_ ?_
      | refine LeO.bind ?_ (fun _ => ?_)
theorem laws_heldSessionS.mono : ∀ a0 a1 k, LeO (laws_heldSessionS.f k a0 a1) (laws_heldSessionS.f (k + 1) a0 a1) := by
  intro a0 a1 k
  have ih0 := laws_heldSessionS.mono_l k
  unfold laws_heldSessionS.f
  repeat' first
      | (with_reducible exact ih0 _ _ _)
      | (with_reducible exact laws_markText.mono _ _)
      | (with_reducible exact LeO.refl _)
      | (with_reducible exact LeO.none _)
      | (with_reducible refine LeO.ite ?_ ?_)
      | (with_reducible refine LeO.bind ?_ (fun _ => ?_))
      | exact ih0 _ _ _
      | exact laws_markText.mono _ _
      | exact LeO.none _
      | refine LeO.ite ?_ ?_
      | refine LeO.bind ?_ (fun _ => ?_)
def laws_heldSessionS.T13 : Bool × List (List Nat × List Nat) := (true, [([], []), ([], []), ([0, 1], [0, 1]), ([2], [2]), ([3], [3]), ([], []), ([5], [5]), ([4, 6], [4, 6])])
def laws_heldSessionS.B13 : List Nat := [0, 0, 3, 7, 15, 0, 32, 127]
theorem laws_heldSessionS.tab13 : rtab .any (opsOf Try.f33 13) = laws_heldSessionS.T13 := by kernel_rfl
theorem laws_heldSessionS.bits13 : waitsOk laws_heldSessionS.T13.2 laws_heldSessionS.B13 = true := by kernel_rfl
set_option maxHeartbeats 8000000 in
set_option maxRecDepth 100000 in
theorem laws_heldSessionS.calls (k : Nat) (A0 : Option Addr) (c0 : Nat) (l0 : List (S45)) (a1 : Int) (r : Int) (w : World) (hr0 : Kd.C k45 w A0 l0.length l0) (hc0 : l0.length ≤ c0) (h : laws_heldSessionS.f k l0 a1 = some r) :
    Calls Try.prog 33 #[.slice A0 l0.length c0, .int .i64 a1] w fun e w' => e = .returned (.int .i64 r) ∧ Below w.heap.size w w' := by
  have HR0 := Aside0.mk hr0
  have HC0 := Aside0.mk hc0
  clear hr0 hc0
  have HB := Aside0.mk (Below.refl w.heap.size w)
  have H : (laws_heldSessionS.l0 k l0 a1 0) = some r := h
  clear h
  have H' := Aside0.mk H
  clear H
  go_enter Try.func33, Try.ntmps33
  go_wp2
  go_loopg [1, 5] k (fun kq v1 v5 w' => ∃ (x1_1 : Int) (x5_1 : Int), v1 = .int .i64 x1_1 ∧ v5 = .int .i64 x5_1 ∧ Aside0 (laws_heldSessionS.l0 kq l0 x1_1 x5_1 = some r) ∧ Aside0 (kq ≤ k) ∧ Aside0 (Below w.heap.size w w'))
  case atStart => exact ⟨(a1), (0), u2_6, u2_6, H', ⟨Nat.le_refl _⟩, ⟨u2_0⟩⟩
  clear H'
  try clear p2
  obtain ⟨x1_1, x5_1, rfl, rfl, HA, HK1, HB⟩ := hrel
  cases gk with
  | zero => exact absurd HA.out (by simp [laws_heldSessionS.l0])
  | succ k1 =>
    have H := HA.out
    clear HA
    simp only [laws_heldSessionS.l0] at H
    by_cases c3 : x5_1 < (l0.length : Int)
    rotate_left
    · rw [if_neg c3] at H
      have c3b0 : decide (x5_1 < (l0.length : Int)) = false := decide_eq_false c3
      clear c3
      obtain rfl := Option.some.inj H
      go_wp2
      go_ret
      exact ⟨by first | rfl | (simp [errW_none, errW_some] <;> rfl) | (simp [*, errW_none, errW_some] <;> rfl), u2_0⟩
    rw [if_pos c3] at H
    have c3b0 : decide (x5_1 < (l0.length : Int)) = true := decide_eq_true c3
    clear c3
    by_cases c4 : 0 ≤ x5_1
    rotate_left
    · rw [if_neg c4] at H
      exact absurd H (by simp)
    rw [if_pos c4] at H
    have c4b0 : decide (0 ≤ x5_1) = true := decide_eq_true c4
    clear c4
    have H9 := Aside0.mk H
    clear H
    have p143 : 0 ≤ (x5_1 : Int) := of_decide_eq_true u2_1
    have q143 : x5_1 < (l0.length : Int) := of_decide_eq_true u2_1
    obtain ⟨ad143, e143, hx143_0, hx143_1, hx143_2, hx143_3⟩ := at_T45 HR0.out x5_1 p143 q143
    cases e143
    replace hx143_0 := (HB.out.cell (World.block_lt_of_cell? w _ hx143_0)).trans hx143_0
    replace hx143_1 := (HB.out.cell (World.block_lt_of_cell? w _ hx143_1)).trans hx143_1
    replace hx143_2 := (HB.out.cell (World.block_lt_of_cell? w _ hx143_2)).trans hx143_2
    replace hx143_3 := (HB.out.cell (World.block_lt_of_cell? w _ hx143_3)).trans hx143_3
    replace p143 := eq_true p143
    replace q143 := eq_true q143
    go_upto_if 18 with (fail)
    have H := H9.out
    clear H9
    by_cases c5 : ((rd_T45 l0 x5_1).f0) = x1_1
    rotate_left
    · rw [if_neg c5] at H
      have c5b0 : (((rd_T45 l0 x5_1).f0) == x1_1) = false := beq_eq_false_iff_ne.mpr c5
      have c5b1 : (((rd_T45 l0 x5_1).f0) != x1_1) = true := bne_iff_ne.mpr c5
      (first | rw [c5b0] | (simp only [i64_w, i32_w]; rw [c5b0]) | skip)
      obtain rfl := Option.some.inj H
      go_wp2
      go_ret
      exact ⟨by first | rfl | (simp [errW_none, errW_some] <;> rfl) | (simp [*, errW_none, errW_some] <;> rfl), u2_0⟩
    rw [if_pos c5] at H
    have c5b0 : (((rd_T45 l0 x5_1).f0) == x1_1) = true := beq_iff_eq.mpr c5
    have c5b1 : (((rd_T45 l0 x5_1).f0) != x1_1) = false := bne_eq_false_iff_eq.mpr c5
    clear c5
    (first | rw [c5b0] | (simp only [i64_w, i32_w]; rw [c5b0]) | skip)
    have H9 := Aside0.mk H
    clear H
    have p144 : 0 ≤ (x5_1 : Int) := of_decide_eq_true u2_1
    have q144 : x5_1 < (l0.length : Int) := of_decide_eq_true u2_1
    obtain ⟨ad144, e144, hx144_0, hx144_1, hx144_2, hx144_3⟩ := at_T45 HR0.out x5_1 p144 q144
    obtain rfl : ad143 = ad144 := (by injection e144)
    replace hx144_0 := (HB.out.cell (World.block_lt_of_cell? w _ hx144_0)).trans hx144_0
    replace hx144_1 := (HB.out.cell (World.block_lt_of_cell? w _ hx144_1)).trans hx144_1
    replace hx144_2 := (HB.out.cell (World.block_lt_of_cell? w _ hx144_2)).trans hx144_2
    replace hx144_3 := (HB.out.cell (World.block_lt_of_cell? w _ hx144_3)).trans hx144_3
    replace p144 := eq_true p144
    replace q144 := eq_true q144
    go_upto_if 27 with (fail)
    have H := H9.out
    clear H9
    by_cases c6 : ((rd_T45 l0 x5_1).f1) = (wrap64 (x1_1 + 1))
    rotate_left
    · rw [if_neg c6] at H
      have c6b0 : (((rd_T45 l0 x5_1).f1) == (wrap64 (x1_1 + 1))) = false := beq_eq_false_iff_ne.mpr c6
      have c6b1 : (((rd_T45 l0 x5_1).f1) != (wrap64 (x1_1 + 1))) = true := bne_iff_ne.mpr c6
      (first | rw [c6b0] | (simp only [i64_w, i32_w]; rw [c6b0]) | skip)
      obtain rfl := Option.some.inj H
      go_wp2
      go_ret
      exact ⟨by first | rfl | (simp [errW_none, errW_some] <;> rfl) | (simp [*, errW_none, errW_some] <;> rfl), u2_0⟩
    rw [if_pos c6] at H
    have c6b0 : (((rd_T45 l0 x5_1).f1) == (wrap64 (x1_1 + 1))) = true := beq_iff_eq.mpr c6
    have c6b1 : (((rd_T45 l0 x5_1).f1) != (wrap64 (x1_1 + 1))) = false := bne_eq_false_iff_eq.mpr c6
    clear c6
    (first | rw [c6b0] | (simp only [i64_w, i32_w]; rw [c6b0]) | skip)
    have H9 := Aside0.mk H
    clear H
    have p145 : 0 ≤ (x5_1 : Int) := of_decide_eq_true u2_1
    have q145 : x5_1 < (l0.length : Int) := of_decide_eq_true u2_1
    obtain ⟨ad145, e145, hx145_0, hx145_1, hx145_2, hx145_3⟩ := at_T45 HR0.out x5_1 p145 q145
    obtain rfl : ad143 = ad145 := (by injection e145)
    replace hx145_0 := (HB.out.cell (World.block_lt_of_cell? w _ hx145_0)).trans hx145_0
    replace hx145_1 := (HB.out.cell (World.block_lt_of_cell? w _ hx145_1)).trans hx145_1
    replace hx145_2 := (HB.out.cell (World.block_lt_of_cell? w _ hx145_2)).trans hx145_2
    replace hx145_3 := (HB.out.cell (World.block_lt_of_cell? w _ hx145_3)).trans hx145_3
    replace p145 := eq_true p145
    replace q145 := eq_true q145
    go_upto_if 36 with (fail)
    have H := H9.out
    clear H9
    by_cases c7 : ((rd_T45 l0 x5_1).f2) = (wrap64 ((wrap64 (x1_1 + 1)) + 1))
    rotate_left
    · rw [if_neg c7] at H
      have c7b0 : (((rd_T45 l0 x5_1).f2) == (wrap64 ((wrap64 (x1_1 + 1)) + 1))) = false := beq_eq_false_iff_ne.mpr c7
      have c7b1 : (((rd_T45 l0 x5_1).f2) != (wrap64 ((wrap64 (x1_1 + 1)) + 1))) = true := bne_iff_ne.mpr c7
      (first | rw [c7b0] | (simp only [i64_w, i32_w]; rw [c7b0]) | skip)
      obtain rfl := Option.some.inj H
      go_wp2
      go_ret
      exact ⟨by first | rfl | (simp [errW_none, errW_some] <;> rfl) | (simp [*, errW_none, errW_some] <;> rfl), u2_0⟩
    rw [if_pos c7] at H
    have c7b0 : (((rd_T45 l0 x5_1).f2) == (wrap64 ((wrap64 (x1_1 + 1)) + 1))) = true := beq_iff_eq.mpr c7
    have c7b1 : (((rd_T45 l0 x5_1).f2) != (wrap64 ((wrap64 (x1_1 + 1)) + 1))) = false := bne_eq_false_iff_eq.mpr c7
    clear c7
    (first | rw [c7b0] | (simp only [i64_w, i32_w]; rw [c7b0]) | skip)
    replace H := Option.bind_eq_some_iff.mp H
    obtain ⟨t147, A80, H⟩ := H
    have A8 := Aside0.mk A80
    clear A80
    have H9 := Aside0.mk H
    clear H
    try go_wp2
    have n0_ := Aside0.mk (below_drew1 HB.out)
    clear HB
    have HB := n0_
    clear n0_
    have p146 : 0 ≤ (x5_1 : Int) := of_decide_eq_true u2_1
    have q146 : x5_1 < (l0.length : Int) := of_decide_eq_true u2_1
    obtain ⟨ad146, e146, hx146_0, hx146_1, hx146_2, hx146_3⟩ := at_T45 HR0.out x5_1 p146 q146
    have hw146_3 := hx146_3
    have hw146_2 := hx146_2
    have hw146_1 := hx146_1
    have hw146_0 := hx146_0
    obtain rfl : ad143 = ad146 := (by injection e146)
    replace hx146_0 := (HB.out.cell (World.block_lt_of_cell? w _ hx146_0)).trans hx146_0
    replace hx146_1 := (HB.out.cell (World.block_lt_of_cell? w _ hx146_1)).trans hx146_1
    replace hx146_2 := (HB.out.cell (World.block_lt_of_cell? w _ hx146_2)).trans hx146_2
    replace hx146_3 := (HB.out.cell (World.block_lt_of_cell? w _ hx146_3)).trans hx146_3
    replace p146 := eq_true p146
    replace q146 := eq_true q146
    refine start_ (n := 8) (S := fun w' => w'.cell? (ad143.add ((x5_1).toNat * 4)) = some (.int .i64 ((rd_T45 l0 x5_1).f0)) ∧ w'.cell? ⟨(ad143.add ((x5_1).toNat * 4)).block, (ad143.add ((x5_1).toNat * 4)).off + 1, none⟩ = some (.int .i64 ((rd_T45 l0 x5_1).f1)) ∧ w'.cell? ⟨(ad143.add ((x5_1).toNat * 4)).block, (ad143.add ((x5_1).toNat * 4)).off + 2, none⟩ = some (.int .i64 ((rd_T45 l0 x5_1).f2)) ∧ w'.cell? ⟨(ad143.add ((x5_1).toNat * 4)).block, (ad143.add ((x5_1).toNat * 4)).off + 3, none⟩ = some (.string ((rd_T45 l0 x5_1).f3))) (ds := []) #[false, false, false, false, false, false, false, false] (by kernel_rfl) rfl rfl ⟨((HB.out.cell (World.block_lt_of_cell? w _ hw146_0)).trans hw146_0), ((HB.out.cell (World.block_lt_of_cell? w _ hw146_1)).trans hw146_1), ((HB.out.cell (World.block_lt_of_cell? w _ hw146_2)).trans hw146_2), ((HB.out.cell (World.block_lt_of_cell? w _ hw146_3)).trans hw146_3)⟩ (fun hHeld => ?_); refine with_tabW laws_heldSessionS.tab13 laws_heldSessionS.bits13 (fun HT_ HW_ => ?_)
    generalize wr.drew = w9 at HB hx146_0 hx146_1 hx146_2 hx146_3 hHeld ⊢
    refine pure_ (i := 0) (N := some 39) (v := ?_) (a' := ?_) #[true, false, false, false, false, false, false, false] rfl rfl (any_of HT_.out (by kernel_rfl)) (fun _ _ _ h => h) (Or.inl ⟨by rfl, ?_⟩) ?_ ?_
    rotate_left
    · intro w'
      go_simp
      with_reducible rfl
    rotate_left
    · simp only [Act.put, List.setIfInBounds_toArray, List.set_cons_zero, List.set_cons_succ, i64_w, i32_w]
      rfl
    refine pure_ (i := 1) (N := some 40) (v := ?_) (a' := ?_) #[true, true, false, false, false, false, false, false] rfl rfl (any_of HT_.out (by kernel_rfl)) (fun _ _ _ h => h) (Or.inl ⟨by rfl, ?_⟩) ?_ ?_
    rotate_left
    · intro w'
      go_simp
      with_reducible rfl
    rotate_left
    · simp only [Act.put, List.setIfInBounds_toArray, List.set_cons_zero, List.set_cons_succ, i64_w, i32_w]
      rfl
    refine pure_ (i := 2) (N := some 41) (v := ?_) (a' := ?_) #[true, true, true, false, false, false, false, false] rfl rfl (any_of HT_.out (by kernel_rfl)) (fun _ _ _ h => h) (Or.inl ⟨by rfl, ?_⟩) ?_ ?_
    rotate_left
    · intro w'
      go_simp
      with_reducible rfl
    rotate_left
    · simp only [Act.put, List.setIfInBounds_toArray, List.set_cons_zero, List.set_cons_succ, i64_w, i32_w]
      rfl
    refine pure_ (i := 3) (N := some 42) (v := ?_) (a' := ?_) #[true, true, true, true, false, false, false, false] rfl rfl (any_of HT_.out (by kernel_rfl)) (fun _ _ _ h => h) (Or.inl ⟨by rfl, ?_⟩) ?_ ?_
    rotate_left
    · intro w'
      go_simp
      with_reducible rfl
    rotate_left
    · simp only [Act.put, List.setIfInBounds_toArray, List.set_cons_zero, List.set_cons_succ, i64_w, i32_w]
      rfl
    refine pure_ (i := 5) (N := some 44) (v := ?_) (a' := ?_) #[true, true, true, true, false, true, false, false] rfl rfl (any_of HT_.out (by kernel_rfl)) (fun _ _ _ h => h) (Or.inl ⟨by rfl, ?_⟩) ?_ ?_
    rotate_left
    · intro w'
      go_simp
      with_reducible rfl
    rotate_left
    · simp only [Act.put, List.setIfInBounds_toArray, List.set_cons_zero, List.set_cons_succ, i64_w, i32_w]
      rfl
    refine take_ (i := 4) (N := some 43) (v := ?_) (a' := ?_) #[true, true, true, true, true, true, false, false] rfl rfl (take_ofW HT_.out HW_.out (by kernel_rfl)) (fun _ _ _ h => h) (Or.inl ⟨by rfl, ?_⟩) hHeld ?_ ?_
    rotate_left
    · rintro w' ⟨s0, s1, s2, s3⟩
      go_simp
      with_reducible rfl
    rotate_left
    · simp only [Act.put, List.setIfInBounds_toArray, List.set_cons_zero, List.set_cons_succ, i64_w, i32_w]
      rfl
    refine one_ (i := 6) (N := some 45) #[true, true, true, true, true, true, true, false] rfl rfl (one_of HT_.out (by kernel_rfl)) (by decide) (fun K hK => ?_)
    refine goes_ Try.func42 (by kernel_rfl) rfl #[.int .i64 (wrap64 ((wrap64 ((wrap64 (x1_1 + 1)) + 1)) + 1))] (by rfl) rfl rfl u2_5 ?_
    with_reducible refine (laws_markText.calls k1 (wrap64 ((wrap64 ((wrap64 (x1_1 + 1)) + 1)) + 1)) t147 _ A8.out).mono ?_
    rintro e w10 ⟨rfl, hb⟩
    refine ⟨_, rfl, ?_⟩
    have n0_ := Aside0.mk (below_step u2_0 hb)
    clear HB
    have HB := n0_
    clear n0_
    (try clear hb)
    (try clear hb2)
    (try clear hk)
    (try clear hi)
    refine hK.out _ _ ⟨((HB.out.cell (World.block_lt_of_cell? w _ hw146_0)).trans hw146_0), ((HB.out.cell (World.block_lt_of_cell? w _ hw146_1)).trans hw146_1), ((HB.out.cell (World.block_lt_of_cell? w _ hw146_2)).trans hw146_2), ((HB.out.cell (World.block_lt_of_cell? w _ hw146_3)).trans hw146_3)⟩ (fun hHeld => ?_)
    clear hK K
    refine norm_ (a' := ?_) ?_ ?_
    rotate_left
    · show Act.put _ (some 45) _ = _
      simp only [Act.put, List.setIfInBounds_toArray, List.set_cons_zero, List.set_cons_succ, i64_w, i32_w]
      rfl
    refine pure_ (i := 7) (N := some 46) (v := ?_) (a' := ?_) #[true, true, true, true, true, true, true, true] rfl rfl (any_of HT_.out (by kernel_rfl)) (fun _ _ _ h => h) (Or.inl ⟨by rfl, ?_⟩) ?_ ?_
    rotate_left
    · intro w'
      go_simp
      with_reducible rfl
    rotate_left
    · simp only [Act.put, List.setIfInBounds_toArray, List.set_cons_zero, List.set_cons_succ, i64_w, i32_w]
      rfl
    refine done_ (done_of HT_.out (by kernel_rfl)) ?_
    go_upto_if 46 with (fail)
    have H := H9.out
    clear H9
    by_cases c11 : ((rd_T45 l0 x5_1).f3).toList = t147.toList
    rotate_left
    · rw [if_neg c11] at H
      have c11b0 : (((rd_T45 l0 x5_1).f3).toList == t147.toList) = false := beq_eq_false_iff_ne.mpr c11
      have c11b1 : (((rd_T45 l0 x5_1).f3).toList != t147.toList) = true := bne_iff_ne.mpr c11
      (first | rw [c11b0] | (simp only [i64_w, i32_w]; rw [c11b0]) | skip)
      obtain rfl := Option.some.inj H
      go_wp2
      go_ret
      exact ⟨by first | rfl | (simp [errW_none, errW_some] <;> rfl) | (simp [*, errW_none, errW_some] <;> rfl), u2_0⟩
    rw [if_pos c11] at H
    have c11b0 : (((rd_T45 l0 x5_1).f3).toList == t147.toList) = true := beq_iff_eq.mpr c11
    have c11b1 : (((rd_T45 l0 x5_1).f3).toList != t147.toList) = false := bne_eq_false_iff_eq.mpr c11
    clear c11
    (first | rw [c11b0] | (simp only [i64_w, i32_w]; rw [c11b0]) | skip)
    have H' := Aside0.mk H
    clear H
    go_wp2
    go_roundg k1
    case measure => have := HK1.out; omega
    case rel => exact ⟨(wrap64 ((wrap64 ((wrap64 ((wrap64 (x1_1 + 1)) + 1)) + 1)) + 1)), (wrap64 (x5_1 + 1)), u2_6, u2_6, H', ⟨by have := HK1.out; omega⟩, ⟨u2_0⟩⟩

/-! ### laws_heldSessions: function 17 -/
def laws_heldSessions.f (k : Nat) (a0_0 : Int) (a0_1 : Int) (l0_2 : List (S45)) (a1 : Int) : Option (Int) := (laws_heldSessionS.f k l0_2 a1).bind fun t149 => (if t149 < 0 then (some (-1)) else (some t149))
theorem laws_heldSessions.mono : ∀ a0 a1 a2 a3 k, LeO (laws_heldSessions.f k a0 a1 a2 a3) (laws_heldSessions.f (k + 1) a0 a1 a2 a3) := by
  intro a0 a1 a2 a3 k
  unfold laws_heldSessions.f
  repeat' first
      | (with_reducible exact laws_heldSessionS.mono _ _ _)
      | (with_reducible exact LeO.refl _)
      | (with_reducible exact LeO.none _)
      | (with_reducible refine LeO.ite ?_ ?_)
      | (with_reducible refine LeO.bind ?_ (fun _ => ?_))
      | exact laws_heldSessionS.mono _ _ _
      | exact LeO.none _
      | refine LeO.ite ?_ ?_
      | refine LeO.bind ?_ (fun _ => ?_)
set_option maxHeartbeats 8000000 in
set_option maxRecDepth 100000 in
theorem laws_heldSessions.calls (k : Nat) (a0_0 : Int) (a0_1 : Int) (A0_2 : Option Addr) (c0_2 : Nat) (l0_2 : List (S45)) (a1 : Int) (r : Int) (w : World) (hr0_2 : Kd.C k45 w A0_2 l0_2.length l0_2) (hc0_2 : l0_2.length ≤ c0_2) (h : laws_heldSessions.f k a0_0 a0_1 l0_2 a1 = some r) :
    Calls Try.prog 17 #[.agg #[.int .i64 a0_0, .int .i64 a0_1, .slice A0_2 l0_2.length c0_2], .int .i64 a1] w fun e w' => e = .returned (.int .i64 r) ∧ Below w.heap.size w w' := by
  have hu29 := Try.underlying29
  have HR0_2 := Aside0.mk hr0_2
  have HC0_2 := Aside0.mk hc0_2
  clear hr0_2 hc0_2
  have HB := Aside0.mk (Below.refl w.heap.size w)
  have H : ((laws_heldSessionS.f k l0_2 a1).bind fun t149 => (if t149 < 0 then (some (-1)) else (some t149))) = some r := h
  clear h
  replace H := Option.bind_eq_some_iff.mp H
  obtain ⟨t149, A30, H⟩ := H
  replace H : (if t149 < 0 then (some (-1)) else (some t149)) = some r := H
  have A3 := Aside0.mk A30
  clear A30
  have H9 := Aside0.mk H
  clear H
  go_enter Try.func17, Try.ntmps17
  go_upto_if 10 with (first | ((with_reducible refine gate_dst (N := 2) rfl ?_); refine box_event ?hg (N := 2) ?hd (cs := #[.int .i64 a0_0, .int .i64 a0_1, .slice A0_2 l0_2.length c0_2]) (t := 29) ?hr ?_; (case hd => rfl); (case hg => rfl); (case hr => first | (go_simp; done) | (go_simp; rfl)); intro gb148 hg w4 hbox hb; have n0_ := Aside0.mk (below_step u2_0 hb); have n1_ := Aside0.mk (hbox); have n2_ := Aside0.mk ((by rw [hg]; exact (below_size u2_0) : w.heap.size ≤ gb148)); have n3_ := Aside0.mk ((by rw [hg]; exact (below_size u2_0) : w.heap.size ≤ gb148)); clear HB; have HB := n0_; have BK148 := n1_; have GW148 := n2_; have GE148 := n3_; clear n0_ n1_ n2_ n3_; clear hb hbox hg; have hcz5_0 : w4.cell? ⟨gb148, 0, none⟩ = some (.int .i64 a0_0) := (blk_cell BK148.out 0).trans rfl; have hcz5_1 : w4.cell? ⟨gb148, 1, none⟩ = some (.int .i64 a0_1) := (blk_cell BK148.out 1).trans rfl; have hcz5_2 : w4.cell? ⟨gb148, 2, none⟩ = some (.slice A0_2 l0_2.length c0_2) := (blk_cell BK148.out 2).trans rfl; have hfz5_0 := blk_frozen BK148.out 0; have hfz5_1 := blk_frozen BK148.out 1; have hfz5_2 := blk_frozen BK148.out 2) | ((with_reducible refine gate_callee (f := 33) rfl ?_); refine goesL_ (some 8) rfl rfl Try.func33 (by kernel_rfl) rfl #[.slice A0_2 l0_2.length c0_2, .int .i64 a1] rfl u2_5 ?_; (with_reducible refine (laws_heldSessionS.calls k _ _ l0_2 a1 t149 _ ?side1 ?side2 A3.out).mono ?_); (case side1 => exact u2_10); (case side2 => exact HC0_2.out); rintro e w6 ⟨rfl, hb⟩; refine ⟨_, rfl, ?_⟩; have n0_ := Aside0.mk (blk_below (g := gb148) (o := .cells #[.int .i64 a0_0, .int .i64 a0_1, .slice A0_2 l0_2.length c0_2] 29 (0, 0)) (by (with_reducible repeat (first | refine blk_drewN ?_ _ | refine blk_drew ?_ | refine blk_alloc ?_ _)); exact BK148.out) hb); have n1_ := Aside0.mk (below_step u2_9 hb); clear BK148; clear HB; have BK148 := n0_; have HB := n1_; clear n0_ n1_; (try clear hb); (try clear hb2); (try clear hk); (try clear hi)))
  have H := H9.out
  clear H9
  by_cases c7 : t149 < 0
  · rw [if_pos c7] at H
    have c7b0 : decide (t149 < 0) = true := decide_eq_true c7
    clear c7
    (first | rw [c7b0] | (simp only [i64_w, i32_w]; rw [c7b0]) | skip)
    obtain rfl := Option.some.inj H
    go_wp2
    go_ret
    exact ⟨by first | rfl | (simp [errW_none, errW_some] <;> rfl) | (simp [*, errW_none, errW_some] <;> rfl), u2_9⟩
  rw [if_neg c7] at H
  have c7b0 : decide (t149 < 0) = false := decide_eq_false c7
  clear c7
  (first | rw [c7b0] | (simp only [i64_w, i32_w]; rw [c7b0]) | skip)
  obtain rfl := Option.some.inj H
  go_wp2
  go_ret
  exact ⟨by first | rfl | (simp [errW_none, errW_some] <;> rfl) | (simp [*, errW_none, errW_some] <;> rfl), u2_9⟩

/-! ### spec_l01In: function 21 -/
def spec_l01In.f (a0 : Int) (a1 : Int) (a2 : Int) : Option (Bool) := if a1 ≤ a0 then (some (decide (a0 ≤ a2))) else (some false)
set_option maxHeartbeats 8000000 in
set_option maxRecDepth 100000 in
theorem spec_l01In.calls (a0 : Int) (a1 : Int) (a2 : Int) (r : Bool) (w : World) (h : spec_l01In.f a0 a1 a2 = some r) :
    Calls Try.prog 21 #[.int .i64 a0, .int .i64 a1, .int .i64 a2] w fun e w' => e = .returned (.bool r) ∧ Drawn0 w w' := by
  have H : (if a1 ≤ a0 then (some (decide (a0 ≤ a2))) else (some false)) = some r := h
  clear h
  by_cases c4 : a1 ≤ a0
  · rw [if_pos c4] at H
    have c4b0 : decide (a1 ≤ a0) = true := decide_eq_true c4
    clear c4
    obtain rfl := Option.some.inj H
    go_enter Try.func21, Try.ntmps21
    go_wp2
    go_ret
    exact ⟨by first | rfl | (simp; done) | (simp [*]; done), (by repeat (first | exact Drawn0.refl _ | apply Drawn0.step))⟩
  rw [if_neg c4] at H
  have c4b0 : decide (a1 ≤ a0) = false := decide_eq_false c4
  clear c4
  obtain rfl := Option.some.inj H
  go_enter Try.func21, Try.ntmps21
  go_wp2
  go_ret
  exact ⟨by first | rfl | (simp; done) | (simp [*]; done), (by repeat (first | exact Drawn0.refl _ | apply Drawn0.step))⟩

end Go.Proofs.Ytjdpifafijcpbaa.QFnExactKeep
