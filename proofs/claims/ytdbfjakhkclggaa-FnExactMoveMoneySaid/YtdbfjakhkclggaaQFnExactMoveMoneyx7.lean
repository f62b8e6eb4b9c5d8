-- Printed by the session's own program wip/prx.py.
import Derived.Test.YtdbfjakhkclggaaQFnExactMoveMoneyx0
import Derived.Test.YtdbfjakhkclggaaQFnExactMoveMoneyx1
import Derived.Test.YtdbfjakhkclggaaQFnExactMoveMoneyx4
import Derived.Test.YtdbfjakhkclggaaQFnExactMoveMoneyx6
namespace Go.Proofs.Ytdbfjakhkclggaa.QFnExactMoveMoney
open Go.RowKit Go.Proofs.YtdbfjakhkclggaaW.PrintWords Go.Proofs.YtdbfjakhkclggaaW.PrintLast Go.Proofs.YtdbfjakhkclggaaW.PrintMore
attribute [local go_sem] max2_int min2_int max_two min_two max_three min_three max_four min_four Go.Proofs.Ytdbfjakhkclggaa.Set.isSome_setCell Go.Proofs.Ytdbfjakhkclggaa.Add.add64   -- for this text's walks alone
set_option linter.unusedVariables false
set_option linter.unusedSimpArgs false

-- squeezed
theorem u7_0 {P : Prop} (h : P := by repeat (first | (with_reducible first | exact HB.out | apply below_alloc | apply pw_below_drewN | apply below_drew1 | refine below_set ?_ GE244.out | refine below_set ?_ GE253.out | refine below_set ?_ GE257.out | refine below_set ?_ GE262.out) | exact HB.out)) : P := h
theorem u7_1 {P : Prop} (h : P := by (with_reducible repeat (first | refine blk_drewN ?_ _ | refine blk_drew ?_ | refine blk_alloc ?_ _)); exact BK244.out) : P := h
theorem u7_2 {P : Prop} (h : P := by (try simp only [List.map_toArray, List.map_cons, List.map_nil]); first | done | rfl | (simp only [List.length_drop, List.length_take]; rfl)) : P := h
theorem u7_3 {P : Prop} (h : P := by (with_reducible repeat (first | refine blk_drewN ?_ _ | refine blk_drew ?_ | refine blk_alloc ?_ _)); exact BK253.out) : P := h
theorem u7_4 {P : Prop} (h : P := by first | (with_reducible assumption) | assumption) : P := h
theorem u7_5 {P : Prop} (h : P := by repeat (first | (with_reducible first | exact HB.out | apply below_alloc | apply pw_below_drewN | apply below_drew1) | exact HB.out)) : P := h
theorem u7_6 {P : Prop} (h : P := by (with_reducible repeat (first | refine blk_drewN ?_ _ | refine blk_drew ?_ | refine blk_alloc ?_ _)); exact BK257.out) : P := h
theorem u7_7 {P : Prop} (h : P := by (with_reducible repeat (first | apply Kd.R_alloc | apply Kd.R_drewN | apply Kd.R_drew)); exact HO248.out) : P := h
theorem u7_8 {P : Prop} (h : P := by (with_reducible repeat (first | apply Kd.R_alloc | apply Kd.R_drewN | apply Kd.R_drew)); exact HO251.out) : P := h
theorem u7_9 {P : Prop} (h : P := by repeat (first | (with_reducible first | exact HB.out | apply below_alloc | apply pw_below_drewN | apply below_drew1 | refine below_set ?_ GE244.out) | exact HB.out)) : P := h
theorem u7_10 {P : Prop} (h : P := by (with_reducible repeat (first | refine blk_drewN ?_ _ | refine blk_drew ?_ | refine blk_alloc ?_ _)); exact BK262.out) : P := h
theorem u7_11 {P : Prop} (h : P := by (with_reducible repeat (first | apply Kd.R_alloc | apply Kd.R_drewN | apply Kd.R_drew)); exact HO256.out) : P := h
theorem u7_12 {P : Prop} (h : P := by (with_reducible repeat (first | apply Kd.R_alloc | apply Kd.R_drewN | apply Kd.R_drew)); exact HO260.out) : P := h
theorem u7_13 {P : Prop} (h : P := by repeat (first | (with_reducible first | exact HB.out | apply below_alloc | apply pw_below_drewN | apply below_drew1 | refine below_set ?_ GE244.out | refine below_set ?_ GE253.out) | exact HB.out)) : P := h
theorem u7_14 {P : Prop} (h : P := by repeat (first | (with_reducible first | exact HB.out | apply below_alloc | apply pw_below_drewN | apply below_drew1 | refine below_set ?_ GE244.out | refine below_set ?_ GE253.out | refine below_set ?_ GE257.out) | exact HB.out)) : P := h
theorem u7_15 {P : Prop} (h : P := by (with_reducible repeat (first | apply Kd.R_alloc | apply Kd.R_drewN | apply Kd.R_drew)); exact HO266.out) : P := h
theorem u7_16 {P : Prop} (h : P := by (with_reducible repeat (first | apply Kd.R_alloc | apply Kd.R_drewN | apply Kd.R_drew)); exact (Kd.R_mono (Kd.R_far (p := ⟨gb257, 0, none⟩) (Kd.R_types HO256.out BK257.out (by decide)) (fun _ hk => hk.2) (.slice Ao50 t254.length co50)) (fun _ h_ => h_.1))) : P := h
theorem u7_17 {P : Prop} (h : P := by (with_reducible repeat (first | apply Kd.R_alloc | apply Kd.R_drewN | apply Kd.R_drew)); exact HO276.out) : P := h
theorem u7_18 {P : Prop} (h : P := by repeat (first | (with_reducible first | exact HB.out | apply below_alloc | apply pw_below_drewN | apply below_drew1 | refine below_set ?_ GE244.out | refine below_set ?_ GE253.out | refine below_set ?_ GE257.out | refine below_set ?_ GE262.out | refine below_set ?_ GE281.out) | exact HB.out)) : P := h
theorem u7_19 {P : Prop} (h : P := by (with_reducible repeat (first | apply Kd.R_alloc | apply Kd.R_drewN | apply Kd.R_drew)); exact (Kd.R_mono (Kd.R_far (p := ⟨gb253, 0, none⟩) (Kd.R_types HO248.out BK253.out (by decide)) (fun _ hk => hk.2) (.slice Ao44 t249.length co44)) (fun _ h_ => h_.1))) : P := h
theorem u7_20 {P : Prop} (h : P := by (with_reducible repeat (first | apply Kd.R_alloc | apply Kd.R_drewN | apply Kd.R_drew)); exact (Kd.R_mono (Kd.R_far (p := ⟨gb253, 0, none⟩) (Kd.R_types HO251.out BK253.out (by decide)) (fun _ hk => hk.2) (.slice Ao44 t249.length co44)) (fun _ h_ => h_.1))) : P := h
theorem u7_21 {P : Prop} (h : P := by (with_reducible repeat (first | apply Kd.R_alloc | apply Kd.R_drewN | apply Kd.R_drew)); exact (Kd.R_mono (Kd.R_far (p := ⟨gb257, 0, none⟩) (Kd.R_types HO248.out BK257.out (by decide)) (fun _ hk => hk.2) (.slice Ao50 t254.length co50)) (fun _ h_ => h_.1))) : P := h
theorem u7_22 {P : Prop} (h : P := by (with_reducible repeat (first | apply Kd.R_alloc | apply Kd.R_drewN | apply Kd.R_drew)); exact (Kd.R_mono (Kd.R_far (p := ⟨gb257, 0, none⟩) (Kd.R_types HO251.out BK257.out (by decide)) (fun _ hk => hk.2) (.slice Ao50 t254.length co50)) (fun _ h_ => h_.1))) : P := h
theorem u7_23 {P : Prop} (h : P := by (with_reducible repeat (first | apply Kd.R_alloc | apply Kd.R_drewN | apply Kd.R_drew)); exact (Kd.R_mono (Kd.R_far (p := ⟨gb262, 0, none⟩) (Kd.R_types HO260.out BK262.out (by decide)) (fun _ hk => hk.2) (.slice Ao56 t258.length co56)) (fun _ h_ => h_.1))) : P := h
theorem u7_24 {P : Prop} (h : P := by (with_reducible repeat (first | apply Kd.R_alloc | apply Kd.R_drewN | apply Kd.R_drew)); exact (Kd.R_mono (Kd.R_far (p := ⟨gb262, 0, none⟩) (Kd.R_types HO251.out BK262.out (by decide)) (fun _ hk => hk.2) (.slice Ao56 t258.length co56)) (fun _ h_ => h_.1))) : P := h
theorem u7_25 {P : Prop} (h : P := by (with_reducible repeat (first | apply Kd.R_alloc | apply Kd.R_drewN | apply Kd.R_drew)); exact (Kd.R_mono (Kd.R_far (p := ⟨gb281, 0, none⟩) (Kd.R_types HO279.out BK281.out (by decide)) (fun _ hk => hk.2) (.slice Ao81 t277.length co81)) (fun _ h_ => h_.1))) : P := h
theorem u7_26 {P : Prop} (h : P := by (with_reducible repeat (first | apply Kd.R_alloc | apply Kd.R_drewN | apply Kd.R_drew)); exact (Kd.R_mono (Kd.R_far (p := ⟨gb281, 0, none⟩) (Kd.R_types HO251.out BK281.out (by decide)) (fun _ hk => hk.2) (.slice Ao81 t277.length co81)) (fun _ h_ => h_.1))) : P := h
theorem u7_27 {P : Prop} (h : P := by (try simp only [List.map_toArray, List.map_cons, List.map_nil]); first | done | (rw [show t272.length = t258.length from (Kd.R_reads' HO260.out).1.symm] <;> rfl) | rfl | (simp only [List.length_drop, List.length_take]; rfl)) : P := h
theorem u7_28 {P : Prop} (h : P := by first | rfl | (simp; done) | (simp [*]; done)) : P := h
theorem u7_29 {P : Prop} (h : P := by (with_reducible repeat (first | apply Kd.R_alloc | apply Kd.R_drewN | apply Kd.R_drew)); exact HO279.out) : P := h
/-! ### laws_markBook: function 26 -/
def laws_markBook.f (k : Nat) (l0_0 : List (S53)) (a1 : Int) : Option (Int × (List (S53))) := (laws_markAccountS.f k l0_0 a1).bind fun bt235 => (some (bt235.1, bt235.2))
theorem laws_markBook.mono : ∀ a0 a1 k, LeO (laws_markBook.f k a0 a1) (laws_markBook.f (k + 1) a0 a1) := by
  intro a0 a1 k
  unfold laws_markBook.f
  repeat' first
      | (with_reducible exact laws_markAccountS.mono _ _ _)
      | (with_reducible exact LeO.refl _)
      | (with_reducible exact LeO.none _)
      | (with_reducible refine LeO.ite ?_ ?_)
      | (with_reducible refine LeO.bind ?_ (fun _ => ?_))
      | exact laws_markAccountS.mono _ _ _
      | exact LeO.none _
      | refine LeO.ite ?_ ?_
      | refine LeO.bind ?_ (fun _ => ?_)
set_option maxHeartbeats 8000000 in
set_option maxRecDepth 100000 in
theorem laws_markBook.calls (k : Nat) (P0_0_ : Nat → Prop) (u9000_ : Value) (l0_0 : List (S53)) (a1 : Int) (r1 : Int) (r2 : List (S53)) (w0 w : World) (hB : Below w0.heap.size w0 w) (ho0_0 : Kd.R k53 53 w w0.heap.size P0_0_ u9000_ l0_0) (h : laws_markBook.f k l0_0 a1 = some (r1, r2)) :
    Calls Try.prog 26 #[.agg #[u9000_], .int .i64 a1] w fun e w' => e = .returned (.int .i64 r1) ∧ Kd.R k53 53 w' w0.heap.size (fun k_ => (P0_0_ k_ ∨ w.heap.size ≤ k_)) u9000_ r2 ∧ Below w0.heap.size w0 w' ∧ Kept w w' (fun k_ => P0_0_ k_) := by
  have hu29 := Try.underlying29
  have HO0_0 := Aside0.mk (show Kd.R k53 53 w w0.heap.size (fun k_ => (P0_0_ k_ ∨ w.heap.size ≤ k_)) u9000_ l0_0 from Kd.R_mono ho0_0 (fun k_ hk => (.inl hk)))
  have HK := Aside0.mk (Kept.refl w (fun k_ => P0_0_ k_))
  have HW0 := Aside0.mk hB.size
  have HB := Aside0.mk hB
  clear hB
  have H : ((laws_markAccountS.f k l0_0 a1).bind fun bt235 => (some (bt235.1, bt235.2))) = some (r1, r2) := h
  clear h
  replace H := Option.bind_eq_some_iff.mp H
  obtain ⟨⟨t235, t236⟩, A30, H⟩ := H
  replace H : (some (t235, t236)) = some (r1, r2) := H
  have A3 := Aside0.mk A30
  clear A30
  simp only [Option.some.injEq, Prod.mk.injEq] at H
  obtain ⟨rfl, rfl⟩ := H
  obtain ⟨Ao4, co4, eo4⟩ := Kd.R_slice HO0_0.out
  subst eo4
  go_enter Try.func26, Try.ntmps26
  go_wp2_with (first | ((with_reducible refine gate_dst (N := 2) rfl ?_); refine box_event ?hg (N := 2) ?hd (cs := #[.slice Ao4 l0_0.length co4]) (t := 29) ?hr ?_; (case hd => rfl); (case hg => rfl); (case hr => first | (go_simp; done) | (go_simp; rfl)); intro gb234 hg w5 hbox hb; have n0_ := Aside0.mk (Kd.R_below (by (with_reducible repeat (first | apply Kd.R_alloc | apply Kd.R_drewN | apply Kd.R_drew)); exact HO0_0.out) hb); have n1_ := Aside0.mk (Kept.below (S := (fun k_ => P0_0_ k_)) (by repeat (first | (with_reducible first | exact HK.out | apply Kept.alloc | apply Kept.drewN | apply Kept.drew) | exact HK.out)) hb); have n2_ := Aside0.mk (below_step u7_5 hb); have n3_ := Aside0.mk (hbox); have n4_ := Aside0.mk ((by rw [hg]; exact (by first | exact HK.out.1 | exact (show Kept w _ (fun k_ => P0_0_ k_) from by repeat (first | (with_reducible first | exact HK.out | apply Kept.alloc | apply Kept.drewN | apply Kept.drew) | exact HK.out)).1) : w.heap.size ≤ gb234)); have n5_ := Aside0.mk ((by rw [hg]; exact (below_size u7_5) : w0.heap.size ≤ gb234)); clear HO0_0; clear HK; clear HB; have HO0_0 := n0_; have HK := n1_; have HB := n2_; have BK234 := n3_; have GW234 := n4_; have GE234 := n5_; clear n0_ n1_ n2_ n3_ n4_ n5_; clear hb hbox hg; have hcz6_0 : w5.cell? ⟨gb234, 0, none⟩ = some (.slice Ao4 l0_0.length co4) := (blk_cell BK234.out 0).trans rfl; have hfz6_0 := blk_frozen BK234.out 0) | ((with_reducible refine gate_callee (f := 58) rfl ?_); refine goesL_ (some 8) rfl rfl Try.func58 (by kernel_rfl) rfl #[.slice Ao4 l0_0.length co4, .int .i64 a1] rfl u7_2 ?_; (with_reducible refine (laws_markAccountS.calls k (fun k_ => some k_ = (.slice Ao4 l0_0.length co4 : Value).ownBlock) (.slice Ao4 l0_0.length co4) l0_0 a1 t235 t236 w0 _ ?side1 ?side2 A3.out).mono ?_); (case side1 => repeat (first | (with_reducible first | exact HB.out | apply below_alloc | apply pw_below_drewN | apply below_drew1 | refine below_set ?_ GE234.out) | exact HB.out)); (case side2 => exact Kd.R_tight rfl HO0_0.out); rintro e w7 ⟨rfl, hy0, hb, hkp⟩; refine ⟨_, rfl, ?_⟩; have n0_ := Aside0.mk (Kd.R_reok rfl hy0 (fun k_ e_ => HO0_0.out.1 k_ e_)); have n1_ := Aside0.mk (blk_kept (by (with_reducible repeat (first | refine blk_drewN ?_ _ | refine blk_drew ?_ | refine blk_alloc ?_ _)); exact BK234.out) hkp (fun hs_ => (fun e_ => (Kd.R_ne HO0_0.out BK234.out (by decide)) e_) hs_)); have n2_ := Aside0.mk (Kept.then_ (S := (fun k_ => P0_0_ k_)) (by repeat (first | (with_reducible first | exact HK.out | apply Kept.alloc | apply Kept.drewN | apply Kept.drew | refine Kept.setCell ?_ (.inr GW234.out) _) | exact HK.out)) hkp (fun k_ hs_ => (fun e_ => (HO0_0.out.1 k_ e_.symm)) hs_)); have n3_ := Aside0.mk (hb); clear HO0_0; clear BK234; clear HK; clear HB; have HO0_0 := n0_; have BK234 := n1_; have HK := n2_; have HB := n3_; clear n0_ n1_ n2_ n3_; (try clear hb); (try clear hkp); (try clear hy0)))
  go_ret
  exact ⟨by first | rfl | (simp [errW_none, errW_some] <;> rfl) | (simp [*, errW_none, errW_some] <;> rfl), by (with_reducible repeat (first | apply Kd.R_alloc | apply Kd.R_drewN | apply Kd.R_drew)); exact HO0_0.out, by repeat (first | (with_reducible first | exact HB.out | apply below_alloc | apply pw_below_drewN | apply below_drew1 | refine below_set ?_ GE234.out) | exact HB.out), by repeat (first | (with_reducible first | exact HK.out | apply Kept.alloc | apply Kept.drewN | apply Kept.drew | refine Kept.setCell ?_ (.inr GW234.out) _) | exact HK.out)⟩

/-! ### laws_heldAccountS: function 59 -/
def laws_heldAccountS.l0 : Nat → List (S53) → Int → Int → Option (Int)
  | 0, _, _, _ => none
  | k + 1, x0, x1, x5 => if x5 < (x0.length : Int) then (if 0 ≤ x5 then (if ((rd_T53 x0 x5).f0) = (IntKind.u64.wrap (x1)) then (if ((rd_T53 x0 x5).f1) = (IntKind.u64.wrap (wrap64 (x1 + 1))) then (if ((rd_T53 x0 x5).f2) = (IntKind.u64.wrap (wrap64 ((wrap64 (x1 + 1)) + 1))) then (if ((rd_T53 x0 x5).f3) = (IntKind.u64.wrap (wrap64 ((wrap64 ((wrap64 (x1 + 1)) + 1)) + 1))) then (if ((rd_T53 x0 x5).f4) = (wrap64 ((wrap64 ((wrap64 ((wrap64 (x1 + 1)) + 1)) + 1)) + 1)) then (laws_heldAccountS.l0 k x0 (wrap64 ((wrap64 ((wrap64 ((wrap64 ((wrap64 (x1 + 1)) + 1)) + 1)) + 1)) + 1)) (wrap64 (x5 + 1))) else (some (-1))) else (some (-1))) else (some (-1))) else (some (-1))) else (some (-1))) else (none)) else (some x1)
def laws_heldAccountS.f (k : Nat) (l0 : List (S53)) (a1 : Int) : Option (Int) := laws_heldAccountS.l0 k l0 a1 0
theorem laws_heldAccountS.mono_l : ∀ k, (∀ y0 y1 y2, LeO (laws_heldAccountS.l0 k y0 y1 y2) (laws_heldAccountS.l0 (k + 1) y0 y1 y2))
  | 0 => fun _ _ _ r h => by simp [laws_heldAccountS.l0] at h
  | k + 1 => by
    have ih0 := laws_heldAccountS.mono_l k
    · intro y0 y1 y2
      unfold laws_heldAccountS.l0
      repeat' first
      | (with_reducible exact ih0 _ _ _)
      | (with_reducible exact LeO.refl _)
      | (with_reducible exact LeO.none _)
      | (with_reducible refine LeO.ite ?_ ?_)
      | (with_reducible refine LeO.bind ?_ (fun _ => ?_))
      | exact ih0 _ _ _
      | exact LeO.none _
      | refine LeO.ite ?_ ?_
      | refine LeO.bind ?_ (fun _ => ?_)
theorem laws_heldAccountS.mono : ∀ a0 a1 k, LeO (laws_heldAccountS.f k a0 a1) (laws_heldAccountS.f (k + 1) a0 a1) := by
  intro a0 a1 k
  have ih0 := laws_heldAccountS.mono_l k
  unfold laws_heldAccountS.f
  repeat' first
      | (with_reducible exact ih0 _ _ _)
      | (with_reducible exact LeO.refl _)
      | (with_reducible exact LeO.none _)
      | (with_reducible refine LeO.ite ?_ ?_)
      | (with_reducible refine LeO.bind ?_ (fun _ => ?_))
      | exact ih0 _ _ _
      | exact LeO.none _
      | refine LeO.ite ?_ ?_
      | refine LeO.bind ?_ (fun _ => ?_)
set_option maxHeartbeats 8000000 in
set_option maxRecDepth 100000 in
theorem laws_heldAccountS.calls (k : Nat) (A0 : Option Addr) (c0 : Nat) (l0 : List (S53)) (a1 : Int) (r : Int) (w : World) (hr0 : Kd.C k53 w A0 l0.length l0) (hc0 : l0.length ≤ c0) (h : laws_heldAccountS.f k l0 a1 = some r) :
    Calls Try.prog 59 #[.slice A0 l0.length c0, .int .i64 a1] w fun e w' => e = .returned (.int .i64 r) ∧ Drawn0 w w' := by
  have HR0 := Aside0.mk hr0
  have HC0 := Aside0.mk hc0
  clear hr0 hc0
  have H : (laws_heldAccountS.l0 k l0 a1 0) = some r := h
  clear h
  have H' := Aside0.mk H
  clear H
  go_enter Try.func59, Try.ntmps59
  go_wp2
  go_loopg [1, 5] k (fun kq v1 v5 w' => ∃ (x1_1 : Int) (x5_1 : Int), v1 = .int .i64 x1_1 ∧ v5 = .int .i64 x5_1 ∧ Aside0 (laws_heldAccountS.l0 kq l0 x1_1 x5_1 = some r) ∧ Aside0 (kq ≤ k) ∧ Drawn0 w w')
  case atStart => exact ⟨(a1), (0), u7_28, u7_28, H', ⟨Nat.le_refl _⟩, by repeat (first | exact Drawn0.refl _ | apply Drawn0.step)⟩
  case round =>
    clear H'
    try clear p2
    obtain ⟨x1_1, x5_1, rfl, rfl, HA, HK1, ⟨m1, rfl⟩⟩ := hrel
    cases gk with
    | zero => exact absurd HA.out (by simp [laws_heldAccountS.l0])
    | succ k1 =>
      have H := HA.out
      clear HA
      simp only [laws_heldAccountS.l0] at H
      by_cases c3 : x5_1 < (l0.length : Int)
      · rw [if_pos c3] at H
        have c3b0 : decide (x5_1 < (l0.length : Int)) = true := decide_eq_true c3
        clear c3
        by_cases c4 : 0 ≤ x5_1
        · rw [if_pos c4] at H
          have c4b0 : decide (0 ≤ x5_1) = true := decide_eq_true c4
          clear c4
          by_cases c5 : ((rd_T53 l0 x5_1).f0) = (IntKind.u64.wrap (x1_1))
          · rw [if_pos c5] at H
            have c5b0 : (((rd_T53 l0 x5_1).f0) == (IntKind.u64.wrap (x1_1))) = true := beq_iff_eq.mpr c5
            have c5b1 : (((rd_T53 l0 x5_1).f0) != (IntKind.u64.wrap (x1_1))) = false := bne_eq_false_iff_eq.mpr c5
            clear c5
            by_cases c6 : ((rd_T53 l0 x5_1).f1) = (IntKind.u64.wrap (wrap64 (x1_1 + 1)))
            · rw [if_pos c6] at H
              have c6b0 : (((rd_T53 l0 x5_1).f1) == (IntKind.u64.wrap (wrap64 (x1_1 + 1)))) = true := beq_iff_eq.mpr c6
              have c6b1 : (((rd_T53 l0 x5_1).f1) != (IntKind.u64.wrap (wrap64 (x1_1 + 1)))) = false := bne_eq_false_iff_eq.mpr c6
              clear c6
              by_cases c7 : ((rd_T53 l0 x5_1).f2) = (IntKind.u64.wrap (wrap64 ((wrap64 (x1_1 + 1)) + 1)))
              · rw [if_pos c7] at H
                have c7b0 : (((rd_T53 l0 x5_1).f2) == (IntKind.u64.wrap (wrap64 ((wrap64 (x1_1 + 1)) + 1)))) = true := beq_iff_eq.mpr c7
                have c7b1 : (((rd_T53 l0 x5_1).f2) != (IntKind.u64.wrap (wrap64 ((wrap64 (x1_1 + 1)) + 1)))) = false := bne_eq_false_iff_eq.mpr c7
                clear c7
                by_cases c8 : ((rd_T53 l0 x5_1).f3) = (IntKind.u64.wrap (wrap64 ((wrap64 ((wrap64 (x1_1 + 1)) + 1)) + 1)))
                · rw [if_pos c8] at H
                  have c8b0 : (((rd_T53 l0 x5_1).f3) == (IntKind.u64.wrap (wrap64 ((wrap64 ((wrap64 (x1_1 + 1)) + 1)) + 1)))) = true := beq_iff_eq.mpr c8
                  have c8b1 : (((rd_T53 l0 x5_1).f3) != (IntKind.u64.wrap (wrap64 ((wrap64 ((wrap64 (x1_1 + 1)) + 1)) + 1)))) = false := bne_eq_false_iff_eq.mpr c8
                  clear c8
                  by_cases c9 : ((rd_T53 l0 x5_1).f4) = (wrap64 ((wrap64 ((wrap64 ((wrap64 (x1_1 + 1)) + 1)) + 1)) + 1))
                  · rw [if_pos c9] at H
                    have c9b0 : (((rd_T53 l0 x5_1).f4) == (wrap64 ((wrap64 ((wrap64 ((wrap64 (x1_1 + 1)) + 1)) + 1)) + 1))) = true := beq_iff_eq.mpr c9
                    have c9b1 : (((rd_T53 l0 x5_1).f4) != (wrap64 ((wrap64 ((wrap64 ((wrap64 (x1_1 + 1)) + 1)) + 1)) + 1))) = false := bne_eq_false_iff_eq.mpr c9
                    clear c9
                    have H' := Aside0.mk H
                    clear H
                    have p237 : 0 ≤ (x5_1 : Int) := of_decide_eq_true u7_4
                    have q237 : x5_1 < (l0.length : Int) := of_decide_eq_true u7_4
                    obtain ⟨ad237, e237, hx237_0, hx237_1, hx237_2, hx237_3, hx237_4⟩ := at_T53 HR0.out x5_1 p237 q237
                    cases e237
                    replace p237 := eq_true p237
                    replace q237 := eq_true q237
                    have p238 : 0 ≤ (x5_1 : Int) := of_decide_eq_true u7_4
                    have q238 : x5_1 < (l0.length : Int) := of_decide_eq_true u7_4
                    obtain ⟨ad238, e238, hx238_0, hx238_1, hx238_2, hx238_3, hx238_4⟩ := at_T53 HR0.out x5_1 p238 q238
                    obtain rfl : ad237 = ad238 := (by injection e238)
                    replace p238 := eq_true p238
                    replace q238 := eq_true q238
                    have p239 : 0 ≤ (x5_1 : Int) := of_decide_eq_true u7_4
                    have q239 : x5_1 < (l0.length : Int) := of_decide_eq_true u7_4
                    obtain ⟨ad239, e239, hx239_0, hx239_1, hx239_2, hx239_3, hx239_4⟩ := at_T53 HR0.out x5_1 p239 q239
                    obtain rfl : ad237 = ad239 := (by injection e239)
                    replace p239 := eq_true p239
                    replace q239 := eq_true q239
                    have p240 : 0 ≤ (x5_1 : Int) := of_decide_eq_true u7_4
                    have q240 : x5_1 < (l0.length : Int) := of_decide_eq_true u7_4
                    obtain ⟨ad240, e240, hx240_0, hx240_1, hx240_2, hx240_3, hx240_4⟩ := at_T53 HR0.out x5_1 p240 q240
                    obtain rfl : ad237 = ad240 := (by injection e240)
                    replace p240 := eq_true p240
                    replace q240 := eq_true q240
                    have p241 : 0 ≤ (x5_1 : Int) := of_decide_eq_true u7_4
                    have q241 : x5_1 < (l0.length : Int) := of_decide_eq_true u7_4
                    obtain ⟨ad241, e241, hx241_0, hx241_1, hx241_2, hx241_3, hx241_4⟩ := at_T53 HR0.out x5_1 p241 q241
                    obtain rfl : ad237 = ad241 := (by injection e241)
                    replace p241 := eq_true p241
                    replace q241 := eq_true q241
                    go_wp2
                    go_roundg k1
                    case measure => have := HK1.out; omega
                    case rel => exact ⟨(wrap64 ((wrap64 ((wrap64 ((wrap64 ((wrap64 (x1_1 + 1)) + 1)) + 1)) + 1)) + 1)), (wrap64 (x5_1 + 1)), u7_28, u7_28, H', ⟨by have := HK1.out; omega⟩, by repeat (first | exact Drawn0.refl _ | apply Drawn0.step)⟩
                  · rw [if_neg c9] at H
                    have c9b0 : (((rd_T53 l0 x5_1).f4) == (wrap64 ((wrap64 ((wrap64 ((wrap64 (x1_1 + 1)) + 1)) + 1)) + 1))) = false := beq_eq_false_iff_ne.mpr c9
                    have c9b1 : (((rd_T53 l0 x5_1).f4) != (wrap64 ((wrap64 ((wrap64 ((wrap64 (x1_1 + 1)) + 1)) + 1)) + 1))) = true := bne_iff_ne.mpr c9
                    obtain rfl := Option.some.inj H
                    have p237 : 0 ≤ (x5_1 : Int) := of_decide_eq_true u7_4
                    have q237 : x5_1 < (l0.length : Int) := of_decide_eq_true u7_4
                    obtain ⟨ad237, e237, hx237_0, hx237_1, hx237_2, hx237_3, hx237_4⟩ := at_T53 HR0.out x5_1 p237 q237
                    cases e237
                    replace p237 := eq_true p237
                    replace q237 := eq_true q237
                    have p238 : 0 ≤ (x5_1 : Int) := of_decide_eq_true u7_4
                    have q238 : x5_1 < (l0.length : Int) := of_decide_eq_true u7_4
                    obtain ⟨ad238, e238, hx238_0, hx238_1, hx238_2, hx238_3, hx238_4⟩ := at_T53 HR0.out x5_1 p238 q238
                    obtain rfl : ad237 = ad238 := (by injection e238)
                    replace p238 := eq_true p238
                    replace q238 := eq_true q238
                    have p239 : 0 ≤ (x5_1 : Int) := of_decide_eq_true u7_4
                    have q239 : x5_1 < (l0.length : Int) := of_decide_eq_true u7_4
                    obtain ⟨ad239, e239, hx239_0, hx239_1, hx239_2, hx239_3, hx239_4⟩ := at_T53 HR0.out x5_1 p239 q239
                    obtain rfl : ad237 = ad239 := (by injection e239)
                    replace p239 := eq_true p239
                    replace q239 := eq_true q239
                    have p240 : 0 ≤ (x5_1 : Int) := of_decide_eq_true u7_4
                    have q240 : x5_1 < (l0.length : Int) := of_decide_eq_true u7_4
                    obtain ⟨ad240, e240, hx240_0, hx240_1, hx240_2, hx240_3, hx240_4⟩ := at_T53 HR0.out x5_1 p240 q240
                    obtain rfl : ad237 = ad240 := (by injection e240)
                    replace p240 := eq_true p240
                    replace q240 := eq_true q240
                    have p241 : 0 ≤ (x5_1 : Int) := of_decide_eq_true u7_4
                    have q241 : x5_1 < (l0.length : Int) := of_decide_eq_true u7_4
                    obtain ⟨ad241, e241, hx241_0, hx241_1, hx241_2, hx241_3, hx241_4⟩ := at_T53 HR0.out x5_1 p241 q241
                    obtain rfl : ad237 = ad241 := (by injection e241)
                    replace p241 := eq_true p241
                    replace q241 := eq_true q241
                    go_wp2
                    go_ret
                    exact ⟨by first | rfl | (simp; done) | (simp [*]; done), by repeat (first | exact Drawn0.refl _ | apply Drawn0.step)⟩
                · rw [if_neg c8] at H
                  have c8b0 : (((rd_T53 l0 x5_1).f3) == (IntKind.u64.wrap (wrap64 ((wrap64 ((wrap64 (x1_1 + 1)) + 1)) + 1)))) = false := beq_eq_false_iff_ne.mpr c8
                  have c8b1 : (((rd_T53 l0 x5_1).f3) != (IntKind.u64.wrap (wrap64 ((wrap64 ((wrap64 (x1_1 + 1)) + 1)) + 1)))) = true := bne_iff_ne.mpr c8
                  obtain rfl := Option.some.inj H
                  have p237 : 0 ≤ (x5_1 : Int) := of_decide_eq_true u7_4
                  have q237 : x5_1 < (l0.length : Int) := of_decide_eq_true u7_4
                  obtain ⟨ad237, e237, hx237_0, hx237_1, hx237_2, hx237_3, hx237_4⟩ := at_T53 HR0.out x5_1 p237 q237
                  cases e237
                  replace p237 := eq_true p237
                  replace q237 := eq_true q237
                  have p238 : 0 ≤ (x5_1 : Int) := of_decide_eq_true u7_4
                  have q238 : x5_1 < (l0.length : Int) := of_decide_eq_true u7_4
                  obtain ⟨ad238, e238, hx238_0, hx238_1, hx238_2, hx238_3, hx238_4⟩ := at_T53 HR0.out x5_1 p238 q238
                  obtain rfl : ad237 = ad238 := (by injection e238)
                  replace p238 := eq_true p238
                  replace q238 := eq_true q238
                  have p239 : 0 ≤ (x5_1 : Int) := of_decide_eq_true u7_4
                  have q239 : x5_1 < (l0.length : Int) := of_decide_eq_true u7_4
                  obtain ⟨ad239, e239, hx239_0, hx239_1, hx239_2, hx239_3, hx239_4⟩ := at_T53 HR0.out x5_1 p239 q239
                  obtain rfl : ad237 = ad239 := (by injection e239)
                  replace p239 := eq_true p239
                  replace q239 := eq_true q239
                  have p240 : 0 ≤ (x5_1 : Int) := of_decide_eq_true u7_4
                  have q240 : x5_1 < (l0.length : Int) := of_decide_eq_true u7_4
                  obtain ⟨ad240, e240, hx240_0, hx240_1, hx240_2, hx240_3, hx240_4⟩ := at_T53 HR0.out x5_1 p240 q240
                  obtain rfl : ad237 = ad240 := (by injection e240)
                  replace p240 := eq_true p240
                  replace q240 := eq_true q240
                  go_wp2
                  go_ret
                  exact ⟨by first | rfl | (simp; done) | (simp [*]; done), by repeat (first | exact Drawn0.refl _ | apply Drawn0.step)⟩
              · rw [if_neg c7] at H
                have c7b0 : (((rd_T53 l0 x5_1).f2) == (IntKind.u64.wrap (wrap64 ((wrap64 (x1_1 + 1)) + 1)))) = false := beq_eq_false_iff_ne.mpr c7
                have c7b1 : (((rd_T53 l0 x5_1).f2) != (IntKind.u64.wrap (wrap64 ((wrap64 (x1_1 + 1)) + 1)))) = true := bne_iff_ne.mpr c7
                obtain rfl := Option.some.inj H
                have p237 : 0 ≤ (x5_1 : Int) := of_decide_eq_true u7_4
                have q237 : x5_1 < (l0.length : Int) := of_decide_eq_true u7_4
                obtain ⟨ad237, e237, hx237_0, hx237_1, hx237_2, hx237_3, hx237_4⟩ := at_T53 HR0.out x5_1 p237 q237
                cases e237
                replace p237 := eq_true p237
                replace q237 := eq_true q237
                have p238 : 0 ≤ (x5_1 : Int) := of_decide_eq_true u7_4
                have q238 : x5_1 < (l0.length : Int) := of_decide_eq_true u7_4
                obtain ⟨ad238, e238, hx238_0, hx238_1, hx238_2, hx238_3, hx238_4⟩ := at_T53 HR0.out x5_1 p238 q238
                obtain rfl : ad237 = ad238 := (by injection e238)
                replace p238 := eq_true p238
                replace q238 := eq_true q238
                have p239 : 0 ≤ (x5_1 : Int) := of_decide_eq_true u7_4
                have q239 : x5_1 < (l0.length : Int) := of_decide_eq_true u7_4
                obtain ⟨ad239, e239, hx239_0, hx239_1, hx239_2, hx239_3, hx239_4⟩ := at_T53 HR0.out x5_1 p239 q239
                obtain rfl : ad237 = ad239 := (by injection e239)
                replace p239 := eq_true p239
                replace q239 := eq_true q239
                go_wp2
                go_ret
                exact ⟨by first | rfl | (simp; done) | (simp [*]; done), by repeat (first | exact Drawn0.refl _ | apply Drawn0.step)⟩
            · rw [if_neg c6] at H
              have c6b0 : (((rd_T53 l0 x5_1).f1) == (IntKind.u64.wrap (wrap64 (x1_1 + 1)))) = false := beq_eq_false_iff_ne.mpr c6
              have c6b1 : (((rd_T53 l0 x5_1).f1) != (IntKind.u64.wrap (wrap64 (x1_1 + 1)))) = true := bne_iff_ne.mpr c6
              obtain rfl := Option.some.inj H
              have p237 : 0 ≤ (x5_1 : Int) := of_decide_eq_true u7_4
              have q237 : x5_1 < (l0.length : Int) := of_decide_eq_true u7_4
              obtain ⟨ad237, e237, hx237_0, hx237_1, hx237_2, hx237_3, hx237_4⟩ := at_T53 HR0.out x5_1 p237 q237
              cases e237
              replace p237 := eq_true p237
              replace q237 := eq_true q237
              have p238 : 0 ≤ (x5_1 : Int) := of_decide_eq_true u7_4
              have q238 : x5_1 < (l0.length : Int) := of_decide_eq_true u7_4
              obtain ⟨ad238, e238, hx238_0, hx238_1, hx238_2, hx238_3, hx238_4⟩ := at_T53 HR0.out x5_1 p238 q238
              obtain rfl : ad237 = ad238 := (by injection e238)
              replace p238 := eq_true p238
              replace q238 := eq_true q238
              go_wp2
              go_ret
              exact ⟨by first | rfl | (simp; done) | (simp [*]; done), by repeat (first | exact Drawn0.refl _ | apply Drawn0.step)⟩
          · rw [if_neg c5] at H
            have c5b0 : (((rd_T53 l0 x5_1).f0) == (IntKind.u64.wrap (x1_1))) = false := beq_eq_false_iff_ne.mpr c5
            have c5b1 : (((rd_T53 l0 x5_1).f0) != (IntKind.u64.wrap (x1_1))) = true := bne_iff_ne.mpr c5
            obtain rfl := Option.some.inj H
            have p237 : 0 ≤ (x5_1 : Int) := of_decide_eq_true u7_4
            have q237 : x5_1 < (l0.length : Int) := of_decide_eq_true u7_4
            obtain ⟨ad237, e237, hx237_0, hx237_1, hx237_2, hx237_3, hx237_4⟩ := at_T53 HR0.out x5_1 p237 q237
            cases e237
            replace p237 := eq_true p237
            replace q237 := eq_true q237
            go_wp2
            go_ret
            exact ⟨by first | rfl | (simp; done) | (simp [*]; done), by repeat (first | exact Drawn0.refl _ | apply Drawn0.step)⟩
        · rw [if_neg c4] at H
          exact absurd H (by simp)
      · rw [if_neg c3] at H
        have c3b0 : decide (x5_1 < (l0.length : Int)) = false := decide_eq_false c3
        clear c3
        obtain rfl := Option.some.inj H
        go_wp2
        go_ret
        exact ⟨by first | rfl | (simp; done) | (simp [*]; done), by repeat (first | exact Drawn0.refl _ | apply Drawn0.step)⟩

/-! ### laws_heldBook: function 27 -/
def laws_heldBook.f (k : Nat) (l0_0 : List (S53)) (a1 : Int) : Option (Int) := (laws_heldAccountS.f k l0_0 a1).bind fun t243 => (if t243 < 0 then (some (-1)) else (some t243))
theorem laws_heldBook.mono : ∀ a0 a1 k, LeO (laws_heldBook.f k a0 a1) (laws_heldBook.f (k + 1) a0 a1) := by
  intro a0 a1 k
  unfold laws_heldBook.f
  repeat' first
      | (with_reducible exact laws_heldAccountS.mono _ _ _)
      | (with_reducible exact LeO.refl _)
      | (with_reducible exact LeO.none _)
      | (with_reducible refine LeO.ite ?_ ?_)
      | (with_reducible refine LeO.bind ?_ (fun _ => ?_))
      | exact laws_heldAccountS.mono _ _ _
      | exact LeO.none _
      | refine LeO.ite ?_ ?_
      | refine LeO.bind ?_ (fun _ => ?_)
set_option maxHeartbeats 8000000 in
set_option maxRecDepth 100000 in
theorem laws_heldBook.calls (k : Nat) (A0_0 : Option Addr) (c0_0 : Nat) (l0_0 : List (S53)) (a1 : Int) (r : Int) (w : World) (hr0_0 : Kd.C k53 w A0_0 l0_0.length l0_0) (hc0_0 : l0_0.length ≤ c0_0) (h : laws_heldBook.f k l0_0 a1 = some r) :
    Calls Try.prog 27 #[.agg #[.slice A0_0 l0_0.length c0_0], .int .i64 a1] w fun e w' => e = .returned (.int .i64 r) ∧ Below w.heap.size w w' := by
  have hu29 := Try.underlying29
  have HR0_0 := Aside0.mk hr0_0
  have HC0_0 := Aside0.mk hc0_0
  clear hr0_0 hc0_0
  have HB := Aside0.mk (Below.refl w.heap.size w)
  have H : ((laws_heldAccountS.f k l0_0 a1).bind fun t243 => (if t243 < 0 then (some (-1)) else (some t243))) = some r := h
  clear h
  replace H := Option.bind_eq_some_iff.mp H
  obtain ⟨t243, A30, H⟩ := H
  replace H : (if t243 < 0 then (some (-1)) else (some t243)) = some r := H
  have A3 := Aside0.mk A30
  clear A30
  by_cases c4 : t243 < 0
  · rw [if_pos c4] at H
    have c4b0 : decide (t243 < 0) = true := decide_eq_true c4
    clear c4
    obtain rfl := Option.some.inj H
    go_enter Try.func27, Try.ntmps27
    go_wp2_with (first | ((with_reducible refine gate_dst (N := 2) rfl ?_); refine box_event ?hg (N := 2) ?hd (cs := #[.slice A0_0 l0_0.length c0_0]) (t := 29) ?hr ?_; (case hd => rfl); (case hg => rfl); (case hr => first | (go_simp; done) | (go_simp; rfl)); intro gb242 hg w5 hbox hb; have n0_ := Aside0.mk (below_step u7_5 hb); have n1_ := Aside0.mk (hbox); have n2_ := Aside0.mk ((by rw [hg]; exact (below_size u7_5) : w.heap.size ≤ gb242)); have n3_ := Aside0.mk ((by rw [hg]; exact (below_size u7_5) : w.heap.size ≤ gb242)); clear HB; have HB := n0_; have BK242 := n1_; have GW242 := n2_; have GE242 := n3_; clear n0_ n1_ n2_ n3_; clear hb hbox hg; have hcz6_0 : w5.cell? ⟨gb242, 0, none⟩ = some (.slice A0_0 l0_0.length c0_0) := (blk_cell BK242.out 0).trans rfl; have hfz6_0 := blk_frozen BK242.out 0) | ((with_reducible refine gate_callee (f := 59) rfl ?_); refine goesL_ (some 8) rfl rfl Try.func59 (by kernel_rfl) rfl #[.slice A0_0 l0_0.length c0_0, .int .i64 a1] rfl u7_2 ?_; (with_reducible refine (laws_heldAccountS.calls k _ _ l0_0 a1 t243 _ ?side1 ?side2 A3.out).mono ?_); (case side1 => repeat (first | exact (Kd.C_below HR0_0.out HB.out) | (with_reducible refine Kd.C_alloc ?_ _) | (with_reducible refine Kd.C_drewN ?_ _) | (with_reducible refine Kd.C_drew ?_))); (case side2 => exact HC0_0.out); rintro e w' ⟨rfl, ⟨nd, rfl⟩⟩; refine ⟨_, rfl, ?_⟩))
    go_ret
    exact ⟨by first | rfl | (simp [errW_none, errW_some] <;> rfl) | (simp [*, errW_none, errW_some] <;> rfl), by repeat (first | (with_reducible first | exact HB.out | apply below_alloc | apply pw_below_drewN | apply below_drew1 | refine below_set ?_ GE242.out) | exact HB.out)⟩
  · rw [if_neg c4] at H
    have c4b0 : decide (t243 < 0) = false := decide_eq_false c4
    clear c4
    obtain rfl := Option.some.inj H
    go_enter Try.func27, Try.ntmps27
    go_wp2_with (first | ((with_reducible refine gate_dst (N := 2) rfl ?_); refine box_event ?hg (N := 2) ?hd (cs := #[.slice A0_0 l0_0.length c0_0]) (t := 29) ?hr ?_; (case hd => rfl); (case hg => rfl); (case hr => first | (go_simp; done) | (go_simp; rfl)); intro gb242 hg w7 hbox hb; have n0_ := Aside0.mk (below_step u7_5 hb); have n1_ := Aside0.mk (hbox); have n2_ := Aside0.mk ((by rw [hg]; exact (below_size u7_5) : w.heap.size ≤ gb242)); have n3_ := Aside0.mk ((by rw [hg]; exact (below_size u7_5) : w.heap.size ≤ gb242)); clear HB; have HB := n0_; have BK242 := n1_; have GW242 := n2_; have GE242 := n3_; clear n0_ n1_ n2_ n3_; clear hb hbox hg; have hcz8_0 : w7.cell? ⟨gb242, 0, none⟩ = some (.slice A0_0 l0_0.length c0_0) := (blk_cell BK242.out 0).trans rfl; have hfz8_0 := blk_frozen BK242.out 0) | ((with_reducible refine gate_callee (f := 59) rfl ?_); refine goesL_ (some 8) rfl rfl Try.func59 (by kernel_rfl) rfl #[.slice A0_0 l0_0.length c0_0, .int .i64 a1] rfl u7_2 ?_; (with_reducible refine (laws_heldAccountS.calls k _ _ l0_0 a1 t243 _ ?side1 ?side2 A3.out).mono ?_); (case side1 => repeat (first | exact (Kd.C_below HR0_0.out HB.out) | (with_reducible refine Kd.C_alloc ?_ _) | (with_reducible refine Kd.C_drewN ?_ _) | (with_reducible refine Kd.C_drew ?_))); (case side2 => exact HC0_0.out); rintro e w' ⟨rfl, ⟨nd, rfl⟩⟩; refine ⟨_, rfl, ?_⟩))
    go_ret
    exact ⟨by first | rfl | (simp [errW_none, errW_some] <;> rfl) | (simp [*, errW_none, errW_some] <;> rfl), by repeat (first | (with_reducible first | exact HB.out | apply below_alloc | apply pw_below_drewN | apply below_drew1 | refine below_set ?_ GE242.out) | exact HB.out)⟩

/-! ### laws_FnExactMoveMoney: function 5 -/
def laws_FnExactMoveMoney.f (k : Nat) (l0_0 : List (S77)) (a1 : Int) (a2 : Int) (a3 : Int) : Option (Bool) := (laws_szBook.f l0_0 1048576).bind fun t245 => (if t245 < 0 then (some true) else ((laws_toBook.f k l0_0).bind fun t246 => ((spec_MoveMoney.f k t246 a1 a2 a3).bind fun bt249 => ((laws_toBook.f k l0_0).bind fun t254 => ((impl_MoveMoney.f k t254 a1 a2 a3).bind fun bt258 => ((laws_eqBook.f k bt258.1 bt249.1).bind fun t263 => (if t263 = true then (if bt258.2 = bt249.2 then ((laws_toBook.f k l0_0).bind fun t264 => ((laws_eqBook.f k t254 t264).bind fun t267 => (if t267 = true then ((laws_markBook.f k t254 1).bind fun bt268 => (if bt268.1 < 0 then (some false) else ((laws_eqBook.f k bt258.1 bt249.1).bind fun t270 => (if t270 = true then ((laws_markBook.f k bt258.1 1).bind fun bt271 => ((laws_heldBook.f k bt271.2 1).bind fun t273 => (if t273 < 0 then (some false) else (if t273 = bt271.1 then ((laws_toBook.f k l0_0).bind fun t274 => ((impl_MoveMoney.f k t274 a1 a2 a3).bind fun bt277 => ((laws_eqBook.f k bt277.1 bt249.1).bind fun t282 => (if t282 = true then (if bt277.2 = bt249.2 then ((laws_heldBook.f k bt271.2 1).bind fun t283 => (if t283 < 0 then (some false) else (if t283 = bt271.1 then (some true) else (some false)))) else (some false)) else (some false))))) else (some false))))) else (some false))))) else (some false)))) else (some false)) else (some false))))))))
theorem laws_FnExactMoveMoney.mono : ∀ a0 a1 a2 a3 k, LeO (laws_FnExactMoveMoney.f k a0 a1 a2 a3) (laws_FnExactMoveMoney.f (k + 1) a0 a1 a2 a3) := by
  intro a0 a1 a2 a3 k
  unfold laws_FnExactMoveMoney.f
  repeat' first
      | (with_reducible exact impl_MoveMoney.mono _ _ _ _ _)
      | (with_reducible exact laws_eqBook.mono _ _ _)
      | (with_reducible exact laws_heldBook.mono _ _ _)
      | (with_reducible exact laws_markBook.mono _ _ _)
      | (with_reducible exact laws_toBook.mono _ _)
      | (with_reducible exact spec_MoveMoney.mono _ _ _ _ _)
      | (with_reducible exact LeO.refl _)
      | (with_reducible exact LeO.none _)
      | (with_reducible refine LeO.ite ?_ ?_)
      | (with_reducible refine LeO.bind ?_ (fun _ => ?_))
      | exact impl_MoveMoney.mono _ _ _ _ _
      | exact laws_eqBook.mono _ _ _
      | exact laws_heldBook.mono _ _ _
      | exact laws_markBook.mono _ _ _
      | exact laws_toBook.mono _ _
      | exact spec_MoveMoney.mono _ _ _ _ _
      | exact LeO.none _
      | refine LeO.ite ?_ ?_
      | refine LeO.bind ?_ (fun _ => ?_)
set_option maxHeartbeats 8000000 in
set_option maxRecDepth 100000 in
theorem laws_FnExactMoveMoney.calls (k : Nat) (A0_0 : Option Addr) (c0_0 : Nat) (l0_0 : List (S77)) (a1 : Int) (a2 : Int) (a3 : Int) (r : Bool) (w : World) (hr0_0 : Kd.C k77 w A0_0 l0_0.length l0_0) (hc0_0 : l0_0.length ≤ c0_0) (h : laws_FnExactMoveMoney.f k l0_0 a1 a2 a3 = some r) (hr_ : Aside0 (r = true)) :
    Calls Try.prog 5 #[.agg #[.slice A0_0 l0_0.length c0_0], .int .u64 a1, .int .u64 a2, .int .u64 a3] w fun e w' => e = .returned (.bool r) ∧ Below w.heap.size w w' := by
  have hu24 := Try.underlying24
  have hu29 := Try.underlying29
  have HR0_0 := Aside0.mk hr0_0
  have HC0_0 := Aside0.mk hc0_0
  clear hr0_0 hc0_0
  have HB := Aside0.mk (Below.refl w.heap.size w)
  have H : ((laws_szBook.f l0_0 1048576).bind fun t245 => (if t245 < 0 then (some true) else ((laws_toBook.f k l0_0).bind fun t246 => ((spec_MoveMoney.f k t246 a1 a2 a3).bind fun bt249 => ((laws_toBook.f k l0_0).bind fun t254 => ((impl_MoveMoney.f k t254 a1 a2 a3).bind fun bt258 => ((laws_eqBook.f k bt258.1 bt249.1).bind fun t263 => (if t263 = true then (if bt258.2 = bt249.2 then ((laws_toBook.f k l0_0).bind fun t264 => ((laws_eqBook.f k t254 t264).bind fun t267 => (if t267 = true then ((laws_markBook.f k t254 1).bind fun bt268 => (if bt268.1 < 0 then (some false) else ((laws_eqBook.f k bt258.1 bt249.1).bind fun t270 => (if t270 = true then ((laws_markBook.f k bt258.1 1).bind fun bt271 => ((laws_heldBook.f k bt271.2 1).bind fun t273 => (if t273 < 0 then (some false) else (if t273 = bt271.1 then ((laws_toBook.f k l0_0).bind fun t274 => ((impl_MoveMoney.f k t274 a1 a2 a3).bind fun bt277 => ((laws_eqBook.f k bt277.1 bt249.1).bind fun t282 => (if t282 = true then (if bt277.2 = bt249.2 then ((laws_heldBook.f k bt271.2 1).bind fun t283 => (if t283 < 0 then (some false) else (if t283 = bt271.1 then (some true) else (some false)))) else (some false)) else (some false))))) else (some false))))) else (some false))))) else (some false)))) else (some false)) else (some false))))))))) = some r := h
  clear h
  replace H := Option.bind_eq_some_iff.mp H
  obtain ⟨t245, A50, H⟩ := H
  replace H : (if t245 < 0 then (some true) else ((laws_toBook.f k l0_0).bind fun t246 => ((spec_MoveMoney.f k t246 a1 a2 a3).bind fun bt249 => ((laws_toBook.f k l0_0).bind fun t254 => ((impl_MoveMoney.f k t254 a1 a2 a3).bind fun bt258 => ((laws_eqBook.f k bt258.1 bt249.1).bind fun t263 => (if t263 = true then (if bt258.2 = bt249.2 then ((laws_toBook.f k l0_0).bind fun t264 => ((laws_eqBook.f k t254 t264).bind fun t267 => (if t267 = true then ((laws_markBook.f k t254 1).bind fun bt268 => (if bt268.1 < 0 then (some false) else ((laws_eqBook.f k bt258.1 bt249.1).bind fun t270 => (if t270 = true then ((laws_markBook.f k bt258.1 1).bind fun bt271 => ((laws_heldBook.f k bt271.2 1).bind fun t273 => (if t273 < 0 then (some false) else (if t273 = bt271.1 then ((laws_toBook.f k l0_0).bind fun t274 => ((impl_MoveMoney.f k t274 a1 a2 a3).bind fun bt277 => ((laws_eqBook.f k bt277.1 bt249.1).bind fun t282 => (if t282 = true then (if bt277.2 = bt249.2 then ((laws_heldBook.f k bt271.2 1).bind fun t283 => (if t283 < 0 then (some false) else (if t283 = bt271.1 then (some true) else (some false)))) else (some false)) else (some false))))) else (some false))))) else (some false))))) else (some false)))) else (some false)) else (some false)))))))) = some r := H
  have A5 := Aside0.mk A50
  clear A50
  by_cases c6 : t245 < 0
  · rw [if_pos c6] at H
    have c6b0 : decide (t245 < 0) = true := decide_eq_true c6
    clear c6
    obtain rfl := Option.some.inj H
    go_enter Try.func5, Try.ntmps5
    go_wp2_with (first | ((with_reducible refine gate_dst (N := 4) rfl ?_); refine box_event ?hg (N := 4) ?hd (cs := #[.slice A0_0 l0_0.length c0_0]) (t := 24) ?hr ?_; (case hd => rfl); (case hg => rfl); (case hr => first | (go_simp; done) | (go_simp; rfl)); intro gb244 hg w7 hbox hb; have n0_ := Aside0.mk (below_step u7_5 hb); have n1_ := Aside0.mk (hbox); have n2_ := Aside0.mk ((by rw [hg]; exact (below_size u7_5) : w.heap.size ≤ gb244)); have n3_ := Aside0.mk ((by rw [hg]; exact (below_size u7_5) : w.heap.size ≤ gb244)); clear HB; have HB := n0_; have BK244 := n1_; have GW244 := n2_; have GE244 := n3_; clear n0_ n1_ n2_ n3_; clear hb hbox hg; have hcz8_0 : w7.cell? ⟨gb244, 0, none⟩ = some (.slice A0_0 l0_0.length c0_0) := (blk_cell BK244.out 0).trans rfl; have hfz8_0 := blk_frozen BK244.out 0) | ((with_reducible refine gate_callee (f := 17) rfl ?_); refine goesL_ (some 22) rfl rfl Try.func17 (by kernel_rfl) rfl #[.agg #[.slice A0_0 l0_0.length c0_0], .int .i64 1048576] rfl u7_2 ?_; (with_reducible refine (laws_szBook.calls _ _ l0_0 1048576 t245 _ ?side1 ?side2 A5.out).mono ?_); (case side1 => repeat (first | exact (Kd.C_below HR0_0.out HB.out) | (with_reducible refine Kd.C_alloc ?_ _) | (with_reducible refine Kd.C_drewN ?_ _) | (with_reducible refine Kd.C_drew ?_))); (case side2 => exact HC0_0.out); rintro e w9 ⟨rfl, hb⟩; refine ⟨_, rfl, ?_⟩; have n0_ := Aside0.mk (blk_below (g := gb244) (o := .cells #[.slice A0_0 l0_0.length c0_0] 24 (0, 0)) u7_1 hb); have n1_ := Aside0.mk (below_step u7_9 hb); clear BK244; clear HB; have BK244 := n0_; have HB := n1_; clear n0_ n1_; (try clear hb); (try clear hb2); (try clear hk); (try clear hi)))
    go_ret
    exact ⟨by first | rfl | (simp [errW_none, errW_some] <;> rfl) | (simp [*, errW_none, errW_some] <;> rfl), by repeat (first | (with_reducible first | exact HB.out | apply below_alloc | apply pw_below_drewN | apply below_drew1 | refine below_set ?_ GE244.out) | exact HB.out)⟩
  · rw [if_neg c6] at H
    have c6b0 : decide (t245 < 0) = false := decide_eq_false c6
    clear c6
    replace H := Option.bind_eq_some_iff.mp H
    obtain ⟨t246, A100, H⟩ := H
    replace H : ((spec_MoveMoney.f k t246 a1 a2 a3).bind fun bt249 => ((laws_toBook.f k l0_0).bind fun t254 => ((impl_MoveMoney.f k t254 a1 a2 a3).bind fun bt258 => ((laws_eqBook.f k bt258.1 bt249.1).bind fun t263 => (if t263 = true then (if bt258.2 = bt249.2 then ((laws_toBook.f k l0_0).bind fun t264 => ((laws_eqBook.f k t254 t264).bind fun t267 => (if t267 = true then ((laws_markBook.f k t254 1).bind fun bt268 => (if bt268.1 < 0 then (some false) else ((laws_eqBook.f k bt258.1 bt249.1).bind fun t270 => (if t270 = true then ((laws_markBook.f k bt258.1 1).bind fun bt271 => ((laws_heldBook.f k bt271.2 1).bind fun t273 => (if t273 < 0 then (some false) else (if t273 = bt271.1 then ((laws_toBook.f k l0_0).bind fun t274 => ((impl_MoveMoney.f k t274 a1 a2 a3).bind fun bt277 => ((laws_eqBook.f k bt277.1 bt249.1).bind fun t282 => (if t282 = true then (if bt277.2 = bt249.2 then ((laws_heldBook.f k bt271.2 1).bind fun t283 => (if t283 < 0 then (some false) else (if t283 = bt271.1 then (some true) else (some false)))) else (some false)) else (some false))))) else (some false))))) else (some false))))) else (some false)))) else (some false)) else (some false)))))) = some r := H
    have A10 := Aside0.mk A100
    clear A100
    replace H := Option.bind_eq_some_iff.mp H
    obtain ⟨⟨t249, t252⟩, A110, H⟩ := H
    replace H : ((laws_toBook.f k l0_0).bind fun t254 => ((impl_MoveMoney.f k t254 a1 a2 a3).bind fun bt258 => ((laws_eqBook.f k bt258.1 t249).bind fun t263 => (if t263 = true then (if bt258.2 = t252 then ((laws_toBook.f k l0_0).bind fun t264 => ((laws_eqBook.f k t254 t264).bind fun t267 => (if t267 = true then ((laws_markBook.f k t254 1).bind fun bt268 => (if bt268.1 < 0 then (some false) else ((laws_eqBook.f k bt258.1 t249).bind fun t270 => (if t270 = true then ((laws_markBook.f k bt258.1 1).bind fun bt271 => ((laws_heldBook.f k bt271.2 1).bind fun t273 => (if t273 < 0 then (some false) else (if t273 = bt271.1 then ((laws_toBook.f k l0_0).bind fun t274 => ((impl_MoveMoney.f k t274 a1 a2 a3).bind fun bt277 => ((laws_eqBook.f k bt277.1 t249).bind fun t282 => (if t282 = true then (if bt277.2 = t252 then ((laws_heldBook.f k bt271.2 1).bind fun t283 => (if t283 < 0 then (some false) else (if t283 = bt271.1 then (some true) else (some false)))) else (some false)) else (some false))))) else (some false))))) else (some false))))) else (some false)))) else (some false)) else (some false))))) = some r := H
    have A11 := Aside0.mk A110
    clear A110
    replace H := Option.bind_eq_some_iff.mp H
    obtain ⟨t254, A120, H⟩ := H
    replace H : ((impl_MoveMoney.f k t254 a1 a2 a3).bind fun bt258 => ((laws_eqBook.f k bt258.1 t249).bind fun t263 => (if t263 = true then (if bt258.2 = t252 then ((laws_toBook.f k l0_0).bind fun t264 => ((laws_eqBook.f k t254 t264).bind fun t267 => (if t267 = true then ((laws_markBook.f k t254 1).bind fun bt268 => (if bt268.1 < 0 then (some false) else ((laws_eqBook.f k bt258.1 t249).bind fun t270 => (if t270 = true then ((laws_markBook.f k bt258.1 1).bind fun bt271 => ((laws_heldBook.f k bt271.2 1).bind fun t273 => (if t273 < 0 then (some false) else (if t273 = bt271.1 then ((laws_toBook.f k l0_0).bind fun t274 => ((impl_MoveMoney.f k t274 a1 a2 a3).bind fun bt277 => ((laws_eqBook.f k bt277.1 t249).bind fun t282 => (if t282 = true then (if bt277.2 = t252 then ((laws_heldBook.f k bt271.2 1).bind fun t283 => (if t283 < 0 then (some false) else (if t283 = bt271.1 then (some true) else (some false)))) else (some false)) else (some false))))) else (some false))))) else (some false))))) else (some false)))) else (some false)) else (some false)))) = some r := H
    have A12 := Aside0.mk A120
    clear A120
    replace H := Option.bind_eq_some_iff.mp H
    obtain ⟨⟨t258, t261⟩, A130, H⟩ := H
    replace H : ((laws_eqBook.f k t258 t249).bind fun t263 => (if t263 = true then (if t261 = t252 then ((laws_toBook.f k l0_0).bind fun t264 => ((laws_eqBook.f k t254 t264).bind fun t267 => (if t267 = true then ((laws_markBook.f k t254 1).bind fun bt268 => (if bt268.1 < 0 then (some false) else ((laws_eqBook.f k t258 t249).bind fun t270 => (if t270 = true then ((laws_markBook.f k t258 1).bind fun bt271 => ((laws_heldBook.f k bt271.2 1).bind fun t273 => (if t273 < 0 then (some false) else (if t273 = bt271.1 then ((laws_toBook.f k l0_0).bind fun t274 => ((impl_MoveMoney.f k t274 a1 a2 a3).bind fun bt277 => ((laws_eqBook.f k bt277.1 t249).bind fun t282 => (if t282 = true then (if bt277.2 = t252 then ((laws_heldBook.f k bt271.2 1).bind fun t283 => (if t283 < 0 then (some false) else (if t283 = bt271.1 then (some true) else (some false)))) else (some false)) else (some false))))) else (some false))))) else (some false))))) else (some false)))) else (some false)) else (some false))) = some r := H
    have A13 := Aside0.mk A130
    clear A130
    replace H := Option.bind_eq_some_iff.mp H
    obtain ⟨t263, A140, H⟩ := H
    replace H : (if t263 = true then (if t261 = t252 then ((laws_toBook.f k l0_0).bind fun t264 => ((laws_eqBook.f k t254 t264).bind fun t267 => (if t267 = true then ((laws_markBook.f k t254 1).bind fun bt268 => (if bt268.1 < 0 then (some false) else ((laws_eqBook.f k t258 t249).bind fun t270 => (if t270 = true then ((laws_markBook.f k t258 1).bind fun bt271 => ((laws_heldBook.f k bt271.2 1).bind fun t273 => (if t273 < 0 then (some false) else (if t273 = bt271.1 then ((laws_toBook.f k l0_0).bind fun t274 => ((impl_MoveMoney.f k t274 a1 a2 a3).bind fun bt277 => ((laws_eqBook.f k bt277.1 t249).bind fun t282 => (if t282 = true then (if bt277.2 = t252 then ((laws_heldBook.f k bt271.2 1).bind fun t283 => (if t283 < 0 then (some false) else (if t283 = bt271.1 then (some true) else (some false)))) else (some false)) else (some false))))) else (some false))))) else (some false))))) else (some false)))) else (some false)) else (some false)) = some r := H
    have A14 := Aside0.mk A140
    clear A140
    by_cases c15 : t263 = true
    · subst c15
      have H1 : (if t261 = t252 then ((laws_toBook.f k l0_0).bind fun t264 => ((laws_eqBook.f k t254 t264).bind fun t267 => (if t267 = true then ((laws_markBook.f k t254 1).bind fun bt268 => (if bt268.1 < 0 then (some false) else ((laws_eqBook.f k t258 t249).bind fun t270 => (if t270 = true then ((laws_markBook.f k t258 1).bind fun bt271 => ((laws_heldBook.f k bt271.2 1).bind fun t273 => (if t273 < 0 then (some false) else (if t273 = bt271.1 then ((laws_toBook.f k l0_0).bind fun t274 => ((impl_MoveMoney.f k t274 a1 a2 a3).bind fun bt277 => ((laws_eqBook.f k bt277.1 t249).bind fun t282 => (if t282 = true then (if bt277.2 = t252 then ((laws_heldBook.f k bt271.2 1).bind fun t283 => (if t283 < 0 then (some false) else (if t283 = bt271.1 then (some true) else (some false)))) else (some false)) else (some false))))) else (some false))))) else (some false))))) else (some false)))) else (some false)) = some r := by rw [if_pos rfl] at H; exact H
      clear H
      have H := H1
      clear H1
      by_cases c16 : t261 = t252
      · rw [if_pos c16] at H
        have c16b0 : (t261 == t252) = true := beq_iff_eq.mpr c16
        have c16b1 : (t261 != t252) = false := bne_eq_false_iff_eq.mpr c16
        clear c16
        replace H := Option.bind_eq_some_iff.mp H
        obtain ⟨t264, A170, H⟩ := H
        replace H : ((laws_eqBook.f k t254 t264).bind fun t267 => (if t267 = true then ((laws_markBook.f k t254 1).bind fun bt268 => (if bt268.1 < 0 then (some false) else ((laws_eqBook.f k t258 t249).bind fun t270 => (if t270 = true then ((laws_markBook.f k t258 1).bind fun bt271 => ((laws_heldBook.f k bt271.2 1).bind fun t273 => (if t273 < 0 then (some false) else (if t273 = bt271.1 then ((laws_toBook.f k l0_0).bind fun t274 => ((impl_MoveMoney.f k t274 a1 a2 a3).bind fun bt277 => ((laws_eqBook.f k bt277.1 t249).bind fun t282 => (if t282 = true then (if bt277.2 = t252 then ((laws_heldBook.f k bt271.2 1).bind fun t283 => (if t283 < 0 then (some false) else (if t283 = bt271.1 then (some true) else (some false)))) else (some false)) else (some false))))) else (some false))))) else (some false))))) else (some false))) = some r := H
        have A17 := Aside0.mk A170
        clear A170
        replace H := Option.bind_eq_some_iff.mp H
        obtain ⟨t267, A180, H⟩ := H
        replace H : (if t267 = true then ((laws_markBook.f k t254 1).bind fun bt268 => (if bt268.1 < 0 then (some false) else ((laws_eqBook.f k t258 t249).bind fun t270 => (if t270 = true then ((laws_markBook.f k t258 1).bind fun bt271 => ((laws_heldBook.f k bt271.2 1).bind fun t273 => (if t273 < 0 then (some false) else (if t273 = bt271.1 then ((laws_toBook.f k l0_0).bind fun t274 => ((impl_MoveMoney.f k t274 a1 a2 a3).bind fun bt277 => ((laws_eqBook.f k bt277.1 t249).bind fun t282 => (if t282 = true then (if bt277.2 = t252 then ((laws_heldBook.f k bt271.2 1).bind fun t283 => (if t283 < 0 then (some false) else (if t283 = bt271.1 then (some true) else (some false)))) else (some false)) else (some false))))) else (some false))))) else (some false))))) else (some false)) = some r := H
        have A18 := Aside0.mk A180
        clear A180
        by_cases c19 : t267 = true
        · subst c19
          have H1 : ((laws_markBook.f k t254 1).bind fun bt268 => (if bt268.1 < 0 then (some false) else ((laws_eqBook.f k t258 t249).bind fun t270 => (if t270 = true then ((laws_markBook.f k t258 1).bind fun bt271 => ((laws_heldBook.f k bt271.2 1).bind fun t273 => (if t273 < 0 then (some false) else (if t273 = bt271.1 then ((laws_toBook.f k l0_0).bind fun t274 => ((impl_MoveMoney.f k t274 a1 a2 a3).bind fun bt277 => ((laws_eqBook.f k bt277.1 t249).bind fun t282 => (if t282 = true then (if bt277.2 = t252 then ((laws_heldBook.f k bt271.2 1).bind fun t283 => (if t283 < 0 then (some false) else (if t283 = bt271.1 then (some true) else (some false)))) else (some false)) else (some false))))) else (some false))))) else (some false))))) = some r := by rw [if_pos rfl] at H; exact H
          clear H
          have H := H1
          clear H1
          replace H := Option.bind_eq_some_iff.mp H
          obtain ⟨⟨t268, t269⟩, A200, H⟩ := H
          replace H : (if t268 < 0 then (some false) else ((laws_eqBook.f k t258 t249).bind fun t270 => (if t270 = true then ((laws_markBook.f k t258 1).bind fun bt271 => ((laws_heldBook.f k bt271.2 1).bind fun t273 => (if t273 < 0 then (some false) else (if t273 = bt271.1 then ((laws_toBook.f k l0_0).bind fun t274 => ((impl_MoveMoney.f k t274 a1 a2 a3).bind fun bt277 => ((laws_eqBook.f k bt277.1 t249).bind fun t282 => (if t282 = true then (if bt277.2 = t252 then ((laws_heldBook.f k bt271.2 1).bind fun t283 => (if t283 < 0 then (some false) else (if t283 = bt271.1 then (some true) else (some false)))) else (some false)) else (some false))))) else (some false))))) else (some false)))) = some r := H
          have A20 := Aside0.mk A200
          clear A200
          by_cases c21 : t268 < 0
          · rw [if_pos c21] at H
            have c21b0 : decide (t268 < 0) = true := decide_eq_true c21
            clear c21
            exact absurd ((Option.some.inj H).trans hr_.out) (by decide)
          · rw [if_neg c21] at H
            have c21b0 : decide (t268 < 0) = false := decide_eq_false c21
            clear c21
            replace H := Option.bind_eq_some_iff.mp H
            obtain ⟨t270, A220, H⟩ := H
            replace H : (if t270 = true then ((laws_markBook.f k t258 1).bind fun bt271 => ((laws_heldBook.f k bt271.2 1).bind fun t273 => (if t273 < 0 then (some false) else (if t273 = bt271.1 then ((laws_toBook.f k l0_0).bind fun t274 => ((impl_MoveMoney.f k t274 a1 a2 a3).bind fun bt277 => ((laws_eqBook.f k bt277.1 t249).bind fun t282 => (if t282 = true then (if bt277.2 = t252 then ((laws_heldBook.f k bt271.2 1).bind fun t283 => (if t283 < 0 then (some false) else (if t283 = bt271.1 then (some true) else (some false)))) else (some false)) else (some false))))) else (some false))))) else (some false)) = some r := H
            have A22 := Aside0.mk A220
            clear A220
            by_cases c23 : t270 = true
            · subst c23
              have H1 : ((laws_markBook.f k t258 1).bind fun bt271 => ((laws_heldBook.f k bt271.2 1).bind fun t273 => (if t273 < 0 then (some false) else (if t273 = bt271.1 then ((laws_toBook.f k l0_0).bind fun t274 => ((impl_MoveMoney.f k t274 a1 a2 a3).bind fun bt277 => ((laws_eqBook.f k bt277.1 t249).bind fun t282 => (if t282 = true then (if bt277.2 = t252 then ((laws_heldBook.f k bt271.2 1).bind fun t283 => (if t283 < 0 then (some false) else (if t283 = bt271.1 then (some true) else (some false)))) else (some false)) else (some false))))) else (some false))))) = some r := by rw [if_pos rfl] at H; exact H
              clear H
              have H := H1
              clear H1
              replace H := Option.bind_eq_some_iff.mp H
              obtain ⟨⟨t271, t272⟩, A240, H⟩ := H
              replace H : ((laws_heldBook.f k t272 1).bind fun t273 => (if t273 < 0 then (some false) else (if t273 = t271 then ((laws_toBook.f k l0_0).bind fun t274 => ((impl_MoveMoney.f k t274 a1 a2 a3).bind fun bt277 => ((laws_eqBook.f k bt277.1 t249).bind fun t282 => (if t282 = true then (if bt277.2 = t252 then ((laws_heldBook.f k t272 1).bind fun t283 => (if t283 < 0 then (some false) else (if t283 = t271 then (some true) else (some false)))) else (some false)) else (some false))))) else (some false)))) = some r := H
              have A24 := Aside0.mk A240
              clear A240
              replace H := Option.bind_eq_some_iff.mp H
              obtain ⟨t273, A250, H⟩ := H
              replace H : (if t273 < 0 then (some false) else (if t273 = t271 then ((laws_toBook.f k l0_0).bind fun t274 => ((impl_MoveMoney.f k t274 a1 a2 a3).bind fun bt277 => ((laws_eqBook.f k bt277.1 t249).bind fun t282 => (if t282 = true then (if bt277.2 = t252 then ((laws_heldBook.f k t272 1).bind fun t283 => (if t283 < 0 then (some false) else (if t283 = t271 then (some true) else (some false)))) else (some false)) else (some false))))) else (some false))) = some r := H
              have A25 := Aside0.mk A250
              clear A250
              by_cases c26 : t273 < 0
              · rw [if_pos c26] at H
                have c26b0 : decide (t273 < 0) = true := decide_eq_true c26
                clear c26
                exact absurd ((Option.some.inj H).trans hr_.out) (by decide)
              · rw [if_neg c26] at H
                have c26b0 : decide (t273 < 0) = false := decide_eq_false c26
                clear c26
                by_cases c27 : t273 = t271
                · rw [if_pos c27] at H
                  have c27b0 : (t273 == t271) = true := beq_iff_eq.mpr c27
                  have c27b1 : (t273 != t271) = false := bne_eq_false_iff_eq.mpr c27
                  clear c27
                  replace H := Option.bind_eq_some_iff.mp H
                  obtain ⟨t274, A280, H⟩ := H
                  replace H : ((impl_MoveMoney.f k t274 a1 a2 a3).bind fun bt277 => ((laws_eqBook.f k bt277.1 t249).bind fun t282 => (if t282 = true then (if bt277.2 = t252 then ((laws_heldBook.f k t272 1).bind fun t283 => (if t283 < 0 then (some false) else (if t283 = t271 then (some true) else (some false)))) else (some false)) else (some false)))) = some r := H
                  have A28 := Aside0.mk A280
                  clear A280
                  replace H := Option.bind_eq_some_iff.mp H
                  obtain ⟨⟨t277, t280⟩, A290, H⟩ := H
                  replace H : ((laws_eqBook.f k t277 t249).bind fun t282 => (if t282 = true then (if t280 = t252 then ((laws_heldBook.f k t272 1).bind fun t283 => (if t283 < 0 then (some false) else (if t283 = t271 then (some true) else (some false)))) else (some false)) else (some false))) = some r := H
                  have A29 := Aside0.mk A290
                  clear A290
                  replace H := Option.bind_eq_some_iff.mp H
                  obtain ⟨t282, A300, H⟩ := H
                  replace H : (if t282 = true then (if t280 = t252 then ((laws_heldBook.f k t272 1).bind fun t283 => (if t283 < 0 then (some false) else (if t283 = t271 then (some true) else (some false)))) else (some false)) else (some false)) = some r := H
                  have A30 := Aside0.mk A300
                  clear A300
                  by_cases c31 : t282 = true
                  · subst c31
                    have H1 : (if t280 = t252 then ((laws_heldBook.f k t272 1).bind fun t283 => (if t283 < 0 then (some false) else (if t283 = t271 then (some true) else (some false)))) else (some false)) = some r := by rw [if_pos rfl] at H; exact H
                    clear H
                    have H := H1
                    clear H1
                    by_cases c32 : t280 = t252
                    · rw [if_pos c32] at H
                      have c32b0 : (t280 == t252) = true := beq_iff_eq.mpr c32
                      have c32b1 : (t280 != t252) = false := bne_eq_false_iff_eq.mpr c32
                      clear c32
                      replace H := Option.bind_eq_some_iff.mp H
                      obtain ⟨t283, A330, H⟩ := H
                      replace H : (if t283 < 0 then (some false) else (if t283 = t271 then (some true) else (some false))) = some r := H
                      have A33 := Aside0.mk A330
                      clear A330
                      by_cases c34 : t283 < 0
                      · rw [if_pos c34] at H
                        have c34b0 : decide (t283 < 0) = true := decide_eq_true c34
                        clear c34
                        exact absurd ((Option.some.inj H).trans hr_.out) (by decide)
                      · rw [if_neg c34] at H
                        have c34b0 : decide (t283 < 0) = false := decide_eq_false c34
                        clear c34
                        by_cases c35 : t283 = t271
                        · rw [if_pos c35] at H
                          have c35b0 : (t283 == t271) = true := beq_iff_eq.mpr c35
                          have c35b1 : (t283 != t271) = false := bne_eq_false_iff_eq.mpr c35
                          clear c35
                          obtain rfl := Option.some.inj H
                          go_enter Try.func5, Try.ntmps5
                          try go_wp2_with (first | ((with_reducible refine gate_dst (N := 4) rfl ?_); refine box_event ?hg (N := 4) ?hd (cs := #[.slice A0_0 l0_0.length c0_0]) (t := 24) ?hr ?_; (case hd => rfl); (case hg => rfl); (case hr => first | (go_simp; done) | (go_simp; rfl)); intro gb244 hg w36 hbox hb; have n0_ := Aside0.mk (below_step u7_5 hb); have n1_ := Aside0.mk (hbox); have n2_ := Aside0.mk ((by rw [hg]; exact (below_size u7_5) : w.heap.size ≤ gb244)); have n3_ := Aside0.mk ((by rw [hg]; exact (below_size u7_5) : w.heap.size ≤ gb244)); clear HB; have HB := n0_; have BK244 := n1_; have GW244 := n2_; have GE244 := n3_; clear n0_ n1_ n2_ n3_; clear hb hbox hg; have hcz37_0 : w36.cell? ⟨gb244, 0, none⟩ = some (.slice A0_0 l0_0.length c0_0) := (blk_cell BK244.out 0).trans rfl; have hfz37_0 := blk_frozen BK244.out 0) | ((with_reducible refine gate_callee (f := 17) rfl ?_); refine goesL_ (some 22) rfl rfl Try.func17 (by kernel_rfl) rfl #[.agg #[.slice A0_0 l0_0.length c0_0], .int .i64 1048576] rfl u7_2 ?_; (with_reducible refine (laws_szBook.calls _ _ l0_0 1048576 t245 _ ?side1 ?side2 A5.out).mono ?_); (case side1 => repeat (first | exact (Kd.C_below HR0_0.out HB.out) | (with_reducible refine Kd.C_alloc ?_ _) | (with_reducible refine Kd.C_drewN ?_ _) | (with_reducible refine Kd.C_drew ?_))); (case side2 => exact HC0_0.out); rintro e w38 ⟨rfl, hb⟩; refine ⟨_, rfl, ?_⟩; have n0_ := Aside0.mk (blk_below (g := gb244) (o := .cells #[.slice A0_0 l0_0.length c0_0] 24 (0, 0)) u7_1 hb); have n1_ := Aside0.mk (below_step u7_9 hb); clear BK244; clear HB; have BK244 := n0_; have HB := n1_; clear n0_ n1_; (try clear hb); (try clear hb2); (try clear hk); (try clear hi); have hcz39_0 : w38.cell? ⟨gb244, 0, none⟩ = some (.slice A0_0 l0_0.length c0_0) := (blk_cell BK244.out 0).trans rfl; have hfz39_0 := blk_frozen BK244.out 0) | ((with_reducible refine gate_callee (f := 19) rfl ?_); refine goesL_ (some 27) rfl rfl Try.func19 (by kernel_rfl) rfl #[.agg #[.slice A0_0 l0_0.length c0_0]] rfl u7_2 ?_; (with_reducible refine (laws_toBook.calls k _ _ l0_0 t246 _ ?side1 ?side2 A10.out).mono ?_); (case side1 => repeat (first | exact (Kd.C_below HR0_0.out HB.out) | (with_reducible refine Kd.C_alloc ?_ _) | (with_reducible refine Kd.C_drewN ?_ _) | (with_reducible refine Kd.C_drew ?_))); (case side2 => exact HC0_0.out); rintro e w40 ⟨v247, rfl, ho0, hb⟩; refine ⟨_, rfl, ?_⟩; have n0_ := Aside0.mk (Kd.R_lower ho0 (below_size u7_9)); have n1_ := Aside0.mk (blk_below (g := gb244) (o := .cells #[.slice A0_0 l0_0.length c0_0] 24 (0, 0)) u7_1 hb); have n2_ := Aside0.mk (below_step u7_9 hb); clear BK244; clear HB; have HO248 := n0_; have BK244 := n1_; have HB := n2_; clear n0_ n1_ n2_; (try clear hb); (try clear hb2); (try clear hk); (try clear hi); (try clear ho0); obtain ⟨Ao41, co41, eo41⟩ := Kd.R_slice HO248.out; subst eo41) | ((with_reducible refine gate_callee (f := 24) rfl ?_); refine goesL_ (some 31) rfl rfl Try.func24 (by kernel_rfl) rfl #[.agg #[.slice Ao41 t246.length co41], .int .u64 a1, .int .u64 a2, .int .u64 a3] rfl u7_2 ?_; (with_reducible refine (spec_MoveMoney.calls k _ _ t246 a1 a2 a3 t249 t252 _ ?side1 ?side2 A11.out).mono ?_); (case side1 => repeat (first | exact (Kd.R_reads' HO248.out).2.2 | (with_reducible refine Kd.C_alloc ?_ _) | (with_reducible refine Kd.C_drewN ?_ _) | (with_reducible refine Kd.C_drew ?_))); (case side2 => exact (Kd.R_reads' HO248.out).2.1); rintro e w42 ⟨v250, rfl, ho0, hb⟩; refine ⟨_, rfl, ?_⟩; have n0_ := Aside0.mk (Kd.R_elder' u7_7 (Kd.R_base ho0) hb); have n1_ := Aside0.mk (Kd.R_lower (Kd.R_new' ho0 (Kd.R_lt u7_7)) (below_size u7_9)); have n2_ := Aside0.mk (blk_below (g := gb244) (o := .cells #[.slice A0_0 l0_0.length c0_0] 24 (0, 0)) u7_1 hb); have n3_ := Aside0.mk (below_step u7_9 hb); clear HO248; clear BK244; clear HB; have HO248 := n0_; have HO251 := n1_; have BK244 := n2_; have HB := n3_; clear n0_ n1_ n2_ n3_; (try clear hb); (try clear hb2); (try clear hk); (try clear hi); (try clear ho0)) | ((with_reducible refine gate_dst (N := 10) rfl ?_); refine box_event ?hg (N := 10) ?hd (cs := #[.slice none 0 0]) (t := 29) ?hr ?_; (case hd => rfl); (case hg => rfl); (case hr => first | (go_simp; done) | (go_simp; rfl)); intro gb253 hg w43 hbox hb; have n0_ := Aside0.mk (Kd.R_below u7_7 hb); have n1_ := Aside0.mk (Kd.R_below u7_8 hb); have n2_ := Aside0.mk (blk_below (g := gb244) (o := .cells #[.slice A0_0 l0_0.length c0_0] 24 (0, 0)) u7_1 hb); have n3_ := Aside0.mk (below_step u7_9 hb); have n4_ := Aside0.mk (hbox); have n5_ := Aside0.mk ((by rw [hg]; exact (below_size u7_9) : w.heap.size ≤ gb253)); have n6_ := Aside0.mk ((by rw [hg]; exact (below_size u7_9) : w.heap.size ≤ gb253)); have n7_ := Aside0.mk ((by rw [hg]; exact Nat.ne_of_lt (blk_lt (g := gb244) (o := .cells #[.slice A0_0 l0_0.length c0_0] 24 (0, 0)) u7_1) : gb244 ≠ gb253)); have n8_ := Aside0.mk ((by rw [hg]; exact Nat.ne_of_gt (blk_lt (g := gb244) (o := .cells #[.slice A0_0 l0_0.length c0_0] 24 (0, 0)) u7_1) : gb253 ≠ gb244)); clear HO248; clear HO251; clear BK244; clear HB; have HO248 := n0_; have HO251 := n1_; have BK244 := n2_; have HB := n3_; have BK253 := n4_; have GW253 := n5_; have GE253 := n6_; have NB244_253 := n7_; have NB253_244 := n8_; clear n0_ n1_ n2_ n3_ n4_ n5_ n6_ n7_ n8_; clear hb hbox hg; obtain ⟨Ao44, co44, eo44⟩ := Kd.R_slice HO251.out; subst eo44; have hnb45 := NB253_244.out; have hnc45 := NB244_253.out; have hcz46_0 : w43.cell? ⟨gb253, 0, none⟩ = some (.slice none 0 0) := (blk_cell BK253.out 0).trans rfl; have hfz46_0 := blk_frozen BK253.out 0; have hcz47_0 : w43.cell? ⟨gb244, 0, none⟩ = some (.slice A0_0 l0_0.length c0_0) := (blk_cell BK244.out 0).trans rfl; have hfz47_0 := blk_frozen BK244.out 0) | ((with_reducible refine gate_callee (f := 19) rfl ?_); refine goesL_ (some 35) rfl rfl Try.func19 (by kernel_rfl) rfl #[.agg #[.slice A0_0 l0_0.length c0_0]] rfl u7_2 ?_; (with_reducible refine (laws_toBook.calls k _ _ l0_0 t254 _ ?side1 ?side2 A12.out).mono ?_); (case side1 => exact Kd.C_below HR0_0.out u7_13); (case side2 => exact HC0_0.out); rintro e w48 ⟨v255, rfl, ho0, hb⟩; refine ⟨_, rfl, ?_⟩; have n0_ := Aside0.mk (Kd.R_elder' u7_19 (Kd.R_base ho0) hb); have n1_ := Aside0.mk (Kd.R_elder' u7_20 (Kd.R_base ho0) hb); have n2_ := Aside0.mk (Kd.R_lower (Kd.R_new' (Kd.R_new' ho0 (Kd.R_lt u7_19)) (Kd.R_lt u7_20)) (below_size u7_13)); have n3_ := Aside0.mk (blk_below (g := gb244) (o := .cells #[.slice A0_0 l0_0.length c0_0] 24 (0, 0)) (by (with_reducible repeat (first | refine blk_drewN ?_ _ | refine blk_drew ?_ | refine blk_alloc ?_ _)); refine blk_far ?_ NB244_253.out _; (with_reducible repeat (first | refine blk_drewN ?_ _ | refine blk_drew ?_ | refine blk_alloc ?_ _)); exact BK244.out) hb); have n4_ := Aside0.mk (blk_below (g := gb253) (o := .cells #[.slice Ao44 t249.length co44] 29 (0, 0)) (by (with_reducible repeat (first | refine blk_drewN ?_ _ | refine blk_drew ?_ | refine blk_alloc ?_ _)); refine blk_put (cs := #[.slice none 0 0]) ?_ 0 _ rfl; (with_reducible repeat (first | refine blk_drewN ?_ _ | refine blk_drew ?_ | refine blk_alloc ?_ _)); exact BK253.out) hb); have n5_ := Aside0.mk (below_step u7_13 hb); clear HO248; clear HO251; clear BK244; clear BK253; clear HB; have HO248 := n0_; have HO251 := n1_; have HO256 := n2_; have BK244 := n3_; have BK253 := n4_; have HB := n5_; clear n0_ n1_ n2_ n3_ n4_ n5_; (try clear hb); (try clear hb2); (try clear hk); (try clear hi); (try clear ho0)) | ((with_reducible refine gate_dst (N := 12) rfl ?_); refine box_event ?hg (N := 12) ?hd (cs := #[.slice none 0 0]) (t := 29) ?hr ?_; (case hd => rfl); (case hg => rfl); (case hr => first | (go_simp; done) | (go_simp; rfl)); intro gb257 hg w49 hbox hb; have n0_ := Aside0.mk (Kd.R_below u7_7 hb); have n1_ := Aside0.mk (Kd.R_below u7_8 hb); have n2_ := Aside0.mk (Kd.R_below u7_11 hb); have n3_ := Aside0.mk (blk_below (g := gb244) (o := .cells #[.slice A0_0 l0_0.length c0_0] 24 (0, 0)) u7_1 hb); have n4_ := Aside0.mk (blk_below (g := gb253) (o := .cells #[.slice Ao44 t249.length co44] 29 (0, 0)) u7_3 hb); have n5_ := Aside0.mk (below_step u7_13 hb); have n6_ := Aside0.mk (hbox); have n7_ := Aside0.mk ((by rw [hg]; exact (below_size u7_13) : w.heap.size ≤ gb257)); have n8_ := Aside0.mk ((by rw [hg]; exact (below_size u7_13) : w.heap.size ≤ gb257)); have n9_ := Aside0.mk ((by rw [hg]; exact Nat.ne_of_lt (blk_lt (g := gb244) (o := .cells #[.slice A0_0 l0_0.length c0_0] 24 (0, 0)) u7_1) : gb244 ≠ gb257)); have n10_ := Aside0.mk ((by rw [hg]; exact Nat.ne_of_gt (blk_lt (g := gb244) (o := .cells #[.slice A0_0 l0_0.length c0_0] 24 (0, 0)) u7_1) : gb257 ≠ gb244)); have n11_ := Aside0.mk ((by rw [hg]; exact Nat.ne_of_lt (blk_lt (g := gb253) (o := .cells #[.slice Ao44 t249.length co44] 29 (0, 0)) u7_3) : gb253 ≠ gb257)); have n12_ := Aside0.mk ((by rw [hg]; exact Nat.ne_of_gt (blk_lt (g := gb253) (o := .cells #[.slice Ao44 t249.length co44] 29 (0, 0)) u7_3) : gb257 ≠ gb253)); clear HO248; clear HO251; clear HO256; clear BK244; clear BK253; clear HB; have HO248 := n0_; have HO251 := n1_; have HO256 := n2_; have BK244 := n3_; have BK253 := n4_; have HB := n5_; have BK257 := n6_; have GW257 := n7_; have GE257 := n8_; have NB244_257 := n9_; have NB257_244 := n10_; have NB253_257 := n11_; have NB257_253 := n12_; clear n0_ n1_ n2_ n3_ n4_ n5_ n6_ n7_ n8_ n9_ n10_ n11_ n12_; clear hb hbox hg; obtain ⟨Ao50, co50, eo50⟩ := Kd.R_slice HO256.out; subst eo50; have hnb51 := NB257_244.out; have hnc51 := NB244_257.out; have hnb52 := NB257_253.out; have hnc52 := NB253_257.out; have hcz53_0 : w49.cell? ⟨gb257, 0, none⟩ = some (.slice none 0 0) := (blk_cell BK257.out 0).trans rfl; have hfz53_0 := blk_frozen BK257.out 0) | ((with_reducible refine gate_callee (f := 25) rfl ?_); refine goesL_ (some 41) rfl rfl Try.func25 (by kernel_rfl) rfl #[.agg #[.slice Ao50 t254.length co50], .int .u64 a1, .int .u64 a2, .int .u64 a3] rfl u7_2 ?_; (with_reducible refine (impl_MoveMoney.calls k _ _ t254 a1 a2 a3 t258 t261 _ ?side1 ?side2 A13.out).mono ?_); (case side1 => refine (Kd.R_reads' (e := 53) (base := w.heap.size) (ok := fun k_ => ((True ∧ some k_ ≠ (.slice Ao41 t246.length co41 : Value).ownBlock) ∧ some k_ ≠ (.slice Ao44 t249.length co44 : Value).ownBlock)) (n := t254.length) (c := co50) ?_).2.2; exact u7_16); (case side2 => exact (Kd.R_reads' HO256.out).2.1); rintro e w54 ⟨v259, rfl, ho0, hb⟩; refine ⟨_, rfl, ?_⟩; have n0_ := Aside0.mk (Kd.R_elder' u7_21 (Kd.R_base ho0) hb); have n1_ := Aside0.mk (Kd.R_elder' u7_22 (Kd.R_base ho0) hb); have n2_ := Aside0.mk (Kd.R_elder' u7_16 (Kd.R_base ho0) hb); have n3_ := Aside0.mk (Kd.R_lower (Kd.R_new' (Kd.R_new' (Kd.R_new' ho0 (Kd.R_lt u7_21)) (Kd.R_lt u7_22)) (Kd.R_lt u7_16)) (below_size u7_14)); have n4_ := Aside0.mk (blk_below (g := gb244) (o := .cells #[.slice A0_0 l0_0.length c0_0] 24 (0, 0)) (by (with_reducible repeat (first | refine blk_drewN ?_ _ | refine blk_drew ?_ | refine blk_alloc ?_ _)); refine blk_far ?_ NB244_257.out _; (with_reducible repeat (first | refine blk_drewN ?_ _ | refine blk_drew ?_ | refine blk_alloc ?_ _)); exact BK244.out) hb); have n5_ := Aside0.mk (blk_below (g := gb253) (o := .cells #[.slice Ao44 t249.length co44] 29 (0, 0)) (by (with_reducible repeat (first | refine blk_drewN ?_ _ | refine blk_drew ?_ | refine blk_alloc ?_ _)); refine blk_far ?_ NB253_257.out _; (with_reducible repeat (first | refine blk_drewN ?_ _ | refine blk_drew ?_ | refine blk_alloc ?_ _)); exact BK253.out) hb); have n6_ := Aside0.mk (blk_below (g := gb257) (o := .cells #[.slice Ao50 t254.length co50] 29 (0, 0)) (by (with_reducible repeat (first | refine blk_drewN ?_ _ | refine blk_drew ?_ | refine blk_alloc ?_ _)); refine blk_put (cs := #[.slice none 0 0]) ?_ 0 _ rfl; (with_reducible repeat (first | refine blk_drewN ?_ _ | refine blk_drew ?_ | refine blk_alloc ?_ _)); exact BK257.out) hb); have n7_ := Aside0.mk (below_step u7_14 hb); clear HO248; clear HO251; clear HO256; clear BK244; clear BK253; clear BK257; clear HB; have HO248 := n0_; have HO251 := n1_; have HO256 := n2_; have HO260 := n3_; have BK244 := n4_; have BK253 := n5_; have BK257 := n6_; have HB := n7_; clear n0_ n1_ n2_ n3_ n4_ n5_ n6_ n7_; (try clear hb); (try clear hb2); (try clear hk); (try clear hi); (try clear ho0)) | ((with_reducible refine gate_dst (N := 13) rfl ?_); refine box_event ?hg (N := 13) ?hd (cs := #[.slice none 0 0]) (t := 29) ?hr ?_; (case hd => rfl); (case hg => rfl); (case hr => first | (go_simp; done) | (go_simp; rfl)); intro gb262 hg w55 hbox hb; have n0_ := Aside0.mk (Kd.R_below u7_7 hb); have n1_ := Aside0.mk (Kd.R_below u7_8 hb); have n2_ := Aside0.mk (Kd.R_below u7_11 hb); have n3_ := Aside0.mk (Kd.R_below u7_12 hb); have n4_ := Aside0.mk (blk_below (g := gb244) (o := .cells #[.slice A0_0 l0_0.length c0_0] 24 (0, 0)) u7_1 hb); have n5_ := Aside0.mk (blk_below (g := gb253) (o := .cells #[.slice Ao44 t249.length co44] 29 (0, 0)) u7_3 hb); have n6_ := Aside0.mk (blk_below (g := gb257) (o := .cells #[.slice Ao50 t254.length co50] 29 (0, 0)) u7_6 hb); have n7_ := Aside0.mk (below_step u7_14 hb); have n8_ := Aside0.mk (hbox); have n9_ := Aside0.mk ((by rw [hg]; exact (below_size u7_14) : w.heap.size ≤ gb262)); have n10_ := Aside0.mk ((by rw [hg]; exact (below_size u7_14) : w.heap.size ≤ gb262)); have n11_ := Aside0.mk ((by rw [hg]; exact Nat.ne_of_lt (blk_lt (g := gb244) (o := .cells #[.slice A0_0 l0_0.length c0_0] 24 (0, 0)) u7_1) : gb244 ≠ gb262)); have n12_ := Aside0.mk ((by rw [hg]; exact Nat.ne_of_gt (blk_lt (g := gb244) (o := .cells #[.slice A0_0 l0_0.length c0_0] 24 (0, 0)) u7_1) : gb262 ≠ gb244)); have n13_ := Aside0.mk ((by rw [hg]; exact Nat.ne_of_lt (blk_lt (g := gb253) (o := .cells #[.slice Ao44 t249.length co44] 29 (0, 0)) u7_3) : gb253 ≠ gb262)); have n14_ := Aside0.mk ((by rw [hg]; exact Nat.ne_of_gt (blk_lt (g := gb253) (o := .cells #[.slice Ao44 t249.length co44] 29 (0, 0)) u7_3) : gb262 ≠ gb253)); have n15_ := Aside0.mk ((by rw [hg]; exact Nat.ne_of_lt (blk_lt (g := gb257) (o := .cells #[.slice Ao50 t254.length co50] 29 (0, 0)) u7_6) : gb257 ≠ gb262)); have n16_ := Aside0.mk ((by rw [hg]; exact Nat.ne_of_gt (blk_lt (g := gb257) (o := .cells #[.slice Ao50 t254.length co50] 29 (0, 0)) u7_6) : gb262 ≠ gb257)); clear HO248; clear HO251; clear HO256; clear HO260; clear BK244; clear BK253; clear BK257; clear HB; have HO248 := n0_; have HO251 := n1_; have HO256 := n2_; have HO260 := n3_; have BK244 := n4_; have BK253 := n5_; have BK257 := n6_; have HB := n7_; have BK262 := n8_; have GW262 := n9_; have GE262 := n10_; have NB244_262 := n11_; have NB262_244 := n12_; have NB253_262 := n13_; have NB262_253 := n14_; have NB257_262 := n15_; have NB262_257 := n16_; clear n0_ n1_ n2_ n3_ n4_ n5_ n6_ n7_ n8_ n9_ n10_ n11_ n12_ n13_ n14_ n15_ n16_; clear hb hbox hg; obtain ⟨Ao56, co56, eo56⟩ := Kd.R_slice HO260.out; subst eo56; have hnb57 := NB262_244.out; have hnc57 := NB244_262.out; have hnb58 := NB262_253.out; have hnc58 := NB253_262.out; have hnb59 := NB262_257.out; have hnc59 := NB257_262.out; have hcz60_0 : w55.cell? ⟨gb262, 0, none⟩ = some (.slice none 0 0) := (blk_cell BK262.out 0).trans rfl; have hfz60_0 := blk_frozen BK262.out 0; have hcz61_0 : w55.cell? ⟨gb253, 0, none⟩ = some (.slice Ao44 t249.length co44) := (blk_cell BK253.out 0).trans rfl; have hfz61_0 := blk_frozen BK253.out 0) | ((with_reducible refine gate_callee (f := 21) rfl ?_); refine goesL_ (some 46) rfl rfl Try.func21 (by kernel_rfl) rfl #[.agg #[.slice Ao56 t258.length co56], .agg #[.slice Ao44 t249.length co44]] rfl u7_2 ?_; (with_reducible refine (laws_eqBook.calls k _ _ t258 _ _ t249 true _ ?side1 ?side2 ?side3 ?side4 A14.out).mono ?_); (case side1 => refine (Kd.R_reads' (e := 53) (base := w.heap.size) (ok := fun k_ => (((True ∧ some k_ ≠ (.slice Ao41 t246.length co41 : Value).ownBlock) ∧ some k_ ≠ (.slice Ao44 t249.length co44 : Value).ownBlock) ∧ some k_ ≠ (.slice Ao50 t254.length co50 : Value).ownBlock)) (n := t258.length) (c := co56) ?_).2.2; exact u7_23); (case side2 => exact (Kd.R_reads' HO260.out).2.1); (case side3 => refine (Kd.R_reads' (e := 53) (base := w.heap.size) (ok := fun k_ => (((True ∧ some k_ ≠ (.slice Ao41 t246.length co41 : Value).ownBlock) ∧ some k_ ≠ (.slice Ao50 t254.length co50 : Value).ownBlock) ∧ some k_ ≠ (.slice Ao56 t258.length co56 : Value).ownBlock)) (n := t249.length) (c := co44) ?_).2.2; exact u7_24); (case side4 => exact (Kd.R_reads' HO251.out).2.1); rintro e w62 ⟨rfl, hb⟩; refine ⟨_, rfl, ?_⟩; have n0_ := Aside0.mk (Kd.R_below (by (with_reducible repeat (first | apply Kd.R_alloc | apply Kd.R_drewN | apply Kd.R_drew)); exact (Kd.R_mono (Kd.R_far (p := ⟨gb262, 0, none⟩) (Kd.R_types HO248.out BK262.out (by decide)) (fun _ hk => hk.2) (.slice Ao56 t258.length co56)) (fun _ h_ => h_.1))) hb); have n1_ := Aside0.mk (Kd.R_below u7_24 hb); have n2_ := Aside0.mk (Kd.R_below (by (with_reducible repeat (first | apply Kd.R_alloc | apply Kd.R_drewN | apply Kd.R_drew)); exact (Kd.R_mono (Kd.R_far (p := ⟨gb262, 0, none⟩) (Kd.R_types HO256.out BK262.out (by decide)) (fun _ hk => hk.2) (.slice Ao56 t258.length co56)) (fun _ h_ => h_.1))) hb); have n3_ := Aside0.mk (Kd.R_below u7_23 hb); have n4_ := Aside0.mk (blk_below (g := gb244) (o := .cells #[.slice A0_0 l0_0.length c0_0] 24 (0, 0)) (by (with_reducible repeat (first | refine blk_drewN ?_ _ | refine blk_drew ?_ | refine blk_alloc ?_ _)); refine blk_far ?_ NB244_262.out _; (with_reducible repeat (first | refine blk_drewN ?_ _ | refine blk_drew ?_ | refine blk_alloc ?_ _)); exact BK244.out) hb); have n5_ := Aside0.mk (blk_below (g := gb253) (o := .cells #[.slice Ao44 t249.length co44] 29 (0, 0)) (by (with_reducible repeat (first | refine blk_drewN ?_ _ | refine blk_drew ?_ | refine blk_alloc ?_ _)); refine blk_far ?_ NB253_262.out _; (with_reducible repeat (first | refine blk_drewN ?_ _ | refine blk_drew ?_ | refine blk_alloc ?_ _)); exact BK253.out) hb); have n6_ := Aside0.mk (blk_below (g := gb257) (o := .cells #[.slice Ao50 t254.length co50] 29 (0, 0)) (by (with_reducible repeat (first | refine blk_drewN ?_ _ | refine blk_drew ?_ | refine blk_alloc ?_ _)); refine blk_far ?_ NB257_262.out _; (with_reducible repeat (first | refine blk_drewN ?_ _ | refine blk_drew ?_ | refine blk_alloc ?_ _)); exact BK257.out) hb); have n7_ := Aside0.mk (blk_below (g := gb262) (o := .cells #[.slice Ao56 t258.length co56] 29 (0, 0)) (by (with_reducible repeat (first | refine blk_drewN ?_ _ | refine blk_drew ?_ | refine blk_alloc ?_ _)); refine blk_put (cs := #[.slice none 0 0]) ?_ 0 _ rfl; (with_reducible repeat (first | refine blk_drewN ?_ _ | refine blk_drew ?_ | refine blk_alloc ?_ _)); exact BK262.out) hb); have n8_ := Aside0.mk (below_step u7_0 hb); clear HO248; clear HO251; clear HO256; clear HO260; clear BK244; clear BK253; clear BK257; clear BK262; clear HB; have HO248 := n0_; have HO251 := n1_; have HO256 := n2_; have HO260 := n3_; have BK244 := n4_; have BK253 := n5_; have BK257 := n6_; have BK262 := n7_; have HB := n8_; clear n0_ n1_ n2_ n3_ n4_ n5_ n6_ n7_ n8_; (try clear hb); (try clear hb2); (try clear hk); (try clear hi)))
                          have n0_ := Aside0.mk (Kd.R_drew HO248.out)
                          have n1_ := Aside0.mk (Kd.R_drew HO251.out)
                          have n2_ := Aside0.mk (Kd.R_drew HO256.out)
                          have n3_ := Aside0.mk (Kd.R_drew HO260.out)
                          have n4_ := Aside0.mk (blk_drew BK244.out)
                          have n5_ := Aside0.mk (blk_drew BK253.out)
                          have n6_ := Aside0.mk (blk_drew BK257.out)
                          have n7_ := Aside0.mk (blk_drew BK262.out)
                          have n8_ := Aside0.mk (below_drew1 HB.out)
                          clear HO248
                          clear HO251
                          clear HO256
                          clear HO260
                          clear BK244
                          clear BK253
                          clear BK257
                          clear BK262
                          clear HB
                          have HO248 := n0_
                          have HO251 := n1_
                          have HO256 := n2_
                          have HO260 := n3_
                          have BK244 := n4_
                          have BK253 := n5_
                          have BK257 := n6_
                          have BK262 := n7_
                          have HB := n8_
                          clear n0_ n1_ n2_ n3_ n4_ n5_ n6_ n7_ n8_
                          refine start_ (n := 5) (S := fun w' => w'.cell? ⟨gb257, 0, none⟩ = some (.slice Ao50 t254.length co50) ∧ w'.cell? ⟨gb244, 0, none⟩ = some (.slice A0_0 l0_0.length c0_0)) (ds := []) #[false, false, false, false, false] (by kernel_rfl) rfl rfl ⟨(blk_cell BK257.out 0).trans rfl, (blk_cell BK244.out 0).trans rfl⟩ (fun hHeld => ?_)
                          generalize w62.drew = w63 at HO248 HO251 HO256 HO260 BK244 BK253 BK257 BK262 HB hHeld ⊢
                          refine take_ (i := 0) (N := some 53) (v := ?_) (a' := ?_) #[true, false, false, false, false] rfl rfl (by kernel_rfl) (fun _ _ _ h => h) (Or.inl ⟨by rfl, ?_⟩) hHeld ?_ ?_
                          rotate_left
                          · rintro w' ⟨s0, s1⟩
                            go_simp
                            with_reducible rfl
                          rotate_left
                          · simp only [Act.put, List.setIfInBounds_toArray, List.set_cons_zero, List.set_cons_succ, i64_w, i32_w]
                            rfl
                          refine take_ (i := 1) (N := some 54) (v := ?_) (a' := ?_) #[true, true, false, false, false] rfl rfl (by kernel_rfl) (fun _ _ _ h => h) (Or.inl ⟨by rfl, ?_⟩) hHeld ?_ ?_
                          rotate_left
                          · rintro w' ⟨s0, s1⟩
                            go_simp
                            with_reducible rfl
                          rotate_left
                          · simp only [Act.put, List.setIfInBounds_toArray, List.set_cons_zero, List.set_cons_succ, i64_w, i32_w]
                            rfl
                          refine one_ (i := 2) (N := some 55) #[true, true, true, false, false] rfl rfl (by kernel_rfl) (by decide) (fun K hK => ?_)
                          refine goes_ Try.func19 (by kernel_rfl) rfl #[.agg #[.slice A0_0 l0_0.length c0_0]] (by rfl) rfl rfl u7_2 ?_
                          with_reducible refine (laws_toBook.calls k _ _ l0_0 t264 _ ?side1 ?side2 A17.out).mono ?_
                          (case side1 => repeat (first | exact (Kd.C_below HR0_0.out HB.out) | (with_reducible refine Kd.C_alloc ?_ _) | (with_reducible refine Kd.C_drewN ?_ _) | (with_reducible refine Kd.C_drew ?_)))
                          (case side2 => exact HC0_0.out)
                          rintro e w64 ⟨v265, rfl, ho0, hb⟩
                          refine ⟨_, rfl, ?_⟩
                          have n0_ := Aside0.mk (Kd.R_elder' u7_7 (Kd.R_base ho0) hb)
                          have n1_ := Aside0.mk (Kd.R_elder' u7_8 (Kd.R_base ho0) hb)
                          have n2_ := Aside0.mk (Kd.R_elder' u7_11 (Kd.R_base ho0) hb)
                          have n3_ := Aside0.mk (Kd.R_elder' u7_12 (Kd.R_base ho0) hb)
                          have n4_ := Aside0.mk (Kd.R_lower (Kd.R_new' (Kd.R_new' (Kd.R_new' (Kd.R_new' ho0 (Kd.R_lt u7_7)) (Kd.R_lt u7_8)) (Kd.R_lt u7_11)) (Kd.R_lt u7_12)) (below_size u7_0))
                          have n5_ := Aside0.mk (blk_below (g := gb244) (o := .cells #[.slice A0_0 l0_0.length c0_0] 24 (0, 0)) u7_1 hb)
                          have n6_ := Aside0.mk (blk_below (g := gb253) (o := .cells #[.slice Ao44 t249.length co44] 29 (0, 0)) u7_3 hb)
                          have n7_ := Aside0.mk (blk_below (g := gb257) (o := .cells #[.slice Ao50 t254.length co50] 29 (0, 0)) u7_6 hb)
                          have n8_ := Aside0.mk (blk_below (g := gb262) (o := .cells #[.slice Ao56 t258.length co56] 29 (0, 0)) u7_10 hb)
                          have n9_ := Aside0.mk (below_step u7_0 hb)
                          clear HO248
                          clear HO251
                          clear HO256
                          clear HO260
                          clear BK244
                          clear BK253
                          clear BK257
                          clear BK262
                          clear HB
                          have HO248 := n0_
                          have HO251 := n1_
                          have HO256 := n2_
                          have HO260 := n3_
                          have HO266 := n4_
                          have BK244 := n5_
                          have BK253 := n6_
                          have BK257 := n7_
                          have BK262 := n8_
                          have HB := n9_
                          clear n0_ n1_ n2_ n3_ n4_ n5_ n6_ n7_ n8_ n9_
                          (try clear hb)
                          (try clear hb2)
                          (try clear hk)
                          (try clear hi)
                          (try clear ho0)
                          obtain ⟨Ao65, co65, eo65⟩ := Kd.R_slice HO266.out
                          (first | subst eo65 | (injection eo65 with f1_ f2_ f3_; have f4_ := f1_.symm; have f5_ := f3_.symm; clear f1_ f2_ f3_; subst f4_; subst f5_))
                          refine hK.out _ _ ⟨(blk_cell BK257.out 0).trans rfl, (blk_cell BK244.out 0).trans rfl⟩ (fun hHeld => ?_)
                          clear hK K
                          refine norm_ (a' := ?_) ?_ ?_
                          rotate_left
                          · show Act.put _ (some 55) _ = _
                            simp only [Act.put, List.setIfInBounds_toArray, List.set_cons_zero, List.set_cons_succ, i64_w, i32_w]
                            rfl
                          refine one_ (i := 3) (N := some 56) #[true, true, true, true, false] rfl rfl (by kernel_rfl) (by decide) (fun K hK => ?_)
                          refine goes_ Try.func21 (by kernel_rfl) rfl #[.agg #[.slice Ao50 t254.length co50], .agg #[.slice Ao65 t264.length co65]] (by rfl) rfl rfl u7_2 ?_
                          with_reducible refine (laws_eqBook.calls k _ _ t254 _ _ t264 true _ ?side1 ?side2 ?side3 ?side4 A18.out).mono ?_
                          (case side1 => repeat (first | exact (Kd.R_reads' HO256.out).2.2 | (with_reducible refine Kd.C_alloc ?_ _) | (with_reducible refine Kd.C_drewN ?_ _) | (with_reducible refine Kd.C_drew ?_)))
                          (case side2 => exact (Kd.R_reads' HO256.out).2.1)
                          (case side3 => repeat (first | exact (Kd.R_reads' HO266.out).2.2 | (with_reducible refine Kd.C_alloc ?_ _) | (with_reducible refine Kd.C_drewN ?_ _) | (with_reducible refine Kd.C_drew ?_)))
                          (case side4 => exact (Kd.R_reads' HO266.out).2.1)
                          rintro e w66 ⟨rfl, hb⟩
                          refine ⟨_, rfl, ?_⟩
                          have n0_ := Aside0.mk (Kd.R_below u7_7 hb)
                          have n1_ := Aside0.mk (Kd.R_below u7_8 hb)
                          have n2_ := Aside0.mk (Kd.R_below u7_11 hb)
                          have n3_ := Aside0.mk (Kd.R_below u7_12 hb)
                          have n4_ := Aside0.mk (Kd.R_below u7_15 hb)
                          have n5_ := Aside0.mk (blk_below (g := gb244) (o := .cells #[.slice A0_0 l0_0.length c0_0] 24 (0, 0)) u7_1 hb)
                          have n6_ := Aside0.mk (blk_below (g := gb253) (o := .cells #[.slice Ao44 t249.length co44] 29 (0, 0)) u7_3 hb)
                          have n7_ := Aside0.mk (blk_below (g := gb257) (o := .cells #[.slice Ao50 t254.length co50] 29 (0, 0)) u7_6 hb)
                          have n8_ := Aside0.mk (blk_below (g := gb262) (o := .cells #[.slice Ao56 t258.length co56] 29 (0, 0)) u7_10 hb)
                          have n9_ := Aside0.mk (below_step u7_0 hb)
                          clear HO248
                          clear HO251
                          clear HO256
                          clear HO260
                          clear HO266
                          clear BK244
                          clear BK253
                          clear BK257
                          clear BK262
                          clear HB
                          have HO248 := n0_
                          have HO251 := n1_
                          have HO256 := n2_
                          have HO260 := n3_
                          have HO266 := n4_
                          have BK244 := n5_
                          have BK253 := n6_
                          have BK257 := n7_
                          have BK262 := n8_
                          have HB := n9_
                          clear n0_ n1_ n2_ n3_ n4_ n5_ n6_ n7_ n8_ n9_
                          (try clear hb)
                          (try clear hb2)
                          (try clear hk)
                          (try clear hi)
                          refine hK.out _ _ ⟨(blk_cell BK257.out 0).trans rfl, (blk_cell BK244.out 0).trans rfl⟩ (fun hHeld => ?_)
                          clear hK K
                          refine norm_ (a' := ?_) ?_ ?_
                          rotate_left
                          · show Act.put _ (some 56) _ = _
                            simp only [Act.put, List.setIfInBounds_toArray, List.set_cons_zero, List.set_cons_succ, i64_w, i32_w]
                            rfl
                          refine pure_ (i := 4) (N := some 57) (v := ?_) (a' := ?_) #[true, true, true, true, true] rfl rfl (by kernel_rfl) (fun _ _ _ h => h) (Or.inl ⟨by rfl, ?_⟩) ?_ ?_
                          rotate_left
                          · intro w'
                            go_simp
                            with_reducible rfl
                          rotate_left
                          · simp only [Act.put, List.setIfInBounds_toArray, List.set_cons_zero, List.set_cons_succ, i64_w, i32_w]
                            rfl
                          refine done_ (by kernel_rfl) ?_
                          have hcz67_0 : w66.cell? ⟨gb257, 0, none⟩ = some (.slice Ao50 t254.length co50) := (blk_cell BK257.out 0).trans rfl
                          have hfz67_0 := blk_frozen BK257.out 0
                          try go_wp2_with (first | ((with_reducible refine gate_callee (f := 26) rfl ?_); refine goesL_ (some 60) rfl rfl Try.func26 (by kernel_rfl) rfl #[.agg #[.slice Ao50 t254.length co50], .int .i64 1] rfl u7_2 ?_; (with_reducible refine (laws_markBook.calls k (fun k_ => some k_ = (.slice Ao50 t254.length co50 : Value).ownBlock) (.slice Ao50 t254.length co50) t254 1 t268 t269 w _ ?side1 ?side2 A20.out).mono ?_); (case side1 => repeat (first | (with_reducible first | exact HB.out | apply below_alloc | apply pw_below_drewN | apply below_drew1 | refine below_set ?_ GE244.out | refine below_set ?_ GE253.out | refine below_set ?_ GE257.out | refine below_set ?_ GE262.out) | exact HB.out)); (case side2 => exact Kd.R_tight rfl HO256.out); rintro e w68 ⟨rfl, hy0, hb, hkp⟩; refine ⟨_, rfl, ?_⟩; have n0_ := Aside0.mk (blk_kept u7_1 hkp (fun hs_ => (fun e_ => (Kd.R_ne HO256.out BK244.out (by decide)) e_) hs_)); have n1_ := Aside0.mk (Kd.R_mono (ok' := fun k_ => some k_ ≠ (.slice Ao44 t249.length co44 : Value).ownBlock ∧ some k_ ≠ (.slice Ao50 t254.length co50 : Value).ownBlock ∧ some k_ ≠ (.slice Ao56 t258.length co56 : Value).ownBlock ∧ some k_ ≠ (.slice Ao65 t264.length co65 : Value).ownBlock) (Kd.R_keptB (HO248.out) hkp (fun k_ hk_ hs_ => (hk_.1.1.2) hs_)) (fun k_ hk_ => ⟨hk_.1.1.1.1.2, hk_.1.1.1.2, hk_.1.1.2, hk_.1.2⟩)); have n2_ := Aside0.mk (Kd.R_mono (ok' := fun k_ => some k_ ≠ (.slice Ao41 t246.length co41 : Value).ownBlock ∧ some k_ ≠ (.slice Ao50 t254.length co50 : Value).ownBlock ∧ some k_ ≠ (.slice Ao56 t258.length co56 : Value).ownBlock ∧ some k_ ≠ (.slice Ao65 t264.length co65 : Value).ownBlock) (Kd.R_keptB (HO251.out) hkp (fun k_ hk_ hs_ => (hk_.1.1.2) hs_)) (fun k_ hk_ => ⟨hk_.1.1.1.1.2, hk_.1.1.1.2, hk_.1.1.2, hk_.1.2⟩)); have n3_ := Aside0.mk (blk_kept u7_3 hkp (fun hs_ => (fun e_ => (Kd.R_ne HO256.out BK253.out (by decide)) e_) hs_)); have n4_ := Aside0.mk (Kd.R_reok rfl hy0 (fun k_ e_ => HO256.out.1 k_ e_)); have n5_ := Aside0.mk (blk_kept u7_6 hkp (fun hs_ => (fun e_ => (Kd.R_ne HO256.out BK257.out (by decide)) e_) hs_)); have n6_ := Aside0.mk (Kd.R_mono (ok' := fun k_ => some k_ ≠ (.slice Ao41 t246.length co41 : Value).ownBlock ∧ some k_ ≠ (.slice Ao44 t249.length co44 : Value).ownBlock ∧ some k_ ≠ (.slice Ao50 t254.length co50 : Value).ownBlock ∧ some k_ ≠ (.slice Ao65 t264.length co65 : Value).ownBlock) (Kd.R_keptB (HO260.out) hkp (fun k_ hk_ hs_ => (hk_.1.2) hs_)) (fun k_ hk_ => ⟨hk_.1.1.1.1.2, hk_.1.1.1.2, hk_.1.1.2, hk_.1.2⟩)); have n7_ := Aside0.mk (blk_kept u7_10 hkp (fun hs_ => (fun e_ => (Kd.R_ne HO256.out BK262.out (by decide)) e_) hs_)); have n8_ := Aside0.mk (Kd.R_mono (ok' := fun k_ => some k_ ≠ (.slice Ao41 t246.length co41 : Value).ownBlock ∧ some k_ ≠ (.slice Ao44 t249.length co44 : Value).ownBlock ∧ some k_ ≠ (.slice Ao50 t254.length co50 : Value).ownBlock ∧ some k_ ≠ (.slice Ao56 t258.length co56 : Value).ownBlock) (Kd.R_keptB (HO266.out) hkp (fun k_ hk_ hs_ => (hk_.1.2) hs_)) (fun k_ hk_ => ⟨hk_.1.1.1.1.2, hk_.1.1.1.2, hk_.1.1.2, hk_.1.2⟩)); have n9_ := Aside0.mk (hb); clear BK244; clear HO248; clear HO251; clear BK253; clear HO256; clear BK257; clear HO260; clear BK262; clear HO266; clear HB; have BK244 := n0_; have HO248 := n1_; have HO251 := n2_; have BK253 := n3_; have HO256 := n4_; have BK257 := n5_; have HO260 := n6_; have BK262 := n7_; have HO266 := n8_; have HB := n9_; clear n0_ n1_ n2_ n3_ n4_ n5_ n6_ n7_ n8_ n9_; (try clear hb); (try clear hkp); (try clear hy0); have hcz69_0 : w68.cell? ⟨gb262, 0, none⟩ = some (.slice Ao56 t258.length co56) := (blk_cell BK262.out 0).trans rfl; have hfz69_0 := blk_frozen BK262.out 0; have hcz70_0 : w68.cell? ⟨gb253, 0, none⟩ = some (.slice Ao44 t249.length co44) := (blk_cell BK253.out 0).trans rfl; have hfz70_0 := blk_frozen BK253.out 0) | (go_at_call 21; (with_reducible refine (laws_eqBook.calls k _ _ t258 _ _ t249 true _ ?side1 ?side2 ?side3 ?side4 A22.out).mono ?_); (case side1 => repeat (first | exact (Kd.R_reads' HO260.out).2.2 | (with_reducible refine Kd.C_alloc ?_ _) | (with_reducible refine Kd.C_drewN ?_ _) | (with_reducible refine Kd.C_drew ?_))); (case side2 => exact (Kd.R_reads' HO260.out).2.1); (case side3 => repeat (first | exact (Kd.R_reads' HO251.out).2.2 | (with_reducible refine Kd.C_alloc ?_ _) | (with_reducible refine Kd.C_drewN ?_ _) | (with_reducible refine Kd.C_drew ?_))); (case side4 => exact (Kd.R_reads' HO251.out).2.1); rintro e w71 ⟨rfl, hb⟩; have n0_ := Aside0.mk (Kd.R_below u7_7 hb); have n1_ := Aside0.mk (Kd.R_below u7_8 hb); have n2_ := Aside0.mk (Kd.R_below u7_11 hb); have n3_ := Aside0.mk (Kd.R_below u7_12 hb); have n4_ := Aside0.mk (Kd.R_below u7_15 hb); have n5_ := Aside0.mk (blk_below (g := gb244) (o := .cells #[.slice A0_0 l0_0.length c0_0] 24 (0, 0)) u7_1 hb); have n6_ := Aside0.mk (blk_below (g := gb253) (o := .cells #[.slice Ao44 t249.length co44] 29 (0, 0)) u7_3 hb); have n7_ := Aside0.mk (blk_below (g := gb257) (o := .cells #[.slice Ao50 t254.length co50] 29 (0, 0)) u7_6 hb); have n8_ := Aside0.mk (blk_below (g := gb262) (o := .cells #[.slice Ao56 t258.length co56] 29 (0, 0)) u7_10 hb); have n9_ := Aside0.mk (below_step u7_0 hb); clear HO248; clear HO251; clear HO256; clear HO260; clear HO266; clear BK244; clear BK253; clear BK257; clear BK262; clear HB; have HO248 := n0_; have HO251 := n1_; have HO256 := n2_; have HO260 := n3_; have HO266 := n4_; have BK244 := n5_; have BK253 := n6_; have BK257 := n7_; have BK262 := n8_; have HB := n9_; clear n0_ n1_ n2_ n3_ n4_ n5_ n6_ n7_ n8_ n9_; (try clear hb); (try clear hb2); (try clear hk); (try clear hi); have hcz72_0 : w71.cell? ⟨gb262, 0, none⟩ = some (.slice Ao56 t258.length co56) := (blk_cell BK262.out 0).trans rfl; have hfz72_0 := blk_frozen BK262.out 0) | ((with_reducible refine gate_callee (f := 26) rfl ?_); refine goesL_ (some 76) rfl rfl Try.func26 (by kernel_rfl) rfl #[.agg #[.slice Ao56 t258.length co56], .int .i64 1] rfl u7_2 ?_; (with_reducible refine (laws_markBook.calls k (fun k_ => some k_ = (.slice Ao56 t258.length co56 : Value).ownBlock) (.slice Ao56 t258.length co56) t258 1 t271 t272 w _ ?side1 ?side2 A24.out).mono ?_); (case side1 => repeat (first | (with_reducible first | exact HB.out | apply below_alloc | apply pw_below_drewN | apply below_drew1 | refine below_set ?_ GE244.out | refine below_set ?_ GE253.out | refine below_set ?_ GE257.out | refine below_set ?_ GE262.out) | exact HB.out)); (case side2 => exact Kd.R_tight rfl HO260.out); rintro e w73 ⟨rfl, hy0, hb, hkp⟩; refine ⟨_, rfl, ?_⟩; have n0_ := Aside0.mk (blk_kept u7_1 hkp (fun hs_ => (fun e_ => (Kd.R_ne HO260.out BK244.out (by decide)) e_) hs_)); have n1_ := Aside0.mk (Kd.R_mono (ok' := fun k_ => some k_ ≠ (.slice Ao44 t249.length co44 : Value).ownBlock ∧ some k_ ≠ (.slice Ao50 t254.length co50 : Value).ownBlock ∧ some k_ ≠ (.slice Ao56 t258.length co56 : Value).ownBlock ∧ some k_ ≠ (.slice Ao65 t264.length co65 : Value).ownBlock) (Kd.R_keptB (HO248.out) hkp (fun k_ hk_ hs_ => (hk_.2.2.1) hs_)) (fun k_ hk_ => ⟨hk_.1.1, hk_.1.2.1, hk_.1.2.2.1, hk_.1.2.2.2⟩)); have n2_ := Aside0.mk (Kd.R_mono (ok' := fun k_ => some k_ ≠ (.slice Ao41 t246.length co41 : Value).ownBlock ∧ some k_ ≠ (.slice Ao50 t254.length co50 : Value).ownBlock ∧ some k_ ≠ (.slice Ao56 t258.length co56 : Value).ownBlock ∧ some k_ ≠ (.slice Ao65 t264.length co65 : Value).ownBlock) (Kd.R_keptB (HO251.out) hkp (fun k_ hk_ hs_ => (hk_.2.2.1) hs_)) (fun k_ hk_ => ⟨hk_.1.1, hk_.1.2.1, hk_.1.2.2.1, hk_.1.2.2.2⟩)); have n3_ := Aside0.mk (blk_kept u7_3 hkp (fun hs_ => (fun e_ => (Kd.R_ne HO260.out BK253.out (by decide)) e_) hs_)); have n4_ := Aside0.mk (Kd.R_mono (ok' := fun k_ => some k_ ≠ (.slice Ao41 t246.length co41 : Value).ownBlock ∧ some k_ ≠ (.slice Ao44 t249.length co44 : Value).ownBlock ∧ some k_ ≠ (.slice Ao56 t258.length co56 : Value).ownBlock ∧ some k_ ≠ (.slice Ao65 t264.length co65 : Value).ownBlock) (Kd.R_keptB (HO256.out) hkp (fun k_ hk_ hs_ => (hk_.1.2) hs_)) (fun k_ hk_ => ⟨hk_.1.1.1.1.2, hk_.1.1.1.2, hk_.1.1.2, hk_.1.2⟩)); have n5_ := Aside0.mk (blk_kept u7_6 hkp (fun hs_ => (fun e_ => (Kd.R_ne HO260.out BK257.out (by decide)) e_) hs_)); have n6_ := Aside0.mk (Kd.R_reok rfl hy0 (fun k_ e_ => HO260.out.1 k_ e_)); have n7_ := Aside0.mk (blk_kept u7_10 hkp (fun hs_ => (fun e_ => (Kd.R_ne HO260.out BK262.out (by decide)) e_) hs_)); have n8_ := Aside0.mk (Kd.R_mono (ok' := fun k_ => some k_ ≠ (.slice Ao41 t246.length co41 : Value).ownBlock ∧ some k_ ≠ (.slice Ao44 t249.length co44 : Value).ownBlock ∧ some k_ ≠ (.slice Ao50 t254.length co50 : Value).ownBlock ∧ some k_ ≠ (.slice Ao56 t258.length co56 : Value).ownBlock) (Kd.R_keptB (HO266.out) hkp (fun k_ hk_ hs_ => (hk_.2.2.2) hs_)) (fun k_ hk_ => ⟨hk_.1.1, hk_.1.2.1, hk_.1.2.2.1, hk_.1.2.2.2⟩)); have n9_ := Aside0.mk (hb); clear BK244; clear HO248; clear HO251; clear BK253; clear HO256; clear BK257; clear HO260; clear BK262; clear HO266; clear HB; have BK244 := n0_; have HO248 := n1_; have HO251 := n2_; have BK253 := n3_; have HO256 := n4_; have BK257 := n5_; have HO260 := n6_; have BK262 := n7_; have HO266 := n8_; have HB := n9_; clear n0_ n1_ n2_ n3_ n4_ n5_ n6_ n7_ n8_ n9_; (try clear hb); (try clear hkp); (try clear hy0); have hcz74_0 : w73.cell? ⟨gb262, 0, none⟩ = some (.slice Ao56 t258.length co56) := (blk_cell BK262.out 0).trans rfl; have hfz74_0 := blk_frozen BK262.out 0) | ((with_reducible refine gate_callee (f := 27) rfl ?_); refine goesL_ (some 79) rfl rfl Try.func27 (by kernel_rfl) rfl #[.agg #[.slice Ao56 t272.length co56], .int .i64 1] rfl u7_27 ?_; (with_reducible refine (laws_heldBook.calls k _ _ t272 1 t273 _ ?side1 ?side2 A25.out).mono ?_); (case side1 => repeat (first | exact (Kd.R_reads' HO260.out).2.2 | (with_reducible refine Kd.C_alloc ?_ _) | (with_reducible refine Kd.C_drewN ?_ _) | (with_reducible refine Kd.C_drew ?_))); (case side2 => rw [show t272.length = t258.length from (Kd.R_reads' HO260.out).1.symm]; exact (Kd.R_reads' HO260.out).2.1); rintro e w75 ⟨rfl, hb⟩; refine ⟨_, rfl, ?_⟩; have n0_ := Aside0.mk (Kd.R_below u7_7 hb); have n1_ := Aside0.mk (Kd.R_below u7_8 hb); have n2_ := Aside0.mk (Kd.R_below u7_11 hb); have n3_ := Aside0.mk (Kd.R_below u7_12 hb); have n4_ := Aside0.mk (Kd.R_below u7_15 hb); have n5_ := Aside0.mk (blk_below (g := gb244) (o := .cells #[.slice A0_0 l0_0.length c0_0] 24 (0, 0)) u7_1 hb); have n6_ := Aside0.mk (blk_below (g := gb253) (o := .cells #[.slice Ao44 t249.length co44] 29 (0, 0)) u7_3 hb); have n7_ := Aside0.mk (blk_below (g := gb257) (o := .cells #[.slice Ao50 t254.length co50] 29 (0, 0)) u7_6 hb); have n8_ := Aside0.mk (blk_below (g := gb262) (o := .cells #[.slice Ao56 t258.length co56] 29 (0, 0)) u7_10 hb); have n9_ := Aside0.mk (below_step u7_0 hb); clear HO248; clear HO251; clear HO256; clear HO260; clear HO266; clear BK244; clear BK253; clear BK257; clear BK262; clear HB; have HO248 := n0_; have HO251 := n1_; have HO256 := n2_; have HO260 := n3_; have HO266 := n4_; have BK244 := n5_; have BK253 := n6_; have BK257 := n7_; have BK262 := n8_; have HB := n9_; clear n0_ n1_ n2_ n3_ n4_ n5_ n6_ n7_ n8_ n9_; (try clear hb); (try clear hb2); (try clear hk); (try clear hi); have hcz76_0 : w75.cell? ⟨gb244, 0, none⟩ = some (.slice A0_0 l0_0.length c0_0) := (blk_cell BK244.out 0).trans rfl; have hfz76_0 := blk_frozen BK244.out 0) | ((with_reducible refine gate_callee (f := 19) rfl ?_); refine goesL_ (some 87) rfl rfl Try.func19 (by kernel_rfl) rfl #[.agg #[.slice A0_0 l0_0.length c0_0]] rfl u7_2 ?_; (with_reducible refine (laws_toBook.calls k _ _ l0_0 t274 _ ?side1 ?side2 A28.out).mono ?_); (case side1 => repeat (first | exact (Kd.C_below HR0_0.out HB.out) | (with_reducible refine Kd.C_alloc ?_ _) | (with_reducible refine Kd.C_drewN ?_ _) | (with_reducible refine Kd.C_drew ?_))); (case side2 => exact HC0_0.out); rintro e w77 ⟨v275, rfl, ho0, hb⟩; refine ⟨_, rfl, ?_⟩; have n0_ := Aside0.mk (Kd.R_elder' u7_7 (Kd.R_base ho0) hb); have n1_ := Aside0.mk (Kd.R_elder' u7_8 (Kd.R_base ho0) hb); have n2_ := Aside0.mk (Kd.R_elder' u7_11 (Kd.R_base ho0) hb); have n3_ := Aside0.mk (Kd.R_elder' u7_12 (Kd.R_base ho0) hb); have n4_ := Aside0.mk (Kd.R_elder' u7_15 (Kd.R_base ho0) hb); have n5_ := Aside0.mk (Kd.R_lower (Kd.R_new' (Kd.R_new' (Kd.R_new' (Kd.R_new' (Kd.R_new' ho0 (Kd.R_lt u7_7)) (Kd.R_lt u7_8)) (Kd.R_lt u7_11)) (Kd.R_lt u7_12)) (Kd.R_lt u7_15)) (below_size u7_0)); have n6_ := Aside0.mk (blk_below (g := gb244) (o := .cells #[.slice A0_0 l0_0.length c0_0] 24 (0, 0)) u7_1 hb); have n7_ := Aside0.mk (blk_below (g := gb253) (o := .cells #[.slice Ao44 t249.length co44] 29 (0, 0)) u7_3 hb); have n8_ := Aside0.mk (blk_below (g := gb257) (o := .cells #[.slice Ao50 t254.length co50] 29 (0, 0)) u7_6 hb); have n9_ := Aside0.mk (blk_below (g := gb262) (o := .cells #[.slice Ao56 t258.length co56] 29 (0, 0)) u7_10 hb); have n10_ := Aside0.mk (below_step u7_0 hb); clear HO248; clear HO251; clear HO256; clear HO260; clear HO266; clear BK244; clear BK253; clear BK257; clear BK262; clear HB; have HO248 := n0_; have HO251 := n1_; have HO256 := n2_; have HO260 := n3_; have HO266 := n4_; have HO276 := n5_; have BK244 := n6_; have BK253 := n7_; have BK257 := n8_; have BK262 := n9_; have HB := n10_; clear n0_ n1_ n2_ n3_ n4_ n5_ n6_ n7_ n8_ n9_ n10_; (try clear hb); (try clear hb2); (try clear hk); (try clear hi); (try clear ho0); obtain ⟨Ao78, co78, eo78⟩ := Kd.R_slice HO276.out; subst eo78) | ((with_reducible refine gate_callee (f := 25) rfl ?_); refine goesL_ (some 91) rfl rfl Try.func25 (by kernel_rfl) rfl #[.agg #[.slice Ao78 t274.length co78], .int .u64 a1, .int .u64 a2, .int .u64 a3] rfl u7_2 ?_; (with_reducible refine (impl_MoveMoney.calls k _ _ t274 a1 a2 a3 t277 t280 _ ?side1 ?side2 A29.out).mono ?_); (case side1 => repeat (first | exact (Kd.R_reads' HO276.out).2.2 | (with_reducible refine Kd.C_alloc ?_ _) | (with_reducible refine Kd.C_drewN ?_ _) | (with_reducible refine Kd.C_drew ?_))); (case side2 => exact (Kd.R_reads' HO276.out).2.1); rintro e w79 ⟨v278, rfl, ho0, hb⟩; refine ⟨_, rfl, ?_⟩; have n0_ := Aside0.mk (Kd.R_elder' u7_7 (Kd.R_base ho0) hb); have n1_ := Aside0.mk (Kd.R_elder' u7_8 (Kd.R_base ho0) hb); have n2_ := Aside0.mk (Kd.R_elder' u7_11 (Kd.R_base ho0) hb); have n3_ := Aside0.mk (Kd.R_elder' u7_12 (Kd.R_base ho0) hb); have n4_ := Aside0.mk (Kd.R_elder' u7_15 (Kd.R_base ho0) hb); have n5_ := Aside0.mk (Kd.R_elder' u7_17 (Kd.R_base ho0) hb); have n6_ := Aside0.mk (Kd.R_lower (Kd.R_new' (Kd.R_new' (Kd.R_new' (Kd.R_new' (Kd.R_new' (Kd.R_new' ho0 (Kd.R_lt u7_7)) (Kd.R_lt u7_8)) (Kd.R_lt u7_11)) (Kd.R_lt u7_12)) (Kd.R_lt u7_15)) (Kd.R_lt u7_17)) (below_size u7_0)); have n7_ := Aside0.mk (blk_below (g := gb244) (o := .cells #[.slice A0_0 l0_0.length c0_0] 24 (0, 0)) u7_1 hb); have n8_ := Aside0.mk (blk_below (g := gb253) (o := .cells #[.slice Ao44 t249.length co44] 29 (0, 0)) u7_3 hb); have n9_ := Aside0.mk (blk_below (g := gb257) (o := .cells #[.slice Ao50 t254.length co50] 29 (0, 0)) u7_6 hb); have n10_ := Aside0.mk (blk_below (g := gb262) (o := .cells #[.slice Ao56 t258.length co56] 29 (0, 0)) u7_10 hb); have n11_ := Aside0.mk (below_step u7_0 hb); clear HO248; clear HO251; clear HO256; clear HO260; clear HO266; clear HO276; clear BK244; clear BK253; clear BK257; clear BK262; clear HB; have HO248 := n0_; have HO251 := n1_; have HO256 := n2_; have HO260 := n3_; have HO266 := n4_; have HO276 := n5_; have HO279 := n6_; have BK244 := n7_; have BK253 := n8_; have BK257 := n9_; have BK262 := n10_; have HB := n11_; clear n0_ n1_ n2_ n3_ n4_ n5_ n6_ n7_ n8_ n9_ n10_ n11_; (try clear hb); (try clear hb2); (try clear hk); (try clear hi); (try clear ho0)) | ((with_reducible refine gate_dst (N := 18) rfl ?_); refine box_event ?hg (N := 18) ?hd (cs := #[.slice none 0 0]) (t := 29) ?hr ?_; (case hd => rfl); (case hg => rfl); (case hr => first | (go_simp; done) | (go_simp; rfl)); intro gb281 hg w80 hbox hb; have n0_ := Aside0.mk (Kd.R_below u7_7 hb); have n1_ := Aside0.mk (Kd.R_below u7_8 hb); have n2_ := Aside0.mk (Kd.R_below u7_11 hb); have n3_ := Aside0.mk (Kd.R_below u7_12 hb); have n4_ := Aside0.mk (Kd.R_below u7_15 hb); have n5_ := Aside0.mk (Kd.R_below u7_17 hb); have n6_ := Aside0.mk (Kd.R_below u7_29 hb); have n7_ := Aside0.mk (blk_below (g := gb244) (o := .cells #[.slice A0_0 l0_0.length c0_0] 24 (0, 0)) u7_1 hb); have n8_ := Aside0.mk (blk_below (g := gb253) (o := .cells #[.slice Ao44 t249.length co44] 29 (0, 0)) u7_3 hb); have n9_ := Aside0.mk (blk_below (g := gb257) (o := .cells #[.slice Ao50 t254.length co50] 29 (0, 0)) u7_6 hb); have n10_ := Aside0.mk (blk_below (g := gb262) (o := .cells #[.slice Ao56 t258.length co56] 29 (0, 0)) u7_10 hb); have n11_ := Aside0.mk (below_step u7_0 hb); have n12_ := Aside0.mk (hbox); have n13_ := Aside0.mk ((by rw [hg]; exact (below_size u7_0) : w.heap.size ≤ gb281)); have n14_ := Aside0.mk ((by rw [hg]; exact (below_size u7_0) : w.heap.size ≤ gb281)); have n15_ := Aside0.mk ((by rw [hg]; exact Nat.ne_of_lt (blk_lt (g := gb244) (o := .cells #[.slice A0_0 l0_0.length c0_0] 24 (0, 0)) u7_1) : gb244 ≠ gb281)); have n16_ := Aside0.mk ((by rw [hg]; exact Nat.ne_of_gt (blk_lt (g := gb244) (o := .cells #[.slice A0_0 l0_0.length c0_0] 24 (0, 0)) u7_1) : gb281 ≠ gb244)); have n17_ := Aside0.mk ((by rw [hg]; exact Nat.ne_of_lt (blk_lt (g := gb253) (o := .cells #[.slice Ao44 t249.length co44] 29 (0, 0)) u7_3) : gb253 ≠ gb281)); have n18_ := Aside0.mk ((by rw [hg]; exact Nat.ne_of_gt (blk_lt (g := gb253) (o := .cells #[.slice Ao44 t249.length co44] 29 (0, 0)) u7_3) : gb281 ≠ gb253)); have n19_ := Aside0.mk ((by rw [hg]; exact Nat.ne_of_lt (blk_lt (g := gb257) (o := .cells #[.slice Ao50 t254.length co50] 29 (0, 0)) u7_6) : gb257 ≠ gb281)); have n20_ := Aside0.mk ((by rw [hg]; exact Nat.ne_of_gt (blk_lt (g := gb257) (o := .cells #[.slice Ao50 t254.length co50] 29 (0, 0)) u7_6) : gb281 ≠ gb257)); have n21_ := Aside0.mk ((by rw [hg]; exact Nat.ne_of_lt (blk_lt (g := gb262) (o := .cells #[.slice Ao56 t258.length co56] 29 (0, 0)) u7_10) : gb262 ≠ gb281)); have n22_ := Aside0.mk ((by rw [hg]; exact Nat.ne_of_gt (blk_lt (g := gb262) (o := .cells #[.slice Ao56 t258.length co56] 29 (0, 0)) u7_10) : gb281 ≠ gb262)); clear HO248; clear HO251; clear HO256; clear HO260; clear HO266; clear HO276; clear HO279; clear BK244; clear BK253; clear BK257; clear BK262; clear HB; have HO248 := n0_; have HO251 := n1_; have HO256 := n2_; have HO260 := n3_; have HO266 := n4_; have HO276 := n5_; have HO279 := n6_; have BK244 := n7_; have BK253 := n8_; have BK257 := n9_; have BK262 := n10_; have HB := n11_; have BK281 := n12_; have GW281 := n13_; have GE281 := n14_; have NB244_281 := n15_; have NB281_244 := n16_; have NB253_281 := n17_; have NB281_253 := n18_; have NB257_281 := n19_; have NB281_257 := n20_; have NB262_281 := n21_; have NB281_262 := n22_; clear n0_ n1_ n2_ n3_ n4_ n5_ n6_ n7_ n8_ n9_ n10_ n11_ n12_ n13_ n14_ n15_ n16_ n17_ n18_ n19_ n20_ n21_ n22_; clear hb hbox hg; obtain ⟨Ao81, co81, eo81⟩ := Kd.R_slice HO279.out; subst eo81; have hnb82 := NB281_244.out; have hnc82 := NB244_281.out; have hnb83 := NB281_253.out; have hnc83 := NB253_281.out; have hnb84 := NB281_257.out; have hnc84 := NB257_281.out; have hnb85 := NB281_262.out; have hnc85 := NB262_281.out; have hcz86_0 : w80.cell? ⟨gb281, 0, none⟩ = some (.slice none 0 0) := (blk_cell BK281.out 0).trans rfl; have hfz86_0 := blk_frozen BK281.out 0; have hcz87_0 : w80.cell? ⟨gb253, 0, none⟩ = some (.slice Ao44 t249.length co44) := (blk_cell BK253.out 0).trans rfl; have hfz87_0 := blk_frozen BK253.out 0) | ((with_reducible refine gate_callee (f := 21) rfl ?_); refine goesL_ (some 96) rfl rfl Try.func21 (by kernel_rfl) rfl #[.agg #[.slice Ao81 t277.length co81], .agg #[.slice Ao44 t249.length co44]] rfl u7_2 ?_; (with_reducible refine (laws_eqBook.calls k _ _ t277 _ _ t249 true _ ?side1 ?side2 ?side3 ?side4 A30.out).mono ?_); (case side1 => refine (Kd.R_reads' (e := 53) (base := w.heap.size) (ok := fun k_ => ((((((True ∧ some k_ ≠ (.slice Ao41 t246.length co41 : Value).ownBlock) ∧ some k_ ≠ (.slice Ao44 t249.length co44 : Value).ownBlock) ∧ some k_ ≠ (.slice Ao50 t254.length co50 : Value).ownBlock) ∧ some k_ ≠ (.slice Ao56 t258.length co56 : Value).ownBlock) ∧ some k_ ≠ (.slice Ao65 t264.length co65 : Value).ownBlock) ∧ some k_ ≠ (.slice Ao78 t274.length co78 : Value).ownBlock)) (n := t277.length) (c := co81) ?_).2.2; exact u7_25); (case side2 => exact (Kd.R_reads' HO279.out).2.1); (case side3 => refine (Kd.R_reads' (e := 53) (base := w.heap.size) (ok := fun k_ => (((some k_ ≠ (.slice Ao41 t246.length co41 : Value).ownBlock ∧ (some k_ ≠ (.slice Ao50 t254.length co50 : Value).ownBlock ∧ (some k_ ≠ (.slice Ao56 t258.length co56 : Value).ownBlock ∧ some k_ ≠ (.slice Ao65 t264.length co65 : Value).ownBlock))) ∧ some k_ ≠ (.slice Ao78 t274.length co78 : Value).ownBlock) ∧ some k_ ≠ (.slice Ao81 t277.length co81 : Value).ownBlock)) (n := t249.length) (c := co44) ?_).2.2; exact u7_26); (case side4 => exact (Kd.R_reads' HO251.out).2.1); rintro e w88 ⟨rfl, hb⟩; refine ⟨_, rfl, ?_⟩; have n0_ := Aside0.mk (Kd.R_below (by (with_reducible repeat (first | apply Kd.R_alloc | apply Kd.R_drewN | apply Kd.R_drew)); exact (Kd.R_mono (Kd.R_far (p := ⟨gb281, 0, none⟩) (Kd.R_types HO248.out BK281.out (by decide)) (fun _ hk => hk.2) (.slice Ao81 t277.length co81)) (fun _ h_ => h_.1))) hb); have n1_ := Aside0.mk (Kd.R_below u7_26 hb); have n2_ := Aside0.mk (Kd.R_below (by (with_reducible repeat (first | apply Kd.R_alloc | apply Kd.R_drewN | apply Kd.R_drew)); exact (Kd.R_mono (Kd.R_far (p := ⟨gb281, 0, none⟩) (Kd.R_types HO256.out BK281.out (by decide)) (fun _ hk => hk.2) (.slice Ao81 t277.length co81)) (fun _ h_ => h_.1))) hb); have n3_ := Aside0.mk (Kd.R_below (by (with_reducible repeat (first | apply Kd.R_alloc | apply Kd.R_drewN | apply Kd.R_drew)); exact (Kd.R_mono (Kd.R_far (p := ⟨gb281, 0, none⟩) (Kd.R_types HO260.out BK281.out (by decide)) (fun _ hk => hk.2) (.slice Ao81 t277.length co81)) (fun _ h_ => h_.1))) hb); have n4_ := Aside0.mk (Kd.R_below (by (with_reducible repeat (first | apply Kd.R_alloc | apply Kd.R_drewN | apply Kd.R_drew)); exact (Kd.R_mono (Kd.R_far (p := ⟨gb281, 0, none⟩) (Kd.R_types HO266.out BK281.out (by decide)) (fun _ hk => hk.2) (.slice Ao81 t277.length co81)) (fun _ h_ => h_.1))) hb); have n5_ := Aside0.mk (Kd.R_below (by (with_reducible repeat (first | apply Kd.R_alloc | apply Kd.R_drewN | apply Kd.R_drew)); exact (Kd.R_mono (Kd.R_far (p := ⟨gb281, 0, none⟩) (Kd.R_types HO276.out BK281.out (by decide)) (fun _ hk => hk.2) (.slice Ao81 t277.length co81)) (fun _ h_ => h_.1))) hb); have n6_ := Aside0.mk (Kd.R_below u7_25 hb); have n7_ := Aside0.mk (blk_below (g := gb244) (o := .cells #[.slice A0_0 l0_0.length c0_0] 24 (0, 0)) (by (with_reducible repeat (first | refine blk_drewN ?_ _ | refine blk_drew ?_ | refine blk_alloc ?_ _)); refine blk_far ?_ NB244_281.out _; (with_reducible repeat (first | refine blk_drewN ?_ _ | refine blk_drew ?_ | refine blk_alloc ?_ _)); exact BK244.out) hb); have n8_ := Aside0.mk (blk_below (g := gb253) (o := .cells #[.slice Ao44 t249.length co44] 29 (0, 0)) (by (with_reducible repeat (first | refine blk_drewN ?_ _ | refine blk_drew ?_ | refine blk_alloc ?_ _)); refine blk_far ?_ NB253_281.out _; (with_reducible repeat (first | refine blk_drewN ?_ _ | refine blk_drew ?_ | refine blk_alloc ?_ _)); exact BK253.out) hb); have n9_ := Aside0.mk (blk_below (g := gb257) (o := .cells #[.slice Ao50 t254.length co50] 29 (0, 0)) (by (with_reducible repeat (first | refine blk_drewN ?_ _ | refine blk_drew ?_ | refine blk_alloc ?_ _)); refine blk_far ?_ NB257_281.out _; (with_reducible repeat (first | refine blk_drewN ?_ _ | refine blk_drew ?_ | refine blk_alloc ?_ _)); exact BK257.out) hb); have n10_ := Aside0.mk (blk_below (g := gb262) (o := .cells #[.slice Ao56 t258.length co56] 29 (0, 0)) (by (with_reducible repeat (first | refine blk_drewN ?_ _ | refine blk_drew ?_ | refine blk_alloc ?_ _)); refine blk_far ?_ NB262_281.out _; (with_reducible repeat (first | refine blk_drewN ?_ _ | refine blk_drew ?_ | refine blk_alloc ?_ _)); exact BK262.out) hb); have n11_ := Aside0.mk (blk_below (g := gb281) (o := .cells #[.slice Ao81 t277.length co81] 29 (0, 0)) (by (with_reducible repeat (first | refine blk_drewN ?_ _ | refine blk_drew ?_ | refine blk_alloc ?_ _)); refine blk_put (cs := #[.slice none 0 0]) ?_ 0 _ rfl; (with_reducible repeat (first | refine blk_drewN ?_ _ | refine blk_drew ?_ | refine blk_alloc ?_ _)); exact BK281.out) hb); have n12_ := Aside0.mk (below_step u7_18 hb); clear HO248; clear HO251; clear HO256; clear HO260; clear HO266; clear HO276; clear HO279; clear BK244; clear BK253; clear BK257; clear BK262; clear BK281; clear HB; have HO248 := n0_; have HO251 := n1_; have HO256 := n2_; have HO260 := n3_; have HO266 := n4_; have HO276 := n5_; have HO279 := n6_; have BK244 := n7_; have BK253 := n8_; have BK257 := n9_; have BK262 := n10_; have BK281 := n11_; have HB := n12_; clear n0_ n1_ n2_ n3_ n4_ n5_ n6_ n7_ n8_ n9_ n10_ n11_ n12_; (try clear hb); (try clear hb2); (try clear hk); (try clear hi); have hcz89_0 : w88.cell? ⟨gb262, 0, none⟩ = some (.slice Ao56 t258.length co56) := (blk_cell BK262.out 0).trans rfl; have hfz89_0 := blk_frozen BK262.out 0) | ((with_reducible refine gate_callee (f := 27) rfl ?_); refine goesL_ (some 105) rfl rfl Try.func27 (by kernel_rfl) rfl #[.agg #[.slice Ao56 t272.length co56], .int .i64 1] rfl u7_27 ?_; (with_reducible refine (laws_heldBook.calls k _ _ t272 1 t283 _ ?side1 ?side2 A33.out).mono ?_); (case side1 => repeat (first | exact (Kd.R_reads' HO260.out).2.2 | (with_reducible refine Kd.C_alloc ?_ _) | (with_reducible refine Kd.C_drewN ?_ _) | (with_reducible refine Kd.C_drew ?_))); (case side2 => rw [show t272.length = t258.length from (Kd.R_reads' HO260.out).1.symm]; exact (Kd.R_reads' HO260.out).2.1); rintro e w90 ⟨rfl, hb⟩; refine ⟨_, rfl, ?_⟩; have n0_ := Aside0.mk (Kd.R_below u7_7 hb); have n1_ := Aside0.mk (Kd.R_below u7_8 hb); have n2_ := Aside0.mk (Kd.R_below u7_11 hb); have n3_ := Aside0.mk (Kd.R_below u7_12 hb); have n4_ := Aside0.mk (Kd.R_below u7_15 hb); have n5_ := Aside0.mk (Kd.R_below u7_17 hb); have n6_ := Aside0.mk (Kd.R_below u7_29 hb); have n7_ := Aside0.mk (blk_below (g := gb244) (o := .cells #[.slice A0_0 l0_0.length c0_0] 24 (0, 0)) u7_1 hb); have n8_ := Aside0.mk (blk_below (g := gb253) (o := .cells #[.slice Ao44 t249.length co44] 29 (0, 0)) u7_3 hb); have n9_ := Aside0.mk (blk_below (g := gb257) (o := .cells #[.slice Ao50 t254.length co50] 29 (0, 0)) u7_6 hb); have n10_ := Aside0.mk (blk_below (g := gb262) (o := .cells #[.slice Ao56 t258.length co56] 29 (0, 0)) u7_10 hb); have n11_ := Aside0.mk (blk_below (g := gb281) (o := .cells #[.slice Ao81 t277.length co81] 29 (0, 0)) (by (with_reducible repeat (first | refine blk_drewN ?_ _ | refine blk_drew ?_ | refine blk_alloc ?_ _)); exact BK281.out) hb); have n12_ := Aside0.mk (below_step u7_18 hb); clear HO248; clear HO251; clear HO256; clear HO260; clear HO266; clear HO276; clear HO279; clear BK244; clear BK253; clear BK257; clear BK262; clear BK281; clear HB; have HO248 := n0_; have HO251 := n1_; have HO256 := n2_; have HO260 := n3_; have HO266 := n4_; have HO276 := n5_; have HO279 := n6_; have BK244 := n7_; have BK253 := n8_; have BK257 := n9_; have BK262 := n10_; have BK281 := n11_; have HB := n12_; clear n0_ n1_ n2_ n3_ n4_ n5_ n6_ n7_ n8_ n9_ n10_ n11_ n12_; (try clear hb); (try clear hb2); (try clear hk); (try clear hi)))
                          go_ret
                          exact ⟨by first | rfl | (simp [errW_none, errW_some] <;> rfl) | (simp [*, errW_none, errW_some] <;> rfl), by repeat (first | (with_reducible first | exact HB.out | apply below_alloc | apply pw_below_drewN | apply below_drew1 | refine below_set ?_ GE244.out | refine below_set ?_ GE253.out | refine below_set ?_ GE257.out | refine below_set ?_ GE262.out | refine below_set ?_ GE281.out) | exact HB.out)⟩
                        · rw [if_neg c35] at H
                          have c35b0 : (t283 == t271) = false := beq_eq_false_iff_ne.mpr c35
                          have c35b1 : (t283 != t271) = true := bne_iff_ne.mpr c35
                          exact absurd ((Option.some.inj H).trans hr_.out) (by decide)
                    · rw [if_neg c32] at H
                      have c32b0 : (t280 == t252) = false := beq_eq_false_iff_ne.mpr c32
                      have c32b1 : (t280 != t252) = true := bne_iff_ne.mpr c32
                      exact absurd ((Option.some.inj H).trans hr_.out) (by decide)
                  · replace c31 := Bool.eq_false_iff.mpr c31
                    subst c31
                    have H1 : (some false) = some r := by rw [if_neg (show ¬ (false = true) by decide)] at H; exact H
                    clear H
                    have H := H1
                    clear H1
                    exact absurd ((Option.some.inj H).trans hr_.out) (by decide)
                · rw [if_neg c27] at H
                  have c27b0 : (t273 == t271) = false := beq_eq_false_iff_ne.mpr c27
                  have c27b1 : (t273 != t271) = true := bne_iff_ne.mpr c27
                  exact absurd ((Option.some.inj H).trans hr_.out) (by decide)
            · replace c23 := Bool.eq_false_iff.mpr c23
              subst c23
              have H1 : (some false) = some r := by rw [if_neg (show ¬ (false = true) by decide)] at H; exact H
              clear H
              have H := H1
              clear H1
              exact absurd ((Option.some.inj H).trans hr_.out) (by decide)
        · replace c19 := Bool.eq_false_iff.mpr c19
          subst c19
          have H1 : (some false) = some r := by rw [if_neg (show ¬ (false = true) by decide)] at H; exact H
          clear H
          have H := H1
          clear H1
          exact absurd ((Option.some.inj H).trans hr_.out) (by decide)
      · rw [if_neg c16] at H
        have c16b0 : (t261 == t252) = false := beq_eq_false_iff_ne.mpr c16
        have c16b1 : (t261 != t252) = true := bne_iff_ne.mpr c16
        exact absurd ((Option.some.inj H).trans hr_.out) (by decide)
    · replace c15 := Bool.eq_false_iff.mpr c15
      subst c15
      have H1 : (some false) = some r := by rw [if_neg (show ¬ (false = true) by decide)] at H; exact H
      clear H
      have H := H1
      clear H1
      exact absurd ((Option.some.inj H).trans hr_.out) (by decide)

end Go.Proofs.Ytdbfjakhkclggaa.QFnExactMoveMoney
