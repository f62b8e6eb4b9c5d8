-- Printed by the session's own program wip/prx.py.
import Derived.Test.YtkcadcoohmofcaaQFnExactNewGroupx0
import Derived.Test.YtkcadcoohmofcaaQFnExactNewGroupx1
namespace Go.Proofs.Ytkcadcoohmofcaa.QFnExactNewGroup
open Go.RowKit Go.Proofs.YtkcadcoohmofcaaW.PrintWords Go.Proofs.YtkcadcoohmofcaaW.PrintLast Go.Proofs.YtkcadcoohmofcaaW.PrintMore
attribute [local go_sem] max2_int min2_int max_two min_two max_three min_three max_four min_four Go.Proofs.Ytkcadcoohmofcaa.Set.isSome_setCell   -- for this text's walks alone
set_option linter.unusedVariables false
set_option linter.unusedSimpArgs false

/-! ### laws_eqEntryS: function 58 -/
def laws_eqEntryS.l0 : Nat → List (S85) → List (S85) → Int → Option (Bool)
  | 0, _, _, _ => none
  | k + 1, x0, x1, x5 => if x5 < (x0.length : Int) then (if 0 ≤ x5 then (if x5 < (x1.length : Int) then ((laws_eqEntry.f ((rd_T85 x0 x5).f0) ((rd_T85 x0 x5).f1) ((rd_T85 x1 x5).f0) ((rd_T85 x1 x5).f1)).bind fun t144 => (if t144 = true then (laws_eqEntryS.l0 k x0 x1 (wrap64 (x5 + 1))) else (some false))) else (none)) else (none)) else (some true)
def laws_eqEntryS.f (k : Nat) (l0 : List (S85)) (l1 : List (S85)) : Option (Bool) := if (l0.length : Int) = (l1.length : Int) then (laws_eqEntryS.l0 k l0 l1 0) else (some false)
theorem laws_eqEntryS.mono_l : ∀ k, (∀ y0 y1 y2, LeO (laws_eqEntryS.l0 k y0 y1 y2) (laws_eqEntryS.l0 (k + 1) y0 y1 y2))
  | 0 => fun _ _ _ r h => by simp [laws_eqEntryS.l0] at h
  | k + 1 => by
    have ih0 := laws_eqEntryS.mono_l k
    · intro y0 y1 y2
      unfold laws_eqEntryS.l0
      repeat' first
      | (with_reducible exact ih0 _ _ _)
      | (with_reducible exact LeO.refl _)
      | (with_reducible exact LeO.none _)
      | (with_reducible refine LeO.ite ?_ ?_)
      | (with_reducible refine LeO.bind ?_ (fun _ => ?_))
      | exact ih0 _ _ _
      | exact LeO.none _
      | refine LeO.ite ?_ ?_
      | refine LeO.bind ?_ (fun _ => ?_)
theorem laws_eqEntryS.mono : ∀ a0 a1 k, LeO (laws_eqEntryS.f k a0 a1) (laws_eqEntryS.f (k + 1) a0 a1) := by
  intro a0 a1 k
  have ih0 := laws_eqEntryS.mono_l k
  unfold laws_eqEntryS.f
  repeat' first
      | (with_reducible exact ih0 _ _ _)
      | (with_reducible exact LeO.refl _)
      | (with_reducible exact LeO.none _)
      | (with_reducible refine LeO.ite ?_ ?_)
      | (with_reducible refine LeO.bind ?_ (fun _ => ?_))
      | exact ih0 _ _ _
      | exact LeO.none _
      | refine LeO.ite ?_ ?_
      | refine LeO.bind ?_ (fun _ => ?_)
def laws_eqEntryS.T6 : Bool × List (List Nat × List Nat) := (true, [([], []), ([], []), ([0, 1], [0, 1]), ([2], [2]), ([], []), ([], []), ([4, 5], [4, 5]), ([6], [6]), ([3, 7], [3, 7]), ([8], [8])])
def laws_eqEntryS.B6 : List Nat := [0, 0, 3, 7, 0, 0, 48, 112, 255, 511]
theorem laws_eqEntryS.tab6 : rtab .any (opsOf Try.f58 6) = laws_eqEntryS.T6 := by kernel_rfl
theorem laws_eqEntryS.bits6 : waitsOk laws_eqEntryS.T6.2 laws_eqEntryS.B6 = true := by kernel_rfl
set_option maxHeartbeats 8000000 in
set_option maxRecDepth 100000 in
theorem laws_eqEntryS.calls (k : Nat) (A0 : Option Addr) (c0 : Nat) (l0 : List (S85)) (A1 : Option Addr) (c1 : Nat) (l1 : List (S85)) (r : Bool) (w : World) (hr0 : Kd.C k85 w A0 l0.length l0) (hc0 : l0.length ≤ c0) (hr1 : Kd.C k85 w A1 l1.length l1) (hc1 : l1.length ≤ c1) (h : laws_eqEntryS.f k l0 l1 = some r) :
    Calls Try.prog 58 #[.slice A0 l0.length c0, .slice A1 l1.length c1] w fun e w' => e = .returned (.bool r) ∧ Below w.heap.size w w' := by
  have hu85 := Try.underlying85
  have HR0 := Aside0.mk hr0
  have HC0 := Aside0.mk hc0
  clear hr0 hc0
  have HR1 := Aside0.mk hr1
  have HC1 := Aside0.mk hc1
  clear hr1 hc1
  have HB := Aside0.mk (Below.refl w.heap.size w)
  have H : (if (l0.length : Int) = (l1.length : Int) then (laws_eqEntryS.l0 k l0 l1 0) else (some false)) = some r := h
  clear h
  by_cases c3 : (l0.length : Int) = (l1.length : Int)
  · rw [if_pos c3] at H
    have c3b0 : ((l0.length : Int) == (l1.length : Int)) = true := beq_iff_eq.mpr c3
    have c3b1 : ((l0.length : Int) != (l1.length : Int)) = false := bne_eq_false_iff_eq.mpr c3
    have c3b2 : (l0.length == l1.length) = true := by first | simpa using c3 | (simp at c3 ⊢; omega)
    clear c3
    have H' := Aside0.mk H
    clear H
    go_enter Try.func58, Try.ntmps58
    go_wp2
    go_loopg [5] k (fun kq v5 w' => ∃ (x5_1 : Int), v5 = .int .i64 x5_1 ∧ Aside0 (laws_eqEntryS.l0 kq l0 l1 x5_1 = some r) ∧ Aside0 (kq ≤ k) ∧ Aside0 (Below w.heap.size w w'))
    case atStart => exact ⟨(0), (by first | rfl | (simp; done) | (simp [*]; done)), H', ⟨Nat.le_refl _⟩, ⟨by repeat (first | (with_reducible first | exact HB.out | apply below_alloc | apply pw_below_drewN | apply below_drew1) | exact HB.out)⟩⟩
    case round =>
      clear H'
      try clear c1
      try clear p2
      try clear c3
      try clear c3b0
      try clear c3b1
      try clear c3b2
      obtain ⟨x5_1, rfl, HA, HK1, HB⟩ := hrel
      cases gk with
      | zero => exact absurd HA.out (by simp [laws_eqEntryS.l0])
      | succ k1 =>
        have H := HA.out
        clear HA
        simp only [laws_eqEntryS.l0] at H
        by_cases c4 : x5_1 < (l0.length : Int)
        · rw [if_pos c4] at H
          have c4b0 : decide (x5_1 < (l0.length : Int)) = true := decide_eq_true c4
          clear c4
          by_cases c5 : 0 ≤ x5_1
          · rw [if_pos c5] at H
            have c5b0 : decide (0 ≤ x5_1) = true := decide_eq_true c5
            clear c5
            by_cases c6 : x5_1 < (l1.length : Int)
            · rw [if_pos c6] at H
              have c6b0 : decide (x5_1 < (l1.length : Int)) = true := decide_eq_true c6
              clear c6
              replace H := Option.bind_eq_some_iff.mp H
              obtain ⟨t144, A70, H⟩ := H
              replace H : (if t144 = true then (laws_eqEntryS.l0 k1 l0 l1 (wrap64 (x5_1 + 1))) else (some false)) = some r := H
              have A7 := Aside0.mk A70
              clear A70
              have H9 := Aside0.mk H
              clear H
              try go_wp2
              have n0_ := Aside0.mk (below_drew1 HB.out)
              clear HB
              have HB := n0_
              clear n0_
              have p142 : 0 ≤ (x5_1 : Int) := of_decide_eq_true (by first | (with_reducible assumption) | assumption)
              have q142 : x5_1 < (l0.length : Int) := of_decide_eq_true (by first | (with_reducible assumption) | assumption)
              obtain ⟨ad142, e142, hx142_0, hx142_1⟩ := at_T85 HR0.out x5_1 p142 q142
              have hw142_1 := hx142_1
              have hw142_0 := hx142_0
              cases e142
              replace hx142_0 := (HB.out.cell (World.block_lt_of_cell? w _ hx142_0)).trans hx142_0
              replace hx142_1 := (HB.out.cell (World.block_lt_of_cell? w _ hx142_1)).trans hx142_1
              replace p142 := eq_true p142
              replace q142 := eq_true q142
              have p143 : 0 ≤ (x5_1 : Int) := of_decide_eq_true (by first | (with_reducible assumption) | assumption)
              have q143 : x5_1 < (l1.length : Int) := of_decide_eq_true (by first | (with_reducible assumption) | assumption)
              obtain ⟨ad143, e143, hx143_0, hx143_1⟩ := at_T85 HR1.out x5_1 p143 q143
              have hw143_1 := hx143_1
              have hw143_0 := hx143_0
              cases e143
              replace hx143_0 := (HB.out.cell (World.block_lt_of_cell? w _ hx143_0)).trans hx143_0
              replace hx143_1 := (HB.out.cell (World.block_lt_of_cell? w _ hx143_1)).trans hx143_1
              replace p143 := eq_true p143
              replace q143 := eq_true q143
              refine start_ (n := 10) (S := fun w' => w'.cell? (ad142.add ((x5_1).toNat * 2)) = some (.int .i64 ((rd_T85 l0 x5_1).f0)) ∧ w'.cell? ⟨(ad142.add ((x5_1).toNat * 2)).block, (ad142.add ((x5_1).toNat * 2)).off + 1, none⟩ = some (.string ((rd_T85 l0 x5_1).f1)) ∧ w'.cell? (ad143.add ((x5_1).toNat * 2)) = some (.int .i64 ((rd_T85 l1 x5_1).f0)) ∧ w'.cell? ⟨(ad143.add ((x5_1).toNat * 2)).block, (ad143.add ((x5_1).toNat * 2)).off + 1, none⟩ = some (.string ((rd_T85 l1 x5_1).f1))) (ds := []) #[false, false, false, false, false, false, false, false, false, false] (by kernel_rfl) rfl rfl ⟨((HB.out.cell (World.block_lt_of_cell? w _ hw142_0)).trans hw142_0), ((HB.out.cell (World.block_lt_of_cell? w _ hw142_1)).trans hw142_1), ((HB.out.cell (World.block_lt_of_cell? w _ hw143_0)).trans hw143_0), ((HB.out.cell (World.block_lt_of_cell? w _ hw143_1)).trans hw143_1)⟩ (fun hHeld => ?_); refine with_tabW laws_eqEntryS.tab6 laws_eqEntryS.bits6 (fun HT_ HW_ => ?_)
              generalize wr.drew = w8 at HB hx142_0 hx142_1 hx143_0 hx143_1 hHeld ⊢
              refine pure_ (i := 0) (N := some 17) (v := ?_) (a' := ?_) #[true, false, false, false, false, false, false, false, false, false] rfl rfl (any_of HT_.out (by kernel_rfl)) (fun _ _ _ h => h) (Or.inl ⟨by rfl, ?_⟩) ?_ ?_
              rotate_left
              · intro w'
                go_simp
                with_reducible rfl
              rotate_left
              · simp only [Act.put, List.setIfInBounds_toArray, List.set_cons_zero, List.set_cons_succ, i64_w, i32_w]
                rfl
              refine pure_ (i := 1) (N := some 18) (v := ?_) (a' := ?_) #[true, true, false, false, false, false, false, false, false, false] rfl rfl (any_of HT_.out (by kernel_rfl)) (fun _ _ _ h => h) (Or.inl ⟨by rfl, ?_⟩) ?_ ?_
              rotate_left
              · intro w'
                go_simp
                with_reducible rfl
              rotate_left
              · simp only [Act.put, List.setIfInBounds_toArray, List.set_cons_zero, List.set_cons_succ, i64_w, i32_w]
                rfl
              refine pure_ (i := 2) (N := some 19) (v := ?_) (a' := ?_) #[true, true, true, false, false, false, false, false, false, false] rfl rfl (any_of HT_.out (by kernel_rfl)) (fun _ _ _ h => h) (Or.inl ⟨by rfl, ?_⟩) ?_ ?_
              rotate_left
              · intro w'
                go_simp
                with_reducible rfl
              rotate_left
              · simp only [Act.put, List.setIfInBounds_toArray, List.set_cons_zero, List.set_cons_succ, i64_w, i32_w]
                rfl
              refine pure_ (i := 4) (N := some 21) (v := ?_) (a' := ?_) #[true, true, true, false, true, false, false, false, false, false] rfl rfl (any_of HT_.out (by kernel_rfl)) (fun _ _ _ h => h) (Or.inl ⟨by rfl, ?_⟩) ?_ ?_
              rotate_left
              · intro w'
                go_simp
                with_reducible rfl
              rotate_left
              · simp only [Act.put, List.setIfInBounds_toArray, List.set_cons_zero, List.set_cons_succ, i64_w, i32_w]
                rfl
              refine pure_ (i := 5) (N := some 22) (v := ?_) (a' := ?_) #[true, true, true, false, true, true, false, false, false, false] rfl rfl (any_of HT_.out (by kernel_rfl)) (fun _ _ _ h => h) (Or.inl ⟨by rfl, ?_⟩) ?_ ?_
              rotate_left
              · intro w'
                go_simp
                with_reducible rfl
              rotate_left
              · simp only [Act.put, List.setIfInBounds_toArray, List.set_cons_zero, List.set_cons_succ, i64_w, i32_w]
                rfl
              refine pure_ (i := 6) (N := some 23) (v := ?_) (a' := ?_) #[true, true, true, false, true, true, true, false, false, false] rfl rfl (any_of HT_.out (by kernel_rfl)) (fun _ _ _ h => h) (Or.inl ⟨by rfl, ?_⟩) ?_ ?_
              rotate_left
              · intro w'
                go_simp
                with_reducible rfl
              rotate_left
              · simp only [Act.put, List.setIfInBounds_toArray, List.set_cons_zero, List.set_cons_succ, i64_w, i32_w]
                rfl
              refine take_ (i := 3) (N := some 20) (v := ?_) (a' := ?_) #[true, true, true, true, true, true, true, false, false, false] rfl rfl (take_ofW HT_.out HW_.out (by kernel_rfl)) (fun _ _ _ h => h) (Or.inl ⟨by rfl, ?_⟩) hHeld ?_ ?_
              rotate_left
              · rintro w' ⟨s0, s1, s2, s3⟩
                go_simp
                with_reducible rfl
              rotate_left
              · simp only [Act.put, List.setIfInBounds_toArray, List.set_cons_zero, List.set_cons_succ, i64_w, i32_w]
                rfl
              refine take_ (i := 7) (N := some 24) (v := ?_) (a' := ?_) #[true, true, true, true, true, true, true, true, false, false] rfl rfl (take_ofW HT_.out HW_.out (by kernel_rfl)) (fun _ _ _ h => h) (Or.inl ⟨by rfl, ?_⟩) hHeld ?_ ?_
              rotate_left
              · rintro w' ⟨s0, s1, s2, s3⟩
                go_simp
                with_reducible rfl
              rotate_left
              · simp only [Act.put, List.setIfInBounds_toArray, List.set_cons_zero, List.set_cons_succ, i64_w, i32_w]
                rfl
              refine one_ (i := 8) (N := some 25) #[true, true, true, true, true, true, true, true, true, false] rfl rfl (one_of HT_.out (by kernel_rfl)) (by decide) (fun K hK => ?_)
              refine goes_ Try.func105 (by kernel_rfl) rfl #[.agg #[.int .i64 ((rd_T85 l0 x5_1).f0), .string ((rd_T85 l0 x5_1).f1)], .agg #[.int .i64 ((rd_T85 l1 x5_1).f0), .string ((rd_T85 l1 x5_1).f1)]] (by rfl) rfl rfl (by (try simp only [List.map_toArray, List.map_cons, List.map_nil]); first | done | rfl | (simp only [List.length_drop, List.length_take]; rfl)) ?_
              with_reducible refine (laws_eqEntry.calls ((rd_T85 l0 x5_1).f0) ((rd_T85 l0 x5_1).f1) ((rd_T85 l1 x5_1).f0) ((rd_T85 l1 x5_1).f1) t144 _ A7.out).mono ?_
              rintro e w9 ⟨rfl, hb⟩
              refine ⟨_, rfl, ?_⟩
              have n0_ := Aside0.mk (below_step (by repeat (first | (with_reducible first | exact HB.out | apply below_alloc | apply pw_below_drewN | apply below_drew1) | exact HB.out)) hb)
              clear HB
              have HB := n0_
              clear n0_
              (try clear hb)
              (try clear hb2)
              (try clear hk)
              (try clear hi)
              refine hK.out _ _ ⟨((HB.out.cell (World.block_lt_of_cell? w _ hw142_0)).trans hw142_0), ((HB.out.cell (World.block_lt_of_cell? w _ hw142_1)).trans hw142_1), ((HB.out.cell (World.block_lt_of_cell? w _ hw143_0)).trans hw143_0), ((HB.out.cell (World.block_lt_of_cell? w _ hw143_1)).trans hw143_1)⟩ (fun hHeld => ?_)
              clear hK K
              refine norm_ (a' := ?_) ?_ ?_
              rotate_left
              · show Act.put _ (some 25) _ = _
                simp only [Act.put, List.setIfInBounds_toArray, List.set_cons_zero, List.set_cons_succ, i64_w, i32_w]
                rfl
              refine pure_ (i := 9) (N := some 26) (v := ?_) (a' := ?_) #[true, true, true, true, true, true, true, true, true, true] rfl rfl (any_of HT_.out (by kernel_rfl)) (fun _ _ _ h => h) (Or.inl ⟨by rfl, ?_⟩) ?_ ?_
              rotate_left
              · intro w'
                go_simp
                with_reducible rfl
              rotate_left
              · simp only [Act.put, List.setIfInBounds_toArray, List.set_cons_zero, List.set_cons_succ, i64_w, i32_w]
                rfl
              refine done_ (done_of HT_.out (by kernel_rfl)) ?_
              go_upto_if 26 with (fail)
              have H := H9.out
              clear H9
              by_cases c10 : t144 = true
              · subst c10
                have H1 : (laws_eqEntryS.l0 k1 l0 l1 (wrap64 (x5_1 + 1))) = some r := by rw [if_pos rfl] at H; exact H
                clear H
                have H := H1
                clear H1
                have H' := Aside0.mk H
                clear H
                go_wp2
                go_roundg k1
                case measure => have := HK1.out; omega
                case rel => exact ⟨(wrap64 (x5_1 + 1)), (by first | rfl | (simp; done) | (simp [*]; done)), H', ⟨by have := HK1.out; omega⟩, ⟨by repeat (first | (with_reducible first | exact HB.out | apply below_alloc | apply pw_below_drewN | apply below_drew1) | exact HB.out)⟩⟩
              · replace c10 := Bool.eq_false_iff.mpr c10
                subst c10
                have H1 : (some false) = some r := by rw [if_neg (show ¬ (false = true) by decide)] at H; exact H
                clear H
                have H := H1
                clear H1
                obtain rfl := Option.some.inj H
                go_wp2
                go_ret
                exact ⟨by first | rfl | (simp [errW_none, errW_some] <;> rfl) | (simp [*, errW_none, errW_some] <;> rfl), by repeat (first | (with_reducible first | exact HB.out | apply below_alloc | apply pw_below_drewN | apply below_drew1) | exact HB.out)⟩
            · rw [if_neg c6] at H
              exact absurd H (by simp)
          · rw [if_neg c5] at H
            exact absurd H (by simp)
        · rw [if_neg c4] at H
          have c4b0 : decide (x5_1 < (l0.length : Int)) = false := decide_eq_false c4
          clear c4
          obtain rfl := Option.some.inj H
          go_wp2
          go_ret
          exact ⟨by first | rfl | (simp [errW_none, errW_some] <;> rfl) | (simp [*, errW_none, errW_some] <;> rfl), by repeat (first | (with_reducible first | exact HB.out | apply below_alloc | apply pw_below_drewN | apply below_drew1) | exact HB.out)⟩
  · rw [if_neg c3] at H
    have c3b0 : ((l0.length : Int) == (l1.length : Int)) = false := beq_eq_false_iff_ne.mpr c3
    have c3b1 : ((l0.length : Int) != (l1.length : Int)) = true := bne_iff_ne.mpr c3
    have c3b2 : (l0.length == l1.length) = false := by first | simpa using c3 | (simp at c3 ⊢; omega)
    obtain rfl := Option.some.inj H
    go_enter Try.func58, Try.ntmps58
    go_wp2
    go_ret
    exact ⟨by first | rfl | (simp [errW_none, errW_some] <;> rfl) | (simp [*, errW_none, errW_some] <;> rfl), by repeat (first | (with_reducible first | exact HB.out | apply below_alloc | apply pw_below_drewN | apply below_drew1) | exact HB.out)⟩

/-! ### laws_eqMsg: function 19 -/
def laws_eqMsg.f (k : Nat) (a0_0 : Int) (a0_1 : Int) (a0_2 : Int) (a0_3 : Int) (a0_4 : Int) (a0_5 : Int) (a0_6 : Int) (a0_7 : Bool) (l0_8 : List (S85)) (a1_0 : Int) (a1_1 : Int) (a1_2 : Int) (a1_3 : Int) (a1_4 : Int) (a1_5 : Int) (a1_6 : Int) (a1_7 : Bool) (l1_8 : List (S85)) : Option (Bool) := if a0_0 = a1_0 then (if a0_1 = a1_1 then (if a0_2 = a1_2 then (if a0_3 = a1_3 then (if a0_4 = a1_4 then (if a0_5 = a1_5 then (if a0_6 = a1_6 then (if (a0_7 != a1_7) = true then (some false) else ((laws_eqEntryS.f k l0_8 l1_8).bind fun t147 => (if t147 = true then (some true) else (some false)))) else (some false)) else (some false)) else (some false)) else (some false)) else (some false)) else (some false)) else (some false)
theorem laws_eqMsg.mono : ∀ a0 a1 a2 a3 a4 a5 a6 a7 a8 a9 a10 a11 a12 a13 a14 a15 a16 a17 k, LeO (laws_eqMsg.f k a0 a1 a2 a3 a4 a5 a6 a7 a8 a9 a10 a11 a12 a13 a14 a15 a16 a17) (laws_eqMsg.f (k + 1) a0 a1 a2 a3 a4 a5 a6 a7 a8 a9 a10 a11 a12 a13 a14 a15 a16 a17) := by
  intro a0 a1 a2 a3 a4 a5 a6 a7 a8 a9 a10 a11 a12 a13 a14 a15 a16 a17 k
  unfold laws_eqMsg.f
  repeat' first
      | (with_reducible exact laws_eqEntryS.mono _ _ _)
      | (with_reducible exact LeO.refl _)
      | (with_reducible exact LeO.none _)
      | (with_reducible refine LeO.ite ?_ ?_)
      | (with_reducible refine LeO.bind ?_ (fun _ => ?_))
      | exact laws_eqEntryS.mono _ _ _
      | exact LeO.none _
      | refine LeO.ite ?_ ?_
      | refine LeO.bind ?_ (fun _ => ?_)
set_option maxHeartbeats 8000000 in
set_option maxRecDepth 100000 in
theorem laws_eqMsg.calls (k : Nat) (a0_0 : Int) (a0_1 : Int) (a0_2 : Int) (a0_3 : Int) (a0_4 : Int) (a0_5 : Int) (a0_6 : Int) (a0_7 : Bool) (A0_8 : Option Addr) (c0_8 : Nat) (l0_8 : List (S85)) (a1_0 : Int) (a1_1 : Int) (a1_2 : Int) (a1_3 : Int) (a1_4 : Int) (a1_5 : Int) (a1_6 : Int) (a1_7 : Bool) (A1_8 : Option Addr) (c1_8 : Nat) (l1_8 : List (S85)) (r : Bool) (w : World) (hr0_8 : Kd.C k85 w A0_8 l0_8.length l0_8) (hc0_8 : l0_8.length ≤ c0_8) (hr1_8 : Kd.C k85 w A1_8 l1_8.length l1_8) (hc1_8 : l1_8.length ≤ c1_8) (h : laws_eqMsg.f k a0_0 a0_1 a0_2 a0_3 a0_4 a0_5 a0_6 a0_7 l0_8 a1_0 a1_1 a1_2 a1_3 a1_4 a1_5 a1_6 a1_7 l1_8 = some r) :
    Calls Try.prog 19 #[.agg #[.int .i64 a0_0, .int .i64 a0_1, .int .i64 a0_2, .int .i64 a0_3, .int .i64 a0_4, .int .i64 a0_5, .int .i64 a0_6, .bool a0_7, .slice A0_8 l0_8.length c0_8], .agg #[.int .i64 a1_0, .int .i64 a1_1, .int .i64 a1_2, .int .i64 a1_3, .int .i64 a1_4, .int .i64 a1_5, .int .i64 a1_6, .bool a1_7, .slice A1_8 l1_8.length c1_8]] w fun e w' => e = .returned (.bool r) ∧ Below w.heap.size w w' := by
  have hu29 := Try.underlying29
  have HR0_8 := Aside0.mk hr0_8
  have HC0_8 := Aside0.mk hc0_8
  clear hr0_8 hc0_8
  have HR1_8 := Aside0.mk hr1_8
  have HC1_8 := Aside0.mk hc1_8
  clear hr1_8 hc1_8
  have HB := Aside0.mk (Below.refl w.heap.size w)
  have H : (if a0_0 = a1_0 then (if a0_1 = a1_1 then (if a0_2 = a1_2 then (if a0_3 = a1_3 then (if a0_4 = a1_4 then (if a0_5 = a1_5 then (if a0_6 = a1_6 then (if (a0_7 != a1_7) = true then (some false) else ((laws_eqEntryS.f k l0_8 l1_8).bind fun t147 => (if t147 = true then (some true) else (some false)))) else (some false)) else (some false)) else (some false)) else (some false)) else (some false)) else (some false)) else (some false)) = some r := h
  clear h
  have H9 := Aside0.mk H
  clear H
  go_enter Try.func19, Try.ntmps19
  go_upto_if 9 with (first | ((with_reducible refine gate_dst (N := 2) rfl ?_); refine box_event ?hg (N := 2) ?hd (cs := #[.int .i64 a0_0, .int .i64 a0_1, .int .i64 a0_2, .int .i64 a0_3, .int .i64 a0_4, .int .i64 a0_5, .int .i64 a0_6, .bool a0_7, .slice A0_8 l0_8.length c0_8]) (t := 29) ?hr ?_; (case hd => rfl); (case hg => rfl); (case hr => first | (go_simp; done) | (go_simp; rfl)); intro gb145 hg w3 hbox hb; have n0_ := Aside0.mk (below_step (by repeat (first | (with_reducible first | exact HB.out | apply below_alloc | apply pw_below_drewN | apply below_drew1) | exact HB.out)) hb); have n1_ := Aside0.mk (hbox); have n2_ := Aside0.mk ((by rw [hg]; exact (below_size (by repeat (first | (with_reducible first | exact HB.out | apply below_alloc | apply pw_below_drewN | apply below_drew1) | exact HB.out))) : w.heap.size ≤ gb145)); have n3_ := Aside0.mk ((by rw [hg]; exact (below_size (by repeat (first | (with_reducible first | exact HB.out | apply below_alloc | apply pw_below_drewN | apply below_drew1) | exact HB.out))) : w.heap.size ≤ gb145)); clear HB; have HB := n0_; have BK145 := n1_; have GW145 := n2_; have GE145 := n3_; clear n0_ n1_ n2_ n3_; clear hb hbox hg) | ((with_reducible refine gate_dst (N := 3) rfl ?_); refine box_event ?hg (N := 3) ?hd (cs := #[.int .i64 a1_0, .int .i64 a1_1, .int .i64 a1_2, .int .i64 a1_3, .int .i64 a1_4, .int .i64 a1_5, .int .i64 a1_6, .bool a1_7, .slice A1_8 l1_8.length c1_8]) (t := 29) ?hr ?_; (case hd => rfl); (case hg => rfl); (case hr => first | (go_simp; done) | (go_simp; rfl)); intro gb146 hg w4 hbox hb; have n0_ := Aside0.mk (blk_below (g := gb145) (o := .cells #[.int .i64 a0_0, .int .i64 a0_1, .int .i64 a0_2, .int .i64 a0_3, .int .i64 a0_4, .int .i64 a0_5, .int .i64 a0_6, .bool a0_7, .slice A0_8 l0_8.length c0_8] 29 (0, 0)) (by (with_reducible repeat (first | refine blk_drewN ?_ _ | refine blk_drew ?_ | refine blk_alloc ?_ _)); exact BK145.out) hb); have n1_ := Aside0.mk (below_step (by repeat (first | (with_reducible first | exact HB.out | apply below_alloc | apply pw_below_drewN | apply below_drew1 | refine below_set ?_ GE145.out) | exact HB.out)) hb); have n2_ := Aside0.mk (hbox); have n3_ := Aside0.mk ((by rw [hg]; exact (below_size (by repeat (first | (with_reducible first | exact HB.out | apply below_alloc | apply pw_below_drewN | apply below_drew1 | refine below_set ?_ GE145.out) | exact HB.out))) : w.heap.size ≤ gb146)); have n4_ := Aside0.mk ((by rw [hg]; exact (below_size (by repeat (first | (with_reducible first | exact HB.out | apply below_alloc | apply pw_below_drewN | apply below_drew1 | refine below_set ?_ GE145.out) | exact HB.out))) : w.heap.size ≤ gb146)); have n5_ := Aside0.mk ((by rw [hg]; exact Nat.ne_of_lt (blk_lt (g := gb145) (o := .cells #[.int .i64 a0_0, .int .i64 a0_1, .int .i64 a0_2, .int .i64 a0_3, .int .i64 a0_4, .int .i64 a0_5, .int .i64 a0_6, .bool a0_7, .slice A0_8 l0_8.length c0_8] 29 (0, 0)) (by (with_reducible repeat (first | refine blk_drewN ?_ _ | refine blk_drew ?_ | refine blk_alloc ?_ _)); exact BK145.out)) : gb145 ≠ gb146)); have n6_ := Aside0.mk ((by rw [hg]; exact Nat.ne_of_gt (blk_lt (g := gb145) (o := .cells #[.int .i64 a0_0, .int .i64 a0_1, .int .i64 a0_2, .int .i64 a0_3, .int .i64 a0_4, .int .i64 a0_5, .int .i64 a0_6, .bool a0_7, .slice A0_8 l0_8.length c0_8] 29 (0, 0)) (by (with_reducible repeat (first | refine blk_drewN ?_ _ | refine blk_drew ?_ | refine blk_alloc ?_ _)); exact BK145.out)) : gb146 ≠ gb145)); clear BK145; clear HB; have BK145 := n0_; have HB := n1_; have BK146 := n2_; have GW146 := n3_; have GE146 := n4_; have NB145_146 := n5_; have NB146_145 := n6_; clear n0_ n1_ n2_ n3_ n4_ n5_ n6_; clear hb hbox hg; have hnb5 := NB145_146.out; have hnc5 := NB146_145.out; have hcz6_0 : w4.cell? ⟨gb145, 0, none⟩ = some (.int .i64 a0_0) := (blk_cell BK145.out 0).trans rfl; have hcz6_1 : w4.cell? ⟨gb145, 1, none⟩ = some (.int .i64 a0_1) := (blk_cell BK145.out 1).trans rfl; have hcz6_2 : w4.cell? ⟨gb145, 2, none⟩ = some (.int .i64 a0_2) := (blk_cell BK145.out 2).trans rfl; have hcz6_3 : w4.cell? ⟨gb145, 3, none⟩ = some (.int .i64 a0_3) := (blk_cell BK145.out 3).trans rfl; have hcz6_4 : w4.cell? ⟨gb145, 4, none⟩ = some (.int .i64 a0_4) := (blk_cell BK145.out 4).trans rfl; have hcz6_5 : w4.cell? ⟨gb145, 5, none⟩ = some (.int .i64 a0_5) := (blk_cell BK145.out 5).trans rfl; have hcz6_6 : w4.cell? ⟨gb145, 6, none⟩ = some (.int .i64 a0_6) := (blk_cell BK145.out 6).trans rfl; have hcz6_7 : w4.cell? ⟨gb145, 7, none⟩ = some (.bool a0_7) := (blk_cell BK145.out 7).trans rfl; have hcz6_8 : w4.cell? ⟨gb145, 8, none⟩ = some (.slice A0_8 l0_8.length c0_8) := (blk_cell BK145.out 8).trans rfl; have hfz6_0 := blk_frozen BK145.out 0; have hfz6_1 := blk_frozen BK145.out 1; have hfz6_2 := blk_frozen BK145.out 2; have hfz6_3 := blk_frozen BK145.out 3; have hfz6_4 := blk_frozen BK145.out 4; have hfz6_5 := blk_frozen BK145.out 5; have hfz6_6 := blk_frozen BK145.out 6; have hfz6_7 := blk_frozen BK145.out 7; have hfz6_8 := blk_frozen BK145.out 8; have hcz7_0 : w4.cell? ⟨gb146, 0, none⟩ = some (.int .i64 a1_0) := (blk_cell BK146.out 0).trans rfl; have hcz7_1 : w4.cell? ⟨gb146, 1, none⟩ = some (.int .i64 a1_1) := (blk_cell BK146.out 1).trans rfl; have hcz7_2 : w4.cell? ⟨gb146, 2, none⟩ = some (.int .i64 a1_2) := (blk_cell BK146.out 2).trans rfl; have hcz7_3 : w4.cell? ⟨gb146, 3, none⟩ = some (.int .i64 a1_3) := (blk_cell BK146.out 3).trans rfl; have hcz7_4 : w4.cell? ⟨gb146, 4, none⟩ = some (.int .i64 a1_4) := (blk_cell BK146.out 4).trans rfl; have hcz7_5 : w4.cell? ⟨gb146, 5, none⟩ = some (.int .i64 a1_5) := (blk_cell BK146.out 5).trans rfl; have hcz7_6 : w4.cell? ⟨gb146, 6, none⟩ = some (.int .i64 a1_6) := (blk_cell BK146.out 6).trans rfl; have hcz7_7 : w4.cell? ⟨gb146, 7, none⟩ = some (.bool a1_7) := (blk_cell BK146.out 7).trans rfl; have hcz7_8 : w4.cell? ⟨gb146, 8, none⟩ = some (.slice A1_8 l1_8.length c1_8) := (blk_cell BK146.out 8).trans rfl; have hfz7_0 := blk_frozen BK146.out 0; have hfz7_1 := blk_frozen BK146.out 1; have hfz7_2 := blk_frozen BK146.out 2; have hfz7_3 := blk_frozen BK146.out 3; have hfz7_4 := blk_frozen BK146.out 4; have hfz7_5 := blk_frozen BK146.out 5; have hfz7_6 := blk_frozen BK146.out 6; have hfz7_7 := blk_frozen BK146.out 7; have hfz7_8 := blk_frozen BK146.out 8))
  have H := H9.out
  clear H9
  by_cases c8 : a0_0 = a1_0
  · rw [if_pos c8] at H
    have c8b0 : (a0_0 == a1_0) = true := beq_iff_eq.mpr c8
    have c8b1 : (a0_0 != a1_0) = false := bne_eq_false_iff_eq.mpr c8
    clear c8
    (first | rw [c8b0] | (simp only [i64_w, i32_w]; rw [c8b0]) | skip)
    by_cases c9 : a0_1 = a1_1
    · rw [if_pos c9] at H
      have c9b0 : (a0_1 == a1_1) = true := beq_iff_eq.mpr c9
      have c9b1 : (a0_1 != a1_1) = false := bne_eq_false_iff_eq.mpr c9
      clear c9
      by_cases c10 : a0_2 = a1_2
      · rw [if_pos c10] at H
        have c10b0 : (a0_2 == a1_2) = true := beq_iff_eq.mpr c10
        have c10b1 : (a0_2 != a1_2) = false := bne_eq_false_iff_eq.mpr c10
        clear c10
        by_cases c11 : a0_3 = a1_3
        · rw [if_pos c11] at H
          have c11b0 : (a0_3 == a1_3) = true := beq_iff_eq.mpr c11
          have c11b1 : (a0_3 != a1_3) = false := bne_eq_false_iff_eq.mpr c11
          clear c11
          by_cases c12 : a0_4 = a1_4
          · rw [if_pos c12] at H
            have c12b0 : (a0_4 == a1_4) = true := beq_iff_eq.mpr c12
            have c12b1 : (a0_4 != a1_4) = false := bne_eq_false_iff_eq.mpr c12
            clear c12
            by_cases c13 : a0_5 = a1_5
            · rw [if_pos c13] at H
              have c13b0 : (a0_5 == a1_5) = true := beq_iff_eq.mpr c13
              have c13b1 : (a0_5 != a1_5) = false := bne_eq_false_iff_eq.mpr c13
              clear c13
              by_cases c14 : a0_6 = a1_6
              · rw [if_pos c14] at H
                have c14b0 : (a0_6 == a1_6) = true := beq_iff_eq.mpr c14
                have c14b1 : (a0_6 != a1_6) = false := bne_eq_false_iff_eq.mpr c14
                clear c14
                by_cases c15 : (a0_7 != a1_7) = true
                · rw [if_pos c15] at H
                  have c15b0 : (a0_7 != a1_7) = true := c15
                  (try (have c15b1 : decide (a0_7 = a1_7) = false := by simpa using c15))
                  (try (have c15b2 : (a0_7 == a1_7) = false := by simpa using c15))
                  (try (have c15b3 : ¬ (a0_7 = a1_7) := by simpa using c15))
                  clear c15
                  obtain rfl := Option.some.inj H
                  have hnb16 := NB145_146.out
                  have hnc16 := NB146_145.out
                  have hcz17_0 : w4.cell? ⟨gb145, 0, none⟩ = some (.int .i64 a0_0) := (blk_cell BK145.out 0).trans rfl
                  have hcz17_1 : w4.cell? ⟨gb145, 1, none⟩ = some (.int .i64 a0_1) := (blk_cell BK145.out 1).trans rfl
                  have hcz17_2 : w4.cell? ⟨gb145, 2, none⟩ = some (.int .i64 a0_2) := (blk_cell BK145.out 2).trans rfl
                  have hcz17_3 : w4.cell? ⟨gb145, 3, none⟩ = some (.int .i64 a0_3) := (blk_cell BK145.out 3).trans rfl
                  have hcz17_4 : w4.cell? ⟨gb145, 4, none⟩ = some (.int .i64 a0_4) := (blk_cell BK145.out 4).trans rfl
                  have hcz17_5 : w4.cell? ⟨gb145, 5, none⟩ = some (.int .i64 a0_5) := (blk_cell BK145.out 5).trans rfl
                  have hcz17_6 : w4.cell? ⟨gb145, 6, none⟩ = some (.int .i64 a0_6) := (blk_cell BK145.out 6).trans rfl
                  have hcz17_7 : w4.cell? ⟨gb145, 7, none⟩ = some (.bool a0_7) := (blk_cell BK145.out 7).trans rfl
                  have hcz17_8 : w4.cell? ⟨gb145, 8, none⟩ = some (.slice A0_8 l0_8.length c0_8) := (blk_cell BK145.out 8).trans rfl
                  have hfz17_0 := blk_frozen BK145.out 0
                  have hfz17_1 := blk_frozen BK145.out 1
                  have hfz17_2 := blk_frozen BK145.out 2
                  have hfz17_3 := blk_frozen BK145.out 3
                  have hfz17_4 := blk_frozen BK145.out 4
                  have hfz17_5 := blk_frozen BK145.out 5
                  have hfz17_6 := blk_frozen BK145.out 6
                  have hfz17_7 := blk_frozen BK145.out 7
                  have hfz17_8 := blk_frozen BK145.out 8
                  have hcz18_0 : w4.cell? ⟨gb146, 0, none⟩ = some (.int .i64 a1_0) := (blk_cell BK146.out 0).trans rfl
                  have hcz18_1 : w4.cell? ⟨gb146, 1, none⟩ = some (.int .i64 a1_1) := (blk_cell BK146.out 1).trans rfl
                  have hcz18_2 : w4.cell? ⟨gb146, 2, none⟩ = some (.int .i64 a1_2) := (blk_cell BK146.out 2).trans rfl
                  have hcz18_3 : w4.cell? ⟨gb146, 3, none⟩ = some (.int .i64 a1_3) := (blk_cell BK146.out 3).trans rfl
                  have hcz18_4 : w4.cell? ⟨gb146, 4, none⟩ = some (.int .i64 a1_4) := (blk_cell BK146.out 4).trans rfl
                  have hcz18_5 : w4.cell? ⟨gb146, 5, none⟩ = some (.int .i64 a1_5) := (blk_cell BK146.out 5).trans rfl
                  have hcz18_6 : w4.cell? ⟨gb146, 6, none⟩ = some (.int .i64 a1_6) := (blk_cell BK146.out 6).trans rfl
                  have hcz18_7 : w4.cell? ⟨gb146, 7, none⟩ = some (.bool a1_7) := (blk_cell BK146.out 7).trans rfl
                  have hcz18_8 : w4.cell? ⟨gb146, 8, none⟩ = some (.slice A1_8 l1_8.length c1_8) := (blk_cell BK146.out 8).trans rfl
                  have hfz18_0 := blk_frozen BK146.out 0
                  have hfz18_1 := blk_frozen BK146.out 1
                  have hfz18_2 := blk_frozen BK146.out 2
                  have hfz18_3 := blk_frozen BK146.out 3
                  have hfz18_4 := blk_frozen BK146.out 4
                  have hfz18_5 := blk_frozen BK146.out 5
                  have hfz18_6 := blk_frozen BK146.out 6
                  have hfz18_7 := blk_frozen BK146.out 7
                  have hfz18_8 := blk_frozen BK146.out 8
                  go_wp2
                  go_ret
                  exact ⟨by first | rfl | (simp [errW_none, errW_some] <;> rfl) | (simp [*, errW_none, errW_some] <;> rfl), by repeat (first | (with_reducible first | exact HB.out | apply below_alloc | apply pw_below_drewN | apply below_drew1 | refine below_set ?_ GE145.out | refine below_set ?_ GE146.out) | exact HB.out)⟩
                · rw [if_neg c15] at H
                  have c15b0 : (a0_7 != a1_7) = false := by simpa using c15
                  (try (have c15b1 : decide (a0_7 = a1_7) = true := by simpa using c15))
                  (try (have c15b2 : (a0_7 == a1_7) = true := by simpa using c15))
                  clear c15
                  replace H := Option.bind_eq_some_iff.mp H
                  obtain ⟨t147, A190, H⟩ := H
                  replace H : (if t147 = true then (some true) else (some false)) = some r := H
                  have A19 := Aside0.mk A190
                  clear A190
                  have H9 := Aside0.mk H
                  clear H
                  have hnb20 := NB145_146.out
                  have hnc20 := NB146_145.out
                  have hcz21_0 : w4.cell? ⟨gb145, 0, none⟩ = some (.int .i64 a0_0) := (blk_cell BK145.out 0).trans rfl
                  have hcz21_1 : w4.cell? ⟨gb145, 1, none⟩ = some (.int .i64 a0_1) := (blk_cell BK145.out 1).trans rfl
                  have hcz21_2 : w4.cell? ⟨gb145, 2, none⟩ = some (.int .i64 a0_2) := (blk_cell BK145.out 2).trans rfl
                  have hcz21_3 : w4.cell? ⟨gb145, 3, none⟩ = some (.int .i64 a0_3) := (blk_cell BK145.out 3).trans rfl
                  have hcz21_4 : w4.cell? ⟨gb145, 4, none⟩ = some (.int .i64 a0_4) := (blk_cell BK145.out 4).trans rfl
                  have hcz21_5 : w4.cell? ⟨gb145, 5, none⟩ = some (.int .i64 a0_5) := (blk_cell BK145.out 5).trans rfl
                  have hcz21_6 : w4.cell? ⟨gb145, 6, none⟩ = some (.int .i64 a0_6) := (blk_cell BK145.out 6).trans rfl
                  have hcz21_7 : w4.cell? ⟨gb145, 7, none⟩ = some (.bool a0_7) := (blk_cell BK145.out 7).trans rfl
                  have hcz21_8 : w4.cell? ⟨gb145, 8, none⟩ = some (.slice A0_8 l0_8.length c0_8) := (blk_cell BK145.out 8).trans rfl
                  have hfz21_0 := blk_frozen BK145.out 0
                  have hfz21_1 := blk_frozen BK145.out 1
                  have hfz21_2 := blk_frozen BK145.out 2
                  have hfz21_3 := blk_frozen BK145.out 3
                  have hfz21_4 := blk_frozen BK145.out 4
                  have hfz21_5 := blk_frozen BK145.out 5
                  have hfz21_6 := blk_frozen BK145.out 6
                  have hfz21_7 := blk_frozen BK145.out 7
                  have hfz21_8 := blk_frozen BK145.out 8
                  have hcz22_0 : w4.cell? ⟨gb146, 0, none⟩ = some (.int .i64 a1_0) := (blk_cell BK146.out 0).trans rfl
                  have hcz22_1 : w4.cell? ⟨gb146, 1, none⟩ = some (.int .i64 a1_1) := (blk_cell BK146.out 1).trans rfl
                  have hcz22_2 : w4.cell? ⟨gb146, 2, none⟩ = some (.int .i64 a1_2) := (blk_cell BK146.out 2).trans rfl
                  have hcz22_3 : w4.cell? ⟨gb146, 3, none⟩ = some (.int .i64 a1_3) := (blk_cell BK146.out 3).trans rfl
                  have hcz22_4 : w4.cell? ⟨gb146, 4, none⟩ = some (.int .i64 a1_4) := (blk_cell BK146.out 4).trans rfl
                  have hcz22_5 : w4.cell? ⟨gb146, 5, none⟩ = some (.int .i64 a1_5) := (blk_cell BK146.out 5).trans rfl
                  have hcz22_6 : w4.cell? ⟨gb146, 6, none⟩ = some (.int .i64 a1_6) := (blk_cell BK146.out 6).trans rfl
                  have hcz22_7 : w4.cell? ⟨gb146, 7, none⟩ = some (.bool a1_7) := (blk_cell BK146.out 7).trans rfl
                  have hcz22_8 : w4.cell? ⟨gb146, 8, none⟩ = some (.slice A1_8 l1_8.length c1_8) := (blk_cell BK146.out 8).trans rfl
                  have hfz22_0 := blk_frozen BK146.out 0
                  have hfz22_1 := blk_frozen BK146.out 1
                  have hfz22_2 := blk_frozen BK146.out 2
                  have hfz22_3 := blk_frozen BK146.out 3
                  have hfz22_4 := blk_frozen BK146.out 4
                  have hfz22_5 := blk_frozen BK146.out 5
                  have hfz22_6 := blk_frozen BK146.out 6
                  have hfz22_7 := blk_frozen BK146.out 7
                  have hfz22_8 := blk_frozen BK146.out 8
                  go_upto_if 50 with (first | ((with_reducible refine gate_callee (f := 58) rfl ?_); refine goesL_ (some 49) rfl rfl Try.func58 (by kernel_rfl) rfl #[.slice A0_8 l0_8.length c0_8, .slice A1_8 l1_8.length c1_8] rfl (by (try simp only [List.map_toArray, List.map_cons, List.map_nil]); first | done | rfl | (simp only [List.length_drop, List.length_take]; rfl)) ?_; (with_reducible refine (laws_eqEntryS.calls k _ _ l0_8 _ _ l1_8 t147 _ ?side1 ?side2 ?side3 ?side4 A19.out).mono ?_); (case side1 => repeat (first | exact (Kd.C_below HR0_8.out HB.out) | (with_reducible refine Kd.C_alloc ?_ _) | (with_reducible refine Kd.C_drewN ?_ _) | (with_reducible refine Kd.C_drew ?_))); (case side2 => exact HC0_8.out); (case side3 => repeat (first | exact (Kd.C_below HR1_8.out HB.out) | (with_reducible refine Kd.C_alloc ?_ _) | (with_reducible refine Kd.C_drewN ?_ _) | (with_reducible refine Kd.C_drew ?_))); (case side4 => exact HC1_8.out); rintro e w23 ⟨rfl, hb⟩; refine ⟨_, rfl, ?_⟩; have n0_ := Aside0.mk (blk_below (g := gb145) (o := .cells #[.int .i64 a0_0, .int .i64 a0_1, .int .i64 a0_2, .int .i64 a0_3, .int .i64 a0_4, .int .i64 a0_5, .int .i64 a0_6, .bool a0_7, .slice A0_8 l0_8.length c0_8] 29 (0, 0)) (by (with_reducible repeat (first | refine blk_drewN ?_ _ | refine blk_drew ?_ | refine blk_alloc ?_ _)); exact BK145.out) hb); have n1_ := Aside0.mk (blk_below (g := gb146) (o := .cells #[.int .i64 a1_0, .int .i64 a1_1, .int .i64 a1_2, .int .i64 a1_3, .int .i64 a1_4, .int .i64 a1_5, .int .i64 a1_6, .bool a1_7, .slice A1_8 l1_8.length c1_8] 29 (0, 0)) (by (with_reducible repeat (first | refine blk_drewN ?_ _ | refine blk_drew ?_ | refine blk_alloc ?_ _)); exact BK146.out) hb); have n2_ := Aside0.mk (below_step (by repeat (first | (with_reducible first | exact HB.out | apply below_alloc | apply pw_below_drewN | apply below_drew1 | refine below_set ?_ GE145.out | refine below_set ?_ GE146.out) | exact HB.out)) hb); clear BK145; clear BK146; clear HB; have BK145 := n0_; have BK146 := n1_; have HB := n2_; clear n0_ n1_ n2_; (try clear hb); (try clear hb2); (try clear hk); (try clear hi)))
                  have H := H9.out
                  clear H9
                  by_cases c24 : t147 = true
                  · subst c24
                    have H1 : (some true) = some r := by rw [if_pos rfl] at H; exact H
                    clear H
                    have H := H1
                    clear H1
                    obtain rfl := Option.some.inj H
                    go_wp2
                    go_ret
                    exact ⟨by first | rfl | (simp [errW_none, errW_some] <;> rfl) | (simp [*, errW_none, errW_some] <;> rfl), by repeat (first | (with_reducible first | exact HB.out | apply below_alloc | apply pw_below_drewN | apply below_drew1 | refine below_set ?_ GE145.out | refine below_set ?_ GE146.out) | exact HB.out)⟩
                  · replace c24 := Bool.eq_false_iff.mpr c24
                    subst c24
                    have H1 : (some false) = some r := by rw [if_neg (show ¬ (false = true) by decide)] at H; exact H
                    clear H
                    have H := H1
                    clear H1
                    obtain rfl := Option.some.inj H
                    go_wp2
                    go_ret
                    exact ⟨by first | rfl | (simp [errW_none, errW_some] <;> rfl) | (simp [*, errW_none, errW_some] <;> rfl), by repeat (first | (with_reducible first | exact HB.out | apply below_alloc | apply pw_below_drewN | apply below_drew1 | refine below_set ?_ GE145.out | refine below_set ?_ GE146.out) | exact HB.out)⟩
              · rw [if_neg c14] at H
                have c14b0 : (a0_6 == a1_6) = false := beq_eq_false_iff_ne.mpr c14
                have c14b1 : (a0_6 != a1_6) = true := bne_iff_ne.mpr c14
                obtain rfl := Option.some.inj H
                have hnb25 := NB145_146.out
                have hnc25 := NB146_145.out
                have hcz26_0 : w4.cell? ⟨gb145, 0, none⟩ = some (.int .i64 a0_0) := (blk_cell BK145.out 0).trans rfl
                have hcz26_1 : w4.cell? ⟨gb145, 1, none⟩ = some (.int .i64 a0_1) := (blk_cell BK145.out 1).trans rfl
                have hcz26_2 : w4.cell? ⟨gb145, 2, none⟩ = some (.int .i64 a0_2) := (blk_cell BK145.out 2).trans rfl
                have hcz26_3 : w4.cell? ⟨gb145, 3, none⟩ = some (.int .i64 a0_3) := (blk_cell BK145.out 3).trans rfl
                have hcz26_4 : w4.cell? ⟨gb145, 4, none⟩ = some (.int .i64 a0_4) := (blk_cell BK145.out 4).trans rfl
                have hcz26_5 : w4.cell? ⟨gb145, 5, none⟩ = some (.int .i64 a0_5) := (blk_cell BK145.out 5).trans rfl
                have hcz26_6 : w4.cell? ⟨gb145, 6, none⟩ = some (.int .i64 a0_6) := (blk_cell BK145.out 6).trans rfl
                have hcz26_7 : w4.cell? ⟨gb145, 7, none⟩ = some (.bool a0_7) := (blk_cell BK145.out 7).trans rfl
                have hcz26_8 : w4.cell? ⟨gb145, 8, none⟩ = some (.slice A0_8 l0_8.length c0_8) := (blk_cell BK145.out 8).trans rfl
                have hfz26_0 := blk_frozen BK145.out 0
                have hfz26_1 := blk_frozen BK145.out 1
                have hfz26_2 := blk_frozen BK145.out 2
                have hfz26_3 := blk_frozen BK145.out 3
                have hfz26_4 := blk_frozen BK145.out 4
                have hfz26_5 := blk_frozen BK145.out 5
                have hfz26_6 := blk_frozen BK145.out 6
                have hfz26_7 := blk_frozen BK145.out 7
                have hfz26_8 := blk_frozen BK145.out 8
                have hcz27_0 : w4.cell? ⟨gb146, 0, none⟩ = some (.int .i64 a1_0) := (blk_cell BK146.out 0).trans rfl
                have hcz27_1 : w4.cell? ⟨gb146, 1, none⟩ = some (.int .i64 a1_1) := (blk_cell BK146.out 1).trans rfl
                have hcz27_2 : w4.cell? ⟨gb146, 2, none⟩ = some (.int .i64 a1_2) := (blk_cell BK146.out 2).trans rfl
                have hcz27_3 : w4.cell? ⟨gb146, 3, none⟩ = some (.int .i64 a1_3) := (blk_cell BK146.out 3).trans rfl
                have hcz27_4 : w4.cell? ⟨gb146, 4, none⟩ = some (.int .i64 a1_4) := (blk_cell BK146.out 4).trans rfl
                have hcz27_5 : w4.cell? ⟨gb146, 5, none⟩ = some (.int .i64 a1_5) := (blk_cell BK146.out 5).trans rfl
                have hcz27_6 : w4.cell? ⟨gb146, 6, none⟩ = some (.int .i64 a1_6) := (blk_cell BK146.out 6).trans rfl
                have hcz27_7 : w4.cell? ⟨gb146, 7, none⟩ = some (.bool a1_7) := (blk_cell BK146.out 7).trans rfl
                have hcz27_8 : w4.cell? ⟨gb146, 8, none⟩ = some (.slice A1_8 l1_8.length c1_8) := (blk_cell BK146.out 8).trans rfl
                have hfz27_0 := blk_frozen BK146.out 0
                have hfz27_1 := blk_frozen BK146.out 1
                have hfz27_2 := blk_frozen BK146.out 2
                have hfz27_3 := blk_frozen BK146.out 3
                have hfz27_4 := blk_frozen BK146.out 4
                have hfz27_5 := blk_frozen BK146.out 5
                have hfz27_6 := blk_frozen BK146.out 6
                have hfz27_7 := blk_frozen BK146.out 7
                have hfz27_8 := blk_frozen BK146.out 8
                go_wp2
                go_ret
                exact ⟨by first | rfl | (simp [errW_none, errW_some] <;> rfl) | (simp [*, errW_none, errW_some] <;> rfl), by repeat (first | (with_reducible first | exact HB.out | apply below_alloc | apply pw_below_drewN | apply below_drew1 | refine below_set ?_ GE145.out | refine below_set ?_ GE146.out) | exact HB.out)⟩
            · rw [if_neg c13] at H
              have c13b0 : (a0_5 == a1_5) = false := beq_eq_false_iff_ne.mpr c13
              have c13b1 : (a0_5 != a1_5) = true := bne_iff_ne.mpr c13
              obtain rfl := Option.some.inj H
              have hnb28 := NB145_146.out
              have hnc28 := NB146_145.out
              have hcz29_0 : w4.cell? ⟨gb145, 0, none⟩ = some (.int .i64 a0_0) := (blk_cell BK145.out 0).trans rfl
              have hcz29_1 : w4.cell? ⟨gb145, 1, none⟩ = some (.int .i64 a0_1) := (blk_cell BK145.out 1).trans rfl
              have hcz29_2 : w4.cell? ⟨gb145, 2, none⟩ = some (.int .i64 a0_2) := (blk_cell BK145.out 2).trans rfl
              have hcz29_3 : w4.cell? ⟨gb145, 3, none⟩ = some (.int .i64 a0_3) := (blk_cell BK145.out 3).trans rfl
              have hcz29_4 : w4.cell? ⟨gb145, 4, none⟩ = some (.int .i64 a0_4) := (blk_cell BK145.out 4).trans rfl
              have hcz29_5 : w4.cell? ⟨gb145, 5, none⟩ = some (.int .i64 a0_5) := (blk_cell BK145.out 5).trans rfl
              have hcz29_6 : w4.cell? ⟨gb145, 6, none⟩ = some (.int .i64 a0_6) := (blk_cell BK145.out 6).trans rfl
              have hcz29_7 : w4.cell? ⟨gb145, 7, none⟩ = some (.bool a0_7) := (blk_cell BK145.out 7).trans rfl
              have hcz29_8 : w4.cell? ⟨gb145, 8, none⟩ = some (.slice A0_8 l0_8.length c0_8) := (blk_cell BK145.out 8).trans rfl
              have hfz29_0 := blk_frozen BK145.out 0
              have hfz29_1 := blk_frozen BK145.out 1
              have hfz29_2 := blk_frozen BK145.out 2
              have hfz29_3 := blk_frozen BK145.out 3
              have hfz29_4 := blk_frozen BK145.out 4
              have hfz29_5 := blk_frozen BK145.out 5
              have hfz29_6 := blk_frozen BK145.out 6
              have hfz29_7 := blk_frozen BK145.out 7
              have hfz29_8 := blk_frozen BK145.out 8
              have hcz30_0 : w4.cell? ⟨gb146, 0, none⟩ = some (.int .i64 a1_0) := (blk_cell BK146.out 0).trans rfl
              have hcz30_1 : w4.cell? ⟨gb146, 1, none⟩ = some (.int .i64 a1_1) := (blk_cell BK146.out 1).trans rfl
              have hcz30_2 : w4.cell? ⟨gb146, 2, none⟩ = some (.int .i64 a1_2) := (blk_cell BK146.out 2).trans rfl
              have hcz30_3 : w4.cell? ⟨gb146, 3, none⟩ = some (.int .i64 a1_3) := (blk_cell BK146.out 3).trans rfl
              have hcz30_4 : w4.cell? ⟨gb146, 4, none⟩ = some (.int .i64 a1_4) := (blk_cell BK146.out 4).trans rfl
              have hcz30_5 : w4.cell? ⟨gb146, 5, none⟩ = some (.int .i64 a1_5) := (blk_cell BK146.out 5).trans rfl
              have hcz30_6 : w4.cell? ⟨gb146, 6, none⟩ = some (.int .i64 a1_6) := (blk_cell BK146.out 6).trans rfl
              have hcz30_7 : w4.cell? ⟨gb146, 7, none⟩ = some (.bool a1_7) := (blk_cell BK146.out 7).trans rfl
              have hcz30_8 : w4.cell? ⟨gb146, 8, none⟩ = some (.slice A1_8 l1_8.length c1_8) := (blk_cell BK146.out 8).trans rfl
              have hfz30_0 := blk_frozen BK146.out 0
              have hfz30_1 := blk_frozen BK146.out 1
              have hfz30_2 := blk_frozen BK146.out 2
              have hfz30_3 := blk_frozen BK146.out 3
              have hfz30_4 := blk_frozen BK146.out 4
              have hfz30_5 := blk_frozen BK146.out 5
              have hfz30_6 := blk_frozen BK146.out 6
              have hfz30_7 := blk_frozen BK146.out 7
              have hfz30_8 := blk_frozen BK146.out 8
              go_wp2
              go_ret
              exact ⟨by first | rfl | (simp [errW_none, errW_some] <;> rfl) | (simp [*, errW_none, errW_some] <;> rfl), by repeat (first | (with_reducible first | exact HB.out | apply below_alloc | apply pw_below_drewN | apply below_drew1 | refine below_set ?_ GE145.out | refine below_set ?_ GE146.out) | exact HB.out)⟩
          · rw [if_neg c12] at H
            have c12b0 : (a0_4 == a1_4) = false := beq_eq_false_iff_ne.mpr c12
            have c12b1 : (a0_4 != a1_4) = true := bne_iff_ne.mpr c12
            obtain rfl := Option.some.inj H
            have hnb31 := NB145_146.out
            have hnc31 := NB146_145.out
            have hcz32_0 : w4.cell? ⟨gb145, 0, none⟩ = some (.int .i64 a0_0) := (blk_cell BK145.out 0).trans rfl
            have hcz32_1 : w4.cell? ⟨gb145, 1, none⟩ = some (.int .i64 a0_1) := (blk_cell BK145.out 1).trans rfl
            have hcz32_2 : w4.cell? ⟨gb145, 2, none⟩ = some (.int .i64 a0_2) := (blk_cell BK145.out 2).trans rfl
            have hcz32_3 : w4.cell? ⟨gb145, 3, none⟩ = some (.int .i64 a0_3) := (blk_cell BK145.out 3).trans rfl
            have hcz32_4 : w4.cell? ⟨gb145, 4, none⟩ = some (.int .i64 a0_4) := (blk_cell BK145.out 4).trans rfl
            have hcz32_5 : w4.cell? ⟨gb145, 5, none⟩ = some (.int .i64 a0_5) := (blk_cell BK145.out 5).trans rfl
            have hcz32_6 : w4.cell? ⟨gb145, 6, none⟩ = some (.int .i64 a0_6) := (blk_cell BK145.out 6).trans rfl
            have hcz32_7 : w4.cell? ⟨gb145, 7, none⟩ = some (.bool a0_7) := (blk_cell BK145.out 7).trans rfl
            have hcz32_8 : w4.cell? ⟨gb145, 8, none⟩ = some (.slice A0_8 l0_8.length c0_8) := (blk_cell BK145.out 8).trans rfl
            have hfz32_0 := blk_frozen BK145.out 0
            have hfz32_1 := blk_frozen BK145.out 1
            have hfz32_2 := blk_frozen BK145.out 2
            have hfz32_3 := blk_frozen BK145.out 3
            have hfz32_4 := blk_frozen BK145.out 4
            have hfz32_5 := blk_frozen BK145.out 5
            have hfz32_6 := blk_frozen BK145.out 6
            have hfz32_7 := blk_frozen BK145.out 7
            have hfz32_8 := blk_frozen BK145.out 8
            have hcz33_0 : w4.cell? ⟨gb146, 0, none⟩ = some (.int .i64 a1_0) := (blk_cell BK146.out 0).trans rfl
            have hcz33_1 : w4.cell? ⟨gb146, 1, none⟩ = some (.int .i64 a1_1) := (blk_cell BK146.out 1).trans rfl
            have hcz33_2 : w4.cell? ⟨gb146, 2, none⟩ = some (.int .i64 a1_2) := (blk_cell BK146.out 2).trans rfl
            have hcz33_3 : w4.cell? ⟨gb146, 3, none⟩ = some (.int .i64 a1_3) := (blk_cell BK146.out 3).trans rfl
            have hcz33_4 : w4.cell? ⟨gb146, 4, none⟩ = some (.int .i64 a1_4) := (blk_cell BK146.out 4).trans rfl
            have hcz33_5 : w4.cell? ⟨gb146, 5, none⟩ = some (.int .i64 a1_5) := (blk_cell BK146.out 5).trans rfl
            have hcz33_6 : w4.cell? ⟨gb146, 6, none⟩ = some (.int .i64 a1_6) := (blk_cell BK146.out 6).trans rfl
            have hcz33_7 : w4.cell? ⟨gb146, 7, none⟩ = some (.bool a1_7) := (blk_cell BK146.out 7).trans rfl
            have hcz33_8 : w4.cell? ⟨gb146, 8, none⟩ = some (.slice A1_8 l1_8.length c1_8) := (blk_cell BK146.out 8).trans rfl
            have hfz33_0 := blk_frozen BK146.out 0
            have hfz33_1 := blk_frozen BK146.out 1
            have hfz33_2 := blk_frozen BK146.out 2
            have hfz33_3 := blk_frozen BK146.out 3
            have hfz33_4 := blk_frozen BK146.out 4
            have hfz33_5 := blk_frozen BK146.out 5
            have hfz33_6 := blk_frozen BK146.out 6
            have hfz33_7 := blk_frozen BK146.out 7
            have hfz33_8 := blk_frozen BK146.out 8
            go_wp2
            go_ret
            exact ⟨by first | rfl | (simp [errW_none, errW_some] <;> rfl) | (simp [*, errW_none, errW_some] <;> rfl), by repeat (first | (with_reducible first | exact HB.out | apply below_alloc | apply pw_below_drewN | apply below_drew1 | refine below_set ?_ GE145.out | refine below_set ?_ GE146.out) | exact HB.out)⟩
        · rw [if_neg c11] at H
          have c11b0 : (a0_3 == a1_3) = false := beq_eq_false_iff_ne.mpr c11
          have c11b1 : (a0_3 != a1_3) = true := bne_iff_ne.mpr c11
          obtain rfl := Option.some.inj H
          have hnb34 := NB145_146.out
          have hnc34 := NB146_145.out
          have hcz35_0 : w4.cell? ⟨gb145, 0, none⟩ = some (.int .i64 a0_0) := (blk_cell BK145.out 0).trans rfl
          have hcz35_1 : w4.cell? ⟨gb145, 1, none⟩ = some (.int .i64 a0_1) := (blk_cell BK145.out 1).trans rfl
          have hcz35_2 : w4.cell? ⟨gb145, 2, none⟩ = some (.int .i64 a0_2) := (blk_cell BK145.out 2).trans rfl
          have hcz35_3 : w4.cell? ⟨gb145, 3, none⟩ = some (.int .i64 a0_3) := (blk_cell BK145.out 3).trans rfl
          have hcz35_4 : w4.cell? ⟨gb145, 4, none⟩ = some (.int .i64 a0_4) := (blk_cell BK145.out 4).trans rfl
          have hcz35_5 : w4.cell? ⟨gb145, 5, none⟩ = some (.int .i64 a0_5) := (blk_cell BK145.out 5).trans rfl
          have hcz35_6 : w4.cell? ⟨gb145, 6, none⟩ = some (.int .i64 a0_6) := (blk_cell BK145.out 6).trans rfl
          have hcz35_7 : w4.cell? ⟨gb145, 7, none⟩ = some (.bool a0_7) := (blk_cell BK145.out 7).trans rfl
          have hcz35_8 : w4.cell? ⟨gb145, 8, none⟩ = some (.slice A0_8 l0_8.length c0_8) := (blk_cell BK145.out 8).trans rfl
          have hfz35_0 := blk_frozen BK145.out 0
          have hfz35_1 := blk_frozen BK145.out 1
          have hfz35_2 := blk_frozen BK145.out 2
          have hfz35_3 := blk_frozen BK145.out 3
          have hfz35_4 := blk_frozen BK145.out 4
          have hfz35_5 := blk_frozen BK145.out 5
          have hfz35_6 := blk_frozen BK145.out 6
          have hfz35_7 := blk_frozen BK145.out 7
          have hfz35_8 := blk_frozen BK145.out 8
          have hcz36_0 : w4.cell? ⟨gb146, 0, none⟩ = some (.int .i64 a1_0) := (blk_cell BK146.out 0).trans rfl
          have hcz36_1 : w4.cell? ⟨gb146, 1, none⟩ = some (.int .i64 a1_1) := (blk_cell BK146.out 1).trans rfl
          have hcz36_2 : w4.cell? ⟨gb146, 2, none⟩ = some (.int .i64 a1_2) := (blk_cell BK146.out 2).trans rfl
          have hcz36_3 : w4.cell? ⟨gb146, 3, none⟩ = some (.int .i64 a1_3) := (blk_cell BK146.out 3).trans rfl
          have hcz36_4 : w4.cell? ⟨gb146, 4, none⟩ = some (.int .i64 a1_4) := (blk_cell BK146.out 4).trans rfl
          have hcz36_5 : w4.cell? ⟨gb146, 5, none⟩ = some (.int .i64 a1_5) := (blk_cell BK146.out 5).trans rfl
          have hcz36_6 : w4.cell? ⟨gb146, 6, none⟩ = some (.int .i64 a1_6) := (blk_cell BK146.out 6).trans rfl
          have hcz36_7 : w4.cell? ⟨gb146, 7, none⟩ = some (.bool a1_7) := (blk_cell BK146.out 7).trans rfl
          have hcz36_8 : w4.cell? ⟨gb146, 8, none⟩ = some (.slice A1_8 l1_8.length c1_8) := (blk_cell BK146.out 8).trans rfl
          have hfz36_0 := blk_frozen BK146.out 0
          have hfz36_1 := blk_frozen BK146.out 1
          have hfz36_2 := blk_frozen BK146.out 2
          have hfz36_3 := blk_frozen BK146.out 3
          have hfz36_4 := blk_frozen BK146.out 4
          have hfz36_5 := blk_frozen BK146.out 5
          have hfz36_6 := blk_frozen BK146.out 6
          have hfz36_7 := blk_frozen BK146.out 7
          have hfz36_8 := blk_frozen BK146.out 8
          go_wp2
          go_ret
          exact ⟨by first | rfl | (simp [errW_none, errW_some] <;> rfl) | (simp [*, errW_none, errW_some] <;> rfl), by repeat (first | (with_reducible first | exact HB.out | apply below_alloc | apply pw_below_drewN | apply below_drew1 | refine below_set ?_ GE145.out | refine below_set ?_ GE146.out) | exact HB.out)⟩
      · rw [if_neg c10] at H
        have c10b0 : (a0_2 == a1_2) = false := beq_eq_false_iff_ne.mpr c10
        have c10b1 : (a0_2 != a1_2) = true := bne_iff_ne.mpr c10
        obtain rfl := Option.some.inj H
        have hnb37 := NB145_146.out
        have hnc37 := NB146_145.out
        have hcz38_0 : w4.cell? ⟨gb145, 0, none⟩ = some (.int .i64 a0_0) := (blk_cell BK145.out 0).trans rfl
        have hcz38_1 : w4.cell? ⟨gb145, 1, none⟩ = some (.int .i64 a0_1) := (blk_cell BK145.out 1).trans rfl
        have hcz38_2 : w4.cell? ⟨gb145, 2, none⟩ = some (.int .i64 a0_2) := (blk_cell BK145.out 2).trans rfl
        have hcz38_3 : w4.cell? ⟨gb145, 3, none⟩ = some (.int .i64 a0_3) := (blk_cell BK145.out 3).trans rfl
        have hcz38_4 : w4.cell? ⟨gb145, 4, none⟩ = some (.int .i64 a0_4) := (blk_cell BK145.out 4).trans rfl
        have hcz38_5 : w4.cell? ⟨gb145, 5, none⟩ = some (.int .i64 a0_5) := (blk_cell BK145.out 5).trans rfl
        have hcz38_6 : w4.cell? ⟨gb145, 6, none⟩ = some (.int .i64 a0_6) := (blk_cell BK145.out 6).trans rfl
        have hcz38_7 : w4.cell? ⟨gb145, 7, none⟩ = some (.bool a0_7) := (blk_cell BK145.out 7).trans rfl
        have hcz38_8 : w4.cell? ⟨gb145, 8, none⟩ = some (.slice A0_8 l0_8.length c0_8) := (blk_cell BK145.out 8).trans rfl
        have hfz38_0 := blk_frozen BK145.out 0
        have hfz38_1 := blk_frozen BK145.out 1
        have hfz38_2 := blk_frozen BK145.out 2
        have hfz38_3 := blk_frozen BK145.out 3
        have hfz38_4 := blk_frozen BK145.out 4
        have hfz38_5 := blk_frozen BK145.out 5
        have hfz38_6 := blk_frozen BK145.out 6
        have hfz38_7 := blk_frozen BK145.out 7
        have hfz38_8 := blk_frozen BK145.out 8
        have hcz39_0 : w4.cell? ⟨gb146, 0, none⟩ = some (.int .i64 a1_0) := (blk_cell BK146.out 0).trans rfl
        have hcz39_1 : w4.cell? ⟨gb146, 1, none⟩ = some (.int .i64 a1_1) := (blk_cell BK146.out 1).trans rfl
        have hcz39_2 : w4.cell? ⟨gb146, 2, none⟩ = some (.int .i64 a1_2) := (blk_cell BK146.out 2).trans rfl
        have hcz39_3 : w4.cell? ⟨gb146, 3, none⟩ = some (.int .i64 a1_3) := (blk_cell BK146.out 3).trans rfl
        have hcz39_4 : w4.cell? ⟨gb146, 4, none⟩ = some (.int .i64 a1_4) := (blk_cell BK146.out 4).trans rfl
        have hcz39_5 : w4.cell? ⟨gb146, 5, none⟩ = some (.int .i64 a1_5) := (blk_cell BK146.out 5).trans rfl
        have hcz39_6 : w4.cell? ⟨gb146, 6, none⟩ = some (.int .i64 a1_6) := (blk_cell BK146.out 6).trans rfl
        have hcz39_7 : w4.cell? ⟨gb146, 7, none⟩ = some (.bool a1_7) := (blk_cell BK146.out 7).trans rfl
        have hcz39_8 : w4.cell? ⟨gb146, 8, none⟩ = some (.slice A1_8 l1_8.length c1_8) := (blk_cell BK146.out 8).trans rfl
        have hfz39_0 := blk_frozen BK146.out 0
        have hfz39_1 := blk_frozen BK146.out 1
        have hfz39_2 := blk_frozen BK146.out 2
        have hfz39_3 := blk_frozen BK146.out 3
        have hfz39_4 := blk_frozen BK146.out 4
        have hfz39_5 := blk_frozen BK146.out 5
        have hfz39_6 := blk_frozen BK146.out 6
        have hfz39_7 := blk_frozen BK146.out 7
        have hfz39_8 := blk_frozen BK146.out 8
        go_wp2
        go_ret
        exact ⟨by first | rfl | (simp [errW_none, errW_some] <;> rfl) | (simp [*, errW_none, errW_some] <;> rfl), by repeat (first | (with_reducible first | exact HB.out | apply below_alloc | apply pw_below_drewN | apply below_drew1 | refine below_set ?_ GE145.out | refine below_set ?_ GE146.out) | exact HB.out)⟩
    · rw [if_neg c9] at H
      have c9b0 : (a0_1 == a1_1) = false := beq_eq_false_iff_ne.mpr c9
      have c9b1 : (a0_1 != a1_1) = true := bne_iff_ne.mpr c9
      obtain rfl := Option.some.inj H
      have hnb40 := NB145_146.out
      have hnc40 := NB146_145.out
      have hcz41_0 : w4.cell? ⟨gb145, 0, none⟩ = some (.int .i64 a0_0) := (blk_cell BK145.out 0).trans rfl
      have hcz41_1 : w4.cell? ⟨gb145, 1, none⟩ = some (.int .i64 a0_1) := (blk_cell BK145.out 1).trans rfl
      have hcz41_2 : w4.cell? ⟨gb145, 2, none⟩ = some (.int .i64 a0_2) := (blk_cell BK145.out 2).trans rfl
      have hcz41_3 : w4.cell? ⟨gb145, 3, none⟩ = some (.int .i64 a0_3) := (blk_cell BK145.out 3).trans rfl
      have hcz41_4 : w4.cell? ⟨gb145, 4, none⟩ = some (.int .i64 a0_4) := (blk_cell BK145.out 4).trans rfl
      have hcz41_5 : w4.cell? ⟨gb145, 5, none⟩ = some (.int .i64 a0_5) := (blk_cell BK145.out 5).trans rfl
      have hcz41_6 : w4.cell? ⟨gb145, 6, none⟩ = some (.int .i64 a0_6) := (blk_cell BK145.out 6).trans rfl
      have hcz41_7 : w4.cell? ⟨gb145, 7, none⟩ = some (.bool a0_7) := (blk_cell BK145.out 7).trans rfl
      have hcz41_8 : w4.cell? ⟨gb145, 8, none⟩ = some (.slice A0_8 l0_8.length c0_8) := (blk_cell BK145.out 8).trans rfl
      have hfz41_0 := blk_frozen BK145.out 0
      have hfz41_1 := blk_frozen BK145.out 1
      have hfz41_2 := blk_frozen BK145.out 2
      have hfz41_3 := blk_frozen BK145.out 3
      have hfz41_4 := blk_frozen BK145.out 4
      have hfz41_5 := blk_frozen BK145.out 5
      have hfz41_6 := blk_frozen BK145.out 6
      have hfz41_7 := blk_frozen BK145.out 7
      have hfz41_8 := blk_frozen BK145.out 8
      have hcz42_0 : w4.cell? ⟨gb146, 0, none⟩ = some (.int .i64 a1_0) := (blk_cell BK146.out 0).trans rfl
      have hcz42_1 : w4.cell? ⟨gb146, 1, none⟩ = some (.int .i64 a1_1) := (blk_cell BK146.out 1).trans rfl
      have hcz42_2 : w4.cell? ⟨gb146, 2, none⟩ = some (.int .i64 a1_2) := (blk_cell BK146.out 2).trans rfl
      have hcz42_3 : w4.cell? ⟨gb146, 3, none⟩ = some (.int .i64 a1_3) := (blk_cell BK146.out 3).trans rfl
      have hcz42_4 : w4.cell? ⟨gb146, 4, none⟩ = some (.int .i64 a1_4) := (blk_cell BK146.out 4).trans rfl
      have hcz42_5 : w4.cell? ⟨gb146, 5, none⟩ = some (.int .i64 a1_5) := (blk_cell BK146.out 5).trans rfl
      have hcz42_6 : w4.cell? ⟨gb146, 6, none⟩ = some (.int .i64 a1_6) := (blk_cell BK146.out 6).trans rfl
      have hcz42_7 : w4.cell? ⟨gb146, 7, none⟩ = some (.bool a1_7) := (blk_cell BK146.out 7).trans rfl
      have hcz42_8 : w4.cell? ⟨gb146, 8, none⟩ = some (.slice A1_8 l1_8.length c1_8) := (blk_cell BK146.out 8).trans rfl
      have hfz42_0 := blk_frozen BK146.out 0
      have hfz42_1 := blk_frozen BK146.out 1
      have hfz42_2 := blk_frozen BK146.out 2
      have hfz42_3 := blk_frozen BK146.out 3
      have hfz42_4 := blk_frozen BK146.out 4
      have hfz42_5 := blk_frozen BK146.out 5
      have hfz42_6 := blk_frozen BK146.out 6
      have hfz42_7 := blk_frozen BK146.out 7
      have hfz42_8 := blk_frozen BK146.out 8
      go_wp2
      go_ret
      exact ⟨by first | rfl | (simp [errW_none, errW_some] <;> rfl) | (simp [*, errW_none, errW_some] <;> rfl), by repeat (first | (with_reducible first | exact HB.out | apply below_alloc | apply pw_below_drewN | apply below_drew1 | refine below_set ?_ GE145.out | refine below_set ?_ GE146.out) | exact HB.out)⟩
  · rw [if_neg c8] at H
    have c8b0 : (a0_0 == a1_0) = false := beq_eq_false_iff_ne.mpr c8
    have c8b1 : (a0_0 != a1_0) = true := bne_iff_ne.mpr c8
    (first | rw [c8b0] | (simp only [i64_w, i32_w]; rw [c8b0]) | skip)
    obtain rfl := Option.some.inj H
    go_wp2
    go_ret
    exact ⟨by first | rfl | (simp [errW_none, errW_some] <;> rfl) | (simp [*, errW_none, errW_some] <;> rfl), by repeat (first | (with_reducible first | exact HB.out | apply below_alloc | apply pw_below_drewN | apply below_drew1 | refine below_set ?_ GE145.out | refine below_set ?_ GE146.out) | exact HB.out)⟩

end Go.Proofs.Ytkcadcoohmofcaa.QFnExactNewGroup
