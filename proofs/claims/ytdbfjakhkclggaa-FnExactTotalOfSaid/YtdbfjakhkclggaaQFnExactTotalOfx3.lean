-- Printed by the session's own program wip/prx.py.
import Derived.Test.YtdbfjakhkclggaaQFnExactTotalOfx0
import Derived.Test.YtdbfjakhkclggaaQFnExactTotalOfx2
namespace Go.Proofs.Ytdbfjakhkclggaa.QFnExactTotalOf
open Go.RowKit Go.Proofs.YtdbfjakhkclggaaW.PrintWords Go.Proofs.YtdbfjakhkclggaaW.PrintLast Go.Proofs.YtdbfjakhkclggaaW.PrintMore
attribute [local go_sem] max2_int min2_int max_two min_two max_three min_three max_four min_four Go.Proofs.Ytdbfjakhkclggaa.Set.isSome_setCell Go.Proofs.Ytdbfjakhkclggaa.Add.add64   -- for this text's walks alone
set_option linter.unusedVariables false
set_option linter.unusedSimpArgs false

-- squeezed
theorem u3_0 {P : Prop} (h : P := by repeat (first | (with_reducible first | exact HB.out | apply below_alloc | apply pw_below_drewN | apply below_drew1 | refine below_set ?_ GE138.out) | exact HB.out)) : P := h
theorem u3_1 {P : Prop} (h : P := by (with_reducible repeat (first | refine blk_drewN ?_ _ | refine blk_drew ?_ | refine blk_alloc ?_ _)); exact BK138.out) : P := h
theorem u3_2 {P : Prop} (h : P := by first | (with_reducible assumption) | assumption) : P := h
theorem u3_3 {P : Prop} (h : P := by repeat (first | (with_reducible first | exact HB.out | apply below_alloc | apply pw_below_drewN | apply below_drew1) | exact HB.out)) : P := h
theorem u3_4 {P : Prop} (h : P := by first | (rw [add_block]; exact hn141_0) | (show (Addr.add _ _).block ≠ _; rw [add_block]; exact hn141_0) | exact hn141_0) : P := h
theorem u3_5 {P : Prop} (h : P := by first | (rw [add_block]; exact hn141_1) | (show (Addr.add _ _).block ≠ _; rw [add_block]; exact hn141_1) | exact hn141_1) : P := h
theorem u3_6 {P : Prop} (h : P := by first | (rw [add_block]; exact hn141_2) | (show (Addr.add _ _).block ≠ _; rw [add_block]; exact hn141_2) | exact hn141_2) : P := h
theorem u3_7 {P : Prop} (h : P := by first | (rw [add_block]; exact hn141_3) | (show (Addr.add _ _).block ≠ _; rw [add_block]; exact hn141_3) | exact hn141_3) : P := h
theorem u3_8 {P : Prop} (h : P := by first | (rw [add_block]; exact hn141_4) | (show (Addr.add _ _).block ≠ _; rw [add_block]; exact hn141_4) | exact hn141_4) : P := h
theorem u3_9 {P : Prop} (h : P := by first | (rw [add_block]; exact hn142_0) | (show (Addr.add _ _).block ≠ _; rw [add_block]; exact hn142_0) | exact hn142_0) : P := h
theorem u3_10 {P : Prop} (h : P := by first | (rw [add_block]; exact hn142_1) | (show (Addr.add _ _).block ≠ _; rw [add_block]; exact hn142_1) | exact hn142_1) : P := h
theorem u3_11 {P : Prop} (h : P := by first | (rw [add_block]; exact hn142_2) | (show (Addr.add _ _).block ≠ _; rw [add_block]; exact hn142_2) | exact hn142_2) : P := h
theorem u3_12 {P : Prop} (h : P := by first | (rw [add_block]; exact hn142_3) | (show (Addr.add _ _).block ≠ _; rw [add_block]; exact hn142_3) | exact hn142_3) : P := h
theorem u3_13 {P : Prop} (h : P := by first | (rw [add_block]; exact hn142_4) | (show (Addr.add _ _).block ≠ _; rw [add_block]; exact hn142_4) | exact hn142_4) : P := h
theorem u3_14 {P : Prop} (h : P := by have := World.block_lt_of_cell? _ _ hx141_0; first | rwa [add_block] at this | exact this) : P := h
theorem u3_15 {P : Prop} (h : P := by have := World.block_lt_of_cell? _ _ hx142_0; first | rwa [add_block] at this | exact this) : P := h
theorem u3_16 {P : Prop} (h : P := by first | rfl | (simp; done) | (simp [*]; done)) : P := h
theorem u3_17 {P : Prop} (h : P := by repeat (first | (with_reducible first | exact HB.out | apply below_alloc | apply pw_below_drewN | apply below_drew1 | refine below_set ?_ GE134.out) | exact HB.out)) : P := h
theorem u3_18 {P : Prop} (h : P := by (with_reducible repeat (first | refine blk_drewN ?_ _ | refine blk_drew ?_ | refine blk_alloc ?_ _)); exact BK134.out) : P := h
theorem u3_19 {P : Prop} (h : P := by repeat (first | (with_reducible first | exact HB.out | apply below_alloc | apply pw_below_drewN | apply below_drew1 | refine below_set ?_ GE143.out) | exact HB.out)) : P := h
theorem u3_20 {P : Prop} (h : P := by (with_reducible repeat (first | refine blk_drewN ?_ _ | refine blk_drew ?_ | refine blk_alloc ?_ _)); exact BK143.out) : P := h
theorem u3_21 {P : Prop} (h : P := by first | rfl | (simp; done) | (simp only [← hji8] <;> (first | rfl | simp)) | (simp [*]; done)) : P := h
/-! ### spec_TotalOf: function 22 -/
def spec_TotalOf.l0 : Nat → Int → Int → Int → List (S53) → Option (Int × Int)
  | 0, _, _, _, _ => none
  | k + 1, x4, x5, x6, x135000 => if x6 < (x135000.length : Int) then (if 0 ≤ x6 then (if (IntKind.u64.wrap (((rd_T53 x135000 x6).f1) + ((rd_T53 x135000 x6).f2))) > (IntKind.u64.wrap (18446744073709551615 - x5)) then (spec_TotalOf.l0 k (IntKind.u64.wrap (x4 + 1)) (IntKind.u64.wrap (x5 + (IntKind.u64.wrap (((rd_T53 x135000 x6).f1) + ((rd_T53 x135000 x6).f2))))) (wrap64 (x6 + 1)) x135000) else (spec_TotalOf.l0 k x4 (IntKind.u64.wrap (x5 + (IntKind.u64.wrap (((rd_T53 x135000 x6).f1) + ((rd_T53 x135000 x6).f2))))) (wrap64 (x6 + 1)) x135000)) else (none)) else (some (x4, x5))
def spec_TotalOf.f (k : Nat) (l0_0 : List (S53)) : Option (Int × Int) := (spec_BookOk.f k l0_0).bind fun t135 => (if t135 = true then (spec_TotalOf.l0 k 0 0 0 l0_0) else (some (0, 0)))
theorem spec_TotalOf.mono_l : ∀ k, (∀ y0 y1 y2 y3, LeO (spec_TotalOf.l0 k y0 y1 y2 y3) (spec_TotalOf.l0 (k + 1) y0 y1 y2 y3))
  | 0 => fun _ _ _ _ r h => by simp [spec_TotalOf.l0] at h
  | k + 1 => by
    have ih0 := spec_TotalOf.mono_l k
    · intro y0 y1 y2 y3
      unfold spec_TotalOf.l0
      repeat' first
      | (with_reducible exact ih0 _ _ _ _)
      | (with_reducible exact spec_BookOk.mono _ _)
      | (with_reducible exact LeO.refl _)
      | (with_reducible exact LeO.none _)
      | (with_reducible refine LeO.ite ?_ ?_)
      | (with_reducible refine LeO.bind ?_ (fun _ => ?_))
      | exact ih0 _ _ _ _
      | exact spec_BookOk.mono _ _
      | exact LeO.none _
      | refine LeO.ite ?_ ?_
      | refine LeO.bind ?_ (fun _ => ?_)
theorem spec_TotalOf.mono : ∀ a0 k, LeO (spec_TotalOf.f k a0) (spec_TotalOf.f (k + 1) a0) := by
  intro a0 k
  have ih0 := spec_TotalOf.mono_l k
  unfold spec_TotalOf.f
  repeat' first
      | (with_reducible exact ih0 _ _ _ _)
      | (with_reducible exact spec_BookOk.mono _ _)
      | (with_reducible exact LeO.refl _)
      | (with_reducible exact LeO.none _)
      | (with_reducible refine LeO.ite ?_ ?_)
      | (with_reducible refine LeO.bind ?_ (fun _ => ?_))
      | exact ih0 _ _ _ _
      | exact spec_BookOk.mono _ _
      | exact LeO.none _
      | refine LeO.ite ?_ ?_
      | refine LeO.bind ?_ (fun _ => ?_)
set_option maxHeartbeats 8000000 in
set_option maxRecDepth 100000 in
theorem spec_TotalOf.calls (k : Nat) (A0_0 : Option Addr) (c0_0 : Nat) (l0_0 : List (S53)) (r1 : Int) (r2 : Int) (w : World) (hr0_0 : Kd.C k53 w A0_0 l0_0.length l0_0) (hc0_0 : l0_0.length ≤ c0_0) (h : spec_TotalOf.f k l0_0 = some (r1, r2)) :
    Calls Try.prog 22 #[.agg #[.slice A0_0 l0_0.length c0_0]] w fun e w' => e = .returned (.tuple #[.int .u64 r1, .int .u64 r2]) ∧ Below w.heap.size w w' := by
  have hu29 := Try.underlying29
  have HR0_0 := Aside0.mk hr0_0
  have HC0_0 := Aside0.mk hc0_0
  clear hr0_0 hc0_0
  have HB := Aside0.mk (Below.refl w.heap.size w)
  have H : ((spec_BookOk.f k l0_0).bind fun t135 => (if t135 = true then (spec_TotalOf.l0 k 0 0 0 l0_0) else (some (0, 0)))) = some (r1, r2) := h
  clear h
  replace H := Option.bind_eq_some_iff.mp H
  obtain ⟨t135, A20, H⟩ := H
  replace H : (if t135 = true then (spec_TotalOf.l0 k 0 0 0 l0_0) else (some (0, 0))) = some (r1, r2) := H
  have A2 := Aside0.mk A20
  clear A20
  by_cases c3 : t135 = true
  · subst c3
    have H1 : (spec_TotalOf.l0 k 0 0 0 l0_0) = some (r1, r2) := by rw [if_pos rfl] at H; exact H
    clear H
    have H := H1
    clear H1
    have H' := Aside0.mk H
    clear H
    go_enter Try.func22, Try.ntmps22
    go_wp2_with (first | (first | ((with_reducible refine gate_dst (N := 1) rfl ?_); refine box_event ?hg (N := 1) ?hd (cs := #[.slice A0_0 l0_0.length c0_0]) (t := 29) ?hr ?_; (case hd => rfl); (case hg => rfl); (case hr => first | (go_simp; done) | (go_simp; rfl)); intro gb134 hg w4 hbox hb; have n0_ := Aside0.mk (below_step u3_3 hb); have n1_ := Aside0.mk (hbox); have n2_ := Aside0.mk ((by rw [hg]; exact (below_size u3_3) : w.heap.size ≤ gb134)); have n3_ := Aside0.mk ((by rw [hg]; exact (below_size u3_3) : w.heap.size ≤ gb134)); clear HB; have HB := n0_; have BK134 := n1_; have GW134 := n2_; have GE134 := n3_; clear n0_ n1_ n2_ n3_; clear hb hbox hg; have hcz5_0 : w4.cell? ⟨gb134, 0, none⟩ = some (.slice A0_0 l0_0.length c0_0) := (blk_cell BK134.out 0).trans rfl; have hfz5_0 := blk_frozen BK134.out 0) | (go_at_call 18; (with_reducible refine (spec_BookOk.calls k _ _ l0_0 true _ ?side1 ?side2 A2.out).mono ?_); (case side1 => repeat (first | exact (Kd.C_below HR0_0.out HB.out) | (with_reducible refine Kd.C_alloc ?_ _) | (with_reducible refine Kd.C_drewN ?_ _) | (with_reducible refine Kd.C_drew ?_))); (case side2 => exact HC0_0.out); rintro e w6 ⟨rfl, hb⟩; have n0_ := Aside0.mk (blk_below (g := gb134) (o := .cells #[.slice A0_0 l0_0.length c0_0] 29 (0, 0)) u3_18 hb); have n1_ := Aside0.mk (below_step u3_17 hb); clear BK134; clear HB; have BK134 := n0_; have HB := n1_; clear n0_ n1_; (try clear hb); (try clear hb2); (try clear hk); (try clear hi))) | go_quiet (first | (go_at_call 18; (with_reducible refine (spec_BookOk.calls k _ _ l0_0 true _ ?side1 ?side2 A2.out).mono ?_); (case side1 => repeat (first | exact (Kd.C_below HR0_0.out HB.out) | (with_reducible refine Kd.C_alloc ?_ _) | (with_reducible refine Kd.C_drewN ?_ _) | (with_reducible refine Kd.C_drew ?_))); (case side2 => exact HC0_0.out); rintro e w6 ⟨rfl, hb⟩; have n0_ := Aside0.mk (blk_below (g := gb134) (o := .cells #[.slice A0_0 l0_0.length c0_0] 29 (0, 0)) u3_18 hb); have n1_ := Aside0.mk (below_step u3_17 hb); clear BK134; clear HB; have BK134 := n0_; have HB := n1_; clear n0_ n1_; (try clear hb); (try clear hb2); (try clear hk); (try clear hi))))
    go_loopg [4, 5, 6] k (fun kq v4 v5 v6 w' => ∃ (x4_1 : Int) (x5_1 : Int) (x6_1 : Int), v4 = .int .u64 x4_1 ∧ v5 = .int .u64 x5_1 ∧ v6 = .int .i64 x6_1 ∧ Aside0 (spec_TotalOf.l0 kq x4_1 x5_1 x6_1 l0_0 = some (r1, r2)) ∧ Aside0 (kq ≤ k) ∧ Aside0 (w'.heap[gb134]? = some (.cells #[(.slice A0_0 l0_0.length c0_0)] 29 (0, 0))) ∧ Aside0 (Below w.heap.size w w'))
    case atStart => exact ⟨(0), (0), (0), u3_16, u3_16, u3_16, H', ⟨Nat.le_refl _⟩, ⟨by (with_reducible repeat (first | refine blk_drewN ?_ _ | refine blk_drew ?_ | refine blk_alloc ?_ _)); exact BK134.out⟩, ⟨by repeat (first | (with_reducible first | exact HB.out | apply below_alloc | apply pw_below_drewN | apply below_drew1 | refine below_set ?_ GE134.out) | exact HB.out)⟩⟩
    case round =>
      clear H'
      try clear c2
      try clear p2
      try clear c3
      try clear hcz5_0
      try clear hfz5_0
      obtain ⟨x4_1, x5_1, x6_1, rfl, rfl, rfl, HA, HK1, BK134, HB⟩ := hrel
      cases gk with
      | zero => exact absurd HA.out (by simp [spec_TotalOf.l0])
      | succ k1 =>
        have H := HA.out
        clear HA
        simp only [spec_TotalOf.l0] at H
        by_cases c7 : x6_1 < (l0_0.length : Int)
        · rw [if_pos c7] at H
          have c7b0 : decide (x6_1 < (l0_0.length : Int)) = true := decide_eq_true c7
          clear c7
          by_cases c8 : 0 ≤ x6_1
          · rw [if_pos c8] at H
            have c8b0 : decide (0 ≤ x6_1) = true := decide_eq_true c8
            clear c8
            by_cases c9 : (IntKind.u64.wrap (((rd_T53 l0_0 x6_1).f1) + ((rd_T53 l0_0 x6_1).f2))) > (IntKind.u64.wrap (18446744073709551615 - x5_1))
            · rw [if_pos c9] at H
              have c9b0 : decide ((IntKind.u64.wrap (18446744073709551615 - x5_1)) < (IntKind.u64.wrap (((rd_T53 l0_0 x6_1).f1) + ((rd_T53 l0_0 x6_1).f2)))) = true := decide_eq_true c9
              clear c9
              have H' := Aside0.mk H
              clear H
              have hcz10_0 : wr.cell? ⟨gb134, 0, none⟩ = some (.slice A0_0 l0_0.length c0_0) := (blk_cell BK134.out 0).trans rfl
              have hfz10_0 := blk_frozen BK134.out 0
              have p136 : 0 ≤ (x6_1 : Int) := of_decide_eq_true u3_2
              have q136 : x6_1 < (l0_0.length : Int) := of_decide_eq_true u3_2
              obtain ⟨ad136, e136, hx136_0, hx136_1, hx136_2, hx136_3, hx136_4⟩ := at_T53 HR0_0.out x6_1 p136 q136
              cases e136
              replace hx136_0 := (HB.out.cell (World.block_lt_of_cell? w _ hx136_0)).trans hx136_0
              replace hx136_1 := (HB.out.cell (World.block_lt_of_cell? w _ hx136_1)).trans hx136_1
              replace hx136_2 := (HB.out.cell (World.block_lt_of_cell? w _ hx136_2)).trans hx136_2
              replace hx136_3 := (HB.out.cell (World.block_lt_of_cell? w _ hx136_3)).trans hx136_3
              replace hx136_4 := (HB.out.cell (World.block_lt_of_cell? w _ hx136_4)).trans hx136_4
              replace p136 := eq_true p136
              replace q136 := eq_true q136
              have p137 : 0 ≤ (x6_1 : Int) := of_decide_eq_true u3_2
              have q137 : x6_1 < (l0_0.length : Int) := of_decide_eq_true u3_2
              obtain ⟨ad137, e137, hx137_0, hx137_1, hx137_2, hx137_3, hx137_4⟩ := at_T53 HR0_0.out x6_1 p137 q137
              obtain rfl : ad136 = ad137 := (by injection e137)
              replace hx137_0 := (HB.out.cell (World.block_lt_of_cell? w _ hx137_0)).trans hx137_0
              replace hx137_1 := (HB.out.cell (World.block_lt_of_cell? w _ hx137_1)).trans hx137_1
              replace hx137_2 := (HB.out.cell (World.block_lt_of_cell? w _ hx137_2)).trans hx137_2
              replace hx137_3 := (HB.out.cell (World.block_lt_of_cell? w _ hx137_3)).trans hx137_3
              replace hx137_4 := (HB.out.cell (World.block_lt_of_cell? w _ hx137_4)).trans hx137_4
              replace p137 := eq_true p137
              replace q137 := eq_true q137
              go_wp2
              repeat (go_quiet (fail); try go_wp2)
              go_roundg k1
              case measure => have := HK1.out; omega
              case rel => exact ⟨(IntKind.u64.wrap (x4_1 + 1)), (IntKind.u64.wrap (x5_1 + (IntKind.u64.wrap (((rd_T53 l0_0 x6_1).f1) + ((rd_T53 l0_0 x6_1).f2))))), (wrap64 (x6_1 + 1)), u3_16, u3_16, u3_16, H', ⟨by have := HK1.out; omega⟩, ⟨by (with_reducible repeat (first | refine blk_drewN ?_ _ | refine blk_drew ?_ | refine blk_alloc ?_ _)); exact BK134.out⟩, ⟨by repeat (first | (with_reducible first | exact HB.out | apply below_alloc | apply pw_below_drewN | apply below_drew1 | refine below_set ?_ GE134.out) | exact HB.out)⟩⟩
            · rw [if_neg c9] at H
              have c9b0 : decide ((IntKind.u64.wrap (18446744073709551615 - x5_1)) < (IntKind.u64.wrap (((rd_T53 l0_0 x6_1).f1) + ((rd_T53 l0_0 x6_1).f2)))) = false := decide_eq_false c9
              clear c9
              have H' := Aside0.mk H
              clear H
              have hcz11_0 : wr.cell? ⟨gb134, 0, none⟩ = some (.slice A0_0 l0_0.length c0_0) := (blk_cell BK134.out 0).trans rfl
              have hfz11_0 := blk_frozen BK134.out 0
              have p136 : 0 ≤ (x6_1 : Int) := of_decide_eq_true u3_2
              have q136 : x6_1 < (l0_0.length : Int) := of_decide_eq_true u3_2
              obtain ⟨ad136, e136, hx136_0, hx136_1, hx136_2, hx136_3, hx136_4⟩ := at_T53 HR0_0.out x6_1 p136 q136
              cases e136
              replace hx136_0 := (HB.out.cell (World.block_lt_of_cell? w _ hx136_0)).trans hx136_0
              replace hx136_1 := (HB.out.cell (World.block_lt_of_cell? w _ hx136_1)).trans hx136_1
              replace hx136_2 := (HB.out.cell (World.block_lt_of_cell? w _ hx136_2)).trans hx136_2
              replace hx136_3 := (HB.out.cell (World.block_lt_of_cell? w _ hx136_3)).trans hx136_3
              replace hx136_4 := (HB.out.cell (World.block_lt_of_cell? w _ hx136_4)).trans hx136_4
              replace p136 := eq_true p136
              replace q136 := eq_true q136
              have p137 : 0 ≤ (x6_1 : Int) := of_decide_eq_true u3_2
              have q137 : x6_1 < (l0_0.length : Int) := of_decide_eq_true u3_2
              obtain ⟨ad137, e137, hx137_0, hx137_1, hx137_2, hx137_3, hx137_4⟩ := at_T53 HR0_0.out x6_1 p137 q137
              obtain rfl : ad136 = ad137 := (by injection e137)
              replace hx137_0 := (HB.out.cell (World.block_lt_of_cell? w _ hx137_0)).trans hx137_0
              replace hx137_1 := (HB.out.cell (World.block_lt_of_cell? w _ hx137_1)).trans hx137_1
              replace hx137_2 := (HB.out.cell (World.block_lt_of_cell? w _ hx137_2)).trans hx137_2
              replace hx137_3 := (HB.out.cell (World.block_lt_of_cell? w _ hx137_3)).trans hx137_3
              replace hx137_4 := (HB.out.cell (World.block_lt_of_cell? w _ hx137_4)).trans hx137_4
              replace p137 := eq_true p137
              replace q137 := eq_true q137
              go_wp2
              repeat (go_quiet (fail); try go_wp2)
              go_roundg k1
              case measure => have := HK1.out; omega
              case rel => exact ⟨(x4_1), (IntKind.u64.wrap (x5_1 + (IntKind.u64.wrap (((rd_T53 l0_0 x6_1).f1) + ((rd_T53 l0_0 x6_1).f2))))), (wrap64 (x6_1 + 1)), u3_16, u3_16, u3_16, H', ⟨by have := HK1.out; omega⟩, ⟨by (with_reducible repeat (first | refine blk_drewN ?_ _ | refine blk_drew ?_ | refine blk_alloc ?_ _)); exact BK134.out⟩, ⟨by repeat (first | (with_reducible first | exact HB.out | apply below_alloc | apply pw_below_drewN | apply below_drew1 | refine below_set ?_ GE134.out) | exact HB.out)⟩⟩
          · rw [if_neg c8] at H
            exact absurd H (by simp)
        · rw [if_neg c7] at H
          have c7b0 : decide (x6_1 < (l0_0.length : Int)) = false := decide_eq_false c7
          clear c7
          simp only [Option.some.injEq, Prod.mk.injEq] at H
          obtain ⟨rfl, rfl⟩ := H
          have hcz12_0 : wr.cell? ⟨gb134, 0, none⟩ = some (.slice A0_0 l0_0.length c0_0) := (blk_cell BK134.out 0).trans rfl
          have hfz12_0 := blk_frozen BK134.out 0
          go_wp2
          repeat (go_quiet (fail); try go_wp2)
          go_ret2
          exact ⟨by first | rfl | (simp [errW_none, errW_some] <;> rfl) | (simp [*, errW_none, errW_some] <;> rfl), by repeat (first | (with_reducible first | exact HB.out | apply below_alloc | apply pw_below_drewN | apply below_drew1 | refine below_set ?_ GE134.out) | exact HB.out)⟩
  · replace c3 := Bool.eq_false_iff.mpr c3
    subst c3
    have H1 : (some (0, 0)) = some (r1, r2) := by rw [if_neg (show ¬ (false = true) by decide)] at H; exact H
    clear H
    have H := H1
    clear H1
    simp only [Option.some.injEq, Prod.mk.injEq] at H
    obtain ⟨rfl, rfl⟩ := H
    go_enter Try.func22, Try.ntmps22
    go_wp2_with (first | (first | ((with_reducible refine gate_dst (N := 1) rfl ?_); refine box_event ?hg (N := 1) ?hd (cs := #[.slice A0_0 l0_0.length c0_0]) (t := 29) ?hr ?_; (case hd => rfl); (case hg => rfl); (case hr => first | (go_simp; done) | (go_simp; rfl)); intro gb134 hg w13 hbox hb; have n0_ := Aside0.mk (below_step u3_3 hb); have n1_ := Aside0.mk (hbox); have n2_ := Aside0.mk ((by rw [hg]; exact (below_size u3_3) : w.heap.size ≤ gb134)); have n3_ := Aside0.mk ((by rw [hg]; exact (below_size u3_3) : w.heap.size ≤ gb134)); clear HB; have HB := n0_; have BK134 := n1_; have GW134 := n2_; have GE134 := n3_; clear n0_ n1_ n2_ n3_; clear hb hbox hg; have hcz14_0 : w13.cell? ⟨gb134, 0, none⟩ = some (.slice A0_0 l0_0.length c0_0) := (blk_cell BK134.out 0).trans rfl; have hfz14_0 := blk_frozen BK134.out 0) | (go_at_call 18; (with_reducible refine (spec_BookOk.calls k _ _ l0_0 false _ ?side1 ?side2 A2.out).mono ?_); (case side1 => repeat (first | exact (Kd.C_below HR0_0.out HB.out) | (with_reducible refine Kd.C_alloc ?_ _) | (with_reducible refine Kd.C_drewN ?_ _) | (with_reducible refine Kd.C_drew ?_))); (case side2 => exact HC0_0.out); rintro e w15 ⟨rfl, hb⟩; have n0_ := Aside0.mk (blk_below (g := gb134) (o := .cells #[.slice A0_0 l0_0.length c0_0] 29 (0, 0)) u3_18 hb); have n1_ := Aside0.mk (below_step u3_17 hb); clear BK134; clear HB; have BK134 := n0_; have HB := n1_; clear n0_ n1_; (try clear hb); (try clear hb2); (try clear hk); (try clear hi))) | go_quiet (first | (go_at_call 18; (with_reducible refine (spec_BookOk.calls k _ _ l0_0 false _ ?side1 ?side2 A2.out).mono ?_); (case side1 => repeat (first | exact (Kd.C_below HR0_0.out HB.out) | (with_reducible refine Kd.C_alloc ?_ _) | (with_reducible refine Kd.C_drewN ?_ _) | (with_reducible refine Kd.C_drew ?_))); (case side2 => exact HC0_0.out); rintro e w15 ⟨rfl, hb⟩; have n0_ := Aside0.mk (blk_below (g := gb134) (o := .cells #[.slice A0_0 l0_0.length c0_0] 29 (0, 0)) u3_18 hb); have n1_ := Aside0.mk (below_step u3_17 hb); clear BK134; clear HB; have BK134 := n0_; have HB := n1_; clear n0_ n1_; (try clear hb); (try clear hb2); (try clear hk); (try clear hi))))
    go_ret2
    exact ⟨by first | rfl | (simp [errW_none, errW_some] <;> rfl) | (simp [*, errW_none, errW_some] <;> rfl), by repeat (first | (with_reducible first | exact HB.out | apply below_alloc | apply pw_below_drewN | apply below_drew1 | refine below_set ?_ GE134.out) | exact HB.out)⟩

-- NOT PRINTED: function 76 (bits_Add64)

/-! ### impl_isBook: function 50 -/
def impl_isBook.l0 : Nat → List (S53) → Int → Int → List (S53) → Option (Bool)
  | 0, _, _, _, _ => none
  | k + 1, x10, x11, x12, x139000 => if x12 < x11 then (if 0 ≤ x12 then (if x12 < (x10.length : Int) then (if 0 ≤ ((rd_T53 x10 x12).f1) then (if 0 ≤ ((rd_T53 x10 x12).f2) then (if 0 ≤ (IntKind.u64.wrap (((rd_T53 x10 x12).f1) + ((rd_T53 x10 x12).f2))) then (if 0 ≤ ((rd_T53 x10 x12).f3) then (if (IntKind.u64.wrap (((((rd_T53 x10 x12).f1) + ((rd_T53 x10 x12).f2)) / 18446744073709551616) + (((IntKind.u64.wrap (((rd_T53 x10 x12).f1) + ((rd_T53 x10 x12).f2))) + ((rd_T53 x10 x12).f3)) / 18446744073709551616))) > 0 then (some false) else (if ((rd_T53 x10 x12).f4) < 0 then (some false) else (if ((rd_T53 x10 x12).f4) = 0 then (if ((rd_T53 x10 x12).f2) = 0 then (if ((rd_T53 x10 x12).f3) = 0 then (if x12 > 0 then (if 0 ≤ (wrap64 (x12 - 1)) then (if (wrap64 (x12 - 1)) < (x139000.length : Int) then (if ((rd_T53 x139000 (wrap64 (x12 - 1))).f0) ≥ ((rd_T53 x10 x12).f0) then (some false) else (impl_isBook.l0 k x10 x11 (wrap64 (x12 + 1)) x139000)) else (none)) else (none)) else (impl_isBook.l0 k x10 x11 (wrap64 (x12 + 1)) x139000)) else (some false)) else (some false)) else (if x12 > 0 then (if 0 ≤ (wrap64 (x12 - 1)) then (if (wrap64 (x12 - 1)) < (x139000.length : Int) then (if ((rd_T53 x139000 (wrap64 (x12 - 1))).f0) ≥ ((rd_T53 x10 x12).f0) then (some false) else (impl_isBook.l0 k x10 x11 (wrap64 (x12 + 1)) x139000)) else (none)) else (none)) else (impl_isBook.l0 k x10 x11 (wrap64 (x12 + 1)) x139000))))) else (none)) else (none)) else (none)) else (none)) else (none)) else (none)) else (some (decide ((x139000.length : Int) ≤ 40)))
def impl_isBook.f (k : Nat) (l0_0 : List (S53)) : Option (Bool) := impl_isBook.l0 k l0_0 (l0_0.length : Int) 0 l0_0
theorem impl_isBook.mono_l : ∀ k, (∀ y0 y1 y2 y3, LeO (impl_isBook.l0 k y0 y1 y2 y3) (impl_isBook.l0 (k + 1) y0 y1 y2 y3))
  | 0 => fun _ _ _ _ r h => by simp [impl_isBook.l0] at h
  | k + 1 => by
    have ih0 := impl_isBook.mono_l k
    · intro y0 y1 y2 y3
      unfold impl_isBook.l0
      repeat' first
      | (with_reducible exact ih0 _ _ _ _)
      | (with_reducible exact LeO.refl _)
      | (with_reducible exact LeO.none _)
      | (with_reducible refine LeO.ite ?_ ?_)
      | (with_reducible refine LeO.bind ?_ (fun _ => ?_))
      | exact ih0 _ _ _ _
      | exact LeO.none _
      | refine LeO.ite ?_ ?_
      | refine LeO.bind ?_ (fun _ => ?_)
theorem impl_isBook.mono : ∀ a0 k, LeO (impl_isBook.f k a0) (impl_isBook.f (k + 1) a0) := by
  intro a0 k
  have ih0 := impl_isBook.mono_l k
  unfold impl_isBook.f
  repeat' first
      | (with_reducible exact ih0 _ _ _ _)
      | (with_reducible exact LeO.refl _)
      | (with_reducible exact LeO.none _)
      | (with_reducible refine LeO.ite ?_ ?_)
      | (with_reducible refine LeO.bind ?_ (fun _ => ?_))
      | exact ih0 _ _ _ _
      | exact LeO.none _
      | refine LeO.ite ?_ ?_
      | refine LeO.bind ?_ (fun _ => ?_)
set_option maxHeartbeats 8000000 in
set_option maxRecDepth 100000 in
theorem impl_isBook.calls (k : Nat) (A0_0 : Option Addr) (c0_0 : Nat) (l0_0 : List (S53)) (r : Bool) (w : World) (hr0_0 : Kd.C k53 w A0_0 l0_0.length l0_0) (hc0_0 : l0_0.length ≤ c0_0) (h : impl_isBook.f k l0_0 = some r) :
    Calls Try.prog 50 #[.agg #[.slice A0_0 l0_0.length c0_0]] w fun e w' => e = .returned (.bool r) ∧ Below w.heap.size w w' := by
  have hu29 := Try.underlying29
  have hu53 := Try.underlying53
  have HR0_0 := Aside0.mk hr0_0
  have HC0_0 := Aside0.mk hc0_0
  clear hr0_0 hc0_0
  have HB := Aside0.mk (Below.refl w.heap.size w)
  have H : (impl_isBook.l0 k l0_0 (l0_0.length : Int) 0 l0_0) = some r := h
  clear h
  have H' := Aside0.mk H
  clear H
  go_enter Try.func50, Try.ntmps50
  go_wp2_with (first | (first | ((with_reducible refine gate_dst (N := 1) rfl ?_); refine box_event ?hg (N := 1) ?hd (cs := #[.slice A0_0 l0_0.length c0_0]) (t := 29) ?hr ?_; (case hd => rfl); (case hg => rfl); (case hr => first | (go_simp; done) | (go_simp; rfl)); intro gb138 hg w2 hbox hb; have n0_ := Aside0.mk (below_step u3_3 hb); have n1_ := Aside0.mk (hbox); have n2_ := Aside0.mk ((by rw [hg]; exact (below_size u3_3) : w.heap.size ≤ gb138)); have n3_ := Aside0.mk ((by rw [hg]; exact (below_size u3_3) : w.heap.size ≤ gb138)); clear HB; have HB := n0_; have BK138 := n1_; have GW138 := n2_; have GE138 := n3_; clear n0_ n1_ n2_ n3_; clear hb hbox hg; have hcz3_0 : w2.cell? ⟨gb138, 0, none⟩ = some (.slice A0_0 l0_0.length c0_0) := (blk_cell BK138.out 0).trans rfl; have hfz3_0 := blk_frozen BK138.out 0)) | go_quiet (fail))
  go_loopg [12] k (fun kq v12 w' => ∃ (x12_1 : Int), v12 = .int .i64 x12_1 ∧ Aside0 (impl_isBook.l0 kq l0_0 (l0_0.length : Int) x12_1 l0_0 = some r) ∧ Aside0 (kq ≤ k) ∧ Aside0 (w'.heap[gb138]? = some (.cells #[(.slice A0_0 l0_0.length c0_0)] 29 (0, 0))) ∧ Aside0 (Below w.heap.size w w'))
  case atStart => exact ⟨(0), u3_16, H', ⟨Nat.le_refl _⟩, ⟨by (with_reducible repeat (first | refine blk_drewN ?_ _ | refine blk_drew ?_ | refine blk_alloc ?_ _)); exact BK138.out⟩, ⟨by repeat (first | (with_reducible first | exact HB.out | apply below_alloc | apply pw_below_drewN | apply below_drew1 | refine below_set ?_ GE138.out) | exact HB.out)⟩⟩
  case round =>
    clear H'
    try clear p2
    try clear hcz3_0
    try clear hfz3_0
    obtain ⟨x12_1, rfl, HA, HK1, BK138, HB⟩ := hrel
    cases gk with
    | zero => exact absurd HA.out (by simp [impl_isBook.l0])
    | succ k1 =>
      have H := HA.out
      clear HA
      simp only [impl_isBook.l0] at H
      by_cases c4 : x12_1 < (l0_0.length : Int)
      · rw [if_pos c4] at H
        have c4b0 : decide (x12_1 < (l0_0.length : Int)) = true := decide_eq_true c4
        clear c4
        by_cases c5 : 0 ≤ x12_1
        · rw [if_pos c5] at H
          have c5b0 : decide (0 ≤ x12_1) = true := decide_eq_true c5
          clear c5
          by_cases c6 : x12_1 < (l0_0.length : Int)
          · rw [if_pos c6] at H
            have c6b0 : decide (x12_1 < (l0_0.length : Int)) = true := decide_eq_true c6
            clear c6
            by_cases c7 : 0 ≤ ((rd_T53 l0_0 x12_1).f1)
            · rw [if_pos c7] at H
              have c7b0 := eq_true c7
              have c7b1 : decide (0 ≤ ((rd_T53 l0_0 x12_1).f1)) = true := decide_eq_true c7
              clear c7
              by_cases c8 : 0 ≤ ((rd_T53 l0_0 x12_1).f2)
              · rw [if_pos c8] at H
                have c8b0 := eq_true c8
                have c8b1 : decide (0 ≤ ((rd_T53 l0_0 x12_1).f2)) = true := decide_eq_true c8
                clear c8
                obtain ⟨ji9, hji9⟩ : ∃ j_ : Int, (IntKind.u64.wrap (((rd_T53 l0_0 x12_1).f1) + ((rd_T53 l0_0 x12_1).f2))) = j_ := ⟨_, rfl⟩
                replace H : (if 0 ≤ (ji9) then (if 0 ≤ ((rd_T53 l0_0 x12_1).f3) then (if (IntKind.u64.wrap (((((rd_T53 l0_0 x12_1).f1) + ((rd_T53 l0_0 x12_1).f2)) / 18446744073709551616) + (((ji9) + ((rd_T53 l0_0 x12_1).f3)) / 18446744073709551616))) > 0 then (some false) else (if ((rd_T53 l0_0 x12_1).f4) < 0 then (some false) else (if ((rd_T53 l0_0 x12_1).f4) = 0 then (if ((rd_T53 l0_0 x12_1).f2) = 0 then (if ((rd_T53 l0_0 x12_1).f3) = 0 then (if x12_1 > 0 then (if 0 ≤ (wrap64 (x12_1 - 1)) then (if (wrap64 (x12_1 - 1)) < (l0_0.length : Int) then (if ((rd_T53 l0_0 (wrap64 (x12_1 - 1))).f0) ≥ ((rd_T53 l0_0 x12_1).f0) then (some false) else (impl_isBook.l0 k1 l0_0 (l0_0.length : Int) (wrap64 (x12_1 + 1)) l0_0)) else (none)) else (none)) else (impl_isBook.l0 k1 l0_0 (l0_0.length : Int) (wrap64 (x12_1 + 1)) l0_0)) else (some false)) else (some false)) else (if x12_1 > 0 then (if 0 ≤ (wrap64 (x12_1 - 1)) then (if (wrap64 (x12_1 - 1)) < (l0_0.length : Int) then (if ((rd_T53 l0_0 (wrap64 (x12_1 - 1))).f0) ≥ ((rd_T53 l0_0 x12_1).f0) then (some false) else (impl_isBook.l0 k1 l0_0 (l0_0.length : Int) (wrap64 (x12_1 + 1)) l0_0)) else (none)) else (none)) else (impl_isBook.l0 k1 l0_0 (l0_0.length : Int) (wrap64 (x12_1 + 1)) l0_0))))) else (none)) else (none)) = some r := by first | (rw [hji9] at H; exact H) | (simp only [hji9] at H ⊢; exact H)
                by_cases c10 : 0 ≤ (ji9)
                · rw [if_pos c10] at H
                  have c10b0 := eq_true c10
                  have c10b1 : decide (0 ≤ (ji9)) = true := decide_eq_true c10
                  clear c10
                  by_cases c11 : 0 ≤ ((rd_T53 l0_0 x12_1).f3)
                  · rw [if_pos c11] at H
                    have c11b0 := eq_true c11
                    have c11b1 : decide (0 ≤ ((rd_T53 l0_0 x12_1).f3)) = true := decide_eq_true c11
                    clear c11
                    by_cases c12 : (IntKind.u64.wrap (((((rd_T53 l0_0 x12_1).f1) + ((rd_T53 l0_0 x12_1).f2)) / 18446744073709551616) + (((ji9) + ((rd_T53 l0_0 x12_1).f3)) / 18446744073709551616))) > 0
                    · rw [if_pos c12] at H
                      have c12b0 : decide (0 < (IntKind.u64.wrap (((((rd_T53 l0_0 x12_1).f1) + ((rd_T53 l0_0 x12_1).f2)) / 18446744073709551616) + (((ji9) + ((rd_T53 l0_0 x12_1).f3)) / 18446744073709551616)))) = true := decide_eq_true c12
                      clear c12
                      obtain rfl := Option.some.inj H
                      have p139 : 0 ≤ (x12_1 : Int) := of_decide_eq_true u3_2
                      have q139 : x12_1 < (l0_0.length : Int) := of_decide_eq_true u3_2
                      obtain ⟨ad139, e139, hx139_0, hx139_1, hx139_2, hx139_3, hx139_4⟩ := at_T53 HR0_0.out x12_1 p139 q139
                      cases e139
                      replace hx139_0 := (HB.out.cell (World.block_lt_of_cell? w _ hx139_0)).trans hx139_0
                      replace hx139_1 := (HB.out.cell (World.block_lt_of_cell? w _ hx139_1)).trans hx139_1
                      replace hx139_2 := (HB.out.cell (World.block_lt_of_cell? w _ hx139_2)).trans hx139_2
                      replace hx139_3 := (HB.out.cell (World.block_lt_of_cell? w _ hx139_3)).trans hx139_3
                      replace hx139_4 := (HB.out.cell (World.block_lt_of_cell? w _ hx139_4)).trans hx139_4
                      replace p139 := eq_true p139
                      replace q139 := eq_true q139
                      go_wp2_with (first | (first | ((with_reducible refine gate_dst (N := 4) rfl ?_); refine box_event ?hg (N := 4) ?hd (cs := #[.int .u64 0, .int .u64 0, .int .u64 0, .int .u64 0, .int .i64 0]) (t := 53) ?hr ?_; (case hd => rfl); (case hg => rfl); (case hr => first | (go_simp; done) | (go_simp; rfl)); intro gb140 hg w13 hbox hb; have n0_ := Aside0.mk (blk_below (g := gb138) (o := .cells #[.slice (some ad139) l0_0.length c0_0] 29 (0, 0)) u3_1 hb); have n1_ := Aside0.mk (below_step u3_0 hb); have n2_ := Aside0.mk (hbox); have n3_ := Aside0.mk ((by rw [hg]; exact (below_size u3_0) : w.heap.size ≤ gb140)); have n4_ := Aside0.mk ((by rw [hg]; exact (below_size u3_0) : w.heap.size ≤ gb140)); have n5_ := Aside0.mk ((by rw [hg]; exact Nat.ne_of_lt (blk_lt (g := gb138) (o := .cells #[.slice (some ad139) l0_0.length c0_0] 29 (0, 0)) u3_1) : gb138 ≠ gb140)); have n6_ := Aside0.mk ((by rw [hg]; exact Nat.ne_of_gt (blk_lt (g := gb138) (o := .cells #[.slice (some ad139) l0_0.length c0_0] 29 (0, 0)) u3_1) : gb140 ≠ gb138)); clear BK138; clear HB; have BK138 := n0_; have HB := n1_; have BK140 := n2_; have GW140 := n3_; have GE140 := n4_; have NB138_140 := n5_; have NB140_138 := n6_; clear n0_ n1_ n2_ n3_ n4_ n5_ n6_; clear hb hbox hg; have hnb14 := NB140_138.out; have hnc14 := NB138_140.out; have hcz15_0 : w13.cell? ⟨gb140, 0, none⟩ = some (.int .u64 0) := (blk_cell BK140.out 0).trans rfl; have hcz15_1 : w13.cell? ⟨gb140, 1, none⟩ = some (.int .u64 0) := (blk_cell BK140.out 1).trans rfl; have hcz15_2 : w13.cell? ⟨gb140, 2, none⟩ = some (.int .u64 0) := (blk_cell BK140.out 2).trans rfl; have hcz15_3 : w13.cell? ⟨gb140, 3, none⟩ = some (.int .u64 0) := (blk_cell BK140.out 3).trans rfl; have hcz15_4 : w13.cell? ⟨gb140, 4, none⟩ = some (.int .i64 0) := (blk_cell BK140.out 4).trans rfl; have hfz15_0 := blk_frozen BK140.out 0; have hfz15_1 := blk_frozen BK140.out 1; have hfz15_2 := blk_frozen BK140.out 2; have hfz15_3 := blk_frozen BK140.out 3; have hfz15_4 := blk_frozen BK140.out 4)) | go_quiet (fail))
                      go_ret
                      exact ⟨by first | rfl | (simp [errW_none, errW_some] <;> rfl) | (simp only [← hji9]; first | rfl | (simp [errW_none, errW_some] <;> rfl)) | (simp [*, errW_none, errW_some] <;> rfl), by repeat (first | (with_reducible first | exact HB.out | apply below_alloc | apply pw_below_drewN | apply below_drew1 | refine below_set ?_ GE138.out | refine below_set ?_ GE140.out) | exact HB.out)⟩
                    · rw [if_neg c12] at H
                      have c12b0 : decide (0 < (IntKind.u64.wrap (((((rd_T53 l0_0 x12_1).f1) + ((rd_T53 l0_0 x12_1).f2)) / 18446744073709551616) + (((ji9) + ((rd_T53 l0_0 x12_1).f3)) / 18446744073709551616)))) = false := decide_eq_false c12
                      clear c12
                      by_cases c16 : ((rd_T53 l0_0 x12_1).f4) < 0
                      · rw [if_pos c16] at H
                        have c16b0 : decide (((rd_T53 l0_0 x12_1).f4) < 0) = true := decide_eq_true c16
                        clear c16
                        obtain rfl := Option.some.inj H
                        have p139 : 0 ≤ (x12_1 : Int) := of_decide_eq_true u3_2
                        have q139 : x12_1 < (l0_0.length : Int) := of_decide_eq_true u3_2
                        obtain ⟨ad139, e139, hx139_0, hx139_1, hx139_2, hx139_3, hx139_4⟩ := at_T53 HR0_0.out x12_1 p139 q139
                        cases e139
                        replace hx139_0 := (HB.out.cell (World.block_lt_of_cell? w _ hx139_0)).trans hx139_0
                        replace hx139_1 := (HB.out.cell (World.block_lt_of_cell? w _ hx139_1)).trans hx139_1
                        replace hx139_2 := (HB.out.cell (World.block_lt_of_cell? w _ hx139_2)).trans hx139_2
                        replace hx139_3 := (HB.out.cell (World.block_lt_of_cell? w _ hx139_3)).trans hx139_3
                        replace hx139_4 := (HB.out.cell (World.block_lt_of_cell? w _ hx139_4)).trans hx139_4
                        replace p139 := eq_true p139
                        replace q139 := eq_true q139
                        go_wp2_with (first | (first | ((with_reducible refine gate_dst (N := 4) rfl ?_); refine box_event ?hg (N := 4) ?hd (cs := #[.int .u64 0, .int .u64 0, .int .u64 0, .int .u64 0, .int .i64 0]) (t := 53) ?hr ?_; (case hd => rfl); (case hg => rfl); (case hr => first | (go_simp; done) | (go_simp; rfl)); intro gb140 hg w17 hbox hb; have n0_ := Aside0.mk (blk_below (g := gb138) (o := .cells #[.slice (some ad139) l0_0.length c0_0] 29 (0, 0)) u3_1 hb); have n1_ := Aside0.mk (below_step u3_0 hb); have n2_ := Aside0.mk (hbox); have n3_ := Aside0.mk ((by rw [hg]; exact (below_size u3_0) : w.heap.size ≤ gb140)); have n4_ := Aside0.mk ((by rw [hg]; exact (below_size u3_0) : w.heap.size ≤ gb140)); have n5_ := Aside0.mk ((by rw [hg]; exact Nat.ne_of_lt (blk_lt (g := gb138) (o := .cells #[.slice (some ad139) l0_0.length c0_0] 29 (0, 0)) u3_1) : gb138 ≠ gb140)); have n6_ := Aside0.mk ((by rw [hg]; exact Nat.ne_of_gt (blk_lt (g := gb138) (o := .cells #[.slice (some ad139) l0_0.length c0_0] 29 (0, 0)) u3_1) : gb140 ≠ gb138)); clear BK138; clear HB; have BK138 := n0_; have HB := n1_; have BK140 := n2_; have GW140 := n3_; have GE140 := n4_; have NB138_140 := n5_; have NB140_138 := n6_; clear n0_ n1_ n2_ n3_ n4_ n5_ n6_; clear hb hbox hg; have hnb18 := NB140_138.out; have hnc18 := NB138_140.out; have hcz19_0 : w17.cell? ⟨gb140, 0, none⟩ = some (.int .u64 0) := (blk_cell BK140.out 0).trans rfl; have hcz19_1 : w17.cell? ⟨gb140, 1, none⟩ = some (.int .u64 0) := (blk_cell BK140.out 1).trans rfl; have hcz19_2 : w17.cell? ⟨gb140, 2, none⟩ = some (.int .u64 0) := (blk_cell BK140.out 2).trans rfl; have hcz19_3 : w17.cell? ⟨gb140, 3, none⟩ = some (.int .u64 0) := (blk_cell BK140.out 3).trans rfl; have hcz19_4 : w17.cell? ⟨gb140, 4, none⟩ = some (.int .i64 0) := (blk_cell BK140.out 4).trans rfl; have hfz19_0 := blk_frozen BK140.out 0; have hfz19_1 := blk_frozen BK140.out 1; have hfz19_2 := blk_frozen BK140.out 2; have hfz19_3 := blk_frozen BK140.out 3; have hfz19_4 := blk_frozen BK140.out 4)) | go_quiet (fail))
                        go_ret
                        exact ⟨by first | rfl | (simp [errW_none, errW_some] <;> rfl) | (simp only [← hji9]; first | rfl | (simp [errW_none, errW_some] <;> rfl)) | (simp [*, errW_none, errW_some] <;> rfl), by repeat (first | (with_reducible first | exact HB.out | apply below_alloc | apply pw_below_drewN | apply below_drew1 | refine below_set ?_ GE138.out | refine below_set ?_ GE140.out) | exact HB.out)⟩
                      · rw [if_neg c16] at H
                        have c16b0 : decide (((rd_T53 l0_0 x12_1).f4) < 0) = false := decide_eq_false c16
                        clear c16
                        by_cases c20 : ((rd_T53 l0_0 x12_1).f4) = 0
                        · rw [if_pos c20] at H
                          have c20b0 : (((rd_T53 l0_0 x12_1).f4) == 0) = true := beq_iff_eq.mpr c20
                          have c20b1 : (((rd_T53 l0_0 x12_1).f4) != 0) = false := bne_eq_false_iff_eq.mpr c20
                          clear c20
                          by_cases c21 : ((rd_T53 l0_0 x12_1).f2) = 0
                          · rw [if_pos c21] at H
                            have c21b0 : (((rd_T53 l0_0 x12_1).f2) == 0) = true := beq_iff_eq.mpr c21
                            have c21b1 : (((rd_T53 l0_0 x12_1).f2) != 0) = false := bne_eq_false_iff_eq.mpr c21
                            clear c21
                            by_cases c22 : ((rd_T53 l0_0 x12_1).f3) = 0
                            · rw [if_pos c22] at H
                              have c22b0 : (((rd_T53 l0_0 x12_1).f3) == 0) = true := beq_iff_eq.mpr c22
                              have c22b1 : (((rd_T53 l0_0 x12_1).f3) != 0) = false := bne_eq_false_iff_eq.mpr c22
                              clear c22
                              by_cases c23 : x12_1 > 0
                              · rw [if_pos c23] at H
                                have c23b0 : decide (0 < x12_1) = true := decide_eq_true c23
                                clear c23
                                obtain ⟨ji24, hji24⟩ : ∃ j_ : Int, (wrap64 (x12_1 - 1)) = j_ := ⟨_, rfl⟩
                                replace H : (if 0 ≤ (ji24) then (if (ji24) < (l0_0.length : Int) then (if ((rd_T53 l0_0 (ji24)).f0) ≥ ((rd_T53 l0_0 x12_1).f0) then (some false) else (impl_isBook.l0 k1 l0_0 (l0_0.length : Int) (wrap64 (x12_1 + 1)) l0_0)) else (none)) else (none)) = some r := by first | (rw [hji24] at H; exact H) | (simp only [hji24] at H ⊢; exact H)
                                have hji24w : (IntKind.i64.wrap (x12_1 - 1)) = ji24 := (i64_w _).trans hji24
                                by_cases c25 : 0 ≤ (ji24)
                                · rw [if_pos c25] at H
                                  have c25b0 : decide (0 ≤ (ji24)) = true := decide_eq_true c25
                                  clear c25
                                  by_cases c26 : (ji24) < (l0_0.length : Int)
                                  · rw [if_pos c26] at H
                                    have c26b0 : decide ((ji24) < (l0_0.length : Int)) = true := decide_eq_true c26
                                    clear c26
                                    by_cases c27 : ((rd_T53 l0_0 (ji24)).f0) ≥ ((rd_T53 l0_0 x12_1).f0)
                                    · rw [if_pos c27] at H
                                      have c27b0 : decide (((rd_T53 l0_0 x12_1).f0) ≤ ((rd_T53 l0_0 (ji24)).f0)) = true := decide_eq_true c27
                                      clear c27
                                      obtain rfl := Option.some.inj H
                                      have p139 : 0 ≤ (x12_1 : Int) := of_decide_eq_true u3_2
                                      have q139 : x12_1 < (l0_0.length : Int) := of_decide_eq_true u3_2
                                      obtain ⟨ad139, e139, hx139_0, hx139_1, hx139_2, hx139_3, hx139_4⟩ := at_T53 HR0_0.out x12_1 p139 q139
                                      cases e139
                                      replace hx139_0 := (HB.out.cell (World.block_lt_of_cell? w _ hx139_0)).trans hx139_0
                                      replace hx139_1 := (HB.out.cell (World.block_lt_of_cell? w _ hx139_1)).trans hx139_1
                                      replace hx139_2 := (HB.out.cell (World.block_lt_of_cell? w _ hx139_2)).trans hx139_2
                                      replace hx139_3 := (HB.out.cell (World.block_lt_of_cell? w _ hx139_3)).trans hx139_3
                                      replace hx139_4 := (HB.out.cell (World.block_lt_of_cell? w _ hx139_4)).trans hx139_4
                                      replace p139 := eq_true p139
                                      replace q139 := eq_true q139
                                      go_wp2_with (first | (first | ((with_reducible refine gate_dst (N := 4) rfl ?_); refine box_event ?hg (N := 4) ?hd (cs := #[.int .u64 0, .int .u64 0, .int .u64 0, .int .u64 0, .int .i64 0]) (t := 53) ?hr ?_; (case hd => rfl); (case hg => rfl); (case hr => first | (go_simp; done) | (go_simp; rfl)); intro gb140 hg w28 hbox hb; have n0_ := Aside0.mk (blk_below (g := gb138) (o := .cells #[.slice (some ad139) l0_0.length c0_0] 29 (0, 0)) u3_1 hb); have n1_ := Aside0.mk (below_step u3_0 hb); have n2_ := Aside0.mk (hbox); have n3_ := Aside0.mk ((by rw [hg]; exact (below_size u3_0) : w.heap.size ≤ gb140)); have n4_ := Aside0.mk ((by rw [hg]; exact (below_size u3_0) : w.heap.size ≤ gb140)); have n5_ := Aside0.mk ((by rw [hg]; exact Nat.ne_of_lt (blk_lt (g := gb138) (o := .cells #[.slice (some ad139) l0_0.length c0_0] 29 (0, 0)) u3_1) : gb138 ≠ gb140)); have n6_ := Aside0.mk ((by rw [hg]; exact Nat.ne_of_gt (blk_lt (g := gb138) (o := .cells #[.slice (some ad139) l0_0.length c0_0] 29 (0, 0)) u3_1) : gb140 ≠ gb138)); clear BK138; clear HB; have BK138 := n0_; have HB := n1_; have BK140 := n2_; have GW140 := n3_; have GE140 := n4_; have NB138_140 := n5_; have NB140_138 := n6_; clear n0_ n1_ n2_ n3_ n4_ n5_ n6_; clear hb hbox hg; have hnb29 := NB140_138.out; have hnc29 := NB138_140.out; have hcz30_0 : w28.cell? ⟨gb140, 0, none⟩ = some (.int .u64 0) := (blk_cell BK140.out 0).trans rfl; have hcz30_1 : w28.cell? ⟨gb140, 1, none⟩ = some (.int .u64 0) := (blk_cell BK140.out 1).trans rfl; have hcz30_2 : w28.cell? ⟨gb140, 2, none⟩ = some (.int .u64 0) := (blk_cell BK140.out 2).trans rfl; have hcz30_3 : w28.cell? ⟨gb140, 3, none⟩ = some (.int .u64 0) := (blk_cell BK140.out 3).trans rfl; have hcz30_4 : w28.cell? ⟨gb140, 4, none⟩ = some (.int .i64 0) := (blk_cell BK140.out 4).trans rfl; have hfz30_0 := blk_frozen BK140.out 0; have hfz30_1 := blk_frozen BK140.out 1; have hfz30_2 := blk_frozen BK140.out 2; have hfz30_3 := blk_frozen BK140.out 3; have hfz30_4 := blk_frozen BK140.out 4; have hcz31_0 : w28.cell? ⟨gb138, 0, none⟩ = some (.slice (some ad139) l0_0.length c0_0) := (blk_cell BK138.out 0).trans rfl; have hfz31_0 := blk_frozen BK138.out 0; have p141 : 0 ≤ ((ji24) : Int) := of_decide_eq_true u3_2; have q141 : (ji24) < (l0_0.length : Int) := of_decide_eq_true u3_2; obtain ⟨ad141, e141, hx141_0, hx141_1, hx141_2, hx141_3, hx141_4⟩ := at_T53 HR0_0.out (ji24) p141 q141; obtain rfl : ad139 = ad141 := (by injection e141); have hn141_0 : ad139.block ≠ gb140 := Nat.ne_of_lt (Nat.lt_of_lt_of_le u3_14 GW140.out); have hn141_1 : ad139.block ≠ gb140 := Nat.ne_of_lt (Nat.lt_of_lt_of_le u3_14 GW140.out); have hn141_2 : ad139.block ≠ gb140 := Nat.ne_of_lt (Nat.lt_of_lt_of_le u3_14 GW140.out); have hn141_3 : ad139.block ≠ gb140 := Nat.ne_of_lt (Nat.lt_of_lt_of_le u3_14 GW140.out); have hn141_4 : ad139.block ≠ gb140 := Nat.ne_of_lt (Nat.lt_of_lt_of_le u3_14 GW140.out); replace hx141_0 := (HB.out.cell (World.block_lt_of_cell? w _ hx141_0)).trans hx141_0; replace hx141_1 := (HB.out.cell (World.block_lt_of_cell? w _ hx141_1)).trans hx141_1; replace hx141_2 := (HB.out.cell (World.block_lt_of_cell? w _ hx141_2)).trans hx141_2; replace hx141_3 := (HB.out.cell (World.block_lt_of_cell? w _ hx141_3)).trans hx141_3; replace hx141_4 := (HB.out.cell (World.block_lt_of_cell? w _ hx141_4)).trans hx141_4; replace hx141_0 := (cell_far (p := ⟨gb140, 0, none⟩) u3_4 (.int .u64 ((rd_T53 l0_0 x12_1).f0))).trans hx141_0; replace hx141_1 := (cell_far (p := ⟨gb140, 0, none⟩) u3_4 (.int .u64 ((rd_T53 l0_0 x12_1).f0))).trans hx141_1; replace hx141_2 := (cell_far (p := ⟨gb140, 0, none⟩) u3_4 (.int .u64 ((rd_T53 l0_0 x12_1).f0))).trans hx141_2; replace hx141_3 := (cell_far (p := ⟨gb140, 0, none⟩) u3_4 (.int .u64 ((rd_T53 l0_0 x12_1).f0))).trans hx141_3; replace hx141_4 := (cell_far (p := ⟨gb140, 0, none⟩) u3_4 (.int .u64 ((rd_T53 l0_0 x12_1).f0))).trans hx141_4; replace hx141_0 := (cell_far (p := ⟨gb140, 1, none⟩) u3_5 (.int .u64 ((rd_T53 l0_0 x12_1).f1))).trans hx141_0; replace hx141_1 := (cell_far (p := ⟨gb140, 1, none⟩) u3_5 (.int .u64 ((rd_T53 l0_0 x12_1).f1))).trans hx141_1; replace hx141_2 := (cell_far (p := ⟨gb140, 1, none⟩) u3_5 (.int .u64 ((rd_T53 l0_0 x12_1).f1))).trans hx141_2; replace hx141_3 := (cell_far (p := ⟨gb140, 1, none⟩) u3_5 (.int .u64 ((rd_T53 l0_0 x12_1).f1))).trans hx141_3; replace hx141_4 := (cell_far (p := ⟨gb140, 1, none⟩) u3_5 (.int .u64 ((rd_T53 l0_0 x12_1).f1))).trans hx141_4; replace hx141_0 := (cell_far (p := ⟨gb140, 2, none⟩) u3_6 (.int .u64 ((rd_T53 l0_0 x12_1).f2))).trans hx141_0; replace hx141_1 := (cell_far (p := ⟨gb140, 2, none⟩) u3_6 (.int .u64 ((rd_T53 l0_0 x12_1).f2))).trans hx141_1; replace hx141_2 := (cell_far (p := ⟨gb140, 2, none⟩) u3_6 (.int .u64 ((rd_T53 l0_0 x12_1).f2))).trans hx141_2; replace hx141_3 := (cell_far (p := ⟨gb140, 2, none⟩) u3_6 (.int .u64 ((rd_T53 l0_0 x12_1).f2))).trans hx141_3; replace hx141_4 := (cell_far (p := ⟨gb140, 2, none⟩) u3_6 (.int .u64 ((rd_T53 l0_0 x12_1).f2))).trans hx141_4; replace hx141_0 := (cell_far (p := ⟨gb140, 3, none⟩) u3_7 (.int .u64 ((rd_T53 l0_0 x12_1).f3))).trans hx141_0; replace hx141_1 := (cell_far (p := ⟨gb140, 3, none⟩) u3_7 (.int .u64 ((rd_T53 l0_0 x12_1).f3))).trans hx141_1; replace hx141_2 := (cell_far (p := ⟨gb140, 3, none⟩) u3_7 (.int .u64 ((rd_T53 l0_0 x12_1).f3))).trans hx141_2; replace hx141_3 := (cell_far (p := ⟨gb140, 3, none⟩) u3_7 (.int .u64 ((rd_T53 l0_0 x12_1).f3))).trans hx141_3; replace hx141_4 := (cell_far (p := ⟨gb140, 3, none⟩) u3_7 (.int .u64 ((rd_T53 l0_0 x12_1).f3))).trans hx141_4; replace hx141_0 := (cell_far (p := ⟨gb140, 4, none⟩) u3_8 (.int .i64 ((rd_T53 l0_0 x12_1).f4))).trans hx141_0; replace hx141_1 := (cell_far (p := ⟨gb140, 4, none⟩) u3_8 (.int .i64 ((rd_T53 l0_0 x12_1).f4))).trans hx141_1; replace hx141_2 := (cell_far (p := ⟨gb140, 4, none⟩) u3_8 (.int .i64 ((rd_T53 l0_0 x12_1).f4))).trans hx141_2; replace hx141_3 := (cell_far (p := ⟨gb140, 4, none⟩) u3_8 (.int .i64 ((rd_T53 l0_0 x12_1).f4))).trans hx141_3; replace hx141_4 := (cell_far (p := ⟨gb140, 4, none⟩) u3_8 (.int .i64 ((rd_T53 l0_0 x12_1).f4))).trans hx141_4; (try have hch_ := fun (n_ : Nat) => (show (((((((w28.drewN n_).setCell ⟨gb140, 0, none⟩ (.int .u64 ((rd_T53 l0_0 x12_1).f0))).setCell ⟨gb140, 1, none⟩ (.int .u64 ((rd_T53 l0_0 x12_1).f1))).setCell ⟨gb140, 2, none⟩ (.int .u64 ((rd_T53 l0_0 x12_1).f2))).setCell ⟨gb140, 3, none⟩ (.int .u64 ((rd_T53 l0_0 x12_1).f3))).setCell ⟨gb140, 4, none⟩ (.int .i64 ((rd_T53 l0_0 x12_1).f4)))) = World.drewN ((((((w28.setCell ⟨gb140, 0, none⟩ (.int .u64 ((rd_T53 l0_0 x12_1).f0))).setCell ⟨gb140, 1, none⟩ (.int .u64 ((rd_T53 l0_0 x12_1).f1))).setCell ⟨gb140, 2, none⟩ (.int .u64 ((rd_T53 l0_0 x12_1).f2))).setCell ⟨gb140, 3, none⟩ (.int .u64 ((rd_T53 l0_0 x12_1).f3))).setCell ⟨gb140, 4, none⟩ (.int .i64 ((rd_T53 l0_0 x12_1).f4)))) n_ from by simp only [Go.Proofs.Ytdbfjakhkclggaa.Slc.setCell_drewN])); (try have hy141_0 := fun (n_ : Nat) => Go.Proofs.Ytdbfjakhkclggaa.Slc.cell_of (hch_ n_) hx141_0); (try have hy141_1 := fun (n_ : Nat) => Go.Proofs.Ytdbfjakhkclggaa.Slc.cell_of (hch_ n_) hx141_1); (try have hy141_2 := fun (n_ : Nat) => Go.Proofs.Ytdbfjakhkclggaa.Slc.cell_of (hch_ n_) hx141_2); (try have hy141_3 := fun (n_ : Nat) => Go.Proofs.Ytdbfjakhkclggaa.Slc.cell_of (hch_ n_) hx141_3); (try have hy141_4 := fun (n_ : Nat) => Go.Proofs.Ytdbfjakhkclggaa.Slc.cell_of (hch_ n_) hx141_4); clear hn141_0; clear hn141_1; clear hn141_2; clear hn141_3; clear hn141_4; replace p141 := eq_true p141; replace q141 := eq_true q141)) | go_quiet (fail))
                                      go_ret
                                      exact ⟨by first | rfl | (simp [errW_none, errW_some] <;> rfl) | (simp only [← hji9, ← hji24]; first | rfl | (simp [errW_none, errW_some] <;> rfl)) | (simp [*, errW_none, errW_some] <;> rfl), by repeat (first | (with_reducible first | exact HB.out | apply below_alloc | apply pw_below_drewN | apply below_drew1 | refine below_set ?_ GE138.out | refine below_set ?_ GE140.out) | exact HB.out)⟩
                                    · rw [if_neg c27] at H
                                      have c27b0 : decide (((rd_T53 l0_0 x12_1).f0) ≤ ((rd_T53 l0_0 (ji24)).f0)) = false := decide_eq_false c27
                                      clear c27
                                      have H' := Aside0.mk H
                                      clear H
                                      have p139 : 0 ≤ (x12_1 : Int) := of_decide_eq_true u3_2
                                      have q139 : x12_1 < (l0_0.length : Int) := of_decide_eq_true u3_2
                                      obtain ⟨ad139, e139, hx139_0, hx139_1, hx139_2, hx139_3, hx139_4⟩ := at_T53 HR0_0.out x12_1 p139 q139
                                      cases e139
                                      replace hx139_0 := (HB.out.cell (World.block_lt_of_cell? w _ hx139_0)).trans hx139_0
                                      replace hx139_1 := (HB.out.cell (World.block_lt_of_cell? w _ hx139_1)).trans hx139_1
                                      replace hx139_2 := (HB.out.cell (World.block_lt_of_cell? w _ hx139_2)).trans hx139_2
                                      replace hx139_3 := (HB.out.cell (World.block_lt_of_cell? w _ hx139_3)).trans hx139_3
                                      replace hx139_4 := (HB.out.cell (World.block_lt_of_cell? w _ hx139_4)).trans hx139_4
                                      replace p139 := eq_true p139
                                      replace q139 := eq_true q139
                                      go_wp2_with (first | (first | ((with_reducible refine gate_dst (N := 4) rfl ?_); refine box_event ?hg (N := 4) ?hd (cs := #[.int .u64 0, .int .u64 0, .int .u64 0, .int .u64 0, .int .i64 0]) (t := 53) ?hr ?_; (case hd => rfl); (case hg => rfl); (case hr => first | (go_simp; done) | (go_simp; rfl)); intro gb140 hg w32 hbox hb; have n0_ := Aside0.mk (blk_below (g := gb138) (o := .cells #[.slice (some ad139) l0_0.length c0_0] 29 (0, 0)) u3_1 hb); have n1_ := Aside0.mk (below_step u3_0 hb); have n2_ := Aside0.mk (hbox); have n3_ := Aside0.mk ((by rw [hg]; exact (below_size u3_0) : w.heap.size ≤ gb140)); have n4_ := Aside0.mk ((by rw [hg]; exact (below_size u3_0) : w.heap.size ≤ gb140)); have n5_ := Aside0.mk ((by rw [hg]; exact Nat.ne_of_lt (blk_lt (g := gb138) (o := .cells #[.slice (some ad139) l0_0.length c0_0] 29 (0, 0)) u3_1) : gb138 ≠ gb140)); have n6_ := Aside0.mk ((by rw [hg]; exact Nat.ne_of_gt (blk_lt (g := gb138) (o := .cells #[.slice (some ad139) l0_0.length c0_0] 29 (0, 0)) u3_1) : gb140 ≠ gb138)); clear BK138; clear HB; have BK138 := n0_; have HB := n1_; have BK140 := n2_; have GW140 := n3_; have GE140 := n4_; have NB138_140 := n5_; have NB140_138 := n6_; clear n0_ n1_ n2_ n3_ n4_ n5_ n6_; clear hb hbox hg; have hnb33 := NB140_138.out; have hnc33 := NB138_140.out; have hcz34_0 : w32.cell? ⟨gb140, 0, none⟩ = some (.int .u64 0) := (blk_cell BK140.out 0).trans rfl; have hcz34_1 : w32.cell? ⟨gb140, 1, none⟩ = some (.int .u64 0) := (blk_cell BK140.out 1).trans rfl; have hcz34_2 : w32.cell? ⟨gb140, 2, none⟩ = some (.int .u64 0) := (blk_cell BK140.out 2).trans rfl; have hcz34_3 : w32.cell? ⟨gb140, 3, none⟩ = some (.int .u64 0) := (blk_cell BK140.out 3).trans rfl; have hcz34_4 : w32.cell? ⟨gb140, 4, none⟩ = some (.int .i64 0) := (blk_cell BK140.out 4).trans rfl; have hfz34_0 := blk_frozen BK140.out 0; have hfz34_1 := blk_frozen BK140.out 1; have hfz34_2 := blk_frozen BK140.out 2; have hfz34_3 := blk_frozen BK140.out 3; have hfz34_4 := blk_frozen BK140.out 4; have hcz35_0 : w32.cell? ⟨gb138, 0, none⟩ = some (.slice (some ad139) l0_0.length c0_0) := (blk_cell BK138.out 0).trans rfl; have hfz35_0 := blk_frozen BK138.out 0; have p141 : 0 ≤ ((ji24) : Int) := of_decide_eq_true u3_2; have q141 : (ji24) < (l0_0.length : Int) := of_decide_eq_true u3_2; obtain ⟨ad141, e141, hx141_0, hx141_1, hx141_2, hx141_3, hx141_4⟩ := at_T53 HR0_0.out (ji24) p141 q141; obtain rfl : ad139 = ad141 := (by injection e141); have hn141_0 : ad139.block ≠ gb140 := Nat.ne_of_lt (Nat.lt_of_lt_of_le u3_14 GW140.out); have hn141_1 : ad139.block ≠ gb140 := Nat.ne_of_lt (Nat.lt_of_lt_of_le u3_14 GW140.out); have hn141_2 : ad139.block ≠ gb140 := Nat.ne_of_lt (Nat.lt_of_lt_of_le u3_14 GW140.out); have hn141_3 : ad139.block ≠ gb140 := Nat.ne_of_lt (Nat.lt_of_lt_of_le u3_14 GW140.out); have hn141_4 : ad139.block ≠ gb140 := Nat.ne_of_lt (Nat.lt_of_lt_of_le u3_14 GW140.out); replace hx141_0 := (HB.out.cell (World.block_lt_of_cell? w _ hx141_0)).trans hx141_0; replace hx141_1 := (HB.out.cell (World.block_lt_of_cell? w _ hx141_1)).trans hx141_1; replace hx141_2 := (HB.out.cell (World.block_lt_of_cell? w _ hx141_2)).trans hx141_2; replace hx141_3 := (HB.out.cell (World.block_lt_of_cell? w _ hx141_3)).trans hx141_3; replace hx141_4 := (HB.out.cell (World.block_lt_of_cell? w _ hx141_4)).trans hx141_4; replace hx141_0 := (cell_far (p := ⟨gb140, 0, none⟩) u3_4 (.int .u64 ((rd_T53 l0_0 x12_1).f0))).trans hx141_0; replace hx141_1 := (cell_far (p := ⟨gb140, 0, none⟩) u3_4 (.int .u64 ((rd_T53 l0_0 x12_1).f0))).trans hx141_1; replace hx141_2 := (cell_far (p := ⟨gb140, 0, none⟩) u3_4 (.int .u64 ((rd_T53 l0_0 x12_1).f0))).trans hx141_2; replace hx141_3 := (cell_far (p := ⟨gb140, 0, none⟩) u3_4 (.int .u64 ((rd_T53 l0_0 x12_1).f0))).trans hx141_3; replace hx141_4 := (cell_far (p := ⟨gb140, 0, none⟩) u3_4 (.int .u64 ((rd_T53 l0_0 x12_1).f0))).trans hx141_4; replace hx141_0 := (cell_far (p := ⟨gb140, 1, none⟩) u3_5 (.int .u64 ((rd_T53 l0_0 x12_1).f1))).trans hx141_0; replace hx141_1 := (cell_far (p := ⟨gb140, 1, none⟩) u3_5 (.int .u64 ((rd_T53 l0_0 x12_1).f1))).trans hx141_1; replace hx141_2 := (cell_far (p := ⟨gb140, 1, none⟩) u3_5 (.int .u64 ((rd_T53 l0_0 x12_1).f1))).trans hx141_2; replace hx141_3 := (cell_far (p := ⟨gb140, 1, none⟩) u3_5 (.int .u64 ((rd_T53 l0_0 x12_1).f1))).trans hx141_3; replace hx141_4 := (cell_far (p := ⟨gb140, 1, none⟩) u3_5 (.int .u64 ((rd_T53 l0_0 x12_1).f1))).trans hx141_4; replace hx141_0 := (cell_far (p := ⟨gb140, 2, none⟩) u3_6 (.int .u64 ((rd_T53 l0_0 x12_1).f2))).trans hx141_0; replace hx141_1 := (cell_far (p := ⟨gb140, 2, none⟩) u3_6 (.int .u64 ((rd_T53 l0_0 x12_1).f2))).trans hx141_1; replace hx141_2 := (cell_far (p := ⟨gb140, 2, none⟩) u3_6 (.int .u64 ((rd_T53 l0_0 x12_1).f2))).trans hx141_2; replace hx141_3 := (cell_far (p := ⟨gb140, 2, none⟩) u3_6 (.int .u64 ((rd_T53 l0_0 x12_1).f2))).trans hx141_3; replace hx141_4 := (cell_far (p := ⟨gb140, 2, none⟩) u3_6 (.int .u64 ((rd_T53 l0_0 x12_1).f2))).trans hx141_4; replace hx141_0 := (cell_far (p := ⟨gb140, 3, none⟩) u3_7 (.int .u64 ((rd_T53 l0_0 x12_1).f3))).trans hx141_0; replace hx141_1 := (cell_far (p := ⟨gb140, 3, none⟩) u3_7 (.int .u64 ((rd_T53 l0_0 x12_1).f3))).trans hx141_1; replace hx141_2 := (cell_far (p := ⟨gb140, 3, none⟩) u3_7 (.int .u64 ((rd_T53 l0_0 x12_1).f3))).trans hx141_2; replace hx141_3 := (cell_far (p := ⟨gb140, 3, none⟩) u3_7 (.int .u64 ((rd_T53 l0_0 x12_1).f3))).trans hx141_3; replace hx141_4 := (cell_far (p := ⟨gb140, 3, none⟩) u3_7 (.int .u64 ((rd_T53 l0_0 x12_1).f3))).trans hx141_4; replace hx141_0 := (cell_far (p := ⟨gb140, 4, none⟩) u3_8 (.int .i64 ((rd_T53 l0_0 x12_1).f4))).trans hx141_0; replace hx141_1 := (cell_far (p := ⟨gb140, 4, none⟩) u3_8 (.int .i64 ((rd_T53 l0_0 x12_1).f4))).trans hx141_1; replace hx141_2 := (cell_far (p := ⟨gb140, 4, none⟩) u3_8 (.int .i64 ((rd_T53 l0_0 x12_1).f4))).trans hx141_2; replace hx141_3 := (cell_far (p := ⟨gb140, 4, none⟩) u3_8 (.int .i64 ((rd_T53 l0_0 x12_1).f4))).trans hx141_3; replace hx141_4 := (cell_far (p := ⟨gb140, 4, none⟩) u3_8 (.int .i64 ((rd_T53 l0_0 x12_1).f4))).trans hx141_4; (try have hch_ := fun (n_ : Nat) => (show (((((((w32.drewN n_).setCell ⟨gb140, 0, none⟩ (.int .u64 ((rd_T53 l0_0 x12_1).f0))).setCell ⟨gb140, 1, none⟩ (.int .u64 ((rd_T53 l0_0 x12_1).f1))).setCell ⟨gb140, 2, none⟩ (.int .u64 ((rd_T53 l0_0 x12_1).f2))).setCell ⟨gb140, 3, none⟩ (.int .u64 ((rd_T53 l0_0 x12_1).f3))).setCell ⟨gb140, 4, none⟩ (.int .i64 ((rd_T53 l0_0 x12_1).f4)))) = World.drewN ((((((w32.setCell ⟨gb140, 0, none⟩ (.int .u64 ((rd_T53 l0_0 x12_1).f0))).setCell ⟨gb140, 1, none⟩ (.int .u64 ((rd_T53 l0_0 x12_1).f1))).setCell ⟨gb140, 2, none⟩ (.int .u64 ((rd_T53 l0_0 x12_1).f2))).setCell ⟨gb140, 3, none⟩ (.int .u64 ((rd_T53 l0_0 x12_1).f3))).setCell ⟨gb140, 4, none⟩ (.int .i64 ((rd_T53 l0_0 x12_1).f4)))) n_ from by simp only [Go.Proofs.Ytdbfjakhkclggaa.Slc.setCell_drewN])); (try have hy141_0 := fun (n_ : Nat) => Go.Proofs.Ytdbfjakhkclggaa.Slc.cell_of (hch_ n_) hx141_0); (try have hy141_1 := fun (n_ : Nat) => Go.Proofs.Ytdbfjakhkclggaa.Slc.cell_of (hch_ n_) hx141_1); (try have hy141_2 := fun (n_ : Nat) => Go.Proofs.Ytdbfjakhkclggaa.Slc.cell_of (hch_ n_) hx141_2); (try have hy141_3 := fun (n_ : Nat) => Go.Proofs.Ytdbfjakhkclggaa.Slc.cell_of (hch_ n_) hx141_3); (try have hy141_4 := fun (n_ : Nat) => Go.Proofs.Ytdbfjakhkclggaa.Slc.cell_of (hch_ n_) hx141_4); clear hn141_0; clear hn141_1; clear hn141_2; clear hn141_3; clear hn141_4; replace p141 := eq_true p141; replace q141 := eq_true q141)) | go_quiet (fail))
                                      go_roundg k1
                                      case measure => have := HK1.out; omega
                                      case rel => exact ⟨(wrap64 (x12_1 + 1)), u3_16, H', ⟨by have := HK1.out; omega⟩, ⟨by (with_reducible repeat (first | refine blk_drewN ?_ _ | refine blk_drew ?_ | refine blk_alloc ?_ _)); refine blk_far ?_ NB138_140.out _; (with_reducible repeat (first | refine blk_drewN ?_ _ | refine blk_drew ?_ | refine blk_alloc ?_ _)); refine blk_far ?_ NB138_140.out _; (with_reducible repeat (first | refine blk_drewN ?_ _ | refine blk_drew ?_ | refine blk_alloc ?_ _)); refine blk_far ?_ NB138_140.out _; (with_reducible repeat (first | refine blk_drewN ?_ _ | refine blk_drew ?_ | refine blk_alloc ?_ _)); refine blk_far ?_ NB138_140.out _; (with_reducible repeat (first | refine blk_drewN ?_ _ | refine blk_drew ?_ | refine blk_alloc ?_ _)); refine blk_far ?_ NB138_140.out _; (with_reducible repeat (first | refine blk_drewN ?_ _ | refine blk_drew ?_ | refine blk_alloc ?_ _)); exact BK138.out⟩, ⟨by repeat (first | (with_reducible first | exact HB.out | apply below_alloc | apply pw_below_drewN | apply below_drew1 | refine below_set ?_ GE138.out | refine below_set ?_ GE140.out) | exact HB.out)⟩⟩
                                  · rw [if_neg c26] at H
                                    exact absurd H (by simp)
                                · rw [if_neg c25] at H
                                  exact absurd H (by simp)
                              · rw [if_neg c23] at H
                                have c23b0 : decide (0 < x12_1) = false := decide_eq_false c23
                                clear c23
                                have H' := Aside0.mk H
                                clear H
                                have p139 : 0 ≤ (x12_1 : Int) := of_decide_eq_true u3_2
                                have q139 : x12_1 < (l0_0.length : Int) := of_decide_eq_true u3_2
                                obtain ⟨ad139, e139, hx139_0, hx139_1, hx139_2, hx139_3, hx139_4⟩ := at_T53 HR0_0.out x12_1 p139 q139
                                cases e139
                                replace hx139_0 := (HB.out.cell (World.block_lt_of_cell? w _ hx139_0)).trans hx139_0
                                replace hx139_1 := (HB.out.cell (World.block_lt_of_cell? w _ hx139_1)).trans hx139_1
                                replace hx139_2 := (HB.out.cell (World.block_lt_of_cell? w _ hx139_2)).trans hx139_2
                                replace hx139_3 := (HB.out.cell (World.block_lt_of_cell? w _ hx139_3)).trans hx139_3
                                replace hx139_4 := (HB.out.cell (World.block_lt_of_cell? w _ hx139_4)).trans hx139_4
                                replace p139 := eq_true p139
                                replace q139 := eq_true q139
                                go_wp2_with (first | (first | ((with_reducible refine gate_dst (N := 4) rfl ?_); refine box_event ?hg (N := 4) ?hd (cs := #[.int .u64 0, .int .u64 0, .int .u64 0, .int .u64 0, .int .i64 0]) (t := 53) ?hr ?_; (case hd => rfl); (case hg => rfl); (case hr => first | (go_simp; done) | (go_simp; rfl)); intro gb140 hg w36 hbox hb; have n0_ := Aside0.mk (blk_below (g := gb138) (o := .cells #[.slice (some ad139) l0_0.length c0_0] 29 (0, 0)) u3_1 hb); have n1_ := Aside0.mk (below_step u3_0 hb); have n2_ := Aside0.mk (hbox); have n3_ := Aside0.mk ((by rw [hg]; exact (below_size u3_0) : w.heap.size ≤ gb140)); have n4_ := Aside0.mk ((by rw [hg]; exact (below_size u3_0) : w.heap.size ≤ gb140)); have n5_ := Aside0.mk ((by rw [hg]; exact Nat.ne_of_lt (blk_lt (g := gb138) (o := .cells #[.slice (some ad139) l0_0.length c0_0] 29 (0, 0)) u3_1) : gb138 ≠ gb140)); have n6_ := Aside0.mk ((by rw [hg]; exact Nat.ne_of_gt (blk_lt (g := gb138) (o := .cells #[.slice (some ad139) l0_0.length c0_0] 29 (0, 0)) u3_1) : gb140 ≠ gb138)); clear BK138; clear HB; have BK138 := n0_; have HB := n1_; have BK140 := n2_; have GW140 := n3_; have GE140 := n4_; have NB138_140 := n5_; have NB140_138 := n6_; clear n0_ n1_ n2_ n3_ n4_ n5_ n6_; clear hb hbox hg; have hnb37 := NB140_138.out; have hnc37 := NB138_140.out; have hcz38_0 : w36.cell? ⟨gb140, 0, none⟩ = some (.int .u64 0) := (blk_cell BK140.out 0).trans rfl; have hcz38_1 : w36.cell? ⟨gb140, 1, none⟩ = some (.int .u64 0) := (blk_cell BK140.out 1).trans rfl; have hcz38_2 : w36.cell? ⟨gb140, 2, none⟩ = some (.int .u64 0) := (blk_cell BK140.out 2).trans rfl; have hcz38_3 : w36.cell? ⟨gb140, 3, none⟩ = some (.int .u64 0) := (blk_cell BK140.out 3).trans rfl; have hcz38_4 : w36.cell? ⟨gb140, 4, none⟩ = some (.int .i64 0) := (blk_cell BK140.out 4).trans rfl; have hfz38_0 := blk_frozen BK140.out 0; have hfz38_1 := blk_frozen BK140.out 1; have hfz38_2 := blk_frozen BK140.out 2; have hfz38_3 := blk_frozen BK140.out 3; have hfz38_4 := blk_frozen BK140.out 4)) | go_quiet (fail))
                                go_roundg k1
                                case measure => have := HK1.out; omega
                                case rel => exact ⟨(wrap64 (x12_1 + 1)), u3_16, H', ⟨by have := HK1.out; omega⟩, ⟨by (with_reducible repeat (first | refine blk_drewN ?_ _ | refine blk_drew ?_ | refine blk_alloc ?_ _)); refine blk_far ?_ NB138_140.out _; (with_reducible repeat (first | refine blk_drewN ?_ _ | refine blk_drew ?_ | refine blk_alloc ?_ _)); refine blk_far ?_ NB138_140.out _; (with_reducible repeat (first | refine blk_drewN ?_ _ | refine blk_drew ?_ | refine blk_alloc ?_ _)); refine blk_far ?_ NB138_140.out _; (with_reducible repeat (first | refine blk_drewN ?_ _ | refine blk_drew ?_ | refine blk_alloc ?_ _)); refine blk_far ?_ NB138_140.out _; (with_reducible repeat (first | refine blk_drewN ?_ _ | refine blk_drew ?_ | refine blk_alloc ?_ _)); refine blk_far ?_ NB138_140.out _; (with_reducible repeat (first | refine blk_drewN ?_ _ | refine blk_drew ?_ | refine blk_alloc ?_ _)); exact BK138.out⟩, ⟨by repeat (first | (with_reducible first | exact HB.out | apply below_alloc | apply pw_below_drewN | apply below_drew1 | refine below_set ?_ GE138.out | refine below_set ?_ GE140.out) | exact HB.out)⟩⟩
                            · rw [if_neg c22] at H
                              have c22b0 : (((rd_T53 l0_0 x12_1).f3) == 0) = false := beq_eq_false_iff_ne.mpr c22
                              have c22b1 : (((rd_T53 l0_0 x12_1).f3) != 0) = true := bne_iff_ne.mpr c22
                              obtain rfl := Option.some.inj H
                              have p139 : 0 ≤ (x12_1 : Int) := of_decide_eq_true u3_2
                              have q139 : x12_1 < (l0_0.length : Int) := of_decide_eq_true u3_2
                              obtain ⟨ad139, e139, hx139_0, hx139_1, hx139_2, hx139_3, hx139_4⟩ := at_T53 HR0_0.out x12_1 p139 q139
                              cases e139
                              replace hx139_0 := (HB.out.cell (World.block_lt_of_cell? w _ hx139_0)).trans hx139_0
                              replace hx139_1 := (HB.out.cell (World.block_lt_of_cell? w _ hx139_1)).trans hx139_1
                              replace hx139_2 := (HB.out.cell (World.block_lt_of_cell? w _ hx139_2)).trans hx139_2
                              replace hx139_3 := (HB.out.cell (World.block_lt_of_cell? w _ hx139_3)).trans hx139_3
                              replace hx139_4 := (HB.out.cell (World.block_lt_of_cell? w _ hx139_4)).trans hx139_4
                              replace p139 := eq_true p139
                              replace q139 := eq_true q139
                              go_wp2_with (first | (first | ((with_reducible refine gate_dst (N := 4) rfl ?_); refine box_event ?hg (N := 4) ?hd (cs := #[.int .u64 0, .int .u64 0, .int .u64 0, .int .u64 0, .int .i64 0]) (t := 53) ?hr ?_; (case hd => rfl); (case hg => rfl); (case hr => first | (go_simp; done) | (go_simp; rfl)); intro gb140 hg w39 hbox hb; have n0_ := Aside0.mk (blk_below (g := gb138) (o := .cells #[.slice (some ad139) l0_0.length c0_0] 29 (0, 0)) u3_1 hb); have n1_ := Aside0.mk (below_step u3_0 hb); have n2_ := Aside0.mk (hbox); have n3_ := Aside0.mk ((by rw [hg]; exact (below_size u3_0) : w.heap.size ≤ gb140)); have n4_ := Aside0.mk ((by rw [hg]; exact (below_size u3_0) : w.heap.size ≤ gb140)); have n5_ := Aside0.mk ((by rw [hg]; exact Nat.ne_of_lt (blk_lt (g := gb138) (o := .cells #[.slice (some ad139) l0_0.length c0_0] 29 (0, 0)) u3_1) : gb138 ≠ gb140)); have n6_ := Aside0.mk ((by rw [hg]; exact Nat.ne_of_gt (blk_lt (g := gb138) (o := .cells #[.slice (some ad139) l0_0.length c0_0] 29 (0, 0)) u3_1) : gb140 ≠ gb138)); clear BK138; clear HB; have BK138 := n0_; have HB := n1_; have BK140 := n2_; have GW140 := n3_; have GE140 := n4_; have NB138_140 := n5_; have NB140_138 := n6_; clear n0_ n1_ n2_ n3_ n4_ n5_ n6_; clear hb hbox hg; have hnb40 := NB140_138.out; have hnc40 := NB138_140.out; have hcz41_0 : w39.cell? ⟨gb140, 0, none⟩ = some (.int .u64 0) := (blk_cell BK140.out 0).trans rfl; have hcz41_1 : w39.cell? ⟨gb140, 1, none⟩ = some (.int .u64 0) := (blk_cell BK140.out 1).trans rfl; have hcz41_2 : w39.cell? ⟨gb140, 2, none⟩ = some (.int .u64 0) := (blk_cell BK140.out 2).trans rfl; have hcz41_3 : w39.cell? ⟨gb140, 3, none⟩ = some (.int .u64 0) := (blk_cell BK140.out 3).trans rfl; have hcz41_4 : w39.cell? ⟨gb140, 4, none⟩ = some (.int .i64 0) := (blk_cell BK140.out 4).trans rfl; have hfz41_0 := blk_frozen BK140.out 0; have hfz41_1 := blk_frozen BK140.out 1; have hfz41_2 := blk_frozen BK140.out 2; have hfz41_3 := blk_frozen BK140.out 3; have hfz41_4 := blk_frozen BK140.out 4)) | go_quiet (fail))
                              go_ret
                              exact ⟨by first | rfl | (simp [errW_none, errW_some] <;> rfl) | (simp only [← hji9]; first | rfl | (simp [errW_none, errW_some] <;> rfl)) | (simp [*, errW_none, errW_some] <;> rfl), by repeat (first | (with_reducible first | exact HB.out | apply below_alloc | apply pw_below_drewN | apply below_drew1 | refine below_set ?_ GE138.out | refine below_set ?_ GE140.out) | exact HB.out)⟩
                          · rw [if_neg c21] at H
                            have c21b0 : (((rd_T53 l0_0 x12_1).f2) == 0) = false := beq_eq_false_iff_ne.mpr c21
                            have c21b1 : (((rd_T53 l0_0 x12_1).f2) != 0) = true := bne_iff_ne.mpr c21
                            obtain rfl := Option.some.inj H
                            have p139 : 0 ≤ (x12_1 : Int) := of_decide_eq_true u3_2
                            have q139 : x12_1 < (l0_0.length : Int) := of_decide_eq_true u3_2
                            obtain ⟨ad139, e139, hx139_0, hx139_1, hx139_2, hx139_3, hx139_4⟩ := at_T53 HR0_0.out x12_1 p139 q139
                            cases e139
                            replace hx139_0 := (HB.out.cell (World.block_lt_of_cell? w _ hx139_0)).trans hx139_0
                            replace hx139_1 := (HB.out.cell (World.block_lt_of_cell? w _ hx139_1)).trans hx139_1
                            replace hx139_2 := (HB.out.cell (World.block_lt_of_cell? w _ hx139_2)).trans hx139_2
                            replace hx139_3 := (HB.out.cell (World.block_lt_of_cell? w _ hx139_3)).trans hx139_3
                            replace hx139_4 := (HB.out.cell (World.block_lt_of_cell? w _ hx139_4)).trans hx139_4
                            replace p139 := eq_true p139
                            replace q139 := eq_true q139
                            go_wp2_with (first | (first | ((with_reducible refine gate_dst (N := 4) rfl ?_); refine box_event ?hg (N := 4) ?hd (cs := #[.int .u64 0, .int .u64 0, .int .u64 0, .int .u64 0, .int .i64 0]) (t := 53) ?hr ?_; (case hd => rfl); (case hg => rfl); (case hr => first | (go_simp; done) | (go_simp; rfl)); intro gb140 hg w42 hbox hb; have n0_ := Aside0.mk (blk_below (g := gb138) (o := .cells #[.slice (some ad139) l0_0.length c0_0] 29 (0, 0)) u3_1 hb); have n1_ := Aside0.mk (below_step u3_0 hb); have n2_ := Aside0.mk (hbox); have n3_ := Aside0.mk ((by rw [hg]; exact (below_size u3_0) : w.heap.size ≤ gb140)); have n4_ := Aside0.mk ((by rw [hg]; exact (below_size u3_0) : w.heap.size ≤ gb140)); have n5_ := Aside0.mk ((by rw [hg]; exact Nat.ne_of_lt (blk_lt (g := gb138) (o := .cells #[.slice (some ad139) l0_0.length c0_0] 29 (0, 0)) u3_1) : gb138 ≠ gb140)); have n6_ := Aside0.mk ((by rw [hg]; exact Nat.ne_of_gt (blk_lt (g := gb138) (o := .cells #[.slice (some ad139) l0_0.length c0_0] 29 (0, 0)) u3_1) : gb140 ≠ gb138)); clear BK138; clear HB; have BK138 := n0_; have HB := n1_; have BK140 := n2_; have GW140 := n3_; have GE140 := n4_; have NB138_140 := n5_; have NB140_138 := n6_; clear n0_ n1_ n2_ n3_ n4_ n5_ n6_; clear hb hbox hg; have hnb43 := NB140_138.out; have hnc43 := NB138_140.out; have hcz44_0 : w42.cell? ⟨gb140, 0, none⟩ = some (.int .u64 0) := (blk_cell BK140.out 0).trans rfl; have hcz44_1 : w42.cell? ⟨gb140, 1, none⟩ = some (.int .u64 0) := (blk_cell BK140.out 1).trans rfl; have hcz44_2 : w42.cell? ⟨gb140, 2, none⟩ = some (.int .u64 0) := (blk_cell BK140.out 2).trans rfl; have hcz44_3 : w42.cell? ⟨gb140, 3, none⟩ = some (.int .u64 0) := (blk_cell BK140.out 3).trans rfl; have hcz44_4 : w42.cell? ⟨gb140, 4, none⟩ = some (.int .i64 0) := (blk_cell BK140.out 4).trans rfl; have hfz44_0 := blk_frozen BK140.out 0; have hfz44_1 := blk_frozen BK140.out 1; have hfz44_2 := blk_frozen BK140.out 2; have hfz44_3 := blk_frozen BK140.out 3; have hfz44_4 := blk_frozen BK140.out 4)) | go_quiet (fail))
                            go_ret
                            exact ⟨by first | rfl | (simp [errW_none, errW_some] <;> rfl) | (simp only [← hji9]; first | rfl | (simp [errW_none, errW_some] <;> rfl)) | (simp [*, errW_none, errW_some] <;> rfl), by repeat (first | (with_reducible first | exact HB.out | apply below_alloc | apply pw_below_drewN | apply below_drew1 | refine below_set ?_ GE138.out | refine below_set ?_ GE140.out) | exact HB.out)⟩
                        · rw [if_neg c20] at H
                          have c20b0 : (((rd_T53 l0_0 x12_1).f4) == 0) = false := beq_eq_false_iff_ne.mpr c20
                          have c20b1 : (((rd_T53 l0_0 x12_1).f4) != 0) = true := bne_iff_ne.mpr c20
                          by_cases c45 : x12_1 > 0
                          · rw [if_pos c45] at H
                            have c45b0 : decide (0 < x12_1) = true := decide_eq_true c45
                            clear c45
                            obtain ⟨ji46, hji46⟩ : ∃ j_ : Int, (wrap64 (x12_1 - 1)) = j_ := ⟨_, rfl⟩
                            replace H : (if 0 ≤ (ji46) then (if (ji46) < (l0_0.length : Int) then (if ((rd_T53 l0_0 (ji46)).f0) ≥ ((rd_T53 l0_0 x12_1).f0) then (some false) else (impl_isBook.l0 k1 l0_0 (l0_0.length : Int) (wrap64 (x12_1 + 1)) l0_0)) else (none)) else (none)) = some r := by first | (rw [hji46] at H; exact H) | (simp only [hji46] at H ⊢; exact H)
                            have hji46w : (IntKind.i64.wrap (x12_1 - 1)) = ji46 := (i64_w _).trans hji46
                            by_cases c47 : 0 ≤ (ji46)
                            · rw [if_pos c47] at H
                              have c47b0 : decide (0 ≤ (ji46)) = true := decide_eq_true c47
                              clear c47
                              by_cases c48 : (ji46) < (l0_0.length : Int)
                              · rw [if_pos c48] at H
                                have c48b0 : decide ((ji46) < (l0_0.length : Int)) = true := decide_eq_true c48
                                clear c48
                                by_cases c49 : ((rd_T53 l0_0 (ji46)).f0) ≥ ((rd_T53 l0_0 x12_1).f0)
                                · rw [if_pos c49] at H
                                  have c49b0 : decide (((rd_T53 l0_0 x12_1).f0) ≤ ((rd_T53 l0_0 (ji46)).f0)) = true := decide_eq_true c49
                                  clear c49
                                  obtain rfl := Option.some.inj H
                                  have p139 : 0 ≤ (x12_1 : Int) := of_decide_eq_true u3_2
                                  have q139 : x12_1 < (l0_0.length : Int) := of_decide_eq_true u3_2
                                  obtain ⟨ad139, e139, hx139_0, hx139_1, hx139_2, hx139_3, hx139_4⟩ := at_T53 HR0_0.out x12_1 p139 q139
                                  cases e139
                                  replace hx139_0 := (HB.out.cell (World.block_lt_of_cell? w _ hx139_0)).trans hx139_0
                                  replace hx139_1 := (HB.out.cell (World.block_lt_of_cell? w _ hx139_1)).trans hx139_1
                                  replace hx139_2 := (HB.out.cell (World.block_lt_of_cell? w _ hx139_2)).trans hx139_2
                                  replace hx139_3 := (HB.out.cell (World.block_lt_of_cell? w _ hx139_3)).trans hx139_3
                                  replace hx139_4 := (HB.out.cell (World.block_lt_of_cell? w _ hx139_4)).trans hx139_4
                                  replace p139 := eq_true p139
                                  replace q139 := eq_true q139
                                  go_wp2_with (first | (first | ((with_reducible refine gate_dst (N := 4) rfl ?_); refine box_event ?hg (N := 4) ?hd (cs := #[.int .u64 0, .int .u64 0, .int .u64 0, .int .u64 0, .int .i64 0]) (t := 53) ?hr ?_; (case hd => rfl); (case hg => rfl); (case hr => first | (go_simp; done) | (go_simp; rfl)); intro gb140 hg w50 hbox hb; have n0_ := Aside0.mk (blk_below (g := gb138) (o := .cells #[.slice (some ad139) l0_0.length c0_0] 29 (0, 0)) u3_1 hb); have n1_ := Aside0.mk (below_step u3_0 hb); have n2_ := Aside0.mk (hbox); have n3_ := Aside0.mk ((by rw [hg]; exact (below_size u3_0) : w.heap.size ≤ gb140)); have n4_ := Aside0.mk ((by rw [hg]; exact (below_size u3_0) : w.heap.size ≤ gb140)); have n5_ := Aside0.mk ((by rw [hg]; exact Nat.ne_of_lt (blk_lt (g := gb138) (o := .cells #[.slice (some ad139) l0_0.length c0_0] 29 (0, 0)) u3_1) : gb138 ≠ gb140)); have n6_ := Aside0.mk ((by rw [hg]; exact Nat.ne_of_gt (blk_lt (g := gb138) (o := .cells #[.slice (some ad139) l0_0.length c0_0] 29 (0, 0)) u3_1) : gb140 ≠ gb138)); clear BK138; clear HB; have BK138 := n0_; have HB := n1_; have BK140 := n2_; have GW140 := n3_; have GE140 := n4_; have NB138_140 := n5_; have NB140_138 := n6_; clear n0_ n1_ n2_ n3_ n4_ n5_ n6_; clear hb hbox hg; have hnb51 := NB140_138.out; have hnc51 := NB138_140.out; have hcz52_0 : w50.cell? ⟨gb140, 0, none⟩ = some (.int .u64 0) := (blk_cell BK140.out 0).trans rfl; have hcz52_1 : w50.cell? ⟨gb140, 1, none⟩ = some (.int .u64 0) := (blk_cell BK140.out 1).trans rfl; have hcz52_2 : w50.cell? ⟨gb140, 2, none⟩ = some (.int .u64 0) := (blk_cell BK140.out 2).trans rfl; have hcz52_3 : w50.cell? ⟨gb140, 3, none⟩ = some (.int .u64 0) := (blk_cell BK140.out 3).trans rfl; have hcz52_4 : w50.cell? ⟨gb140, 4, none⟩ = some (.int .i64 0) := (blk_cell BK140.out 4).trans rfl; have hfz52_0 := blk_frozen BK140.out 0; have hfz52_1 := blk_frozen BK140.out 1; have hfz52_2 := blk_frozen BK140.out 2; have hfz52_3 := blk_frozen BK140.out 3; have hfz52_4 := blk_frozen BK140.out 4; have hcz53_0 : w50.cell? ⟨gb138, 0, none⟩ = some (.slice (some ad139) l0_0.length c0_0) := (blk_cell BK138.out 0).trans rfl; have hfz53_0 := blk_frozen BK138.out 0; have p142 : 0 ≤ ((ji46) : Int) := of_decide_eq_true u3_2; have q142 : (ji46) < (l0_0.length : Int) := of_decide_eq_true u3_2; obtain ⟨ad142, e142, hx142_0, hx142_1, hx142_2, hx142_3, hx142_4⟩ := at_T53 HR0_0.out (ji46) p142 q142; obtain rfl : ad139 = ad142 := (by injection e142); have hn142_0 : ad139.block ≠ gb140 := Nat.ne_of_lt (Nat.lt_of_lt_of_le u3_15 GW140.out); have hn142_1 : ad139.block ≠ gb140 := Nat.ne_of_lt (Nat.lt_of_lt_of_le u3_15 GW140.out); have hn142_2 : ad139.block ≠ gb140 := Nat.ne_of_lt (Nat.lt_of_lt_of_le u3_15 GW140.out); have hn142_3 : ad139.block ≠ gb140 := Nat.ne_of_lt (Nat.lt_of_lt_of_le u3_15 GW140.out); have hn142_4 : ad139.block ≠ gb140 := Nat.ne_of_lt (Nat.lt_of_lt_of_le u3_15 GW140.out); replace hx142_0 := (HB.out.cell (World.block_lt_of_cell? w _ hx142_0)).trans hx142_0; replace hx142_1 := (HB.out.cell (World.block_lt_of_cell? w _ hx142_1)).trans hx142_1; replace hx142_2 := (HB.out.cell (World.block_lt_of_cell? w _ hx142_2)).trans hx142_2; replace hx142_3 := (HB.out.cell (World.block_lt_of_cell? w _ hx142_3)).trans hx142_3; replace hx142_4 := (HB.out.cell (World.block_lt_of_cell? w _ hx142_4)).trans hx142_4; replace hx142_0 := (cell_far (p := ⟨gb140, 0, none⟩) u3_9 (.int .u64 ((rd_T53 l0_0 x12_1).f0))).trans hx142_0; replace hx142_1 := (cell_far (p := ⟨gb140, 0, none⟩) u3_9 (.int .u64 ((rd_T53 l0_0 x12_1).f0))).trans hx142_1; replace hx142_2 := (cell_far (p := ⟨gb140, 0, none⟩) u3_9 (.int .u64 ((rd_T53 l0_0 x12_1).f0))).trans hx142_2; replace hx142_3 := (cell_far (p := ⟨gb140, 0, none⟩) u3_9 (.int .u64 ((rd_T53 l0_0 x12_1).f0))).trans hx142_3; replace hx142_4 := (cell_far (p := ⟨gb140, 0, none⟩) u3_9 (.int .u64 ((rd_T53 l0_0 x12_1).f0))).trans hx142_4; replace hx142_0 := (cell_far (p := ⟨gb140, 1, none⟩) u3_10 (.int .u64 ((rd_T53 l0_0 x12_1).f1))).trans hx142_0; replace hx142_1 := (cell_far (p := ⟨gb140, 1, none⟩) u3_10 (.int .u64 ((rd_T53 l0_0 x12_1).f1))).trans hx142_1; replace hx142_2 := (cell_far (p := ⟨gb140, 1, none⟩) u3_10 (.int .u64 ((rd_T53 l0_0 x12_1).f1))).trans hx142_2; replace hx142_3 := (cell_far (p := ⟨gb140, 1, none⟩) u3_10 (.int .u64 ((rd_T53 l0_0 x12_1).f1))).trans hx142_3; replace hx142_4 := (cell_far (p := ⟨gb140, 1, none⟩) u3_10 (.int .u64 ((rd_T53 l0_0 x12_1).f1))).trans hx142_4; replace hx142_0 := (cell_far (p := ⟨gb140, 2, none⟩) u3_11 (.int .u64 ((rd_T53 l0_0 x12_1).f2))).trans hx142_0; replace hx142_1 := (cell_far (p := ⟨gb140, 2, none⟩) u3_11 (.int .u64 ((rd_T53 l0_0 x12_1).f2))).trans hx142_1; replace hx142_2 := (cell_far (p := ⟨gb140, 2, none⟩) u3_11 (.int .u64 ((rd_T53 l0_0 x12_1).f2))).trans hx142_2; replace hx142_3 := (cell_far (p := ⟨gb140, 2, none⟩) u3_11 (.int .u64 ((rd_T53 l0_0 x12_1).f2))).trans hx142_3; replace hx142_4 := (cell_far (p := ⟨gb140, 2, none⟩) u3_11 (.int .u64 ((rd_T53 l0_0 x12_1).f2))).trans hx142_4; replace hx142_0 := (cell_far (p := ⟨gb140, 3, none⟩) u3_12 (.int .u64 ((rd_T53 l0_0 x12_1).f3))).trans hx142_0; replace hx142_1 := (cell_far (p := ⟨gb140, 3, none⟩) u3_12 (.int .u64 ((rd_T53 l0_0 x12_1).f3))).trans hx142_1; replace hx142_2 := (cell_far (p := ⟨gb140, 3, none⟩) u3_12 (.int .u64 ((rd_T53 l0_0 x12_1).f3))).trans hx142_2; replace hx142_3 := (cell_far (p := ⟨gb140, 3, none⟩) u3_12 (.int .u64 ((rd_T53 l0_0 x12_1).f3))).trans hx142_3; replace hx142_4 := (cell_far (p := ⟨gb140, 3, none⟩) u3_12 (.int .u64 ((rd_T53 l0_0 x12_1).f3))).trans hx142_4; replace hx142_0 := (cell_far (p := ⟨gb140, 4, none⟩) u3_13 (.int .i64 ((rd_T53 l0_0 x12_1).f4))).trans hx142_0; replace hx142_1 := (cell_far (p := ⟨gb140, 4, none⟩) u3_13 (.int .i64 ((rd_T53 l0_0 x12_1).f4))).trans hx142_1; replace hx142_2 := (cell_far (p := ⟨gb140, 4, none⟩) u3_13 (.int .i64 ((rd_T53 l0_0 x12_1).f4))).trans hx142_2; replace hx142_3 := (cell_far (p := ⟨gb140, 4, none⟩) u3_13 (.int .i64 ((rd_T53 l0_0 x12_1).f4))).trans hx142_3; replace hx142_4 := (cell_far (p := ⟨gb140, 4, none⟩) u3_13 (.int .i64 ((rd_T53 l0_0 x12_1).f4))).trans hx142_4; (try have hch_ := fun (n_ : Nat) => (show (((((((w50.drewN n_).setCell ⟨gb140, 0, none⟩ (.int .u64 ((rd_T53 l0_0 x12_1).f0))).setCell ⟨gb140, 1, none⟩ (.int .u64 ((rd_T53 l0_0 x12_1).f1))).setCell ⟨gb140, 2, none⟩ (.int .u64 ((rd_T53 l0_0 x12_1).f2))).setCell ⟨gb140, 3, none⟩ (.int .u64 ((rd_T53 l0_0 x12_1).f3))).setCell ⟨gb140, 4, none⟩ (.int .i64 ((rd_T53 l0_0 x12_1).f4)))) = World.drewN ((((((w50.setCell ⟨gb140, 0, none⟩ (.int .u64 ((rd_T53 l0_0 x12_1).f0))).setCell ⟨gb140, 1, none⟩ (.int .u64 ((rd_T53 l0_0 x12_1).f1))).setCell ⟨gb140, 2, none⟩ (.int .u64 ((rd_T53 l0_0 x12_1).f2))).setCell ⟨gb140, 3, none⟩ (.int .u64 ((rd_T53 l0_0 x12_1).f3))).setCell ⟨gb140, 4, none⟩ (.int .i64 ((rd_T53 l0_0 x12_1).f4)))) n_ from by simp only [Go.Proofs.Ytdbfjakhkclggaa.Slc.setCell_drewN])); (try have hy142_0 := fun (n_ : Nat) => Go.Proofs.Ytdbfjakhkclggaa.Slc.cell_of (hch_ n_) hx142_0); (try have hy142_1 := fun (n_ : Nat) => Go.Proofs.Ytdbfjakhkclggaa.Slc.cell_of (hch_ n_) hx142_1); (try have hy142_2 := fun (n_ : Nat) => Go.Proofs.Ytdbfjakhkclggaa.Slc.cell_of (hch_ n_) hx142_2); (try have hy142_3 := fun (n_ : Nat) => Go.Proofs.Ytdbfjakhkclggaa.Slc.cell_of (hch_ n_) hx142_3); (try have hy142_4 := fun (n_ : Nat) => Go.Proofs.Ytdbfjakhkclggaa.Slc.cell_of (hch_ n_) hx142_4); clear hn142_0; clear hn142_1; clear hn142_2; clear hn142_3; clear hn142_4; replace p142 := eq_true p142; replace q142 := eq_true q142)) | go_quiet (fail))
                                  go_ret
                                  exact ⟨by first | rfl | (simp [errW_none, errW_some] <;> rfl) | (simp only [← hji9, ← hji46]; first | rfl | (simp [errW_none, errW_some] <;> rfl)) | (simp [*, errW_none, errW_some] <;> rfl), by repeat (first | (with_reducible first | exact HB.out | apply below_alloc | apply pw_below_drewN | apply below_drew1 | refine below_set ?_ GE138.out | refine below_set ?_ GE140.out) | exact HB.out)⟩
                                · rw [if_neg c49] at H
                                  have c49b0 : decide (((rd_T53 l0_0 x12_1).f0) ≤ ((rd_T53 l0_0 (ji46)).f0)) = false := decide_eq_false c49
                                  clear c49
                                  have H' := Aside0.mk H
                                  clear H
                                  have p139 : 0 ≤ (x12_1 : Int) := of_decide_eq_true u3_2
                                  have q139 : x12_1 < (l0_0.length : Int) := of_decide_eq_true u3_2
                                  obtain ⟨ad139, e139, hx139_0, hx139_1, hx139_2, hx139_3, hx139_4⟩ := at_T53 HR0_0.out x12_1 p139 q139
                                  cases e139
                                  replace hx139_0 := (HB.out.cell (World.block_lt_of_cell? w _ hx139_0)).trans hx139_0
                                  replace hx139_1 := (HB.out.cell (World.block_lt_of_cell? w _ hx139_1)).trans hx139_1
                                  replace hx139_2 := (HB.out.cell (World.block_lt_of_cell? w _ hx139_2)).trans hx139_2
                                  replace hx139_3 := (HB.out.cell (World.block_lt_of_cell? w _ hx139_3)).trans hx139_3
                                  replace hx139_4 := (HB.out.cell (World.block_lt_of_cell? w _ hx139_4)).trans hx139_4
                                  replace p139 := eq_true p139
                                  replace q139 := eq_true q139
                                  go_wp2_with (first | (first | ((with_reducible refine gate_dst (N := 4) rfl ?_); refine box_event ?hg (N := 4) ?hd (cs := #[.int .u64 0, .int .u64 0, .int .u64 0, .int .u64 0, .int .i64 0]) (t := 53) ?hr ?_; (case hd => rfl); (case hg => rfl); (case hr => first | (go_simp; done) | (go_simp; rfl)); intro gb140 hg w54 hbox hb; have n0_ := Aside0.mk (blk_below (g := gb138) (o := .cells #[.slice (some ad139) l0_0.length c0_0] 29 (0, 0)) u3_1 hb); have n1_ := Aside0.mk (below_step u3_0 hb); have n2_ := Aside0.mk (hbox); have n3_ := Aside0.mk ((by rw [hg]; exact (below_size u3_0) : w.heap.size ≤ gb140)); have n4_ := Aside0.mk ((by rw [hg]; exact (below_size u3_0) : w.heap.size ≤ gb140)); have n5_ := Aside0.mk ((by rw [hg]; exact Nat.ne_of_lt (blk_lt (g := gb138) (o := .cells #[.slice (some ad139) l0_0.length c0_0] 29 (0, 0)) u3_1) : gb138 ≠ gb140)); have n6_ := Aside0.mk ((by rw [hg]; exact Nat.ne_of_gt (blk_lt (g := gb138) (o := .cells #[.slice (some ad139) l0_0.length c0_0] 29 (0, 0)) u3_1) : gb140 ≠ gb138)); clear BK138; clear HB; have BK138 := n0_; have HB := n1_; have BK140 := n2_; have GW140 := n3_; have GE140 := n4_; have NB138_140 := n5_; have NB140_138 := n6_; clear n0_ n1_ n2_ n3_ n4_ n5_ n6_; clear hb hbox hg; have hnb55 := NB140_138.out; have hnc55 := NB138_140.out; have hcz56_0 : w54.cell? ⟨gb140, 0, none⟩ = some (.int .u64 0) := (blk_cell BK140.out 0).trans rfl; have hcz56_1 : w54.cell? ⟨gb140, 1, none⟩ = some (.int .u64 0) := (blk_cell BK140.out 1).trans rfl; have hcz56_2 : w54.cell? ⟨gb140, 2, none⟩ = some (.int .u64 0) := (blk_cell BK140.out 2).trans rfl; have hcz56_3 : w54.cell? ⟨gb140, 3, none⟩ = some (.int .u64 0) := (blk_cell BK140.out 3).trans rfl; have hcz56_4 : w54.cell? ⟨gb140, 4, none⟩ = some (.int .i64 0) := (blk_cell BK140.out 4).trans rfl; have hfz56_0 := blk_frozen BK140.out 0; have hfz56_1 := blk_frozen BK140.out 1; have hfz56_2 := blk_frozen BK140.out 2; have hfz56_3 := blk_frozen BK140.out 3; have hfz56_4 := blk_frozen BK140.out 4; have hcz57_0 : w54.cell? ⟨gb138, 0, none⟩ = some (.slice (some ad139) l0_0.length c0_0) := (blk_cell BK138.out 0).trans rfl; have hfz57_0 := blk_frozen BK138.out 0; have p142 : 0 ≤ ((ji46) : Int) := of_decide_eq_true u3_2; have q142 : (ji46) < (l0_0.length : Int) := of_decide_eq_true u3_2; obtain ⟨ad142, e142, hx142_0, hx142_1, hx142_2, hx142_3, hx142_4⟩ := at_T53 HR0_0.out (ji46) p142 q142; obtain rfl : ad139 = ad142 := (by injection e142); have hn142_0 : ad139.block ≠ gb140 := Nat.ne_of_lt (Nat.lt_of_lt_of_le u3_15 GW140.out); have hn142_1 : ad139.block ≠ gb140 := Nat.ne_of_lt (Nat.lt_of_lt_of_le u3_15 GW140.out); have hn142_2 : ad139.block ≠ gb140 := Nat.ne_of_lt (Nat.lt_of_lt_of_le u3_15 GW140.out); have hn142_3 : ad139.block ≠ gb140 := Nat.ne_of_lt (Nat.lt_of_lt_of_le u3_15 GW140.out); have hn142_4 : ad139.block ≠ gb140 := Nat.ne_of_lt (Nat.lt_of_lt_of_le u3_15 GW140.out); replace hx142_0 := (HB.out.cell (World.block_lt_of_cell? w _ hx142_0)).trans hx142_0; replace hx142_1 := (HB.out.cell (World.block_lt_of_cell? w _ hx142_1)).trans hx142_1; replace hx142_2 := (HB.out.cell (World.block_lt_of_cell? w _ hx142_2)).trans hx142_2; replace hx142_3 := (HB.out.cell (World.block_lt_of_cell? w _ hx142_3)).trans hx142_3; replace hx142_4 := (HB.out.cell (World.block_lt_of_cell? w _ hx142_4)).trans hx142_4; replace hx142_0 := (cell_far (p := ⟨gb140, 0, none⟩) u3_9 (.int .u64 ((rd_T53 l0_0 x12_1).f0))).trans hx142_0; replace hx142_1 := (cell_far (p := ⟨gb140, 0, none⟩) u3_9 (.int .u64 ((rd_T53 l0_0 x12_1).f0))).trans hx142_1; replace hx142_2 := (cell_far (p := ⟨gb140, 0, none⟩) u3_9 (.int .u64 ((rd_T53 l0_0 x12_1).f0))).trans hx142_2; replace hx142_3 := (cell_far (p := ⟨gb140, 0, none⟩) u3_9 (.int .u64 ((rd_T53 l0_0 x12_1).f0))).trans hx142_3; replace hx142_4 := (cell_far (p := ⟨gb140, 0, none⟩) u3_9 (.int .u64 ((rd_T53 l0_0 x12_1).f0))).trans hx142_4; replace hx142_0 := (cell_far (p := ⟨gb140, 1, none⟩) u3_10 (.int .u64 ((rd_T53 l0_0 x12_1).f1))).trans hx142_0; replace hx142_1 := (cell_far (p := ⟨gb140, 1, none⟩) u3_10 (.int .u64 ((rd_T53 l0_0 x12_1).f1))).trans hx142_1; replace hx142_2 := (cell_far (p := ⟨gb140, 1, none⟩) u3_10 (.int .u64 ((rd_T53 l0_0 x12_1).f1))).trans hx142_2; replace hx142_3 := (cell_far (p := ⟨gb140, 1, none⟩) u3_10 (.int .u64 ((rd_T53 l0_0 x12_1).f1))).trans hx142_3; replace hx142_4 := (cell_far (p := ⟨gb140, 1, none⟩) u3_10 (.int .u64 ((rd_T53 l0_0 x12_1).f1))).trans hx142_4; replace hx142_0 := (cell_far (p := ⟨gb140, 2, none⟩) u3_11 (.int .u64 ((rd_T53 l0_0 x12_1).f2))).trans hx142_0; replace hx142_1 := (cell_far (p := ⟨gb140, 2, none⟩) u3_11 (.int .u64 ((rd_T53 l0_0 x12_1).f2))).trans hx142_1; replace hx142_2 := (cell_far (p := ⟨gb140, 2, none⟩) u3_11 (.int .u64 ((rd_T53 l0_0 x12_1).f2))).trans hx142_2; replace hx142_3 := (cell_far (p := ⟨gb140, 2, none⟩) u3_11 (.int .u64 ((rd_T53 l0_0 x12_1).f2))).trans hx142_3; replace hx142_4 := (cell_far (p := ⟨gb140, 2, none⟩) u3_11 (.int .u64 ((rd_T53 l0_0 x12_1).f2))).trans hx142_4; replace hx142_0 := (cell_far (p := ⟨gb140, 3, none⟩) u3_12 (.int .u64 ((rd_T53 l0_0 x12_1).f3))).trans hx142_0; replace hx142_1 := (cell_far (p := ⟨gb140, 3, none⟩) u3_12 (.int .u64 ((rd_T53 l0_0 x12_1).f3))).trans hx142_1; replace hx142_2 := (cell_far (p := ⟨gb140, 3, none⟩) u3_12 (.int .u64 ((rd_T53 l0_0 x12_1).f3))).trans hx142_2; replace hx142_3 := (cell_far (p := ⟨gb140, 3, none⟩) u3_12 (.int .u64 ((rd_T53 l0_0 x12_1).f3))).trans hx142_3; replace hx142_4 := (cell_far (p := ⟨gb140, 3, none⟩) u3_12 (.int .u64 ((rd_T53 l0_0 x12_1).f3))).trans hx142_4; replace hx142_0 := (cell_far (p := ⟨gb140, 4, none⟩) u3_13 (.int .i64 ((rd_T53 l0_0 x12_1).f4))).trans hx142_0; replace hx142_1 := (cell_far (p := ⟨gb140, 4, none⟩) u3_13 (.int .i64 ((rd_T53 l0_0 x12_1).f4))).trans hx142_1; replace hx142_2 := (cell_far (p := ⟨gb140, 4, none⟩) u3_13 (.int .i64 ((rd_T53 l0_0 x12_1).f4))).trans hx142_2; replace hx142_3 := (cell_far (p := ⟨gb140, 4, none⟩) u3_13 (.int .i64 ((rd_T53 l0_0 x12_1).f4))).trans hx142_3; replace hx142_4 := (cell_far (p := ⟨gb140, 4, none⟩) u3_13 (.int .i64 ((rd_T53 l0_0 x12_1).f4))).trans hx142_4; (try have hch_ := fun (n_ : Nat) => (show (((((((w54.drewN n_).setCell ⟨gb140, 0, none⟩ (.int .u64 ((rd_T53 l0_0 x12_1).f0))).setCell ⟨gb140, 1, none⟩ (.int .u64 ((rd_T53 l0_0 x12_1).f1))).setCell ⟨gb140, 2, none⟩ (.int .u64 ((rd_T53 l0_0 x12_1).f2))).setCell ⟨gb140, 3, none⟩ (.int .u64 ((rd_T53 l0_0 x12_1).f3))).setCell ⟨gb140, 4, none⟩ (.int .i64 ((rd_T53 l0_0 x12_1).f4)))) = World.drewN ((((((w54.setCell ⟨gb140, 0, none⟩ (.int .u64 ((rd_T53 l0_0 x12_1).f0))).setCell ⟨gb140, 1, none⟩ (.int .u64 ((rd_T53 l0_0 x12_1).f1))).setCell ⟨gb140, 2, none⟩ (.int .u64 ((rd_T53 l0_0 x12_1).f2))).setCell ⟨gb140, 3, none⟩ (.int .u64 ((rd_T53 l0_0 x12_1).f3))).setCell ⟨gb140, 4, none⟩ (.int .i64 ((rd_T53 l0_0 x12_1).f4)))) n_ from by simp only [Go.Proofs.Ytdbfjakhkclggaa.Slc.setCell_drewN])); (try have hy142_0 := fun (n_ : Nat) => Go.Proofs.Ytdbfjakhkclggaa.Slc.cell_of (hch_ n_) hx142_0); (try have hy142_1 := fun (n_ : Nat) => Go.Proofs.Ytdbfjakhkclggaa.Slc.cell_of (hch_ n_) hx142_1); (try have hy142_2 := fun (n_ : Nat) => Go.Proofs.Ytdbfjakhkclggaa.Slc.cell_of (hch_ n_) hx142_2); (try have hy142_3 := fun (n_ : Nat) => Go.Proofs.Ytdbfjakhkclggaa.Slc.cell_of (hch_ n_) hx142_3); (try have hy142_4 := fun (n_ : Nat) => Go.Proofs.Ytdbfjakhkclggaa.Slc.cell_of (hch_ n_) hx142_4); clear hn142_0; clear hn142_1; clear hn142_2; clear hn142_3; clear hn142_4; replace p142 := eq_true p142; replace q142 := eq_true q142)) | go_quiet (fail))
                                  go_roundg k1
                                  case measure => have := HK1.out; omega
                                  case rel => exact ⟨(wrap64 (x12_1 + 1)), u3_16, H', ⟨by have := HK1.out; omega⟩, ⟨by (with_reducible repeat (first | refine blk_drewN ?_ _ | refine blk_drew ?_ | refine blk_alloc ?_ _)); refine blk_far ?_ NB138_140.out _; (with_reducible repeat (first | refine blk_drewN ?_ _ | refine blk_drew ?_ | refine blk_alloc ?_ _)); refine blk_far ?_ NB138_140.out _; (with_reducible repeat (first | refine blk_drewN ?_ _ | refine blk_drew ?_ | refine blk_alloc ?_ _)); refine blk_far ?_ NB138_140.out _; (with_reducible repeat (first | refine blk_drewN ?_ _ | refine blk_drew ?_ | refine blk_alloc ?_ _)); refine blk_far ?_ NB138_140.out _; (with_reducible repeat (first | refine blk_drewN ?_ _ | refine blk_drew ?_ | refine blk_alloc ?_ _)); refine blk_far ?_ NB138_140.out _; (with_reducible repeat (first | refine blk_drewN ?_ _ | refine blk_drew ?_ | refine blk_alloc ?_ _)); exact BK138.out⟩, ⟨by repeat (first | (with_reducible first | exact HB.out | apply below_alloc | apply pw_below_drewN | apply below_drew1 | refine below_set ?_ GE138.out | refine below_set ?_ GE140.out) | exact HB.out)⟩⟩
                              · rw [if_neg c48] at H
                                exact absurd H (by simp)
                            · rw [if_neg c47] at H
                              exact absurd H (by simp)
                          · rw [if_neg c45] at H
                            have c45b0 : decide (0 < x12_1) = false := decide_eq_false c45
                            clear c45
                            have H' := Aside0.mk H
                            clear H
                            have p139 : 0 ≤ (x12_1 : Int) := of_decide_eq_true u3_2
                            have q139 : x12_1 < (l0_0.length : Int) := of_decide_eq_true u3_2
                            obtain ⟨ad139, e139, hx139_0, hx139_1, hx139_2, hx139_3, hx139_4⟩ := at_T53 HR0_0.out x12_1 p139 q139
                            cases e139
                            replace hx139_0 := (HB.out.cell (World.block_lt_of_cell? w _ hx139_0)).trans hx139_0
                            replace hx139_1 := (HB.out.cell (World.block_lt_of_cell? w _ hx139_1)).trans hx139_1
                            replace hx139_2 := (HB.out.cell (World.block_lt_of_cell? w _ hx139_2)).trans hx139_2
                            replace hx139_3 := (HB.out.cell (World.block_lt_of_cell? w _ hx139_3)).trans hx139_3
                            replace hx139_4 := (HB.out.cell (World.block_lt_of_cell? w _ hx139_4)).trans hx139_4
                            replace p139 := eq_true p139
                            replace q139 := eq_true q139
                            go_wp2_with (first | (first | ((with_reducible refine gate_dst (N := 4) rfl ?_); refine box_event ?hg (N := 4) ?hd (cs := #[.int .u64 0, .int .u64 0, .int .u64 0, .int .u64 0, .int .i64 0]) (t := 53) ?hr ?_; (case hd => rfl); (case hg => rfl); (case hr => first | (go_simp; done) | (go_simp; rfl)); intro gb140 hg w58 hbox hb; have n0_ := Aside0.mk (blk_below (g := gb138) (o := .cells #[.slice (some ad139) l0_0.length c0_0] 29 (0, 0)) u3_1 hb); have n1_ := Aside0.mk (below_step u3_0 hb); have n2_ := Aside0.mk (hbox); have n3_ := Aside0.mk ((by rw [hg]; exact (below_size u3_0) : w.heap.size ≤ gb140)); have n4_ := Aside0.mk ((by rw [hg]; exact (below_size u3_0) : w.heap.size ≤ gb140)); have n5_ := Aside0.mk ((by rw [hg]; exact Nat.ne_of_lt (blk_lt (g := gb138) (o := .cells #[.slice (some ad139) l0_0.length c0_0] 29 (0, 0)) u3_1) : gb138 ≠ gb140)); have n6_ := Aside0.mk ((by rw [hg]; exact Nat.ne_of_gt (blk_lt (g := gb138) (o := .cells #[.slice (some ad139) l0_0.length c0_0] 29 (0, 0)) u3_1) : gb140 ≠ gb138)); clear BK138; clear HB; have BK138 := n0_; have HB := n1_; have BK140 := n2_; have GW140 := n3_; have GE140 := n4_; have NB138_140 := n5_; have NB140_138 := n6_; clear n0_ n1_ n2_ n3_ n4_ n5_ n6_; clear hb hbox hg; have hnb59 := NB140_138.out; have hnc59 := NB138_140.out; have hcz60_0 : w58.cell? ⟨gb140, 0, none⟩ = some (.int .u64 0) := (blk_cell BK140.out 0).trans rfl; have hcz60_1 : w58.cell? ⟨gb140, 1, none⟩ = some (.int .u64 0) := (blk_cell BK140.out 1).trans rfl; have hcz60_2 : w58.cell? ⟨gb140, 2, none⟩ = some (.int .u64 0) := (blk_cell BK140.out 2).trans rfl; have hcz60_3 : w58.cell? ⟨gb140, 3, none⟩ = some (.int .u64 0) := (blk_cell BK140.out 3).trans rfl; have hcz60_4 : w58.cell? ⟨gb140, 4, none⟩ = some (.int .i64 0) := (blk_cell BK140.out 4).trans rfl; have hfz60_0 := blk_frozen BK140.out 0; have hfz60_1 := blk_frozen BK140.out 1; have hfz60_2 := blk_frozen BK140.out 2; have hfz60_3 := blk_frozen BK140.out 3; have hfz60_4 := blk_frozen BK140.out 4)) | go_quiet (fail))
                            go_roundg k1
                            case measure => have := HK1.out; omega
                            case rel => exact ⟨(wrap64 (x12_1 + 1)), u3_16, H', ⟨by have := HK1.out; omega⟩, ⟨by (with_reducible repeat (first | refine blk_drewN ?_ _ | refine blk_drew ?_ | refine blk_alloc ?_ _)); refine blk_far ?_ NB138_140.out _; (with_reducible repeat (first | refine blk_drewN ?_ _ | refine blk_drew ?_ | refine blk_alloc ?_ _)); refine blk_far ?_ NB138_140.out _; (with_reducible repeat (first | refine blk_drewN ?_ _ | refine blk_drew ?_ | refine blk_alloc ?_ _)); refine blk_far ?_ NB138_140.out _; (with_reducible repeat (first | refine blk_drewN ?_ _ | refine blk_drew ?_ | refine blk_alloc ?_ _)); refine blk_far ?_ NB138_140.out _; (with_reducible repeat (first | refine blk_drewN ?_ _ | refine blk_drew ?_ | refine blk_alloc ?_ _)); refine blk_far ?_ NB138_140.out _; (with_reducible repeat (first | refine blk_drewN ?_ _ | refine blk_drew ?_ | refine blk_alloc ?_ _)); exact BK138.out⟩, ⟨by repeat (first | (with_reducible first | exact HB.out | apply below_alloc | apply pw_below_drewN | apply below_drew1 | refine below_set ?_ GE138.out | refine below_set ?_ GE140.out) | exact HB.out)⟩⟩
                  · rw [if_neg c11] at H
                    exact absurd H (by simp)
                · rw [if_neg c10] at H
                  exact absurd H (by simp)
              · rw [if_neg c8] at H
                exact absurd H (by simp)
            · rw [if_neg c7] at H
              exact absurd H (by simp)
          · rw [if_neg c6] at H
            exact absurd H (by simp)
        · rw [if_neg c5] at H
          exact absurd H (by simp)
      · rw [if_neg c4] at H
        have c4b0 : decide (x12_1 < (l0_0.length : Int)) = false := decide_eq_false c4
        clear c4
        obtain rfl := Option.some.inj H
        have hcz61_0 : wr.cell? ⟨gb138, 0, none⟩ = some (.slice A0_0 l0_0.length c0_0) := (blk_cell BK138.out 0).trans rfl
        have hfz61_0 := blk_frozen BK138.out 0
        go_wp2
        repeat (go_quiet (fail); try go_wp2)
        go_ret
        exact ⟨by first | rfl | (simp [errW_none, errW_some] <;> rfl) | (simp [*, errW_none, errW_some] <;> rfl), by repeat (first | (with_reducible first | exact HB.out | apply below_alloc | apply pw_below_drewN | apply below_drew1 | refine below_set ?_ GE138.out) | exact HB.out)⟩

/-! ### impl_totalOf: function 52 -/
def impl_totalOf.l0 : Nat → Int → Int → List (S53) → Int → Int → Option (Int × Int)
  | 0, _, _, _, _, _ => none
  | k + 1, x4, x5, x11, x12, x13 => if x13 < x12 then (if 0 ≤ x13 then (if x13 < (x11.length : Int) then (if 0 ≤ x5 then (if 0 ≤ (IntKind.u64.wrap (((rd_T53 x11 x13).f1) + ((rd_T53 x11 x13).f2))) then (impl_totalOf.l0 k (IntKind.u64.wrap (x4 + ((x5 + (IntKind.u64.wrap (((rd_T53 x11 x13).f1) + ((rd_T53 x11 x13).f2)))) / 18446744073709551616))) ((x5 + (IntKind.u64.wrap (((rd_T53 x11 x13).f1) + ((rd_T53 x11 x13).f2)))) % 18446744073709551616) x11 x12 (wrap64 (x13 + 1))) else (none)) else (none)) else (none)) else (none)) else (some (x4, x5))
def impl_totalOf.f (k : Nat) (l0_0 : List (S53)) : Option (Int × Int) := impl_totalOf.l0 k 0 0 l0_0 (l0_0.length : Int) 0
theorem impl_totalOf.mono_l : ∀ k, (∀ y0 y1 y2 y3 y4, LeO (impl_totalOf.l0 k y0 y1 y2 y3 y4) (impl_totalOf.l0 (k + 1) y0 y1 y2 y3 y4))
  | 0 => fun _ _ _ _ _ r h => by simp [impl_totalOf.l0] at h
  | k + 1 => by
    have ih0 := impl_totalOf.mono_l k
    · intro y0 y1 y2 y3 y4
      unfold impl_totalOf.l0
      repeat' first
      | (with_reducible exact ih0 _ _ _ _ _)
      | (with_reducible exact LeO.refl _)
      | (with_reducible exact LeO.none _)
      | (with_reducible refine LeO.ite ?_ ?_)
      | (with_reducible refine LeO.bind ?_ (fun _ => ?_))
      | exact ih0 _ _ _ _ _
      | exact LeO.none _
      | refine LeO.ite ?_ ?_
      | refine LeO.bind ?_ (fun _ => ?_)
theorem impl_totalOf.mono : ∀ a0 k, LeO (impl_totalOf.f k a0) (impl_totalOf.f (k + 1) a0) := by
  intro a0 k
  have ih0 := impl_totalOf.mono_l k
  unfold impl_totalOf.f
  repeat' first
      | (with_reducible exact ih0 _ _ _ _ _)
      | (with_reducible exact LeO.refl _)
      | (with_reducible exact LeO.none _)
      | (with_reducible refine LeO.ite ?_ ?_)
      | (with_reducible refine LeO.bind ?_ (fun _ => ?_))
      | exact ih0 _ _ _ _ _
      | exact LeO.none _
      | refine LeO.ite ?_ ?_
      | refine LeO.bind ?_ (fun _ => ?_)
set_option maxHeartbeats 8000000 in
set_option maxRecDepth 100000 in
theorem impl_totalOf.calls (k : Nat) (A0_0 : Option Addr) (c0_0 : Nat) (l0_0 : List (S53)) (r1 : Int) (r2 : Int) (w : World) (hr0_0 : Kd.C k53 w A0_0 l0_0.length l0_0) (hc0_0 : l0_0.length ≤ c0_0) (h : impl_totalOf.f k l0_0 = some (r1, r2)) :
    Calls Try.prog 52 #[.agg #[.slice A0_0 l0_0.length c0_0]] w fun e w' => e = .returned (.tuple #[.int .u64 r1, .int .u64 r2]) ∧ Below w.heap.size w w' := by
  have hu29 := Try.underlying29
  have hu53 := Try.underlying53
  have HR0_0 := Aside0.mk hr0_0
  have HC0_0 := Aside0.mk hc0_0
  clear hr0_0 hc0_0
  have HB := Aside0.mk (Below.refl w.heap.size w)
  have H : (impl_totalOf.l0 k 0 0 l0_0 (l0_0.length : Int) 0) = some (r1, r2) := h
  clear h
  have H' := Aside0.mk H
  clear H
  go_enter Try.func52, Try.ntmps52
  go_wp2_with (first | ((with_reducible refine gate_dst (N := 1) rfl ?_); refine box_event ?hg (N := 1) ?hd (cs := #[.slice A0_0 l0_0.length c0_0]) (t := 29) ?hr ?_; (case hd => rfl); (case hg => rfl); (case hr => first | (go_simp; done) | (go_simp; rfl)); intro gb143 hg w2 hbox hb; have n0_ := Aside0.mk (below_step u3_3 hb); have n1_ := Aside0.mk (hbox); have n2_ := Aside0.mk ((by rw [hg]; exact (below_size u3_3) : w.heap.size ≤ gb143)); have n3_ := Aside0.mk ((by rw [hg]; exact (below_size u3_3) : w.heap.size ≤ gb143)); clear HB; have HB := n0_; have BK143 := n1_; have GW143 := n2_; have GE143 := n3_; clear n0_ n1_ n2_ n3_; clear hb hbox hg; have hcz3_0 : w2.cell? ⟨gb143, 0, none⟩ = some (.slice A0_0 l0_0.length c0_0) := (blk_cell BK143.out 0).trans rfl; have hfz3_0 := blk_frozen BK143.out 0))
  go_loopg [4, 5, 13] k (fun kq v4 v5 v13 w' => ∃ (x4_1 : Int) (x5_1 : Int) (x13_1 : Int), v4 = .int .u64 x4_1 ∧ v5 = .int .u64 x5_1 ∧ v13 = .int .i64 x13_1 ∧ Aside0 (impl_totalOf.l0 kq x4_1 x5_1 l0_0 (l0_0.length : Int) x13_1 = some (r1, r2)) ∧ Aside0 (kq ≤ k) ∧ Aside0 (w'.heap[gb143]? = some (.cells #[(.slice A0_0 l0_0.length c0_0)] 29 (0, 0))) ∧ Aside0 (Below w.heap.size w w'))
  case atStart => exact ⟨(0), (0), (0), u3_16, u3_16, u3_16, H', ⟨Nat.le_refl _⟩, ⟨by (with_reducible repeat (first | refine blk_drewN ?_ _ | refine blk_drew ?_ | refine blk_alloc ?_ _)); exact BK143.out⟩, ⟨by repeat (first | (with_reducible first | exact HB.out | apply below_alloc | apply pw_below_drewN | apply below_drew1 | refine below_set ?_ GE143.out) | exact HB.out)⟩⟩
  case round =>
    clear H'
    try clear p2
    try clear hcz3_0
    try clear hfz3_0
    obtain ⟨x4_1, x5_1, x13_1, rfl, rfl, rfl, HA, HK1, BK143, HB⟩ := hrel
    cases gk with
    | zero => exact absurd HA.out (by simp [impl_totalOf.l0])
    | succ k1 =>
      have H := HA.out
      clear HA
      simp only [impl_totalOf.l0] at H
      by_cases c4 : x13_1 < (l0_0.length : Int)
      · rw [if_pos c4] at H
        have c4b0 : decide (x13_1 < (l0_0.length : Int)) = true := decide_eq_true c4
        clear c4
        by_cases c5 : 0 ≤ x13_1
        · rw [if_pos c5] at H
          have c5b0 : decide (0 ≤ x13_1) = true := decide_eq_true c5
          clear c5
          by_cases c6 : x13_1 < (l0_0.length : Int)
          · rw [if_pos c6] at H
            have c6b0 : decide (x13_1 < (l0_0.length : Int)) = true := decide_eq_true c6
            clear c6
            by_cases c7 : 0 ≤ x5_1
            · rw [if_pos c7] at H
              have c7b0 := eq_true c7
              have c7b1 : decide (0 ≤ x5_1) = true := decide_eq_true c7
              clear c7
              obtain ⟨ji8, hji8⟩ : ∃ j_ : Int, (IntKind.u64.wrap (((rd_T53 l0_0 x13_1).f1) + ((rd_T53 l0_0 x13_1).f2))) = j_ := ⟨_, rfl⟩
              replace H : (if 0 ≤ (ji8) then (impl_totalOf.l0 k1 (IntKind.u64.wrap (x4_1 + ((x5_1 + (ji8)) / 18446744073709551616))) ((x5_1 + (ji8)) % 18446744073709551616) l0_0 (l0_0.length : Int) (wrap64 (x13_1 + 1))) else (none)) = some (r1, r2) := by first | (rw [hji8] at H; exact H) | (simp only [hji8] at H ⊢; exact H)
              by_cases c9 : 0 ≤ (ji8)
              · rw [if_pos c9] at H
                have c9b0 := eq_true c9
                have c9b1 : decide (0 ≤ (ji8)) = true := decide_eq_true c9
                clear c9
                have H' := Aside0.mk H
                clear H
                have p144 : 0 ≤ (x13_1 : Int) := of_decide_eq_true u3_2
                have q144 : x13_1 < (l0_0.length : Int) := of_decide_eq_true u3_2
                obtain ⟨ad144, e144, hx144_0, hx144_1, hx144_2, hx144_3, hx144_4⟩ := at_T53 HR0_0.out x13_1 p144 q144
                cases e144
                replace hx144_0 := (HB.out.cell (World.block_lt_of_cell? w _ hx144_0)).trans hx144_0
                replace hx144_1 := (HB.out.cell (World.block_lt_of_cell? w _ hx144_1)).trans hx144_1
                replace hx144_2 := (HB.out.cell (World.block_lt_of_cell? w _ hx144_2)).trans hx144_2
                replace hx144_3 := (HB.out.cell (World.block_lt_of_cell? w _ hx144_3)).trans hx144_3
                replace hx144_4 := (HB.out.cell (World.block_lt_of_cell? w _ hx144_4)).trans hx144_4
                replace p144 := eq_true p144
                replace q144 := eq_true q144
                go_wp2_with (first | ((with_reducible refine gate_dst (N := 7) rfl ?_); refine box_event ?hg (N := 7) ?hd (cs := #[.int .u64 0, .int .u64 0, .int .u64 0, .int .u64 0, .int .i64 0]) (t := 53) ?hr ?_; (case hd => rfl); (case hg => rfl); (case hr => first | (go_simp; done) | (go_simp; rfl)); intro gb145 hg w10 hbox hb; have n0_ := Aside0.mk (blk_below (g := gb143) (o := .cells #[.slice (some ad144) l0_0.length c0_0] 29 (0, 0)) u3_20 hb); have n1_ := Aside0.mk (below_step u3_19 hb); have n2_ := Aside0.mk (hbox); have n3_ := Aside0.mk ((by rw [hg]; exact (below_size u3_19) : w.heap.size ≤ gb145)); have n4_ := Aside0.mk ((by rw [hg]; exact (below_size u3_19) : w.heap.size ≤ gb145)); have n5_ := Aside0.mk ((by rw [hg]; exact Nat.ne_of_lt (blk_lt (g := gb143) (o := .cells #[.slice (some ad144) l0_0.length c0_0] 29 (0, 0)) u3_20) : gb143 ≠ gb145)); have n6_ := Aside0.mk ((by rw [hg]; exact Nat.ne_of_gt (blk_lt (g := gb143) (o := .cells #[.slice (some ad144) l0_0.length c0_0] 29 (0, 0)) u3_20) : gb145 ≠ gb143)); clear BK143; clear HB; have BK143 := n0_; have HB := n1_; have BK145 := n2_; have GW145 := n3_; have GE145 := n4_; have NB143_145 := n5_; have NB145_143 := n6_; clear n0_ n1_ n2_ n3_ n4_ n5_ n6_; clear hb hbox hg; have hnb11 := NB145_143.out; have hnc11 := NB143_145.out; have hcz12_0 : w10.cell? ⟨gb145, 0, none⟩ = some (.int .u64 0) := (blk_cell BK145.out 0).trans rfl; have hcz12_1 : w10.cell? ⟨gb145, 1, none⟩ = some (.int .u64 0) := (blk_cell BK145.out 1).trans rfl; have hcz12_2 : w10.cell? ⟨gb145, 2, none⟩ = some (.int .u64 0) := (blk_cell BK145.out 2).trans rfl; have hcz12_3 : w10.cell? ⟨gb145, 3, none⟩ = some (.int .u64 0) := (blk_cell BK145.out 3).trans rfl; have hcz12_4 : w10.cell? ⟨gb145, 4, none⟩ = some (.int .i64 0) := (blk_cell BK145.out 4).trans rfl; have hfz12_0 := blk_frozen BK145.out 0; have hfz12_1 := blk_frozen BK145.out 1; have hfz12_2 := blk_frozen BK145.out 2; have hfz12_3 := blk_frozen BK145.out 3; have hfz12_4 := blk_frozen BK145.out 4))
                go_roundg k1
                case measure => have := HK1.out; omega
                case rel => exact ⟨(IntKind.u64.wrap (x4_1 + ((x5_1 + (ji8)) / 18446744073709551616))), ((x5_1 + (ji8)) % 18446744073709551616), (wrap64 (x13_1 + 1)), u3_21, u3_21, u3_16, H', ⟨by have := HK1.out; omega⟩, ⟨by (with_reducible repeat (first | refine blk_drewN ?_ _ | refine blk_drew ?_ | refine blk_alloc ?_ _)); refine blk_far ?_ NB143_145.out _; (with_reducible repeat (first | refine blk_drewN ?_ _ | refine blk_drew ?_ | refine blk_alloc ?_ _)); refine blk_far ?_ NB143_145.out _; (with_reducible repeat (first | refine blk_drewN ?_ _ | refine blk_drew ?_ | refine blk_alloc ?_ _)); refine blk_far ?_ NB143_145.out _; (with_reducible repeat (first | refine blk_drewN ?_ _ | refine blk_drew ?_ | refine blk_alloc ?_ _)); refine blk_far ?_ NB143_145.out _; (with_reducible repeat (first | refine blk_drewN ?_ _ | refine blk_drew ?_ | refine blk_alloc ?_ _)); refine blk_far ?_ NB143_145.out _; (with_reducible repeat (first | refine blk_drewN ?_ _ | refine blk_drew ?_ | refine blk_alloc ?_ _)); exact BK143.out⟩, ⟨by repeat (first | (with_reducible first | exact HB.out | apply below_alloc | apply pw_below_drewN | apply below_drew1 | refine below_set ?_ GE143.out | refine below_set ?_ GE145.out) | exact HB.out)⟩⟩
              · rw [if_neg c9] at H
                exact absurd H (by simp)
            · rw [if_neg c7] at H
              exact absurd H (by simp)
          · rw [if_neg c6] at H
            exact absurd H (by simp)
        · rw [if_neg c5] at H
          exact absurd H (by simp)
      · rw [if_neg c4] at H
        have c4b0 : decide (x13_1 < (l0_0.length : Int)) = false := decide_eq_false c4
        clear c4
        simp only [Option.some.injEq, Prod.mk.injEq] at H
        obtain ⟨rfl, rfl⟩ := H
        go_wp2
        go_ret2
        exact ⟨by first | rfl | (simp [errW_none, errW_some] <;> rfl) | (simp [*, errW_none, errW_some] <;> rfl), by repeat (first | (with_reducible first | exact HB.out | apply below_alloc | apply pw_below_drewN | apply below_drew1 | refine below_set ?_ GE143.out) | exact HB.out)⟩

end Go.Proofs.Ytdbfjakhkclggaa.QFnExactTotalOf
