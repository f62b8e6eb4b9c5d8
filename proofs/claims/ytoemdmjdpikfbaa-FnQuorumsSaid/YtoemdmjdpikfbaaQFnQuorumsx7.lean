-- Printed by the session's own program wip/prx.py.
import Derived.Test.YtoemdmjdpikfbaaSqFnQuorums
import Derived.Test.YtoemdmjdpikfbaaQFnQuorumsx0
import Derived.Test.YtoemdmjdpikfbaaQFnQuorumsx1
import Derived.Test.YtoemdmjdpikfbaaQFnQuorumsx6
namespace Go.Proofs.Ytoemdmjdpikfbaa.QFnQuorums
open Go.RowKit Go.Proofs.YtoemdmjdpikfbaaW.PrintWords Go.Proofs.YtoemdmjdpikfbaaW.PrintLast Go.Proofs.YtoemdmjdpikfbaaW.PrintMore Go.Proofs.Ytoemdmjdpikfbaa.SqFnQuorums
attribute [local go_sem] max2_int min2_int max_two min_two max_three min_three max_four min_four Go.Proofs.Ytoemdmjdpikfbaa.Set.isSome_setCell
set_option linter.unusedVariables false
set_option linter.unusedSimpArgs false

-- squeezed
theorem u7_0 {P : Prop} (h : P := by repeat (first | (with_reducible first | exact HK.out | apply KeepBut.set_ | apply keep_drewN | apply keep_drew | apply keep_alloc) | exact HK.out)) : P := h
theorem u7_1 {P : Prop} (h : P := by repeat (first | (with_reducible first | exact HB.out | apply below_alloc | apply pw_below_drewN | apply below_drew1 | refine below_set ?_ (IsS81.ge HI0.out)) | exact HB.out)) : P := h
theorem u7_2 {P : Prop} (h : P := by repeat (first | (with_reducible first | exact HI0.out | apply IsS81.alloc | apply IsS81.drewN | apply IsS81.drew | apply IsS81.set_1 | apply IsS81.set_2) | exact HI0.out)) : P := h
theorem u7_4 {P : Prop} (h : P := by repeat (first | (with_reducible first | exact HK.out | apply KeepBut.set_ | apply keep_drewN | apply keep_drew | apply keep_alloc | refine keep_far ?_ GW390.out _) | exact HK.out)) : P := h
theorem u7_5 {P : Prop} (h : P := by repeat (first | (with_reducible first | exact HB.out | apply below_alloc | apply pw_below_drewN | apply below_drew1 | refine below_set ?_ (IsS81.ge HI418.out) | refine below_set ?_ GE414.out) | exact HB.out)) : P := h
theorem u7_6 {P : Prop} (h : P := by repeat (first | (with_reducible first | exact HK.out | apply KeepBut.set_ | apply keep_drewN | apply keep_drew | apply keep_alloc | refine keep_far ?_ GW381.out _) | exact HK.out)) : P := h
theorem u7_7 {P : Prop} (h : P := by (with_reducible repeat (first | refine blk_drewN ?_ _ | refine blk_drew ?_ | refine blk_alloc ?_ _)); exact BK414.out) : P := h
theorem u7_8 {P : Prop} (h : P := by repeat (first | (with_reducible first | exact HI0.out | apply IsS81.alloc | apply IsS81.drewN | apply IsS81.drew | apply IsS81.set_1 | apply IsS81.set_2 | refine IsS81.far ?_ NB0_381.out _) | exact HI0.out)) : P := h
theorem u7_9 {P : Prop} (h : P := by repeat (first | (with_reducible first | exact HI0.out | apply IsS81.alloc | apply IsS81.drewN | apply IsS81.drew | apply IsS81.set_1 | apply IsS81.set_2 | refine IsS81.far ?_ NB0_390.out _) | exact HI0.out)) : P := h
theorem u7_10 {P : Prop} (h : P := by repeat (first | (with_reducible first | exact HB.out | apply below_alloc | apply pw_below_drewN | apply below_drew1 | refine below_set ?_ (IsS81.ge HI0.out) | refine below_set ?_ GE381.out) | exact HB.out)) : P := h
theorem u7_11 {P : Prop} (h : P := by repeat (first | (with_reducible first | exact HB.out | apply below_alloc | apply pw_below_drewN | apply below_drew1 | refine below_set ?_ (IsS81.ge HI0.out) | refine below_set ?_ GE390.out) | exact HB.out)) : P := h
theorem u7_12 {P : Prop} (h : P := by (with_reducible repeat (first | apply Kd.R_alloc | apply Kd.R_drewN | apply Kd.R_drew)); exact HO393.out) : P := h
theorem u7_13 {P : Prop} (h : P := by (with_reducible repeat (first | apply Kd.S_alloc | apply Kd.S_drewN | apply Kd.S_drew)); exact HO_5.out) : P := h
theorem u7_14 {P : Prop} (h : P := by (with_reducible repeat (first | refine blk_drewN ?_ _ | refine blk_drew ?_ | refine blk_alloc ?_ _)); exact BK390.out) : P := h
theorem u7_15 {P : Prop} (h : P := by repeat (first | (with_reducible first | exact HB.out | apply below_alloc | apply pw_below_drewN | apply below_drew1 | refine below_set ?_ (IsS81.ge HI418.out) | refine below_set ?_ GE414.out | refine below_set ?_ GE430.out) | exact HB.out)) : P := h
theorem u7_16 {P : Prop} (h : P := by (with_reducible repeat (first | apply Kd.R_alloc | apply Kd.R_drewN | apply Kd.R_drew)); exact HO374.out) : P := h
theorem u7_17 {P : Prop} (h : P := by (with_reducible repeat (first | apply Kd.R_alloc | apply Kd.R_drewN | apply Kd.R_drew)); exact (Kd.R_mono (Kd.R_far (p := ⟨gb381, 2, none⟩) (Kd.R_far (p := ⟨gb381, 1, none⟩) (Kd.R_far (p := ⟨gb381, 0, none⟩) (Kd.R_types HO374.out BK381.out (by decide)) (fun _ hk => hk.2) (.int .i64 t375)) (fun _ hk => hk.2) (.int .i64 t378)) (fun _ hk => hk.2) (.slice none 0 0)) (fun _ h_ => h_.1))) : P := h
theorem u7_19 {P : Prop} (h : P := by repeat (first | (with_reducible first | exact HI418.out | apply IsS81.alloc | apply IsS81.drewN | apply IsS81.drew | apply IsS81.set_1 | apply IsS81.set_2 | refine IsS81.far ?_ NB418_414.out _) | exact HI418.out)) : P := h
theorem u7_20 {P : Prop} (h : P := by (with_reducible repeat (first | apply Kd.R_alloc | apply Kd.R_drewN | apply Kd.R_drew)); exact HO421.out) : P := h
theorem u7_21 {P : Prop} (h : P := by (with_reducible repeat (first | apply Kd.R_alloc | apply Kd.R_drewN | apply Kd.R_drew)); exact HO424.out) : P := h
theorem u7_22 {P : Prop} (h : P := by (with_reducible repeat (first | apply Kd.R_alloc | apply Kd.R_drewN | apply Kd.R_drew)); exact HO427.out) : P := h
theorem u7_26 {P : Prop} (h : P := by (with_reducible repeat (first | refine blk_drewN ?_ _ | refine blk_drew ?_ | refine blk_alloc ?_ _)); exact BK381.out) : P := h
theorem u7_27 {P : Prop} (h : P := by (with_reducible repeat (first | apply Kd.R_alloc | apply Kd.R_drewN | apply Kd.R_drew)); exact HO348.out) : P := h
theorem u7_28 {P : Prop} (h : P := by (with_reducible repeat (first | apply Kd.R_alloc | apply Kd.R_drewN | apply Kd.R_drew)); exact HO354.out) : P := h
theorem u7_29 {P : Prop} (h : P := by (with_reducible repeat (first | apply Kd.S_alloc | apply Kd.S_drewN | apply Kd.S_drew)); exact HO364.out) : P := h
theorem u7_30 {P : Prop} (h : P := by (with_reducible repeat (first | apply Kd.S_alloc | apply Kd.S_drewN | apply Kd.S_drew)); exact HO398.out) : P := h
/-! ### spec_l01Byte: function 87 -/
def spec_l01Byte.f (s0_0 : List Int) (s0_1 : Int) (s0_2 : Int) : Option (Int × Int × Int) := if s0_1 < (s0_0.length : Int) then (if 0 ≤ s0_1 then (some (Go.bits .and .i64 (wrap64 ((Go.bits .and .i64 (Go.bits .xor .i64 ((wrap64 ((wrap64 (s0_2 * 6364136223846793005)) + 1442695040888963407)) / 8589934592) ((wrap64 ((wrap64 (s0_2 * 6364136223846793005)) + 1442695040888963407)) / 35184372088832)) 255) + (wrap64 (rd s0_0 s0_1)))) 255, wrap64 (s0_1 + 1), wrap64 ((wrap64 (s0_2 * 6364136223846793005)) + 1442695040888963407))) else (none)) else (some (Go.bits .and .i64 (Go.bits .xor .i64 ((wrap64 ((wrap64 (s0_2 * 6364136223846793005)) + 1442695040888963407)) / 8589934592) ((wrap64 ((wrap64 (s0_2 * 6364136223846793005)) + 1442695040888963407)) / 35184372088832)) 255, s0_1, wrap64 ((wrap64 (s0_2 * 6364136223846793005)) + 1442695040888963407)))
set_option maxHeartbeats 8000000 in
set_option maxRecDepth 100000 in
theorem spec_l01Byte.calls (g : Nat) (s0_0 : List Int) (s0_1 : Int) (s0_2 : Int) (r1 : Int) (r2 : Int) (r3 : Int) (w0 w : World) (hI : IsS81 w0 w g s0_0 s0_1 s0_2) (hB : Below w0.heap.size w0 w) (h : spec_l01Byte.f s0_0 s0_1 s0_2 = some (r1, r2, r3)) :
   Calls Try.prog 87 #[.pointer (some ⟨g, 0, none⟩)] w fun e w' => e = .returned (.int .i64 r1) ∧ IsS81 w0 w' g s0_0 r2 r3 ∧ Below w0.heap.size w0 w' ∧ KeepBut w w' g none := by
 have HI0 := am hI
 have HK := am (KeepBut.refl w g none)
 have HL := am hB.size
 clear hI
 have HW0 := am hB.size
 have HB := am hB
 clear hB
 have H : (if s0_1 < (s0_0.length : Int) then (if 0 ≤ s0_1 then (some (Go.bits .and .i64 (wrap64 ((Go.bits .and .i64 (Go.bits .xor .i64 ((wrap64 ((wrap64 (s0_2 * 6364136223846793005)) + 1442695040888963407)) / 8589934592) ((wrap64 ((wrap64 (s0_2 * 6364136223846793005)) + 1442695040888963407)) / 35184372088832)) 255) + (wrap64 (rd s0_0 s0_1)))) 255, wrap64 (s0_1 + 1), wrap64 ((wrap64 (s0_2 * 6364136223846793005)) + 1442695040888963407))) else (none)) else (some (Go.bits .and .i64 (Go.bits .xor .i64 ((wrap64 ((wrap64 (s0_2 * 6364136223846793005)) + 1442695040888963407)) / 8589934592) ((wrap64 ((wrap64 (s0_2 * 6364136223846793005)) + 1442695040888963407)) / 35184372088832)) 255, s0_1, wrap64 ((wrap64 (s0_2 * 6364136223846793005)) + 1442695040888963407)))) = some (r1, r2, r3) := h
 clear h
 by_cases c2 : s0_1 < (s0_0.length : Int)
 rotate_left
 · rw [if_neg c2] at H
   have c2b0 : decide (s0_1 < (s0_0.length : Int)) = false := decide_eq_false c2
   clear c2
   simp only [Option.some.injEq, Prod.mk.injEq] at H
   obtain ⟨rfl, rfl, rfl⟩ := H
   obtain ⟨ASz5_0, cSz5_0, HGz5, hgz5, HSz5_0⟩ := HI0.out
   have hcz5_0 := cellS81_0 HGz5
   have hcz5_1 := cellS81_1 HGz5
   have hcz5_2 := cellS81_2 HGz5
   have hfz5_1 := blk_frozen HGz5 1
   have hfz5_2 := blk_frozen HGz5 2
   clear HGz5 hgz5
   go_enter Try.func87, Try.ntmps87
   go_wp2
   repeat (go_quiet (fail); try go_wp2)
   go_ret
   exact ⟨er, u7_2, u7_1, u7_0⟩
 rw [if_pos c2] at H
 have c2b0 : decide (s0_1 < (s0_0.length : Int)) = true := decide_eq_true c2
 clear c2
 by_cases c3 : 0 ≤ s0_1
 rotate_left
 · rw [if_neg c3] at H
   exact absurd H (by simp)
 rw [if_pos c3] at H
 have c3b0 : decide (0 ≤ s0_1) = true := decide_eq_true c3
 clear c3
 simp only [Option.some.injEq, Prod.mk.injEq] at H
 obtain ⟨rfl, rfl, rfl⟩ := H
 obtain ⟨ASz4_0, cSz4_0, HGz4, hgz4, HSz4_0⟩ := HI0.out
 have hcz4_0 := cellS81_0 HGz4
 have hcz4_1 := cellS81_1 HGz4
 have hcz4_2 := cellS81_2 HGz4
 have hfz4_1 := blk_frozen HGz4 1
 have hfz4_2 := blk_frozen HGz4 2
 clear HGz4 hgz4
 have p333 : 0 ≤ (s0_1 : Int) := of_decide_eq_true Q2
 have q333 : s0_1 < (s0_0.length : Int) := of_decide_eq_true Q2
 obtain ⟨ad333, e333, hx333_0⟩ := Kd.at_int HSz4_0 s0_1 p333 q333
 cases e333
 have hn333_0 : ad333.block ≠ g := Nat.ne_of_lt (Nat.lt_of_lt_of_le (by have := World.block_lt_of_cell? _ _ hx333_0; first | rwa [add_block] at this | exact this) (IsS81.ge HI0.out))
 replace hx333_0 := pw_cell_below HB.out hx333_0
 replace hx333_0 := (cell_far (p := ⟨g, 2, none⟩) (by first | (rw [add_block]; exact hn333_0) | (show (Addr.add _ _).block ≠ _; rw [add_block]; exact hn333_0) | exact hn333_0) (.int .i64 (wrap64 ((wrap64 (s0_2 * 6364136223846793005)) + 1442695040888963407)))).trans hx333_0
 (try have hch_ := fun (n_ : Nat) => (show (((w.drewN n_).setCell ⟨g, 2, none⟩ (.int .i64 (wrap64 ((wrap64 (s0_2 * 6364136223846793005)) + 1442695040888963407))))) = World.drewN ((w.setCell ⟨g, 2, none⟩ (.int .i64 (wrap64 ((wrap64 (s0_2 * 6364136223846793005)) + 1442695040888963407))))) n_ from by simp only [Go.Proofs.Ytoemdmjdpikfbaa.Slc.setCell_drewN])); (try have hy333_0 := fun (n_ : Nat) => Go.Proofs.Ytoemdmjdpikfbaa.Slc.cell_of (hch_ n_) hx333_0)
 clear hn333_0
 replace p333 := eq_true p333
 replace q333 := eq_true q333
 go_enter Try.func87, Try.ntmps87
 go_wp2
 repeat (go_quiet (fail); try go_wp2)
 go_ret
 exact ⟨er, u7_2, u7_1, u7_0⟩

/-! ### spec_l01Below: function 68 -/
def spec_l01Below.f (s0_0 : List Int) (s0_1 : Int) (s0_2 : Int) (a1 : Int) : Option (Int × Int × Int) := if a1 ≤ 0 then (some (0, s0_1, s0_2)) else (if a1 ≤ 256 then ((spec_l01Byte.f s0_0 s0_1 s0_2).bind fun bt334 => (if a1 = 0 then (none) else (some (Int.tmod bt334.1 a1, bt334.2.1, bt334.2.2)))) else ((spec_l01Byte.f s0_0 s0_1 s0_2).bind fun bt337 => ((spec_l01Byte.f s0_0 bt337.2.1 bt337.2.2).bind fun bt340 => ((spec_l01Byte.f s0_0 bt340.2.1 bt340.2.2).bind fun bt343 => (if a1 = 0 then (none) else (some (Int.tmod (wrap64 ((wrap64 ((wrap64 (bt337.1 * 65536)) + (wrap64 (bt340.1 * 256)))) + bt343.1)) a1, bt343.2.1, bt343.2.2)))))))
set_option maxHeartbeats 8000000 in
set_option maxRecDepth 100000 in
theorem spec_l01Below.calls (g : Nat) (s0_0 : List Int) (s0_1 : Int) (s0_2 : Int) (a1 : Int) (r1 : Int) (r2 : Int) (r3 : Int) (w0 w : World) (hI : IsS81 w0 w g s0_0 s0_1 s0_2) (hB : Below w0.heap.size w0 w) (h : spec_l01Below.f s0_0 s0_1 s0_2 a1 = some (r1, r2, r3)) :
   Calls Try.prog 68 #[.pointer (some ⟨g, 0, none⟩), .int .i64 a1] w fun e w' => e = .returned (.int .i64 r1) ∧ IsS81 w0 w' g s0_0 r2 r3 ∧ Below w0.heap.size w0 w' ∧ KeepBut w w' g none := by
 have HI0 := am hI
 have HK := am (KeepBut.refl w g none)
 have HL := am hB.size
 clear hI
 have HW0 := am hB.size
 have HB := am hB
 clear hB
 have H : (if a1 ≤ 0 then (some (0, s0_1, s0_2)) else (if a1 ≤ 256 then ((spec_l01Byte.f s0_0 s0_1 s0_2).bind fun bt334 => (if a1 = 0 then (none) else (some (Int.tmod bt334.1 a1, bt334.2.1, bt334.2.2)))) else ((spec_l01Byte.f s0_0 s0_1 s0_2).bind fun bt337 => ((spec_l01Byte.f s0_0 bt337.2.1 bt337.2.2).bind fun bt340 => ((spec_l01Byte.f s0_0 bt340.2.1 bt340.2.2).bind fun bt343 => (if a1 = 0 then (none) else (some (Int.tmod (wrap64 ((wrap64 ((wrap64 (bt337.1 * 65536)) + (wrap64 (bt340.1 * 256)))) + bt343.1)) a1, bt343.2.1, bt343.2.2)))))))) = some (r1, r2, r3) := h
 clear h
 by_cases c3 : a1 ≤ 0
 · rw [if_pos c3] at H
   have c3b0 : decide (a1 ≤ 0) = true := decide_eq_true c3
   clear c3
   simp only [Option.some.injEq, Prod.mk.injEq] at H
   obtain ⟨rfl, rfl, rfl⟩ := H
   go_enter Try.func68, Try.ntmps68
   go_wp2
   go_ret
   exact ⟨er, u7_2, u7_1, u7_0⟩
 rw [if_neg c3] at H
 have c3b0 : decide (a1 ≤ 0) = false := decide_eq_false c3
 clear c3
 by_cases c4 : a1 ≤ 256
 · rw [if_pos c4] at H
   have c4b0 : decide (a1 ≤ 256) = true := decide_eq_true c4
   clear c4
   replace H := Option.bind_eq_some_iff.mp H
   obtain ⟨⟨t334, t335, t336⟩, A50, H⟩ := H
   replace H : (if a1 = 0 then (none) else (some (Int.tmod t334 a1, t335, t336))) = some (r1, r2, r3) := H
   have A5 := am A50
   clear A50
   by_cases c6 : a1 = 0
   · rw [if_pos c6] at H
     exact absurd H (by simp)
   rw [if_neg c6] at H
   have c6b0 : (a1 == 0) = false := beq_eq_false_iff_ne.mpr c6
   have c6b1 : (a1 != 0) = true := bne_iff_ne.mpr c6
   simp only [Option.some.injEq, Prod.mk.injEq] at H
   obtain ⟨rfl, rfl, rfl⟩ := H
   go_enter Try.func68, Try.ntmps68
   go_wp2_with (first | ((with_reducible refine gate_callee (f := 87) rfl ?_); refine goesL_ (some 13) rfl rfl Try.func87 kr rfl #[.pointer (some ⟨g, 0, none⟩)] rfl Q3 ?_; (with_reducible refine (spec_l01Byte.calls g s0_0 s0_1 s0_2 t334 t335 t336 w0 _ ?side1 ?side2 A5.out).mono ?_); (case side1 => exact u7_2); (case side2 => exact u7_1); rintro e w7 ⟨rfl, hi, hb, hk⟩; refine ⟨_, rfl, ?_⟩; replace HK := am (KeepBut.trans u7_0 hk (.inl rfl)); replace HB := am (hb); replace HI0 := am (hi); (try clear hb); (try clear hb2); (try clear hk); (try clear hi)))
   go_ret
   exact ⟨er, u7_2, u7_1, u7_0⟩
 rw [if_neg c4] at H
 have c4b0 : decide (a1 ≤ 256) = false := decide_eq_false c4
 clear c4
 replace H := Option.bind_eq_some_iff.mp H
 obtain ⟨⟨t337, t338, t339⟩, A80, H⟩ := H
 (try dsimp only at H)
 have A8 := am A80
 clear A80
 replace H := Option.bind_eq_some_iff.mp H
 obtain ⟨⟨t340, t341, t342⟩, A90, H⟩ := H
 (try dsimp only at H)
 have A9 := am A90
 clear A90
 replace H := Option.bind_eq_some_iff.mp H
 obtain ⟨⟨t343, t344, t345⟩, A100, H⟩ := H
 (try dsimp only at H)
 have A10 := am A100
 clear A100
 by_cases c11 : a1 = 0
 · rw [if_pos c11] at H
   exact absurd H (by simp)
 rw [if_neg c11] at H
 have c11b0 : (a1 == 0) = false := beq_eq_false_iff_ne.mpr c11
 have c11b1 : (a1 != 0) = true := bne_iff_ne.mpr c11
 simp only [Option.some.injEq, Prod.mk.injEq] at H
 obtain ⟨rfl, rfl, rfl⟩ := H
 go_enter Try.func68, Try.ntmps68
 go_wp2_with (first | ((with_reducible refine gate_callee (f := 87) rfl ?_); refine goesL_ (some 17) rfl rfl Try.func87 kr rfl #[.pointer (some ⟨g, 0, none⟩)] rfl Q3 ?_; (with_reducible refine (spec_l01Byte.calls g s0_0 s0_1 s0_2 t337 t338 t339 w0 _ ?side1 ?side2 A8.out).mono ?_); (case side1 => exact u7_2); (case side2 => exact u7_1); rintro e w12 ⟨rfl, hi, hb, hk⟩; refine ⟨_, rfl, ?_⟩; replace HK := am (KeepBut.trans u7_0 hk (.inl rfl)); replace HB := am (hb); replace HI0 := am (hi); (try clear hb); (try clear hb2); (try clear hk); (try clear hi)) | ((with_reducible refine gate_callee (f := 87) rfl ?_); refine goesL_ (some 19) rfl rfl Try.func87 kr rfl #[.pointer (some ⟨g, 0, none⟩)] rfl Q3 ?_; (with_reducible refine (spec_l01Byte.calls g s0_0 t338 t339 t340 t341 t342 w0 _ ?side1 ?side2 A9.out).mono ?_); (case side1 => exact u7_2); (case side2 => exact u7_1); rintro e w13 ⟨rfl, hi, hb, hk⟩; refine ⟨_, rfl, ?_⟩; replace HK := am (KeepBut.trans u7_0 hk (.inl rfl)); replace HB := am (hb); replace HI0 := am (hi); (try clear hb); (try clear hb2); (try clear hk); (try clear hi)) | ((with_reducible refine gate_callee (f := 87) rfl ?_); refine goesL_ (some 21) rfl rfl Try.func87 kr rfl #[.pointer (some ⟨g, 0, none⟩)] rfl Q3 ?_; (with_reducible refine (spec_l01Byte.calls g s0_0 t341 t342 t343 t344 t345 w0 _ ?side1 ?side2 A10.out).mono ?_); (case side1 => exact u7_2); (case side2 => exact u7_1); rintro e w14 ⟨rfl, hi, hb, hk⟩; refine ⟨_, rfl, ?_⟩; replace HK := am (KeepBut.trans u7_0 hk (.inl rfl)); replace HB := am (hb); replace HI0 := am (hi); (try clear hb); (try clear hb2); (try clear hk); (try clear hi)))
 go_ret
 exact ⟨er, u7_2, u7_1, u7_0⟩

/-! ### spec_l06DrawSet: function 45 -/
def spec_l06DrawSet.l0 : Nat → List Int → Int → List Int → Int → Int → Option (List Int × Int × Int)
 | 0, _, _, _, _, _ => none
 | k + 1, x3, x4, x1000, x1001, x1002 => if x4 < 9 then (if (x3.length : Int) < 5 then (if x3.length < 17592186044416 then ((spec_l01Below.f x1000 x1001 x1002 3).bind fun bt355 => (spec_l06DrawSet.l0 k (x3 ++ [x4]) (wrap64 ((wrap64 (x4 + 1)) + bt355.1)) x1000 bt355.2.1 bt355.2.2)) else (none)) else (some (x3, x1001, x1002))) else (some (x3, x1001, x1002))
def spec_l06DrawSet.f (k : Nat) (s0_0 : List Int) (s0_1 : Int) (s0_2 : Int) : Option (List Int × Int × Int) := (spec_l01Below.f s0_0 s0_1 s0_2 3).bind fun bt349 => (spec_l06DrawSet.l0 k (([] : List Int)) bt349.1 s0_0 bt349.2.1 bt349.2.2)
theorem spec_l06DrawSet.mono_l : ∀ k, (∀ y0 y1 y2 y3 y4, LeO (spec_l06DrawSet.l0 k y0 y1 y2 y3 y4) (spec_l06DrawSet.l0 (k + 1) y0 y1 y2 y3 y4))
 | 0 => fun _ _ _ _ _ r h => by simp [spec_l06DrawSet.l0] at h
 | k + 1 => by
   have ih0 := spec_l06DrawSet.mono_l k
   · intro y0 y1 y2 y3 y4
     unfold spec_l06DrawSet.l0
     repeat' first
     | (with_reducible exact ih0 _ _ _ _ _)
     | (with_reducible exact LeO.refl _)
     | (with_reducible exact LeO.none _)
     | (with_reducible refine LeO.ite ?_ ?_)
     | (with_reducible refine LeO.bind ?_ (fun _ => ?_))
     | exact ih0 _ _ _ _ _
     | exact LeO.none _
     | refine LeO.ite ?_ ?_
     | refine LeO.bind ?_ (fun _ => ?_)
theorem spec_l06DrawSet.mono : ∀ a0 a1 a2 k, LeO (spec_l06DrawSet.f k a0 a1 a2) (spec_l06DrawSet.f (k + 1) a0 a1 a2) := by
 intro a0 a1 a2 k
 have ih0 := spec_l06DrawSet.mono_l k
 unfold spec_l06DrawSet.f
 repeat' first
     | (with_reducible exact ih0 _ _ _ _ _)
     | (with_reducible exact LeO.refl _)
     | (with_reducible exact LeO.none _)
     | (with_reducible refine LeO.ite ?_ ?_)
     | (with_reducible refine LeO.bind ?_ (fun _ => ?_))
     | exact ih0 _ _ _ _ _
     | exact LeO.none _
     | refine LeO.ite ?_ ?_
     | refine LeO.bind ?_ (fun _ => ?_)
set_option maxHeartbeats 8000000 in
set_option maxRecDepth 100000 in
theorem spec_l06DrawSet.calls (k : Nat) (g : Nat) (s0_0 : List Int) (s0_1 : Int) (s0_2 : Int) (r1 : List Int) (r2 : Int) (r3 : Int) (w0 w : World) (hI : IsS81 w0 w g s0_0 s0_1 s0_2) (hB : Below w0.heap.size w0 w) (h : spec_l06DrawSet.f k s0_0 s0_1 s0_2 = some (r1, r2, r3)) :
   Calls Try.prog 45 #[.pointer (some ⟨g, 0, none⟩)] w fun e w' => ∃ v0_ : Value, e = .returned (v0_) ∧ Kd.R (Kd.int .i64) 3 w' w.heap.size (fun _ => True) v0_ r1 ∧ IsS81 w0 w' g s0_0 r2 r3 ∧ Below w0.heap.size w0 w' ∧ KeepBut w w' g none := by
 have HI0 := am hI
 have HK := am (KeepBut.refl w g none)
 have HL := am hB.size
 clear hI
 have HW0 := am hB.size
 have HB := am hB
 clear hB
 have H : ((spec_l01Below.f s0_0 s0_1 s0_2 3).bind fun bt349 => (spec_l06DrawSet.l0 k (([] : List Int)) bt349.1 s0_0 bt349.2.1 bt349.2.2)) = some (r1, r2, r3) := h
 clear h
 obtain ⟨y346, hy346⟩ : ∃ y_ : List Int, y_ = (([] : List Int)) := ⟨_, rfl⟩
 replace H : ((spec_l01Below.f s0_0 s0_1 s0_2 3).bind fun bt349 => (spec_l06DrawSet.l0 k y346 bt349.1 s0_0 bt349.2.1 bt349.2.2)) = some (r1, r2, r3) := by first | (rw [hy346]; with_reducible exact H) | (have H2_ := (Option.bind_some _ _).symm.trans H; rw [hy346]; with_reducible exact H2_) | (have H2_ := (Option.bind_some _ _).symm.trans H; with_reducible exact H2_) | with_reducible exact H | (rw [hy346]; exact H) | exact H
 have Ny346 := am hy346
 clear hy346
 replace H := Option.bind_eq_some_iff.mp H
 obtain ⟨⟨t349, t350, t351⟩, A20, H⟩ := H
 replace H : (spec_l06DrawSet.l0 k y346 t349 s0_0 t350 t351) = some (r1, r2, r3) := H
 have A2 := am A20
 clear A20
 have H' := am H
 clear H
 go_enter Try.func45, Try.ntmps45
 go_wp2_with (first | ((with_reducible refine gate_dst (N := 5) rfl ?_); (try (refine gate_guard (by rfl) ?_; dsimp only)); refine Kd.R_lit (Kd.int .i64) _ 3 ?hg (N := 5) ?hd (xs := ([] : List Int)) (inner := []) (ok := fun _ => True) (okp := fun _ => True) ?hr ?hp (fun _ hk => hk) trivial (Below.refl _ _) (Nat.le_refl _) (by simp) ?_; (case hd => rfl); (case hg => rfl); (case hr => first | (go_simp; done) | (go_simp; rfl)); (case hp => exact (Reps.none _ _)); intro v347 w3 ho4 hb hg_ hnew_; clear hg_ hnew_; (first | rw [← Ny346.out] at ho4 | (simp only [Int.reduceToNat] at ho4; rw [← Ny346.out] at ho4)); have HO348 := am (Kd.R_lower ho4 (keep_size (w := w) (g := g) (row := none) u7_0)); replace HK := am (KeepBut.trans u7_0 (KeepBut.of_below hb g none) (.inl rfl)); replace HB := am (below_step u7_1 hb); replace HI0 := am (IsS81.below u7_2 hb); clear hb ho4) | ((with_reducible refine gate_callee (f := 68) rfl ?_); refine goesL_ (some 7) rfl rfl Try.func68 kr rfl #[.pointer (some ⟨g, 0, none⟩), .int .i64 3] rfl Q3 ?_; (with_reducible refine (spec_l01Below.calls g s0_0 s0_1 s0_2 3 t349 t350 t351 w0 _ ?side1 ?side2 A2.out).mono ?_); (case side1 => exact u7_2); (case side2 => exact u7_1); rintro e w5 ⟨rfl, hi, hb, hk⟩; refine ⟨_, rfl, ?_⟩; replace HO348 := am (Kd.R_mono (Kd.R_keep (IsS81.apart (show IsS81 w0 _ g s0_0 s0_1 s0_2 from by repeat (first | (with_reducible first | exact HI0.out | apply IsS81.alloc | apply IsS81.drewN | apply IsS81.drew | apply IsS81.set_1 | apply IsS81.set_2) | exact HI0.out)) u7_27 (by decide)) hk (fun _ h => h.2)) (fun _ h => h.1)); replace HK := am (KeepBut.trans u7_0 hk (.inl rfl)); replace HB := am (hb); replace HI0 := am (hi); (try clear hb); (try clear hb2); (try clear hk); (try clear hi)))
 go_loopg [3, 4] k (fun kq v3 v4 w' => ∃ (x3_1 : List Int) (x4_1 : Int) (x1001_1 : Int) (x1002_1 : Int), v4 = .int .i64 x4_1 ∧ Aside0 (spec_l06DrawSet.l0 kq x3_1 x4_1 s0_0 x1001_1 x1002_1 = some (r1, r2, r3)) ∧ Aside0 (kq ≤ k) ∧ Aside0 (Kd.R (Kd.int .i64) 3 w' w.heap.size (fun _ => True) v3 x3_1) ∧ Aside0 (IsS81 w0 w' g s0_0 x1001_1 x1002_1) ∧ Aside0 (KeepBut w w' g none) ∧ Aside0 (Below w0.heap.size w0 w'))
 case atStart => exact ⟨(y346), (t349), (t350), (t351), Q1, H', ⟨Nat.le_refl _⟩, ⟨u7_27⟩, ⟨u7_2⟩, ⟨u7_0⟩, ⟨u7_1⟩⟩
 clear H'
 obtain ⟨x3_1, x4_1, x1001_1, x1002_1, rfl, HA, HK1, HO_3, HI0, HK, HB⟩ := hrel
 cases gk with
 | zero => exact absurd HA.out (by simp [spec_l06DrawSet.l0])
 | succ k1 =>
   have H := HA.out
   clear HA
   simp only [spec_l06DrawSet.l0] at H
   by_cases c6 : x4_1 < 9
   rotate_left
   · rw [if_neg c6] at H
     have c6b0 : decide (x4_1 < 9) = false := decide_eq_false c6
     clear c6
     simp only [Option.some.injEq, Prod.mk.injEq] at H
     obtain ⟨rfl, rfl, rfl⟩ := H
     go_wp2
     go_ret
     exact ⟨_, er, Q5, u7_2, u7_1, u7_0⟩
   rw [if_pos c6] at H
   have c6b0 : decide (x4_1 < 9) = true := decide_eq_true c6
   clear c6
   by_cases c7 : (x3_1.length : Int) < 5
   rotate_left
   · rw [if_neg c7] at H
     have c7b0 : decide ((x3_1.length : Int) < 5) = false := decide_eq_false c7
     have c7b1 : decide (x3_1.length < 5) = false := decide_eq_false (by omega)
     clear c7
     simp only [Option.some.injEq, Prod.mk.injEq] at H
     obtain ⟨rfl, rfl, rfl⟩ := H
     obtain ⟨Ao13, co13, eo13⟩ := Kd.R_slice HO_3.out
     subst eo13
     go_wp2
     go_ret
     exact ⟨_, er, Q5, u7_2, u7_1, u7_0⟩
   rw [if_pos c7] at H
   have c7b0 : decide ((x3_1.length : Int) < 5) = true := decide_eq_true c7
   have c7b1 : decide (x3_1.length < 5) = true := decide_eq_true (by omega)
   clear c7
   by_cases c8 : x3_1.length < 17592186044416
   rotate_left
   · rw [if_neg c8] at H
     exact absurd H (by simp)
   rw [if_pos c8] at H
   have LMc8 := am c8
   clear c8
   obtain ⟨y352, hy352⟩ : ∃ y_ : List Int, y_ = (x3_1 ++ [x4_1]) := ⟨_, rfl⟩
   replace H : ((spec_l01Below.f s0_0 x1001_1 x1002_1 3).bind fun bt355 => (spec_l06DrawSet.l0 k1 y352 (wrap64 ((wrap64 (x4_1 + 1)) + bt355.1)) s0_0 bt355.2.1 bt355.2.2)) = some (r1, r2, r3) := by first | (rw [hy352]; with_reducible exact H) | (have H2_ := (Option.bind_some _ _).symm.trans H; rw [hy352]; with_reducible exact H2_) | (have H2_ := (Option.bind_some _ _).symm.trans H; with_reducible exact H2_) | with_reducible exact H | (rw [hy352]; exact H) | exact H
   have Ny352 := am hy352
   clear hy352
   replace H := Option.bind_eq_some_iff.mp H
   obtain ⟨⟨t355, t356, t357⟩, A90, H⟩ := H
   replace H : (spec_l06DrawSet.l0 k1 y352 (wrap64 ((wrap64 (x4_1 + 1)) + t355)) s0_0 t356 t357) = some (r1, r2, r3) := H
   have A9 := am A90
   clear A90
   have H' := am H
   clear H
   obtain ⟨Ao10, co10, eo10⟩ := Kd.R_slice HO_3.out
   subst eo10
   go_wp2_with (first | ((with_reducible refine gate_builtin (b := .append) (xs := #[.tmp 20, .tmp 22]) rfl ?_); (try (refine gate_guard (by rfl) ?_; dsimp only)); at_builtin; refine Kd.R_append (Kd.int .i64) w.heap.size rfl (.tmp 20) (.tmp 22) 24 3 (.int .i64 0) 8 rfl Try.underlying24 info3 rfl (by decide) (by omega) (.slice Ao10 x3_1.length co10) x3_1 x4_1 [.int .i64 x4_1] (fun _ => True) (fun _ => False) rfl rfl ?aP (fun _ hk => hk.elim) ?aF ?aO (Below.refl _ _) ?aS ?aL ?_; (case aP => exact rfl); (case aF => exact (fun _ _ => trivial)); (case aO => exact Q5); (case aS => exact (keep_size (w := w) (g := g) (row := none) u7_0)); (case aL => have := LMc8.out; omega); intro v353 w11 ho hb hg hat; rw [← Ny352.out] at ho; replace HB := am (below_weaken u7_1 HL.out hb); replace HI0 := am (IsS81.grown u7_2 hg (IsS81.own_ne HI0.out HO_3.out (by decide))); replace HK := am (KeepBut.trans u7_0 (KeepBut.of_grown hg g) (Kd.R_base2 HO_3.out)); have HO354 := am (ho); clear HO_3; clear ho hb hg hat) | ((with_reducible refine gate_callee (f := 68) rfl ?_); refine goesL_ (some 18) rfl rfl Try.func68 kr rfl #[.pointer (some ⟨g, 0, none⟩), .int .i64 3] rfl Q3 ?_; (with_reducible refine (spec_l01Below.calls g s0_0 x1001_1 x1002_1 3 t355 t356 t357 w0 _ ?side1 ?side2 A9.out).mono ?_); (case side1 => exact u7_2); (case side2 => exact u7_1); rintro e w12 ⟨rfl, hi, hb, hk⟩; refine ⟨_, rfl, ?_⟩; replace HO354 := am (Kd.R_mono (Kd.R_keep (IsS81.apart (show IsS81 w0 _ g s0_0 x1001_1 x1002_1 from by repeat (first | (with_reducible first | exact HI0.out | apply IsS81.alloc | apply IsS81.drewN | apply IsS81.drew | apply IsS81.set_1 | apply IsS81.set_2) | exact HI0.out)) u7_28 (by decide)) hk (fun _ h => h.2)) (fun _ h => h.1)); replace HK := am (KeepBut.trans u7_0 hk (.inl rfl)); replace HB := am (hb); replace HI0 := am (hi); (try clear hb); (try clear hb2); (try clear hk); (try clear hi)))
   go_roundg k1
   case measure => have := HK1.out; omega
   case rel => exact ⟨(y352), (wrap64 ((wrap64 (x4_1 + 1)) + t355)), (t356), (t357), Q1, H', ⟨by have := HK1.out; omega⟩, ⟨u7_28⟩, ⟨u7_2⟩, ⟨u7_0⟩, ⟨u7_1⟩⟩

/-! ### spec_l01Size: function 85 -/
def spec_l01Size.f (l0 : List Int) (a1 : Int) : Option (Int) := if (wrap64 (2 + (wrap64 ((l0.length : Int) / 16)))) > a1 then (some a1) else (some (wrap64 (2 + (wrap64 ((l0.length : Int) / 16)))))
set_option maxHeartbeats 8000000 in
set_option maxRecDepth 100000 in
theorem spec_l01Size.calls (A0 : Option Addr) (c0 : Nat) (l0 : List Int) (a1 : Int) (r : Int) (w : World) (hr0 : Kd.C (Kd.int .u8) w A0 l0.length l0) (hc0 : l0.length ≤ c0) (h : spec_l01Size.f l0 a1 = some r) :
   Calls Try.prog 85 #[.slice A0 l0.length c0, .int .i64 a1] w fun e w' => e = .returned (.int .i64 r) ∧ Drawn0 w w' := by
 have HR0 := am hr0
 have HC0 := am hc0
 clear hr0 hc0
 have H : (if (wrap64 (2 + (wrap64 ((l0.length : Int) / 16)))) > a1 then (some a1) else (some (wrap64 (2 + (wrap64 ((l0.length : Int) / 16)))))) = some r := h
 clear h
 by_cases c3 : (wrap64 (2 + (wrap64 ((l0.length : Int) / 16)))) > a1
 · rw [if_pos c3] at H
   have c3b0 : decide (a1 < (wrap64 (2 + (wrap64 ((l0.length : Int) / 16))))) = true := decide_eq_true c3
   clear c3
   obtain rfl := sj H
   go_enter Try.func85, Try.ntmps85
   go_wp2
   go_ret
   exact ⟨by first | rfl | (simp; done) | (simp [*]; done), (by repeat (first | exact Drawn0.refl _ | apply Drawn0.step))⟩
 rw [if_neg c3] at H
 have c3b0 : decide (a1 < (wrap64 (2 + (wrap64 ((l0.length : Int) / 16))))) = false := decide_eq_false c3
 clear c3
 obtain rfl := sj H
 go_enter Try.func85, Try.ntmps85
 go_wp2
 go_ret
 exact ⟨by first | rfl | (simp; done) | (simp [*]; done), (by repeat (first | exact Drawn0.refl _ | apply Drawn0.step))⟩

/-! ### spec_l01PickInt: function 86 -/
def spec_l01PickInt.f (s0_0 : List Int) (s0_1 : Int) (s0_2 : Int) (l1 : List Int) : Option (Int × Int × Int) := (spec_l01Below.f s0_0 s0_1 s0_2 (l1.length : Int)).bind fun bt358 => (if 0 ≤ bt358.1 then (if bt358.1 < (l1.length : Int) then (some (rd l1 bt358.1, bt358.2.1, bt358.2.2)) else (none)) else (none))
set_option maxHeartbeats 8000000 in
set_option maxRecDepth 100000 in
theorem spec_l01PickInt.calls (g : Nat) (s0_0 : List Int) (s0_1 : Int) (s0_2 : Int) (A1 : Option Addr) (c1 : Nat) (l1 : List Int) (r1 : Int) (r2 : Int) (r3 : Int) (w0 w : World) (hI : IsS81 w0 w g s0_0 s0_1 s0_2) (hB : Below w0.heap.size w0 w) (hr1 : Kd.C (Kd.int .i64) w A1 l1.length l1) (hc1 : l1.length ≤ c1) (hf1 : ∀ ad, A1 = some ad → 0 < l1.length → ad.block ≠ g) (h : spec_l01PickInt.f s0_0 s0_1 s0_2 l1 = some (r1, r2, r3)) :
   Calls Try.prog 86 #[.pointer (some ⟨g, 0, none⟩), .slice A1 l1.length c1] w fun e w' => e = .returned (.int .i64 r1) ∧ IsS81 w0 w' g s0_0 r2 r3 ∧ Below w0.heap.size w0 w' ∧ KeepBut w w' g none := by
 have HR1 := am hr1
 have HC1 := am hc1
 clear hr1 hc1
 have HI0 := am hI
 have HK := am (KeepBut.refl w g none)
 have HL := am hB.size
 clear hI
 have HW0 := am hB.size
 have HB := am hB
 clear hB
 have H : ((spec_l01Below.f s0_0 s0_1 s0_2 (l1.length : Int)).bind fun bt358 => (if 0 ≤ bt358.1 then (if bt358.1 < (l1.length : Int) then (some (rd l1 bt358.1, bt358.2.1, bt358.2.2)) else (none)) else (none))) = some (r1, r2, r3) := h
 clear h
 replace H := Option.bind_eq_some_iff.mp H
 obtain ⟨⟨t358, t359, t360⟩, A30, H⟩ := H
 (try dsimp only at H)
 have A3 := am A30
 clear A30
 by_cases c4 : 0 ≤ t358
 rotate_left
 · rw [if_neg c4] at H
   exact absurd H (by simp)
 rw [if_pos c4] at H
 have c4b0 : decide (0 ≤ t358) = true := decide_eq_true c4
 clear c4
 by_cases c5 : t358 < (l1.length : Int)
 rotate_left
 · rw [if_neg c5] at H
   exact absurd H (by simp)
 rw [if_pos c5] at H
 have c5b0 : decide (t358 < (l1.length : Int)) = true := decide_eq_true c5
 clear c5
 simp only [Option.some.injEq, Prod.mk.injEq] at H
 obtain ⟨rfl, rfl, rfl⟩ := H
 go_enter Try.func86, Try.ntmps86
 go_wp2_with (first | ((with_reducible refine gate_callee (f := 68) rfl ?_); refine goesL_ (some 9) rfl rfl Try.func68 kr rfl #[.pointer (some ⟨g, 0, none⟩), .int .i64 (l1.length : Int)] rfl Q3 ?_; (with_reducible refine (spec_l01Below.calls g s0_0 s0_1 s0_2 (l1.length : Int) t358 t359 t360 w0 _ ?side1 ?side2 A3.out).mono ?_); (case side1 => exact u7_2); (case side2 => exact u7_1); rintro e w6 ⟨rfl, hi, hb, hk⟩; refine ⟨_, rfl, ?_⟩; replace HK := am (KeepBut.trans u7_0 hk (.inl rfl)); replace HB := am (hb); replace HI0 := am (hi); (try clear hb); (try clear hb2); (try clear hk); (try clear hi); have p361 : 0 ≤ (t358 : Int) := of_decide_eq_true Q2; have q361 : t358 < (l1.length : Int) := of_decide_eq_true Q2; obtain ⟨ad361, e361, hx361_0⟩ := Kd.at_int HR1.out t358 p361 q361; cases e361; replace hx361_0 := keep_cell HK.out hx361_0 (by first | (rw [add_block]; exact hf1 _ rfl (by omega)) | exact hf1 _ rfl (by omega) | exact hf1 ad361 rfl (by omega)); replace p361 := eq_true p361; replace q361 := eq_true q361))
 go_ret
 exact ⟨er, u7_2, u7_1, u7_0⟩

/-! ### spec_l06DrawOps: function 67 -/
def spec_l06DrawOps.l0 : Nat → List (S77) → Int → List Int → Int → Int → Option ((List (S77)) × Int × Int)
 | 0, _, _, _, _, _ => none
 | k + 1, x5, x6, x1000, x1001, x1002 => if x6 > 0 then ((spec_l01Below.f x1000 x1001 x1002 6).bind fun bt369 => ((spec_l01PickInt.f x1000 bt369.2.1 bt369.2.2 (([0, 1, 2, 2, 3, 0, 1, wrap64 (bt369.1 - 1)] : List Int))).bind fun bt375 => ((spec_l01Below.f x1000 bt375.2.1 bt375.2.2 14).bind fun bt378 => ((spec_l06DrawSet.f k x1000 bt378.2.1 bt378.2.2).bind fun bt382 => (if x5.length < 3518437208883 then (spec_l06DrawOps.l0 k (x5 ++ [(⟨bt375.1, bt378.1, bt382.1⟩ : S77)]) (wrap64 (x6 - 1)) x1000 bt382.2.1 bt382.2.2) else (none)))))) else (some (x5, x1001, x1002))
def spec_l06DrawOps.f (k : Nat) (s0_0 : List Int) (s0_1 : Int) (s0_2 : Int) (l1 : List Int) : Option ((List (S77)) × Int × Int) := (spec_l01Size.f l1 12).bind fun t365 => ((spec_l01Below.f s0_0 s0_1 s0_2 (wrap64 (2 + t365))).bind fun bt366 => (spec_l06DrawOps.l0 k (([] : List (S77))) bt366.1 s0_0 bt366.2.1 bt366.2.2))
theorem spec_l06DrawOps.mono_l : ∀ k, (∀ y0 y1 y2 y3 y4, LeO (spec_l06DrawOps.l0 k y0 y1 y2 y3 y4) (spec_l06DrawOps.l0 (k + 1) y0 y1 y2 y3 y4))
 | 0 => fun _ _ _ _ _ r h => by simp [spec_l06DrawOps.l0] at h
 | k + 1 => by
   have ih0 := spec_l06DrawOps.mono_l k
   · intro y0 y1 y2 y3 y4
     unfold spec_l06DrawOps.l0
     repeat' first
     | (with_reducible exact ih0 _ _ _ _ _)
     | (with_reducible exact spec_l06DrawSet.mono _ _ _ _)
     | (with_reducible exact LeO.refl _)
     | (with_reducible exact LeO.none _)
     | (with_reducible refine LeO.ite ?_ ?_)
     | (with_reducible refine LeO.bind ?_ (fun _ => ?_))
     | exact ih0 _ _ _ _ _
     | exact spec_l06DrawSet.mono _ _ _ _
     | exact LeO.none _
     | refine LeO.ite ?_ ?_
     | refine LeO.bind ?_ (fun _ => ?_)
theorem spec_l06DrawOps.mono : ∀ a0 a1 a2 a3 k, LeO (spec_l06DrawOps.f k a0 a1 a2 a3) (spec_l06DrawOps.f (k + 1) a0 a1 a2 a3) := by
 intro a0 a1 a2 a3 k
 have ih0 := spec_l06DrawOps.mono_l k
 unfold spec_l06DrawOps.f
 repeat' first
     | (with_reducible exact ih0 _ _ _ _ _)
     | (with_reducible exact spec_l06DrawSet.mono _ _ _ _)
     | (with_reducible exact LeO.refl _)
     | (with_reducible exact LeO.none _)
     | (with_reducible refine LeO.ite ?_ ?_)
     | (with_reducible refine LeO.bind ?_ (fun _ => ?_))
     | exact ih0 _ _ _ _ _
     | exact spec_l06DrawSet.mono _ _ _ _
     | exact LeO.none _
     | refine LeO.ite ?_ ?_
     | refine LeO.bind ?_ (fun _ => ?_)
set_option maxHeartbeats 8000000 in
set_option maxRecDepth 100000 in
theorem spec_l06DrawOps.calls (k : Nat) (g : Nat) (s0_0 : List Int) (s0_1 : Int) (s0_2 : Int) (A1 : Option Addr) (c1 : Nat) (l1 : List Int) (r1 : List (S77)) (r2 : Int) (r3 : Int) (w0 w : World) (hI : IsS81 w0 w g s0_0 s0_1 s0_2) (hB : Below w0.heap.size w0 w) (hr1 : Kd.C (Kd.int .u8) w A1 l1.length l1) (hc1 : l1.length ≤ c1) (hf1 : ∀ ad, A1 = some ad → 0 < l1.length → ad.block ≠ g) (h : spec_l06DrawOps.f k s0_0 s0_1 s0_2 l1 = some (r1, r2, r3)) :
   Calls Try.prog 67 #[.pointer (some ⟨g, 0, none⟩), .slice A1 l1.length c1] w fun e w' => ∃ v0_ : Value, e = .returned (v0_) ∧ Kd.S k77 77 w' w.heap.size (fun _ => True) v0_ r1 ∧ IsS81 w0 w' g s0_0 r2 r3 ∧ Below w0.heap.size w0 w' ∧ KeepBut w w' g none := by
 have hu77 := Try.underlying77
 have HR1 := am hr1
 have HC1 := am hc1
 clear hr1 hc1
 have HI0 := am hI
 have HK := am (KeepBut.refl w g none)
 have HL := am hB.size
 clear hI
 have HW0 := am hB.size
 have HB := am hB
 clear hB
 have H : ((spec_l01Size.f l1 12).bind fun t365 => ((spec_l01Below.f s0_0 s0_1 s0_2 (wrap64 (2 + t365))).bind fun bt366 => (spec_l06DrawOps.l0 k (([] : List (S77))) bt366.1 s0_0 bt366.2.1 bt366.2.2))) = some (r1, r2, r3) := h
 clear h
 obtain ⟨y362, hy362⟩ : ∃ y_ : List (S77), y_ = (([] : List (S77))) := ⟨_, rfl⟩
 replace H : ((spec_l01Size.f l1 12).bind fun t365 => ((spec_l01Below.f s0_0 s0_1 s0_2 (wrap64 (2 + t365))).bind fun bt366 => (spec_l06DrawOps.l0 k y362 bt366.1 s0_0 bt366.2.1 bt366.2.2))) = some (r1, r2, r3) := by first | (rw [hy362]; with_reducible exact H) | (have H2_ := (Option.bind_some _ _).symm.trans H; rw [hy362]; with_reducible exact H2_) | (have H2_ := (Option.bind_some _ _).symm.trans H; with_reducible exact H2_) | with_reducible exact H | (rw [hy362]; exact H) | exact H
 have Ny362 := am hy362
 clear hy362
 replace H := Option.bind_eq_some_iff.mp H
 obtain ⟨t365, A30, H⟩ := H
 have A3 := am A30
 clear A30
 replace H := Option.bind_eq_some_iff.mp H
 obtain ⟨⟨t366, t367, t368⟩, A40, H⟩ := H
 replace H : (spec_l06DrawOps.l0 k y362 t366 s0_0 t367 t368) = some (r1, r2, r3) := H
 have A4 := am A40
 clear A40
 have H' := am H
 clear H
 go_enter Try.func67, Try.ntmps67
 go_wp2_with (first | ((with_reducible refine gate_dst (N := 8) rfl ?_); refine Kd.S_lit k77 _ 77 ?hg (N := 8) ?hd (xs := ([] : List (S77))) (inner := []) (ok := fun _ => True) (okp := fun _ => True) ?hr ?hp (fun _ hk => hk) trivial (Below.refl _ _) (Nat.le_refl _) (by simp) ?_; (case hd => rfl); (case hg => rfl); (case hr => first | (go_simp; done) | (go_simp; rfl)); (case hp => exact (Reps.none _ _)); intro v363 w5 ho6 hb hg_ hnew_; clear hg_ hnew_; (first | rw [← Ny362.out] at ho6 | (simp only [Int.reduceToNat] at ho6; rw [← Ny362.out] at ho6)); have HO364 := am (Kd.S_lower ho6 (keep_size (w := w) (g := g) (row := none) u7_0)); replace HK := am (KeepBut.trans u7_0 (KeepBut.of_below hb g none) (.inl rfl)); replace HB := am (below_step u7_1 hb); replace HI0 := am (IsS81.below u7_2 hb); clear hb ho6) | ((with_reducible refine gate_callee (f := 85) rfl ?_); refine goesL_ (some 11) rfl rfl Try.func85 kr rfl #[.slice A1 l1.length c1, .int .i64 12] rfl Q3 ?_; (with_reducible refine (spec_l01Size.calls _ _ l1 12 t365 _ ?side1 ?side2 A3.out).mono ?_); (case side1 => exact (by exact Kd.C_keep 0 HR1.out u7_0 hf1)); (case side2 => exact HC1.out); rintro e w' ⟨rfl, ⟨nd, rfl⟩⟩; refine ⟨_, rfl, ?_⟩) | ((with_reducible refine gate_callee (f := 68) rfl ?_); refine goesL_ (some 13) rfl rfl Try.func68 kr rfl #[.pointer (some ⟨g, 0, none⟩), .int .i64 (wrap64 (2 + t365))] rfl Q3 ?_; (with_reducible refine (spec_l01Below.calls g s0_0 s0_1 s0_2 (wrap64 (2 + t365)) t366 t367 t368 w0 _ ?side1 ?side2 A4.out).mono ?_); (case side1 => exact u7_2); (case side2 => exact u7_1); rintro e w7 ⟨rfl, hi, hb, hk⟩; refine ⟨_, rfl, ?_⟩; replace HO364 := am (Kd.S_mono (Kd.S_keep (IsS81.apartS (show IsS81 w0 _ g s0_0 s0_1 s0_2 from by repeat (first | (with_reducible first | exact HI0.out | apply IsS81.alloc | apply IsS81.drewN | apply IsS81.drew | apply IsS81.set_1 | apply IsS81.set_2) | exact HI0.out)) u7_29 (by decide)) hk (fun _ h => h.2)) (fun _ h => h.1)); replace HK := am (KeepBut.trans u7_0 hk (.inl rfl)); replace HB := am (hb); replace HI0 := am (hi); (try clear hb); (try clear hb2); (try clear hk); (try clear hi)))
 go_loopg [5, 6] k (fun kq v5 v6 w' => ∃ (x5_1 : List (S77)) (x6_1 : Int) (x1001_1 : Int) (x1002_1 : Int), v6 = .int .i64 x6_1 ∧ Aside0 (spec_l06DrawOps.l0 kq x5_1 x6_1 s0_0 x1001_1 x1002_1 = some (r1, r2, r3)) ∧ Aside0 (kq ≤ k) ∧ Aside0 (Kd.S k77 77 w' w.heap.size (fun _ => True) v5 x5_1) ∧ Aside0 (IsS81 w0 w' g s0_0 x1001_1 x1002_1) ∧ Aside0 (KeepBut w w' g none) ∧ Aside0 (Below w0.heap.size w0 w'))
 case atStart => exact ⟨(y362), (t366), (t367), (t368), Q1, H', ⟨Nat.le_refl _⟩, ⟨u7_29⟩, ⟨u7_2⟩, ⟨u7_0⟩, ⟨u7_1⟩⟩
 clear H'
 try clear c1
 obtain ⟨x5_1, x6_1, x1001_1, x1002_1, rfl, HA, HK1, HO_5, HI0, HK, HB⟩ := hrel
 cases gk with
 | zero => exact absurd HA.out (by simp [spec_l06DrawOps.l0])
 | succ k1 =>
   have H := HA.out
   clear HA
   simp only [spec_l06DrawOps.l0] at H
   by_cases c8 : x6_1 > 0
   rotate_left
   · rw [if_neg c8] at H
     have c8b0 : decide (0 < x6_1) = false := decide_eq_false c8
     clear c8
     simp only [Option.some.injEq, Prod.mk.injEq] at H
     obtain ⟨rfl, rfl, rfl⟩ := H
     go_wp2
     go_ret
     exact ⟨_, er, u7_13, u7_2, u7_1, u7_0⟩
   rw [if_pos c8] at H
   have c8b0 : decide (0 < x6_1) = true := decide_eq_true c8
   clear c8
   replace H := Option.bind_eq_some_iff.mp H
   obtain ⟨⟨t369, t370, t371⟩, A90, H⟩ := H
   (try dsimp only at H)
   have A9 := am A90
   clear A90
   obtain ⟨y372, hy372⟩ : ∃ y_ : List Int, y_ = (([0, 1, 2, 2, 3, 0, 1, wrap64 (t369 - 1)] : List Int)) := ⟨_, rfl⟩
   replace H : ((spec_l01PickInt.f s0_0 t370 t371 y372).bind fun bt375 => ((spec_l01Below.f s0_0 bt375.2.1 bt375.2.2 14).bind fun bt378 => ((spec_l06DrawSet.f k1 s0_0 bt378.2.1 bt378.2.2).bind fun bt382 => (if x5_1.length < 3518437208883 then (spec_l06DrawOps.l0 k1 (x5_1 ++ [(⟨bt375.1, bt378.1, bt382.1⟩ : S77)]) (wrap64 (x6_1 - 1)) s0_0 bt382.2.1 bt382.2.2) else (none))))) = some (r1, r2, r3) := by first | (rw [hy372]; with_reducible exact H) | (have H2_ := (Option.bind_some _ _).symm.trans H; rw [hy372]; with_reducible exact H2_) | (have H2_ := (Option.bind_some _ _).symm.trans H; with_reducible exact H2_) | with_reducible exact H | (rw [hy372]; exact H) | exact H
   have Ny372 := am hy372
   clear hy372
   replace H := Option.bind_eq_some_iff.mp H
   obtain ⟨⟨t375, t376, t377⟩, A100, H⟩ := H
   (try dsimp only at H)
   have A10 := am A100
   clear A100
   replace H := Option.bind_eq_some_iff.mp H
   obtain ⟨⟨t378, t379, t380⟩, A110, H⟩ := H
   (try dsimp only at H)
   have A11 := am A110
   clear A110
   replace H := Option.bind_eq_some_iff.mp H
   obtain ⟨⟨t382, t385, t386⟩, A120, H⟩ := H
   (try dsimp only at H)
   have A12 := am A120
   clear A120
   by_cases c13 : x5_1.length < 3518437208883
   rotate_left
   · rw [if_neg c13] at H
     exact absurd H (by simp)
   rw [if_pos c13] at H
   have LMc13 := am c13
   clear c13
   obtain ⟨y387, hy387⟩ : ∃ y_ : List (S77), y_ = (x5_1 ++ [(⟨t375, t378, t382⟩ : S77)]) := ⟨_, rfl⟩
   replace H : (spec_l06DrawOps.l0 k1 y387 (wrap64 (x6_1 - 1)) s0_0 t385 t386) = some (r1, r2, r3) := by first | (rw [hy387]; with_reducible exact H) | (have H2_ := (Option.bind_some _ _).symm.trans H; rw [hy387]; with_reducible exact H2_) | (have H2_ := (Option.bind_some _ _).symm.trans H; with_reducible exact H2_) | with_reducible exact H | (rw [hy387]; exact H) | exact H
   have Ny387 := am hy387
   clear hy387
   have H' := am H
   clear H
   go_wp2_with (first | ((with_reducible refine gate_callee (f := 68) rfl ?_); refine goesL_ (some 20) rfl rfl Try.func68 kr rfl #[.pointer (some ⟨g, 0, none⟩), .int .i64 6] rfl Q3 ?_; (with_reducible refine (spec_l01Below.calls g s0_0 x1001_1 x1002_1 6 t369 t370 t371 w0 _ ?side1 ?side2 A9.out).mono ?_); (case side1 => exact u7_2); (case side2 => exact u7_1); rintro e w14 ⟨rfl, hi, hb, hk⟩; refine ⟨_, rfl, ?_⟩; replace HO_5 := am (Kd.S_mono (Kd.S_keep (IsS81.apartS (show IsS81 w0 _ g s0_0 x1001_1 x1002_1 from by repeat (first | (with_reducible first | exact HI0.out | apply IsS81.alloc | apply IsS81.drewN | apply IsS81.drew | apply IsS81.set_1 | apply IsS81.set_2) | exact HI0.out)) u7_13 (by decide)) hk (fun _ h => h.2)) (fun _ h => h.1)); replace HK := am (KeepBut.trans u7_0 hk (.inl rfl)); replace HB := am (hb); replace HI0 := am (hi); (try clear hb); (try clear hb2); (try clear hk); (try clear hi)) | ((with_reducible refine gate_dst (N := 22) rfl ?_); refine Kd.R_lit (Kd.int .i64) _ 3 ?hg (N := 22) ?hd (xs := ([0, 1, 2, 2, 3, 0, 1, wrap64 (t369 - 1)] : List Int)) (inner := [.int .i64 0, .int .i64 1, .int .i64 2, .int .i64 2, .int .i64 3, .int .i64 0, .int .i64 1, .int .i64 (wrap64 (t369 - 1))]) (ok := fun _ => True) (okp := fun _ => True) ?hr ?hp (fun _ hk => hk) trivial (Below.refl _ _) (Nat.le_refl _) (by simp) ?_; (case hd => rfl); (case hg => rfl); (case hr => first | (go_simp; done) | (go_simp; rfl)); (case hp => exact (Reps.one (show Kd.M (Kd.int .i64) _ _ _ 0 [.int .i64 0] from rfl) (Reps.one (show Kd.M (Kd.int .i64) _ _ _ 1 [.int .i64 1] from rfl) (Reps.one (show Kd.M (Kd.int .i64) _ _ _ 2 [.int .i64 2] from rfl) (Reps.one (show Kd.M (Kd.int .i64) _ _ _ 2 [.int .i64 2] from rfl) (Reps.one (show Kd.M (Kd.int .i64) _ _ _ 3 [.int .i64 3] from rfl) (Reps.one (show Kd.M (Kd.int .i64) _ _ _ 0 [.int .i64 0] from rfl) (Reps.one (show Kd.M (Kd.int .i64) _ _ _ 1 [.int .i64 1] from rfl) (Reps.one (show Kd.M (Kd.int .i64) _ _ _ (wrap64 (t369 - 1)) [.int .i64 (wrap64 (t369 - 1))] from rfl) (Reps.none _ _)))))))))); intro v373 w15 ho16 hb hg_ hnew_; clear hg_ hnew_; (first | rw [← Ny372.out] at ho16 | (simp only [Int.reduceToNat] at ho16; rw [← Ny372.out] at ho16)); replace HO_5 := am (Kd.S_elder' u7_13 (Kd.R_base ho16) hb); have HO374 := am (Kd.R_lower ho16 (keep_size (w := w) (g := g) (row := none) u7_0)); replace HK := am (KeepBut.trans u7_0 (KeepBut.of_below hb g none) (.inl rfl)); replace HB := am (below_step u7_1 hb); replace HI0 := am (IsS81.below u7_2 hb); clear hb ho16; obtain ⟨Ao17, co17, eo17⟩ := Kd.R_slice HO374.out; subst eo17) | ((with_reducible refine gate_callee (f := 86) rfl ?_); refine goesL_ (some 23) rfl rfl Try.func86 kr rfl #[.pointer (some ⟨g, 0, none⟩), .slice Ao17 y372.length co17] rfl Q3 ?_; (with_reducible refine (spec_l01PickInt.calls g s0_0 t370 t371 _ _ y372 t375 t376 t377 w0 _ ?side1 ?side2 ?side3 ?side4 ?side5 A10.out).mono ?_); (case side1 => exact u7_2); (case side2 => exact u7_1); (case side3 => exact (by repeat (first | exact (Kd.R_reads' HO374.out).2.2 | (with_reducible refine Kd.C_alloc ?_ _) | (with_reducible refine Kd.C_drewN ?_ _) | (with_reducible refine Kd.C_drew ?_)))); (case side4 => exact (Kd.R_reads' HO374.out).2.1); (case side5 => exact far_slice (IsS81.own_ne HI0.out HO374.out (by decide))); rintro e w18 ⟨rfl, hi, hb, hk⟩; refine ⟨_, rfl, ?_⟩; replace HO_5 := am (Kd.S_mono (Kd.S_keep (IsS81.apartS (show IsS81 w0 _ g s0_0 t370 t371 from by repeat (first | (with_reducible first | exact HI0.out | apply IsS81.alloc | apply IsS81.drewN | apply IsS81.drew | apply IsS81.set_1 | apply IsS81.set_2) | exact HI0.out)) u7_13 (by decide)) hk (fun _ h => h.2)) (fun _ h => h.1)); replace HO374 := am (Kd.R_mono (Kd.R_keep (IsS81.apart (show IsS81 w0 _ g s0_0 t370 t371 from by repeat (first | (with_reducible first | exact HI0.out | apply IsS81.alloc | apply IsS81.drewN | apply IsS81.drew | apply IsS81.set_1 | apply IsS81.set_2) | exact HI0.out)) u7_16 (by decide)) hk (fun _ h => h.2)) (fun _ h => h.1)); replace HK := am (KeepBut.trans u7_0 hk (.inl rfl)); replace HB := am (hb); replace HI0 := am (hi); (try clear hb); (try clear hb2); (try clear hk); (try clear hi)) | ((with_reducible refine gate_callee (f := 68) rfl ?_); refine goesL_ (some 25) rfl rfl Try.func68 kr rfl #[.pointer (some ⟨g, 0, none⟩), .int .i64 14] rfl Q3 ?_; (with_reducible refine (spec_l01Below.calls g s0_0 t376 t377 14 t378 t379 t380 w0 _ ?side1 ?side2 A11.out).mono ?_); (case side1 => exact u7_2); (case side2 => exact u7_1); rintro e w19 ⟨rfl, hi, hb, hk⟩; refine ⟨_, rfl, ?_⟩; replace HO_5 := am (Kd.S_mono (Kd.S_keep (IsS81.apartS (show IsS81 w0 _ g s0_0 t376 t377 from by repeat (first | (with_reducible first | exact HI0.out | apply IsS81.alloc | apply IsS81.drewN | apply IsS81.drew | apply IsS81.set_1 | apply IsS81.set_2) | exact HI0.out)) u7_13 (by decide)) hk (fun _ h => h.2)) (fun _ h => h.1)); replace HO374 := am (Kd.R_mono (Kd.R_keep (IsS81.apart (show IsS81 w0 _ g s0_0 t376 t377 from by repeat (first | (with_reducible first | exact HI0.out | apply IsS81.alloc | apply IsS81.drewN | apply IsS81.drew | apply IsS81.set_1 | apply IsS81.set_2) | exact HI0.out)) u7_16 (by decide)) hk (fun _ h => h.2)) (fun _ h => h.1)); replace HK := am (KeepBut.trans u7_0 hk (.inl rfl)); replace HB := am (hb); replace HI0 := am (hi); (try clear hb); (try clear hb2); (try clear hk); (try clear hi)) | ((with_reducible refine gate_dst (N := 7) rfl ?_); refine box_event ?hg (N := 7) ?hd (cs := #[.int .i64 0, .int .i64 0, .slice none 0 0]) (t := 77) ?hr ?_; (case hd => rfl); (case hg => rfl); (case hr => first | (go_simp; done) | (go_simp; rfl)); intro gb381 hg w20 hbox hb; replace HO_5 := am (Kd.S_below (Kd.S_elderB u7_13 gb381 (Nat.le_of_eq hg.symm)) hb); replace HO374 := am (Kd.R_below u7_16 hb); replace HB := am (below_step u7_1 hb); have BK381 := am (hbox); have GW381 := am ((by rw [hg]; exact (keep_size (w := w) (g := g) (row := none) u7_0) : w.heap.size ≤ gb381)); have GE381 := am ((Nat.le_trans HW0.out (by rw [hg]; exact (keep_size (w := w) (g := g) (row := none) u7_0) : w.heap.size ≤ gb381) : w0.heap.size ≤ gb381)); replace HK := am (KeepBut.trans u7_0 (KeepBut.of_below hb g none) (.inl rfl)); have NB0_381 := am ((by rw [hg]; exact Nat.ne_of_lt (IsS81.lt (show IsS81 w0 _ g s0_0 t379 t380 from by repeat (first | (with_reducible first | exact HI0.out | apply IsS81.alloc | apply IsS81.drewN | apply IsS81.drew | apply IsS81.set_1 | apply IsS81.set_2) | exact HI0.out))) : g ≠ gb381)); have NB381_0 := am ((by rw [hg]; exact Nat.ne_of_gt (IsS81.lt (show IsS81 w0 _ g s0_0 t379 t380 from by repeat (first | (with_reducible first | exact HI0.out | apply IsS81.alloc | apply IsS81.drewN | apply IsS81.drew | apply IsS81.set_1 | apply IsS81.set_2) | exact HI0.out))) : gb381 ≠ g)); replace HI0 := am (IsS81.below u7_2 hb); clear hb hbox hg; have hnb21 := NB381_0.out; have hnc21 := NB0_381.out; obtain ⟨hcz22_0, hcz22_1, hcz22_2, hfz22_0, hfz22_1, hfz22_2⟩ := bc3f w20 BK381.out) | ((with_reducible refine gate_callee (f := 45) rfl ?_); refine goesL_ (some 28) rfl rfl Try.func45 kr rfl #[.pointer (some ⟨g, 0, none⟩)] rfl Q3 ?_; (with_reducible refine (spec_l06DrawSet.calls k1 g s0_0 t379 t380 t382 t385 t386 w0 _ ?side1 ?side2 A12.out).mono ?_); (case side1 => exact u7_8); (case side2 => exact u7_10); rintro e w23 ⟨v383, rfl, ho0, hi, hb, hk⟩; refine ⟨_, rfl, ?_⟩; replace HO_5 := am (Kd.S_mono (Kd.S_told (Kd.S_oldK (IsS81.apartS (show IsS81 w0 _ g s0_0 t379 t380 from by repeat (first | (with_reducible first | exact HI0.out | apply IsS81.alloc | apply IsS81.drewN | apply IsS81.drew | apply IsS81.set_1 | apply IsS81.set_2 | refine IsS81.far ?_ NB0_381.out _) | exact HI0.out)) (by (with_reducible repeat (first | apply Kd.S_alloc | apply Kd.S_drewN | apply Kd.S_drew)); exact (Kd.S_mono (Kd.S_far (p := ⟨gb381, 2, none⟩) (Kd.S_far (p := ⟨gb381, 1, none⟩) (Kd.S_far (p := ⟨gb381, 0, none⟩) (Kd.S_mono HO_5.out (fun k_ hk => (⟨hk, hk.2⟩ : _ ∧ k_ ≠ gb381))) (fun _ hk => hk.2) (.int .i64 t375)) (fun _ hk => hk.2) (.int .i64 t378)) (fun _ hk => hk.2) (.slice none 0 0)) (fun _ h_ => h_.1))) (by decide)) hk) (Kd.R_base ho0)) (fun _ h_ => h_.1)); have HO384 := am (Kd.R_lower (Kd.R_new' ho0 (Kd.R_lt u7_17)) (keep_size (w := w) (g := g) (row := none) u7_6)); replace HO374 := am (Kd.R_mono (Kd.R_told (Kd.R_oldK (IsS81.apart (show IsS81 w0 _ g s0_0 t379 t380 from by repeat (first | (with_reducible first | exact HI0.out | apply IsS81.alloc | apply IsS81.drewN | apply IsS81.drew | apply IsS81.set_1 | apply IsS81.set_2 | refine IsS81.far ?_ NB0_381.out _) | exact HI0.out)) u7_17 (by decide)) hk) (Kd.R_base ho0)) (fun _ h_ => h_.1)); replace BK381 := am (KeepBut.blk hk (g' := gb381) (o := .cells #[.int .i64 t375, .int .i64 t378, .slice none 0 0] 77 (0, 0)) (by (with_reducible repeat (first | refine blk_drewN ?_ _ | refine blk_drew ?_ | refine blk_alloc ?_ _)); refine blk_put (cs := #[.int .i64 t375, .int .i64 t378, .slice none 0 0]) ?_ 2 _ rfl; (with_reducible repeat (first | refine blk_drewN ?_ _ | refine blk_drew ?_ | refine blk_alloc ?_ _)); refine blk_put (cs := #[.int .i64 t375, .int .i64 0, .slice none 0 0]) ?_ 1 _ rfl; (with_reducible repeat (first | refine blk_drewN ?_ _ | refine blk_drew ?_ | refine blk_alloc ?_ _)); refine blk_put (cs := #[.int .i64 0, .int .i64 0, .slice none 0 0]) ?_ 0 _ rfl; (with_reducible repeat (first | refine blk_drewN ?_ _ | refine blk_drew ?_ | refine blk_alloc ?_ _)); exact BK381.out) NB381_0.out (by simp)); replace HK := am (KeepBut.trans u7_6 hk (.inl rfl)); replace HB := am (hb); replace HI0 := am (hi); (try clear hb); (try clear hb2); (try clear hk); (try clear hi); (try clear ho0); obtain ⟨Ao24, co24, eo24⟩ := Kd.R_slice HO384.out; subst eo24; obtain ⟨hcz25_0, hcz25_1, hcz25_2, hfz25_0, hfz25_1, hfz25_2⟩ := bc3f w23 BK381.out) | ((with_reducible refine gate_store (t := 24) (p := 29) rfl ?_); refine store_event (t := 24) (p := 29) (v := ?vo_w26) (w1 := (w23.setCell ⟨gb381, 2, none⟩ (.slice Ao24 t382.length co24))) ?hg ?ho ?hn ?hr ?_; (case ho => rfl); (case hg => rfl); (case hn => rfl); (case hr => first | (go_simp; done) | (go_simp; rfl)); intro w26 hw; have n0_ : Aside0 (Kd.S k77 77 w26 w.heap.size (fun k_ => some k_ ≠ (.slice Ao17 y372.length co17 : Value).ownBlock ∧ some k_ ≠ (.slice Ao24 t382.length co24 : Value).ownBlock ∧ k_ ≠ gb381) u5 x5_1) := ⟨(by rw [hw]; exact (by (with_reducible repeat (first | apply Kd.S_alloc | apply Kd.S_drewN | apply Kd.S_drew)); exact Kd.S_mono (Kd.S_far (p := ⟨gb381, 2, none⟩) (Kd.S_mono HO_5.out (fun k_ hk => (⟨hk, hk.1.2⟩ : _ ∧ k_ ≠ gb381))) (fun _ hk => hk.2) (.slice Ao24 t382.length co24)) (fun _ hk => ⟨hk.1.1.1.2, ⟨hk.1.2, hk.1.1.2⟩⟩)))⟩; have n1_ : Aside0 (Kd.R (Kd.int .i64) 3 w26 w.heap.size (fun k_ => some k_ ≠ (.slice Ao24 t382.length co24 : Value).ownBlock) (.slice Ao17 y372.length co17) y372) := ⟨(by rw [hw]; exact (by (with_reducible repeat (first | apply Kd.R_alloc | apply Kd.R_drewN | apply Kd.R_drew)); exact Kd.R_mono (Kd.R_far (p := ⟨gb381, 2, none⟩) (Kd.R_types HO374.out BK381.out (by decide)) (fun _ hk => hk.2) (.slice Ao24 t382.length co24)) (fun _ hk => hk.1.2)))⟩; have n2_ : Aside0 (Kd.R (Kd.int .i64) 3 w26 w.heap.size (fun k_ => some k_ ≠ (.slice Ao17 y372.length co17 : Value).ownBlock) (.slice Ao24 t382.length co24) t382) := ⟨(by rw [hw]; exact (by (with_reducible repeat (first | apply Kd.R_alloc | apply Kd.R_drewN | apply Kd.R_drew)); exact Kd.R_mono (Kd.R_far (p := ⟨gb381, 2, none⟩) (Kd.R_types HO384.out BK381.out (by decide)) (fun _ hk => hk.2) (.slice Ao24 t382.length co24)) (fun _ hk => hk.1.2)))⟩; have n3_ : Aside0 (w26.heap[gb381]? = some (.cells #[.int .i64 t375, .int .i64 t378, .slice Ao24 t382.length co24] 77 (0, 0))) := ⟨(by rw [hw]; exact (by (with_reducible repeat (first | refine blk_drewN ?_ _ | refine blk_drew ?_ | refine blk_alloc ?_ _)); refine blk_put (cs := #[.int .i64 t375, .int .i64 t378, .slice none 0 0]) ?_ 2 _ rfl; (with_reducible repeat (first | refine blk_drewN ?_ _ | refine blk_drew ?_ | refine blk_alloc ?_ _)); exact BK381.out))⟩; have n4_ : Aside0 (IsS81 w0 w26 g s0_0 t385 t386) := ⟨(by rw [hw]; exact u7_8)⟩; have n5_ : Aside0 (KeepBut w w26 g none) := ⟨(by rw [hw]; exact u7_6)⟩; have n6_ : Aside0 (Below w0.heap.size w0 w26) := ⟨(by rw [hw]; exact u7_10)⟩; clear hw; clear HO_5; clear HO374; clear HO384; clear BK381; clear HI0; clear HK; clear HB; have HO_5 := n0_; have HO374 := n1_; have HO384 := n2_; have BK381 := n3_; have HI0 := n4_; have HK := n5_; have HB := n6_; clear n0_ n1_ n2_ n3_ n4_ n5_ n6_; obtain ⟨hcz27_0, hcz27_1, hcz27_2, hfz27_0, hfz27_1, hfz27_2⟩ := bc3f w26 BK381.out) | ((with_reducible refine gate_builtin (b := .append) (xs := #[.tmp 30, .tmp 32]) rfl ?_); at_builtin; refine Kd.S_append k77 w.heap.size rfl (.tmp 30) (.tmp 32) 51 77 (.agg #[(.int .i64 0), (.int .i64 0), (.slice none 0 0)]) 40 rfl Try.underlying51 info77 rfl (by decide) (by omega) u5 x5_1 (⟨t375, t378, t382⟩ : S77) [.int .i64 t375, .int .i64 t378, .slice Ao24 t382.length co24] (fun k_ => some k_ ≠ (.slice Ao17 y372.length co17 : Value).ownBlock ∧ k_ ≠ gb381) (fun k_ => some k_ = (.slice Ao24 t382.length co24 : Value).ownBlock) rfl rfl ?aP (fun k_ hk_ => ((Kd.R_mono (ok' := fun k_ => ((fun k_ => some k_ ≠ (.slice Ao17 y372.length co17 : Value).ownBlock ∧ k_ ≠ gb381)) k_ ∧ some k_ ≠ (u5 : Value).ownBlock) (Kd.R_types (Kd.R_apart' (HO384.out) (Kd.S_typed HO_5.out) (by decide)) BK381.out (by decide)) (fun k_ hk => ⟨⟨hk.1.1, hk.2⟩, hk.1.2⟩))).1 k_ hk_.symm) ?aF ?aO (Below.refl _ _) ?aS ?aL ?_; (case aP => exact k77_mkM _ _ _ (⟨t375, t378, t382⟩ : S77) (Kd.R_mono (Kd.R_tight rfl (Kd.R_mono (ok' := fun k_ => ((fun k_ => some k_ ≠ (.slice Ao17 y372.length co17 : Value).ownBlock ∧ k_ ≠ gb381)) k_ ∧ some k_ ≠ (u5 : Value).ownBlock) (Kd.R_types (Kd.R_apart' (HO384.out) (Kd.S_typed HO_5.out) (by decide)) BK381.out (by decide)) (fun k_ hk => ⟨⟨hk.1.1, hk.2⟩, hk.1.2⟩))) (fun _ h_ => h_))); (case aF => exact (fun k_ hk => ⟨Kd.fresh' (Kd.R_lt u7_16) k_ hk, Kd.freshB (g := gb381) (o := .cells #[.int .i64 t375, .int .i64 t378, .slice Ao24 t382.length co24] 77 (0, 0)) u7_26 k_ hk⟩)); (case aO => exact (by (with_reducible repeat (first | apply Kd.S_alloc | apply Kd.S_drewN | apply Kd.S_drew)); exact Kd.S_mono HO_5.out (fun k_ hk => ⟨⟨hk.1, hk.2.2⟩, fun e_ => hk.2.1 e_⟩))); (case aS => exact (keep_size (w := w) (g := g) (row := none) u7_6)); (case aL => have := LMc13.out; omega); intro v388 w28 ho hb hg hat; rw [← Ny387.out] at ho; replace HO374 := am (Kd.R_over' u7_16 (Kd.S_typed u7_13) (by decide) hg); replace BK381 := am (blk_grown (g := gb381) (o := .cells #[.int .i64 t375, .int .i64 t378, .slice Ao24 t382.length co24] 77 (0, 0)) u7_26 hg (Kd.S_away HO_5.out (fun _ hk => hk.2.2))); replace HB := am (below_weaken u7_10 HL.out hb); replace HI0 := am (IsS81.grown u7_8 hg (IsS81.own_neS HI0.out HO_5.out (by decide))); replace HK := am (KeepBut.trans u7_6 (KeepBut.of_grown hg g) (Kd.S_base2 HO_5.out)); have HO389 := am (ho); clear HO_5 HO384; clear ho hb hg hat))
   go_roundg k1
   case measure => have := HK1.out; omega
   case rel => exact ⟨(y387), (wrap64 (x6_1 - 1)), (t385), (t386), Q1, H', ⟨by have := HK1.out; omega⟩, ⟨(by (with_reducible repeat (first | apply Kd.S_alloc | apply Kd.S_drewN | apply Kd.S_drew)); exact Kd.S_mono HO389.out (fun _ hk => trivial))⟩, ⟨u7_8⟩, ⟨u7_6⟩, ⟨u7_10⟩⟩

/-! ### spec_l06DrawRight: function 44 -/
def spec_l06DrawRight.f (k : Nat) (s0_0 : List Int) (s0_1 : Int) (s0_2 : Int) (l1 : List Int) : Option (List Int × List Int × List Int × Int × Int) := (spec_l06DrawSet.f k s0_0 s0_1 s0_2).bind fun bt391 => ((spec_l06DrawOps.f k s0_0 bt391.2.1 bt391.2.2 l1).bind fun bt396 => ((spec_PlayConf.f k bt391.1 ([] : List Int) ([] : List Int) bt396.1).bind fun bt401 => (some (bt401.1, bt401.2.1, bt401.2.2.1, bt396.2.1, bt396.2.2))))
theorem spec_l06DrawRight.mono : ∀ a0 a1 a2 a3 k, LeO (spec_l06DrawRight.f k a0 a1 a2 a3) (spec_l06DrawRight.f (k + 1) a0 a1 a2 a3) := by
 intro a0 a1 a2 a3 k
 unfold spec_l06DrawRight.f
 repeat' first
     | (with_reducible exact spec_PlayConf.mono _ _ _ _ _)
     | (with_reducible exact spec_l06DrawOps.mono _ _ _ _ _)
     | (with_reducible exact spec_l06DrawSet.mono _ _ _ _)
     | (with_reducible exact LeO.refl _)
     | (with_reducible exact LeO.none _)
     | (with_reducible refine LeO.ite ?_ ?_)
     | (with_reducible refine LeO.bind ?_ (fun _ => ?_))
     | exact spec_PlayConf.mono _ _ _ _ _
     | exact spec_l06DrawOps.mono _ _ _ _ _
     | exact spec_l06DrawSet.mono _ _ _ _
     | exact LeO.none _
     | refine LeO.ite ?_ ?_
     | refine LeO.bind ?_ (fun _ => ?_)
set_option maxHeartbeats 8000000 in
set_option maxRecDepth 100000 in
theorem spec_l06DrawRight.calls (k : Nat) (g : Nat) (s0_0 : List Int) (s0_1 : Int) (s0_2 : Int) (A1 : Option Addr) (c1 : Nat) (l1 : List Int) (r1 : List Int) (r2 : List Int) (r3 : List Int) (r4 : Int) (r5 : Int) (w0 w : World) (hI : IsS81 w0 w g s0_0 s0_1 s0_2) (hB : Below w0.heap.size w0 w) (hr1 : Kd.C (Kd.int .u8) w A1 l1.length l1) (hc1 : l1.length ≤ c1) (hf1 : ∀ ad, A1 = some ad → 0 < l1.length → ad.block ≠ g) (h : spec_l06DrawRight.f k s0_0 s0_1 s0_2 l1 = some (r1, r2, r3, r4, r5)) :
   Calls Try.prog 44 #[.pointer (some ⟨g, 0, none⟩), .slice A1 l1.length c1] w fun e w' => ∃ v0_ v1_ v2_ : Value, e = .returned (.agg #[v0_, v1_, v2_]) ∧ Kd.R (Kd.int .i64) 3 w' w.heap.size (fun k_ => some k_ ≠ (v1_ : Value).ownBlock ∧ some k_ ≠ (v2_ : Value).ownBlock) v0_ r1 ∧ Kd.R (Kd.int .i64) 3 w' w.heap.size (fun k_ => some k_ ≠ (v0_ : Value).ownBlock ∧ some k_ ≠ (v2_ : Value).ownBlock) v1_ r2 ∧ Kd.R (Kd.int .i64) 3 w' w.heap.size (fun k_ => some k_ ≠ (v0_ : Value).ownBlock ∧ some k_ ≠ (v1_ : Value).ownBlock) v2_ r3 ∧ IsS81 w0 w' g s0_0 r4 r5 ∧ Below w0.heap.size w0 w' ∧ KeepBut w w' g none := by
 have hu26 := Try.underlying26
 have HR1 := am hr1
 have HC1 := am hc1
 clear hr1 hc1
 have HI0 := am hI
 have HK := am (KeepBut.refl w g none)
 have HL := am hB.size
 clear hI
 have HW0 := am hB.size
 have HB := am hB
 clear hB
 have H : ((spec_l06DrawSet.f k s0_0 s0_1 s0_2).bind fun bt391 => ((spec_l06DrawOps.f k s0_0 bt391.2.1 bt391.2.2 l1).bind fun bt396 => ((spec_PlayConf.f k bt391.1 ([] : List Int) ([] : List Int) bt396.1).bind fun bt401 => (some (bt401.1, bt401.2.1, bt401.2.2.1, bt396.2.1, bt396.2.2))))) = some (r1, r2, r3, r4, r5) := h
 clear h
 replace H := Option.bind_eq_some_iff.mp H
 obtain ⟨⟨t391, t394, t395⟩, A30, H⟩ := H
 (try dsimp only at H)
 have A3 := am A30
 clear A30
 replace H := Option.bind_eq_some_iff.mp H
 obtain ⟨⟨t396, t399, t400⟩, A40, H⟩ := H
 (try dsimp only at H)
 have A4 := am A40
 clear A40
 replace H := Option.bind_eq_some_iff.mp H
 obtain ⟨⟨t401, t404, t407, t410⟩, A50, H⟩ := H
 replace H : (some (t401, t404, t407, t399, t400)) = some (r1, r2, r3, r4, r5) := H
 have A5 := am A50
 clear A50
 simp only [Option.some.injEq, Prod.mk.injEq] at H
 obtain ⟨rfl, rfl, rfl, rfl, rfl⟩ := H
 go_enter Try.func44, Try.ntmps44
 go_wp2_with (first | ((with_reducible refine gate_dst (N := 4) rfl ?_); refine box_event ?hg (N := 4) ?hd (cs := #[.slice none 0 0, .slice none 0 0, .slice none 0 0]) (t := 26) ?hr ?_; (case hd => rfl); (case hg => rfl); (case hr => first | (go_simp; done) | (go_simp; rfl)); intro gb390 hg w6 hbox hb; replace HB := am (below_step u7_1 hb); have BK390 := am (hbox); have GW390 := am ((by rw [hg]; exact (keep_size (w := w) (g := g) (row := none) u7_0) : w.heap.size ≤ gb390)); have GE390 := am ((Nat.le_trans HW0.out (by rw [hg]; exact (keep_size (w := w) (g := g) (row := none) u7_0) : w.heap.size ≤ gb390) : w0.heap.size ≤ gb390)); replace HK := am (KeepBut.trans u7_0 (KeepBut.of_below hb g none) (.inl rfl)); have NB0_390 := am ((by rw [hg]; exact Nat.ne_of_lt (IsS81.lt (show IsS81 w0 _ g s0_0 s0_1 s0_2 from by repeat (first | (with_reducible first | exact HI0.out | apply IsS81.alloc | apply IsS81.drewN | apply IsS81.drew | apply IsS81.set_1 | apply IsS81.set_2) | exact HI0.out))) : g ≠ gb390)); have NB390_0 := am ((by rw [hg]; exact Nat.ne_of_gt (IsS81.lt (show IsS81 w0 _ g s0_0 s0_1 s0_2 from by repeat (first | (with_reducible first | exact HI0.out | apply IsS81.alloc | apply IsS81.drewN | apply IsS81.drew | apply IsS81.set_1 | apply IsS81.set_2) | exact HI0.out))) : gb390 ≠ g)); replace HI0 := am (IsS81.below u7_2 hb); clear hb hbox hg) | ((with_reducible refine gate_callee (f := 45) rfl ?_); refine goesL_ (some 9) rfl rfl Try.func45 kr rfl #[.pointer (some ⟨g, 0, none⟩)] rfl Q3 ?_; (with_reducible refine (spec_l06DrawSet.calls k g s0_0 s0_1 s0_2 t391 t394 t395 w0 _ ?side1 ?side2 A3.out).mono ?_); (case side1 => exact u7_9); (case side2 => exact u7_11); rintro e w7 ⟨v392, rfl, ho0, hi, hb, hk⟩; refine ⟨_, rfl, ?_⟩; replace BK390 := am (KeepBut.blk hk (g' := gb390) (o := .cells #[.slice none 0 0, .slice none 0 0, .slice none 0 0] 26 (0, 0)) u7_14 NB390_0.out (by simp)); have HO393 := am (Kd.R_lower ho0 (keep_size (w := w) (g := g) (row := none) u7_4)); replace HK := am (KeepBut.trans u7_4 hk (.inl rfl)); replace HB := am (hb); replace HI0 := am (hi); (try clear hb); (try clear hb2); (try clear hk); (try clear hi); (try clear ho0); obtain ⟨Ao8, co8, eo8⟩ := Kd.R_slice HO393.out; subst eo8) | ((with_reducible refine gate_callee (f := 67) rfl ?_); refine goesL_ (some 13) rfl rfl Try.func67 kr rfl #[.pointer (some ⟨g, 0, none⟩), .slice A1 l1.length c1] rfl Q3 ?_; (with_reducible refine (spec_l06DrawOps.calls k g s0_0 t394 t395 _ _ l1 t396 t399 t400 w0 _ ?side1 ?side2 ?side3 ?side4 ?side5 A4.out).mono ?_); (case side1 => exact u7_9); (case side2 => exact u7_11); (case side3 => exact (by exact Kd.C_keep 0 HR1.out u7_4 hf1)); (case side4 => exact HC1.out); (case side5 => exact hf1); rintro e w9 ⟨v397, rfl, ho0, hi, hb, hk⟩; refine ⟨_, rfl, ?_⟩; replace BK390 := am (KeepBut.blk hk (g' := gb390) (o := .cells #[.slice none 0 0, .slice none 0 0, .slice none 0 0] 26 (0, 0)) u7_14 NB390_0.out (by simp)); have HO398 := am (Kd.S_lower (Kd.S_new' ho0 (Kd.R_lt u7_12)) (keep_size (w := w) (g := g) (row := none) u7_4)); replace HO393 := am (Kd.R_mono (Kd.R_keep (IsS81.apart (show IsS81 w0 _ g s0_0 t394 t395 from by repeat (first | (with_reducible first | exact HI0.out | apply IsS81.alloc | apply IsS81.drewN | apply IsS81.drew | apply IsS81.set_1 | apply IsS81.set_2 | refine IsS81.far ?_ NB0_390.out _) | exact HI0.out)) u7_12 (by decide)) hk (fun _ h => h.2)) (fun _ h => h.1)); replace HK := am (KeepBut.trans u7_4 hk (.inl rfl)); replace HB := am (hb); replace HI0 := am (hi); (try clear hb); (try clear hb2); (try clear hk); (try clear hi); (try clear ho0); obtain ⟨Ao10, co10, eo10⟩ := Kd.S_slice HO398.out; subst eo10) | ((with_reducible refine gate_callee (f := 31) rfl ?_); refine goesL_ (some 14) rfl rfl Try.func31 kr rfl #[.agg #[.slice Ao8 t391.length co8, .slice none 0 0, .slice none 0 0], .slice Ao10 t396.length co10] rfl Q3 ?_; (refine (spec_PlayConf.calls k _ _ t391 _ _ ([] : List Int) _ _ ([] : List Int) _ _ t396 t401 t404 t407 t410 _ ?side1 ?side2 ?side3 ?side4 ?side5 ?side6 ?side7 ?side8 A5.out).mono ?_); (case side1 => exact (by repeat (first | exact (Kd.R_reads' HO393.out).2.2 | (with_reducible refine Kd.C_alloc ?_ _) | (with_reducible refine Kd.C_drewN ?_ _) | (with_reducible refine Kd.C_drew ?_)))); (case side2 => exact (Kd.R_reads' HO393.out).2.1); (case side3 => exact Kd.C_nil _ _); (case side4 => exact Nat.le_refl _); (case side5 => exact Kd.C_nil _ _); (case side6 => exact Nat.le_refl _); (case side7 => exact (by repeat (first | exact (Kd.S_reads' HO398.out).2.2 | (with_reducible refine Kd.C_alloc ?_ _) | (with_reducible refine Kd.C_drewN ?_ _) | (with_reducible refine Kd.C_drew ?_)))); (case side8 => exact (Kd.S_reads' HO398.out).2.1); rintro e w11 ⟨v402, v405, v408, v411, rfl, ho0, ho1, ho2, ho3, hb⟩; refine ⟨_, rfl, ?_⟩; replace HO398 := am (Kd.S_mono (Kd.S_told (Kd.S_told (Kd.S_told (Kd.S_old u7_30 hb) (Kd.R_base ho0)) (Kd.R_base ho1)) (Kd.R_base ho2)) (fun _ h_ => h_.1)); have HO403 := am (Kd.R_lower (Kd.R_new' ho0 (Kd.R_lt u7_12)) (keep_size (w := w) (g := g) (row := none) u7_4)); have HO406 := am (Kd.R_lower (Kd.R_new' ho1 (Kd.R_lt u7_12)) (keep_size (w := w) (g := g) (row := none) u7_4)); have HO409 := am (Kd.R_lower (Kd.R_new' ho2 (Kd.R_lt u7_12)) (keep_size (w := w) (g := g) (row := none) u7_4)); replace HO393 := am (Kd.R_mono (Kd.R_told (Kd.R_told (Kd.R_told (Kd.R_old u7_12 hb) (Kd.R_base ho0)) (Kd.R_base ho1)) (Kd.R_base ho2)) (fun _ h_ => h_.1)); have HO412 := am (Kd.R_lower ho3 (keep_size (w := w) (g := g) (row := none) u7_4)); replace BK390 := am (blk_below (g := gb390) (o := .cells #[.slice none 0 0, .slice none 0 0, .slice none 0 0] 26 (0, 0)) u7_14 hb); replace HK := am (KeepBut.trans u7_4 (KeepBut.of_below hb g none) (.inl rfl)); replace HB := am (below_step u7_11 hb); replace HI0 := am (IsS81.below u7_9 hb); (try clear hb); (try clear hb2); (try clear hk); (try clear hi); (try clear ho0); (try clear ho1); (try clear ho2); (try clear ho3)) | ((with_reducible refine gate_dst (N := 5) rfl ?_); refine box_event ?hg (N := 5) ?hd (cs := #[.slice none 0 0, .slice none 0 0, .slice none 0 0]) (t := 26) ?hr ?_; (case hd => rfl); (case hg => rfl); (case hr => first | (go_simp; done) | (go_simp; rfl)); intro gb413 hg w12 hbox hb; replace HO393 := am (Kd.R_below u7_12 hb); replace HO398 := am (Kd.S_below u7_30 hb); replace HO403 := am (Kd.R_below (by (with_reducible repeat (first | apply Kd.R_alloc | apply Kd.R_drewN | apply Kd.R_drew)); exact HO403.out) hb); replace HO406 := am (Kd.R_below (by (with_reducible repeat (first | apply Kd.R_alloc | apply Kd.R_drewN | apply Kd.R_drew)); exact HO406.out) hb); replace HO409 := am (Kd.R_below (by (with_reducible repeat (first | apply Kd.R_alloc | apply Kd.R_drewN | apply Kd.R_drew)); exact HO409.out) hb); replace HO412 := am (Kd.R_below (by (with_reducible repeat (first | apply Kd.R_alloc | apply Kd.R_drewN | apply Kd.R_drew)); exact HO412.out) hb); replace HB := am (below_step u7_11 hb); have BK413 := am (hbox); have GW413 := am ((by rw [hg]; exact (keep_size (w := w) (g := g) (row := none) u7_4) : w.heap.size ≤ gb413)); have GE413 := am ((Nat.le_trans HW0.out (by rw [hg]; exact (keep_size (w := w) (g := g) (row := none) u7_4) : w.heap.size ≤ gb413) : w0.heap.size ≤ gb413)); replace HK := am (KeepBut.trans u7_4 (KeepBut.of_below hb g none) (.inl rfl)); have NB390_413 := am ((by rw [hg]; exact Nat.ne_of_lt (blk_lt (g := gb390) (o := .cells #[.slice none 0 0, .slice none 0 0, .slice none 0 0] 26 (0, 0)) u7_14) : gb390 ≠ gb413)); have NB413_390 := am ((by rw [hg]; exact Nat.ne_of_gt (blk_lt (g := gb390) (o := .cells #[.slice none 0 0, .slice none 0 0, .slice none 0 0] 26 (0, 0)) u7_14) : gb413 ≠ gb390)); replace BK390 := am (blk_below (g := gb390) (o := .cells #[.slice none 0 0, .slice none 0 0, .slice none 0 0] 26 (0, 0)) u7_14 hb); have NB0_413 := am ((by rw [hg]; exact Nat.ne_of_lt (IsS81.lt (show IsS81 w0 _ g s0_0 t399 t400 from by repeat (first | (with_reducible first | exact HI0.out | apply IsS81.alloc | apply IsS81.drewN | apply IsS81.drew | apply IsS81.set_1 | apply IsS81.set_2 | refine IsS81.far ?_ NB0_390.out _) | exact HI0.out))) : g ≠ gb413)); have NB413_0 := am ((by rw [hg]; exact Nat.ne_of_gt (IsS81.lt (show IsS81 w0 _ g s0_0 t399 t400 from by repeat (first | (with_reducible first | exact HI0.out | apply IsS81.alloc | apply IsS81.drewN | apply IsS81.drew | apply IsS81.set_1 | apply IsS81.set_2 | refine IsS81.far ?_ NB0_390.out _) | exact HI0.out))) : gb413 ≠ g)); replace HI0 := am (IsS81.below u7_9 hb); clear hb hbox hg; obtain ⟨Ao13, co13, eo13⟩ := Kd.R_slice HO403.out; subst eo13; have hnb14 := NB413_390.out; have hnc14 := NB390_413.out; have hnb15 := NB413_0.out; have hnc15 := NB0_413.out; obtain ⟨hcz16_0, hcz16_1, hcz16_2, hfz16_0, hfz16_1, hfz16_2⟩ := bc3f w12 BK413.out; obtain ⟨Ao17, co17, eo17⟩ := Kd.R_slice HO406.out; subst eo17; obtain ⟨Ao18, co18, eo18⟩ := Kd.R_slice HO409.out; subst eo18; have hnb19 := NB390_0.out; have hnc19 := NB0_390.out; obtain ⟨hcz20_0, hcz20_1, hcz20_2, hfz20_0, hfz20_1, hfz20_2⟩ := bc3f w12 BK390.out))
 refine bodyPost_ret (results_cell_row rfl _ _ gb390 26 #[.slice Ao13 t401.length co13, .slice Ao17 t404.length co17, .slice Ao18 t407.length co18] (0, 0) _ rfl (by (with_reducible repeat (first | refine blk_drewN ?_ _ | refine blk_drew ?_ | refine blk_alloc ?_ _)); refine blk_put (cs := #[.slice Ao13 t401.length co13, .slice Ao17 t404.length co17, .slice none 0 0]) ?_ 2 _ rfl; (with_reducible repeat (first | refine blk_drewN ?_ _ | refine blk_drew ?_ | refine blk_alloc ?_ _)); refine blk_put (cs := #[.slice Ao13 t401.length co13, .slice none 0 0, .slice none 0 0]) ?_ 1 _ rfl; (with_reducible repeat (first | refine blk_drewN ?_ _ | refine blk_drew ?_ | refine blk_alloc ?_ _)); refine blk_put (cs := #[.slice none 0 0, .slice none 0 0, .slice none 0 0]) ?_ 0 _ rfl; (with_reducible repeat (first | refine blk_drewN ?_ _ | refine blk_drew ?_ | refine blk_alloc ?_ _)); refine blk_far ?_ NB390_413.out _; (with_reducible repeat (first | refine blk_drewN ?_ _ | refine blk_drew ?_ | refine blk_alloc ?_ _)); refine blk_far ?_ NB390_413.out _; (with_reducible repeat (first | refine blk_drewN ?_ _ | refine blk_drew ?_ | refine blk_alloc ?_ _)); refine blk_far ?_ NB390_413.out _; (with_reducible repeat (first | refine blk_drewN ?_ _ | refine blk_drew ?_ | refine blk_alloc ?_ _)); exact BK390.out) Try.underlying26 rfl kr) rfl ?_
 exact ⟨_, _, _, er, (by (with_reducible repeat (first | apply Kd.R_alloc | apply Kd.R_drewN | apply Kd.R_drew)); exact Kd.R_mono (Kd.R_far (p := ⟨gb390, 2, none⟩) (Kd.R_far (p := ⟨gb390, 1, none⟩) (Kd.R_far (p := ⟨gb390, 0, none⟩) (Kd.R_far (p := ⟨gb413, 2, none⟩) (Kd.R_far (p := ⟨gb413, 1, none⟩) (Kd.R_far (p := ⟨gb413, 0, none⟩) (Kd.R_types (Kd.R_types HO403.out BK413.out (by decide)) BK390.out (by decide)) (fun _ hk => hk.1.2) (.slice Ao13 t401.length co13)) (fun _ hk => hk.1.2) (.slice Ao17 t404.length co17)) (fun _ hk => hk.1.2) (.slice Ao18 t407.length co18)) (fun _ hk => hk.2) (.slice Ao13 t401.length co13)) (fun _ hk => hk.2) (.slice Ao17 t404.length co17)) (fun _ hk => hk.2) (.slice Ao18 t407.length co18)) (fun _ hk => ⟨hk.1.1.1.1, hk.1.1.1.2⟩)), (by (with_reducible repeat (first | apply Kd.R_alloc | apply Kd.R_drewN | apply Kd.R_drew)); exact Kd.R_mono (Kd.R_far (p := ⟨gb390, 2, none⟩) (Kd.R_far (p := ⟨gb390, 1, none⟩) (Kd.R_far (p := ⟨gb390, 0, none⟩) (Kd.R_far (p := ⟨gb413, 2, none⟩) (Kd.R_far (p := ⟨gb413, 1, none⟩) (Kd.R_far (p := ⟨gb413, 0, none⟩) (Kd.R_types (Kd.R_types HO406.out BK413.out (by decide)) BK390.out (by decide)) (fun _ hk => hk.1.2) (.slice Ao13 t401.length co13)) (fun _ hk => hk.1.2) (.slice Ao17 t404.length co17)) (fun _ hk => hk.1.2) (.slice Ao18 t407.length co18)) (fun _ hk => hk.2) (.slice Ao13 t401.length co13)) (fun _ hk => hk.2) (.slice Ao17 t404.length co17)) (fun _ hk => hk.2) (.slice Ao18 t407.length co18)) (fun _ hk => ⟨hk.1.1.1.1, hk.1.1.1.2⟩)), (by (with_reducible repeat (first | apply Kd.R_alloc | apply Kd.R_drewN | apply Kd.R_drew)); exact Kd.R_mono (Kd.R_far (p := ⟨gb390, 2, none⟩) (Kd.R_far (p := ⟨gb390, 1, none⟩) (Kd.R_far (p := ⟨gb390, 0, none⟩) (Kd.R_far (p := ⟨gb413, 2, none⟩) (Kd.R_far (p := ⟨gb413, 1, none⟩) (Kd.R_far (p := ⟨gb413, 0, none⟩) (Kd.R_types (Kd.R_types HO409.out BK413.out (by decide)) BK390.out (by decide)) (fun _ hk => hk.1.2) (.slice Ao13 t401.length co13)) (fun _ hk => hk.1.2) (.slice Ao17 t404.length co17)) (fun _ hk => hk.1.2) (.slice Ao18 t407.length co18)) (fun _ hk => hk.2) (.slice Ao13 t401.length co13)) (fun _ hk => hk.2) (.slice Ao17 t404.length co17)) (fun _ hk => hk.2) (.slice Ao18 t407.length co18)) (fun _ hk => ⟨hk.1.1.1.1, hk.1.1.1.2⟩)), (by repeat (first | (with_reducible first | exact HI0.out | apply IsS81.alloc | apply IsS81.drewN | apply IsS81.drew | apply IsS81.set_1 | apply IsS81.set_2 | refine IsS81.far ?_ NB0_390.out _ | refine IsS81.far ?_ NB0_413.out _) | exact HI0.out)), (by repeat (first | (with_reducible first | exact HB.out | apply below_alloc | apply pw_below_drewN | apply below_drew1 | refine below_set ?_ (IsS81.ge HI0.out) | refine below_set ?_ GE390.out | refine below_set ?_ GE413.out) | exact HB.out)), (by repeat (first | (with_reducible first | exact HK.out | apply KeepBut.set_ | apply keep_drewN | apply keep_drew | apply keep_alloc | refine keep_far ?_ GW390.out _ | refine keep_far ?_ GW413.out _) | exact HK.out))⟩

/-! ### spec_DrawRightConf: function 10 -/
def spec_DrawRightConf.f (k : Nat) (l0 : List Int) : Option (List Int × List Int × List Int × List Int) := (spec_l01New.f k l0).bind fun bt415 => ((spec_l06DrawRight.f k bt415.1 bt415.2.1 bt415.2.2 l0).bind fun bt419 => ((spec_l06DrawSet.f k bt415.1 bt419.2.2.2.1 bt419.2.2.2.2).bind fun bt431 => (some (bt419.1, bt419.2.1, bt419.2.2.1, bt431.1))))
theorem spec_DrawRightConf.mono : ∀ a0 k, LeO (spec_DrawRightConf.f k a0) (spec_DrawRightConf.f (k + 1) a0) := by
 intro a0 k
 unfold spec_DrawRightConf.f
 repeat' first
     | (with_reducible exact spec_l01New.mono _ _)
     | (with_reducible exact spec_l06DrawRight.mono _ _ _ _ _)
     | (with_reducible exact spec_l06DrawSet.mono _ _ _ _)
     | (with_reducible exact LeO.refl _)
     | (with_reducible exact LeO.none _)
     | (with_reducible refine LeO.ite ?_ ?_)
     | (with_reducible refine LeO.bind ?_ (fun _ => ?_))
     | exact spec_l01New.mono _ _
     | exact spec_l06DrawRight.mono _ _ _ _ _
     | exact spec_l06DrawSet.mono _ _ _ _
     | exact LeO.none _
     | refine LeO.ite ?_ ?_
     | refine LeO.bind ?_ (fun _ => ?_)
set_option maxHeartbeats 8000000 in
set_option maxRecDepth 100000 in
theorem spec_DrawRightConf.calls (k : Nat) (A0 : Option Addr) (c0 : Nat) (l0 : List Int) (r1 : List Int) (r2 : List Int) (r3 : List Int) (r4 : List Int) (w : World) (hr0 : Kd.C (Kd.int .u8) w A0 l0.length l0) (hc0 : l0.length ≤ c0) (h : spec_DrawRightConf.f k l0 = some (r1, r2, r3, r4)) :
   Calls Try.prog 10 #[.slice A0 l0.length c0] w fun e w' => ∃ v0_ v1_ v2_ v3_ : Value, e = .returned (.tuple #[.agg #[v0_, v1_, v2_], v3_]) ∧ Kd.R (Kd.int .i64) 3 w' w.heap.size (fun k_ => some k_ ≠ (v1_ : Value).ownBlock ∧ some k_ ≠ (v2_ : Value).ownBlock ∧ some k_ ≠ (v3_ : Value).ownBlock) v0_ r1 ∧ Kd.R (Kd.int .i64) 3 w' w.heap.size (fun k_ => some k_ ≠ (v0_ : Value).ownBlock ∧ some k_ ≠ (v2_ : Value).ownBlock ∧ some k_ ≠ (v3_ : Value).ownBlock) v1_ r2 ∧ Kd.R (Kd.int .i64) 3 w' w.heap.size (fun k_ => some k_ ≠ (v0_ : Value).ownBlock ∧ some k_ ≠ (v1_ : Value).ownBlock ∧ some k_ ≠ (v3_ : Value).ownBlock) v2_ r3 ∧ Kd.R (Kd.int .i64) 3 w' w.heap.size (fun k_ => some k_ ≠ (v0_ : Value).ownBlock ∧ some k_ ≠ (v1_ : Value).ownBlock ∧ some k_ ≠ (v2_ : Value).ownBlock) v3_ r4 ∧ Below w.heap.size w w' := by
 have hu26 := Try.underlying26
 have HR0 := am hr0
 have HC0 := am hc0
 clear hr0 hc0
 have HB := am (Below.refl w.heap.size w)
 have H : ((spec_l01New.f k l0).bind fun bt415 => ((spec_l06DrawRight.f k bt415.1 bt415.2.1 bt415.2.2 l0).bind fun bt419 => ((spec_l06DrawSet.f k bt415.1 bt419.2.2.2.1 bt419.2.2.2.2).bind fun bt431 => (some (bt419.1, bt419.2.1, bt419.2.2.1, bt431.1))))) = some (r1, r2, r3, r4) := h
 clear h
 replace H := Option.bind_eq_some_iff.mp H
 obtain ⟨⟨t415, t416, t417⟩, A20, H⟩ := H
 (try dsimp only at H)
 have A2 := am A20
 clear A20
 replace H := Option.bind_eq_some_iff.mp H
 obtain ⟨⟨t419, t422, t425, t428, t429⟩, A30, H⟩ := H
 (try dsimp only at H)
 have A3 := am A30
 clear A30
 replace H := Option.bind_eq_some_iff.mp H
 obtain ⟨⟨t431, t434, t435⟩, A40, H⟩ := H
 replace H : (some (t419, t422, t425, t431)) = some (r1, r2, r3, r4) := H
 have A4 := am A40
 clear A40
 simp only [Option.some.injEq, Prod.mk.injEq] at H
 obtain ⟨rfl, rfl, rfl, rfl⟩ := H
 go_enter Try.func10, Try.ntmps10
 try go_wp2_with (first | ((with_reducible refine gate_dst (N := 2) rfl ?_); refine box_event ?hg (N := 2) ?hd (cs := #[.slice none 0 0, .slice none 0 0, .slice none 0 0]) (t := 26) ?hr ?_; (case hd => rfl); (case hg => rfl); (case hr => first | (go_simp; done) | (go_simp; rfl)); intro gb414 hg w5 hbox hb; have BK414 := am (hbox); have GW414 := am ((by rw [hg]; exact (below_size Q0) : w.heap.size ≤ gb414)); have GE414 := am ((by rw [hg]; exact (below_size Q0) : w.heap.size ≤ gb414)); replace HB := am (below_step Q0 hb); clear hb hbox hg) | ((with_reducible refine gate_callee (f := 43) rfl ?_); refine goesL_ (some 7) rfl rfl Try.func43 kr rfl #[.slice A0 l0.length c0] rfl Q3 ?_; (with_reducible refine (spec_l01New.calls k _ _ l0 t415 t416 t417 w _ ?side1 ?side2 ?side3 A2.out).mono ?_); (case side1 => exact (by repeat (first | (with_reducible first | exact HB.out | apply below_alloc | apply pw_below_drewN | apply below_drew1 | refine below_set ?_ GE414.out) | exact HB.out))); (case side2 => exact HR0.out); (case side3 => exact HC0.out); rintro e w6 ⟨g418, rfl, hi, hb, hb2⟩; refine ⟨_, rfl, ?_⟩; replace HB := am (hb); have HI418 := am (hi); have NB418_414 := am (IsS81.ne_blk hi (blk_below (g := gb414) (o := .cells #[.slice none 0 0, .slice none 0 0, .slice none 0 0] 26 (0, 0)) u7_7 hb2) (by decide)); have NB414_418 := am (Ne.symm (IsS81.ne_blk hi (blk_below (g := gb414) (o := .cells #[.slice none 0 0, .slice none 0 0, .slice none 0 0] 26 (0, 0)) u7_7 hb2) (by decide))); replace BK414 := am (blk_below (g := gb414) (o := .cells #[.slice none 0 0, .slice none 0 0, .slice none 0 0] 26 (0, 0)) u7_7 hb2); (try clear hb); (try clear hb2); (try clear hk); (try clear hi)) | ((with_reducible refine gate_callee (f := 44) rfl ?_); refine goesL_ (some 10) rfl rfl Try.func44 kr rfl #[.pointer (some ⟨g418, 0, none⟩), .slice A0 l0.length c0] rfl Q3 ?_; (with_reducible refine (spec_l06DrawRight.calls k g418 t415 t416 t417 _ _ l0 t419 t422 t425 t428 t429 w _ ?side1 ?side2 ?side3 ?side4 ?side5 A3.out).mono ?_); (case side1 => exact u7_19); (case side2 => exact u7_5); (case side3 => exact (by repeat (first | exact (Kd.C_below HR0.out HB.out) | (with_reducible refine Kd.C_alloc ?_ _) | (with_reducible refine Kd.C_drewN ?_ _) | (with_reducible refine Kd.C_drew ?_)))); (case side4 => exact HC0.out); (case side5 => exact Kd.far_C 0 HR0.out (IsS81.ge HI418.out)); rintro e w7 ⟨v420, v423, v426, rfl, ho0, ho1, ho2, hi, hb, hk⟩; refine ⟨_, rfl, ?_⟩; replace BK414 := am (KeepBut.blk hk (g' := gb414) (o := .cells #[.slice none 0 0, .slice none 0 0, .slice none 0 0] 26 (0, 0)) u7_7 NB414_418.out (by simp)); have HO421 := am (Kd.R_lower ho0 (below_size u7_5)); have HO424 := am (Kd.R_lower ho1 (below_size u7_5)); have HO427 := am (Kd.R_lower ho2 (below_size u7_5)); replace HB := am (hb); replace HI418 := am (hi); (try clear hb); (try clear hb2); (try clear hk); (try clear hi); (try clear ho0); (try clear ho1); (try clear ho2)) | ((with_reducible refine gate_dst (N := 5) rfl ?_); refine box_event ?hg (N := 5) ?hd (cs := #[.slice none 0 0, .slice none 0 0, .slice none 0 0]) (t := 26) ?hr ?_; (case hd => rfl); (case hg => rfl); (case hr => first | (go_simp; done) | (go_simp; rfl)); intro gb430 hg w8 hbox hb; replace HO421 := am (Kd.R_below u7_20 hb); replace HO424 := am (Kd.R_below u7_21 hb); replace HO427 := am (Kd.R_below u7_22 hb); have BK430 := am (hbox); have GW430 := am ((by rw [hg]; exact (below_size u7_5) : w.heap.size ≤ gb430)); have GE430 := am ((by rw [hg]; exact (below_size u7_5) : w.heap.size ≤ gb430)); replace HB := am (below_step u7_5 hb); have NB414_430 := am ((by rw [hg]; exact Nat.ne_of_lt (blk_lt (g := gb414) (o := .cells #[.slice none 0 0, .slice none 0 0, .slice none 0 0] 26 (0, 0)) u7_7) : gb414 ≠ gb430)); have NB430_414 := am ((by rw [hg]; exact Nat.ne_of_gt (blk_lt (g := gb414) (o := .cells #[.slice none 0 0, .slice none 0 0, .slice none 0 0] 26 (0, 0)) u7_7) : gb430 ≠ gb414)); replace BK414 := am (blk_below (g := gb414) (o := .cells #[.slice none 0 0, .slice none 0 0, .slice none 0 0] 26 (0, 0)) u7_7 hb); have NB418_430 := am ((by rw [hg]; exact Nat.ne_of_lt (IsS81.lt (show IsS81 w _ g418 t415 t428 t429 from by repeat (first | (with_reducible first | exact HI418.out | apply IsS81.alloc | apply IsS81.drewN | apply IsS81.drew | apply IsS81.set_1 | apply IsS81.set_2 | refine IsS81.far ?_ NB418_414.out _) | exact HI418.out))) : g418 ≠ gb430)); have NB430_418 := am ((by rw [hg]; exact Nat.ne_of_gt (IsS81.lt (show IsS81 w _ g418 t415 t428 t429 from by repeat (first | (with_reducible first | exact HI418.out | apply IsS81.alloc | apply IsS81.drewN | apply IsS81.drew | apply IsS81.set_1 | apply IsS81.set_2 | refine IsS81.far ?_ NB418_414.out _) | exact HI418.out))) : gb430 ≠ g418)); replace HI418 := am (IsS81.below u7_19 hb); clear hb hbox hg; obtain ⟨Ao9, co9, eo9⟩ := Kd.R_slice HO421.out; subst eo9; have hnb10 := NB430_414.out; have hnc10 := NB414_430.out; have hnb11 := NB430_418.out; have hnc11 := NB418_430.out; obtain ⟨hcz12_0, hcz12_1, hcz12_2, hfz12_0, hfz12_1, hfz12_2⟩ := bc3f w8 BK430.out; obtain ⟨Ao13, co13, eo13⟩ := Kd.R_slice HO424.out; subst eo13; obtain ⟨Ao14, co14, eo14⟩ := Kd.R_slice HO427.out; subst eo14))
 have n0_ : Aside0 (Kd.R (Kd.int .i64) 3 (((w8.setCell ⟨gb430, 0, none⟩ (.slice Ao9 t419.length co9)).setCell ⟨gb430, 1, none⟩ (.slice Ao13 t422.length co13)).setCell ⟨gb430, 2, none⟩ (.slice Ao14 t425.length co14)) w.heap.size (fun k_ => some k_ ≠ (.slice Ao13 t422.length co13 : Value).ownBlock ∧ some k_ ≠ (.slice Ao14 t425.length co14 : Value).ownBlock) (.slice Ao9 t419.length co9) t419) := ⟨by (with_reducible repeat (first | apply Kd.R_alloc | apply Kd.R_drewN | apply Kd.R_drew)); exact Kd.R_mono (Kd.R_far (p := ⟨gb430, 2, none⟩) (Kd.R_far (p := ⟨gb430, 1, none⟩) (Kd.R_far (p := ⟨gb430, 0, none⟩) (Kd.R_types HO421.out BK430.out (by decide)) (fun _ hk => hk.2) (.slice Ao9 t419.length co9)) (fun _ hk => hk.2) (.slice Ao13 t422.length co13)) (fun _ hk => hk.2) (.slice Ao14 t425.length co14)) (fun _ hk => ⟨hk.1.1, hk.1.2⟩)⟩
 have n1_ : Aside0 (Kd.R (Kd.int .i64) 3 (((w8.setCell ⟨gb430, 0, none⟩ (.slice Ao9 t419.length co9)).setCell ⟨gb430, 1, none⟩ (.slice Ao13 t422.length co13)).setCell ⟨gb430, 2, none⟩ (.slice Ao14 t425.length co14)) w.heap.size (fun k_ => some k_ ≠ (.slice Ao9 t419.length co9 : Value).ownBlock ∧ some k_ ≠ (.slice Ao14 t425.length co14 : Value).ownBlock) (.slice Ao13 t422.length co13) t422) := ⟨by (with_reducible repeat (first | apply Kd.R_alloc | apply Kd.R_drewN | apply Kd.R_drew)); exact Kd.R_mono (Kd.R_far (p := ⟨gb430, 2, none⟩) (Kd.R_far (p := ⟨gb430, 1, none⟩) (Kd.R_far (p := ⟨gb430, 0, none⟩) (Kd.R_types HO424.out BK430.out (by decide)) (fun _ hk => hk.2) (.slice Ao9 t419.length co9)) (fun _ hk => hk.2) (.slice Ao13 t422.length co13)) (fun _ hk => hk.2) (.slice Ao14 t425.length co14)) (fun _ hk => ⟨hk.1.1, hk.1.2⟩)⟩
 have n2_ : Aside0 (Kd.R (Kd.int .i64) 3 (((w8.setCell ⟨gb430, 0, none⟩ (.slice Ao9 t419.length co9)).setCell ⟨gb430, 1, none⟩ (.slice Ao13 t422.length co13)).setCell ⟨gb430, 2, none⟩ (.slice Ao14 t425.length co14)) w.heap.size (fun k_ => some k_ ≠ (.slice Ao9 t419.length co9 : Value).ownBlock ∧ some k_ ≠ (.slice Ao13 t422.length co13 : Value).ownBlock) (.slice Ao14 t425.length co14) t425) := ⟨by (with_reducible repeat (first | apply Kd.R_alloc | apply Kd.R_drewN | apply Kd.R_drew)); exact Kd.R_mono (Kd.R_far (p := ⟨gb430, 2, none⟩) (Kd.R_far (p := ⟨gb430, 1, none⟩) (Kd.R_far (p := ⟨gb430, 0, none⟩) (Kd.R_types HO427.out BK430.out (by decide)) (fun _ hk => hk.2) (.slice Ao9 t419.length co9)) (fun _ hk => hk.2) (.slice Ao13 t422.length co13)) (fun _ hk => hk.2) (.slice Ao14 t425.length co14)) (fun _ hk => ⟨hk.1.1, hk.1.2⟩)⟩
 have n3_ : Aside0 ((((w8.setCell ⟨gb430, 0, none⟩ (.slice Ao9 t419.length co9)).setCell ⟨gb430, 1, none⟩ (.slice Ao13 t422.length co13)).setCell ⟨gb430, 2, none⟩ (.slice Ao14 t425.length co14)).heap[gb414]? = some (.cells #[.slice none 0 0, .slice none 0 0, .slice none 0 0] 26 (0, 0))) := ⟨by (with_reducible repeat (first | refine blk_drewN ?_ _ | refine blk_drew ?_ | refine blk_alloc ?_ _)); refine blk_far ?_ NB414_430.out _; (with_reducible repeat (first | refine blk_drewN ?_ _ | refine blk_drew ?_ | refine blk_alloc ?_ _)); refine blk_far ?_ NB414_430.out _; (with_reducible repeat (first | refine blk_drewN ?_ _ | refine blk_drew ?_ | refine blk_alloc ?_ _)); refine blk_far ?_ NB414_430.out _; (with_reducible repeat (first | refine blk_drewN ?_ _ | refine blk_drew ?_ | refine blk_alloc ?_ _)); exact BK414.out⟩
 have n4_ : Aside0 ((((w8.setCell ⟨gb430, 0, none⟩ (.slice Ao9 t419.length co9)).setCell ⟨gb430, 1, none⟩ (.slice Ao13 t422.length co13)).setCell ⟨gb430, 2, none⟩ (.slice Ao14 t425.length co14)).heap[gb430]? = some (.cells #[.slice Ao9 t419.length co9, .slice Ao13 t422.length co13, .slice Ao14 t425.length co14] 26 (0, 0))) := ⟨by (with_reducible repeat (first | refine blk_drewN ?_ _ | refine blk_drew ?_ | refine blk_alloc ?_ _)); refine blk_put (cs := #[.slice Ao9 t419.length co9, .slice Ao13 t422.length co13, .slice none 0 0]) ?_ 2 _ rfl; (with_reducible repeat (first | refine blk_drewN ?_ _ | refine blk_drew ?_ | refine blk_alloc ?_ _)); refine blk_put (cs := #[.slice Ao9 t419.length co9, .slice none 0 0, .slice none 0 0]) ?_ 1 _ rfl; (with_reducible repeat (first | refine blk_drewN ?_ _ | refine blk_drew ?_ | refine blk_alloc ?_ _)); refine blk_put (cs := #[.slice none 0 0, .slice none 0 0, .slice none 0 0]) ?_ 0 _ rfl; (with_reducible repeat (first | refine blk_drewN ?_ _ | refine blk_drew ?_ | refine blk_alloc ?_ _)); exact BK430.out⟩
 have n5_ : Aside0 (IsS81 w (((w8.setCell ⟨gb430, 0, none⟩ (.slice Ao9 t419.length co9)).setCell ⟨gb430, 1, none⟩ (.slice Ao13 t422.length co13)).setCell ⟨gb430, 2, none⟩ (.slice Ao14 t425.length co14)) g418 t415 t428 t429) := ⟨by repeat (first | (with_reducible first | exact HI418.out | apply IsS81.alloc | apply IsS81.drewN | apply IsS81.drew | apply IsS81.set_1 | apply IsS81.set_2 | refine IsS81.far ?_ NB418_414.out _ | refine IsS81.far ?_ NB418_430.out _) | exact HI418.out)⟩
 have n6_ : Aside0 (Below w.heap.size w (((w8.setCell ⟨gb430, 0, none⟩ (.slice Ao9 t419.length co9)).setCell ⟨gb430, 1, none⟩ (.slice Ao13 t422.length co13)).setCell ⟨gb430, 2, none⟩ (.slice Ao14 t425.length co14))) := ⟨by repeat (first | (with_reducible first | exact HB.out | apply below_alloc | apply pw_below_drewN | apply below_drew1 | refine below_set ?_ (IsS81.ge HI418.out) | refine below_set ?_ GE414.out | refine below_set ?_ GE430.out) | exact HB.out)⟩
 (try clear HO421)
 (try clear HO424)
 (try clear HO427)
 (try clear BK414)
 (try clear BK430)
 (try clear HI418)
 (try clear HB)
 generalize (((w8.setCell ⟨gb430, 0, none⟩ (.slice Ao9 t419.length co9)).setCell ⟨gb430, 1, none⟩ (.slice Ao13 t422.length co13)).setCell ⟨gb430, 2, none⟩ (.slice Ao14 t425.length co14)) = w15 at n0_ n1_ n2_ n3_ n4_ n5_ n6_ ⊢
 have HO421 := n0_
 have HO424 := n1_
 have HO427 := n2_
 have BK414 := n3_
 have BK430 := n4_
 have HI418 := n5_
 have HB := n6_
 clear n0_ n1_ n2_ n3_ n4_ n5_ n6_
 replace HO421 := am (Kd.R_drew HO421.out)
 replace HO424 := am (Kd.R_drew HO424.out)
 replace HO427 := am (Kd.R_drew HO427.out)
 replace BK414 := am (blk_drew BK414.out)
 replace BK430 := am (blk_drew BK430.out)
 replace HI418 := am (IsS81.drew HI418.out)
 replace HB := am (below_drew1 HB.out)
 refine start_ (n := 5) (S := fun w' => w'.cell? ⟨gb430, 0, none⟩ = some (.slice Ao9 t419.length co9) ∧ w'.cell? ⟨gb430, 1, none⟩ = some (.slice Ao13 t422.length co13) ∧ w'.cell? ⟨gb430, 2, none⟩ = some (.slice Ao14 t425.length co14)) (ds := []) #[false, false, false, false, false] kr rfl rfl ⟨(blk_cell BK430.out 0).trans rfl, (blk_cell BK430.out 1).trans rfl, (blk_cell BK430.out 2).trans rfl⟩ (fun hHeld => ?_)
 generalize w15.drew = w16 at HO421 HO424 HO427 BK414 BK430 HI418 HB hHeld ⊢
 refine pure_ (i := 1) (N := some 12) (v := ?_) (a' := ?_) #[false, true, false, false, false] rfl rfl kr (fun _ _ _ h => h) (Or.inl ⟨by rfl, ?_⟩) ?_ ?_
 rotate_left; (intro w'; go_simp; with_reducible rfl); rotate_left; (simp only [Act.put, la, lb, lc, i64_w, i32_w]; rfl)
 refine take_ (i := 0) (N := some 11) (v := ?_) (a' := ?_) #[true, true, false, false, false] rfl rfl kr (fun _ _ _ h => h) (Or.inl ⟨by rfl, ?_⟩) hHeld ?_ ?_
 rotate_left
 · rintro w' ⟨s0, s1, s2⟩
   go_simp
   with_reducible rfl
 rotate_left
 · simp only [Act.put, la, lb, lc, i64_w, i32_w]
   rfl
 refine one_ (i := 2) (N := some 13) #[true, true, true, false, false] rfl rfl kr (by decide) (fun K hK => ?_)
 refine goes_ Try.func45 kr rfl #[.pointer (some ⟨g418, 0, none⟩)] (by rfl) rfl rfl Q3 ?_
 with_reducible refine (spec_l06DrawSet.calls k g418 t415 t428 t429 t431 t434 t435 w _ ?side1 ?side2 A4.out).mono ?_
 (case side1 => exact (by repeat (first | (with_reducible first | exact HI418.out | apply IsS81.alloc | apply IsS81.drewN | apply IsS81.drew | apply IsS81.set_1 | apply IsS81.set_2 | refine IsS81.far ?_ NB418_414.out _ | refine IsS81.far ?_ NB418_430.out _) | exact HI418.out)))
 (case side2 => exact u7_15)
 rintro e w17 ⟨v432, rfl, ho0, hi, hb, hk⟩
 refine ⟨_, rfl, ?_⟩
 replace BK414 := am (KeepBut.blk hk (g' := gb414) (o := .cells #[.slice none 0 0, .slice none 0 0, .slice none 0 0] 26 (0, 0)) u7_7 NB414_418.out (by simp))
 replace BK430 := am (KeepBut.blk hk (g' := gb430) (o := .cells #[.slice Ao9 t419.length co9, .slice Ao13 t422.length co13, .slice Ao14 t425.length co14] 26 (0, 0)) (by (with_reducible repeat (first | refine blk_drewN ?_ _ | refine blk_drew ?_ | refine blk_alloc ?_ _)); exact BK430.out) NB430_418.out (by simp))
 have HO433 := am (Kd.R_lower (Kd.R_new' (Kd.R_new' (Kd.R_new' ho0 (Kd.R_lt u7_20)) (Kd.R_lt u7_21)) (Kd.R_lt u7_22)) (below_size u7_15))
 replace HO421 := am (Kd.R_mono (Kd.R_told (Kd.R_oldK (IsS81.apart (show IsS81 w _ g418 t415 t428 t429 from by repeat (first | (with_reducible first | exact HI418.out | apply IsS81.alloc | apply IsS81.drewN | apply IsS81.drew | apply IsS81.set_1 | apply IsS81.set_2 | refine IsS81.far ?_ NB418_414.out _ | refine IsS81.far ?_ NB418_430.out _) | exact HI418.out)) u7_20 (by decide)) hk) (Kd.R_base ho0)) (fun _ h_ => h_.1))
 replace HO424 := am (Kd.R_mono (Kd.R_told (Kd.R_oldK (IsS81.apart (show IsS81 w _ g418 t415 t428 t429 from by repeat (first | (with_reducible first | exact HI418.out | apply IsS81.alloc | apply IsS81.drewN | apply IsS81.drew | apply IsS81.set_1 | apply IsS81.set_2 | refine IsS81.far ?_ NB418_414.out _ | refine IsS81.far ?_ NB418_430.out _) | exact HI418.out)) u7_21 (by decide)) hk) (Kd.R_base ho0)) (fun _ h_ => h_.1))
 replace HO427 := am (Kd.R_mono (Kd.R_told (Kd.R_oldK (IsS81.apart (show IsS81 w _ g418 t415 t428 t429 from by repeat (first | (with_reducible first | exact HI418.out | apply IsS81.alloc | apply IsS81.drewN | apply IsS81.drew | apply IsS81.set_1 | apply IsS81.set_2 | refine IsS81.far ?_ NB418_414.out _ | refine IsS81.far ?_ NB418_430.out _) | exact HI418.out)) u7_22 (by decide)) hk) (Kd.R_base ho0)) (fun _ h_ => h_.1))
 replace HB := am (hb)
 replace HI418 := am (hi)
 (try clear hb)
 (try clear hb2)
 (try clear hk)
 (try clear hi)
 (try clear ho0)
 refine hK.out _ _ ⟨(blk_cell BK430.out 0).trans rfl, (blk_cell BK430.out 1).trans rfl, (blk_cell BK430.out 2).trans rfl⟩ (fun hHeld => ?_)
 clear hK K
 refine norm_ (a' := ?_) ?_ ?_
 rotate_left
 · show Act.put _ (some 13) _ = _
   simp only [Act.put, la, lb, lc, i64_w, i32_w]
   rfl
 refine one_ (i := 3) (N := none) #[true, true, true, true, false] rfl rfl kr (by decide) (fun K hK => ?_)
 have hs18 : w17.cell? ⟨gb414, 0, none⟩ = some (.slice none 0 0) := (blk_cell BK414.out 0).trans rfl
 have hfs18 := blk_frozen BK414.out 0
 have hns18_1 := NB430_414.out
 have hms18_1 := NB414_430.out
 have hs19 : w17.cell? ⟨gb414, 1, none⟩ = some (.slice none 0 0) := (blk_cell BK414.out 1).trans rfl
 have hfs19 := blk_frozen BK414.out 1
 have hns19_1 := NB430_414.out
 have hms19_1 := NB414_430.out
 have hs20 : w17.cell? ⟨gb414, 2, none⟩ = some (.slice none 0 0) := (blk_cell BK414.out 2).trans rfl
 have hfs20 := blk_frozen BK414.out 2
 have hns20_1 := NB430_414.out
 have hms20_1 := NB414_430.out
 refine skip_ (w1 := ?_) (by rfl) rfl ?_ ?_
 rotate_left
 · go_simp
   rfl
 refine hK.out _ _ ⟨((cell_far (p := ⟨gb414, _, none⟩) NB430_414.out _).trans (((cell_far (p := ⟨gb414, _, none⟩) NB430_414.out _).trans (((cell_far (p := ⟨gb414, _, none⟩) NB430_414.out _).trans (hHeld.1)))))), ((cell_far (p := ⟨gb414, _, none⟩) NB430_414.out _).trans (((cell_far (p := ⟨gb414, _, none⟩) NB430_414.out _).trans (((cell_far (p := ⟨gb414, _, none⟩) NB430_414.out _).trans (hHeld.2.1)))))), ((cell_far (p := ⟨gb414, _, none⟩) NB430_414.out _).trans (((cell_far (p := ⟨gb414, _, none⟩) NB430_414.out _).trans (((cell_far (p := ⟨gb414, _, none⟩) NB430_414.out _).trans (hHeld.2.2))))))⟩ (fun hHeld => ?_)
 clear hK K
 refine pure_ (i := 4) (N := some 3) (v := ?_) (a' := ?_) #[true, true, true, true, true] rfl rfl kr (fun _ _ _ h => h) (Or.inl ⟨by rfl, ?_⟩) ?_ ?_
 rotate_left; (intro w'; go_simp; with_reducible rfl); rotate_left; (simp only [Act.put, la, lb, lc, i64_w, i32_w]; rfl)
 refine done_ kr ?_
 try go_wp2
 refine bodyPost_ret (results_ct rfl _ _ gb414 26 #[.slice Ao9 t419.length co9, .slice Ao13 t422.length co13, .slice Ao14 t425.length co14] (0, 0) _ rfl (by (with_reducible repeat (first | refine blk_drewN ?_ _ | refine blk_drew ?_ | refine blk_alloc ?_ _)); refine blk_put (cs := #[.slice Ao9 t419.length co9, .slice Ao13 t422.length co13, .slice none 0 0]) ?_ 2 _ rfl; (with_reducible repeat (first | refine blk_drewN ?_ _ | refine blk_drew ?_ | refine blk_alloc ?_ _)); refine blk_put (cs := #[.slice Ao9 t419.length co9, .slice none 0 0, .slice none 0 0]) ?_ 1 _ rfl; (with_reducible repeat (first | refine blk_drewN ?_ _ | refine blk_drew ?_ | refine blk_alloc ?_ _)); refine blk_put (cs := #[.slice none 0 0, .slice none 0 0, .slice none 0 0]) ?_ 0 _ rfl; (with_reducible repeat (first | refine blk_drewN ?_ _ | refine blk_drew ?_ | refine blk_alloc ?_ _)); exact BK414.out) Try.underlying26 rfl kr) rfl ?_
 exact ⟨_, _, _, _, er, (by (with_reducible repeat (first | apply Kd.R_alloc | apply Kd.R_drewN | apply Kd.R_drew)); exact Kd.R_mono (Kd.R_far (p := ⟨gb414, 2, none⟩) (Kd.R_far (p := ⟨gb414, 1, none⟩) (Kd.R_far (p := ⟨gb414, 0, none⟩) (Kd.R_types HO421.out BK414.out (by decide)) (fun _ hk => hk.2) (.slice Ao9 t419.length co9)) (fun _ hk => hk.2) (.slice Ao13 t422.length co13)) (fun _ hk => hk.2) (.slice Ao14 t425.length co14)) (fun _ hk => ⟨hk.1.1.1, ⟨hk.1.1.2, hk.1.2⟩⟩)), (by (with_reducible repeat (first | apply Kd.R_alloc | apply Kd.R_drewN | apply Kd.R_drew)); exact Kd.R_mono (Kd.R_far (p := ⟨gb414, 2, none⟩) (Kd.R_far (p := ⟨gb414, 1, none⟩) (Kd.R_far (p := ⟨gb414, 0, none⟩) (Kd.R_types HO424.out BK414.out (by decide)) (fun _ hk => hk.2) (.slice Ao9 t419.length co9)) (fun _ hk => hk.2) (.slice Ao13 t422.length co13)) (fun _ hk => hk.2) (.slice Ao14 t425.length co14)) (fun _ hk => ⟨hk.1.1.1, ⟨hk.1.1.2, hk.1.2⟩⟩)), (by (with_reducible repeat (first | apply Kd.R_alloc | apply Kd.R_drewN | apply Kd.R_drew)); exact Kd.R_mono (Kd.R_far (p := ⟨gb414, 2, none⟩) (Kd.R_far (p := ⟨gb414, 1, none⟩) (Kd.R_far (p := ⟨gb414, 0, none⟩) (Kd.R_types HO427.out BK414.out (by decide)) (fun _ hk => hk.2) (.slice Ao9 t419.length co9)) (fun _ hk => hk.2) (.slice Ao13 t422.length co13)) (fun _ hk => hk.2) (.slice Ao14 t425.length co14)) (fun _ hk => ⟨hk.1.1.1, ⟨hk.1.1.2, hk.1.2⟩⟩)), (by (with_reducible repeat (first | apply Kd.R_alloc | apply Kd.R_drewN | apply Kd.R_drew)); exact Kd.R_mono (Kd.R_far (p := ⟨gb414, 2, none⟩) (Kd.R_far (p := ⟨gb414, 1, none⟩) (Kd.R_far (p := ⟨gb414, 0, none⟩) (Kd.R_types HO433.out BK414.out (by decide)) (fun _ hk => hk.2) (.slice Ao9 t419.length co9)) (fun _ hk => hk.2) (.slice Ao13 t422.length co13)) (fun _ hk => hk.2) (.slice Ao14 t425.length co14)) (fun _ hk => ⟨hk.1.1.1.2, ⟨hk.1.1.2, hk.1.2⟩⟩)), u7_15⟩

end Go.Proofs.Ytoemdmjdpikfbaa.QFnQuorums
