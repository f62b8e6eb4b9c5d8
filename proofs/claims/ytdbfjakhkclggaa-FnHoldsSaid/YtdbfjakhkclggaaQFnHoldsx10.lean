-- Printed by the session's own program wip/prx.py.
import Derived.Test.YtdbfjakhkclggaaQFnHoldsx0
import Derived.Test.YtdbfjakhkclggaaQFnHoldsx7
namespace Go.Proofs.Ytdbfjakhkclggaa.QFnHolds
open Go.RowKit Go.Proofs.YtdbfjakhkclggaaW.PrintWords Go.Proofs.YtdbfjakhkclggaaW.PrintLast Go.Proofs.YtdbfjakhkclggaaW.PrintMore
attribute [local go_sem] max2_int min2_int max_two min_two max_three min_three max_four min_four Go.Proofs.Ytdbfjakhkclggaa.Set.isSome_setCell Go.Proofs.Ytdbfjakhkclggaa.Add.add64   -- for this text's walks alone
set_option linter.unusedVariables false
set_option linter.unusedSimpArgs false

-- squeezed
theorem u10_0 {P : Prop} (h : P := by repeat (first | (with_reducible first | exact HB.out | apply below_alloc | apply pw_below_drewN | apply below_drew1 | refine below_set ?_ (IsS83.ge HI0.out)) | exact HB.out)) : P := h
theorem u10_1 {P : Prop} (h : P := by repeat (first | (with_reducible first | exact HI0.out | apply IsS83.alloc | apply IsS83.drewN | apply IsS83.drew | apply IsS83.set_1 | apply IsS83.set_2) | exact HI0.out)) : P := h
theorem u10_2 {P : Prop} (h : P := by repeat (first | (with_reducible first | exact HK.out | apply KeepBut.set_ | apply keep_drewN | apply keep_drew | apply keep_alloc) | exact HK.out)) : P := h
theorem u10_3 {P : Prop} (h : P := by (try simp only [List.map_toArray, List.map_cons, List.map_nil]); first | done | rfl | (simp only [List.length_drop, List.length_take]; rfl)) : P := h
theorem u10_4 {P : Prop} (h : P := by first | (with_reducible assumption) | assumption) : P := h
theorem u10_5 {P : Prop} (h : P := by first | rfl | (simp; done) | (simp [*]; done)) : P := h
/-! ### spec_l01Byte: function 84 -/
def spec_l01Byte.f (s0_0 : List Int) (s0_1 : Int) (s0_2 : Int) : Option (Int × Int × Int) := if s0_1 < (s0_0.length : Int) then (if 0 ≤ s0_1 then (some (Go.bits .and .i64 (wrap64 ((Go.bits .and .i64 (Go.bits .xor .i64 ((wrap64 ((wrap64 (s0_2 * 6364136223846793005)) + 1442695040888963407)) / 8589934592) ((wrap64 ((wrap64 (s0_2 * 6364136223846793005)) + 1442695040888963407)) / 35184372088832)) 255) + (wrap64 (rd s0_0 s0_1)))) 255, wrap64 (s0_1 + 1), wrap64 ((wrap64 (s0_2 * 6364136223846793005)) + 1442695040888963407))) else (none)) else (some (Go.bits .and .i64 (Go.bits .xor .i64 ((wrap64 ((wrap64 (s0_2 * 6364136223846793005)) + 1442695040888963407)) / 8589934592) ((wrap64 ((wrap64 (s0_2 * 6364136223846793005)) + 1442695040888963407)) / 35184372088832)) 255, s0_1, wrap64 ((wrap64 (s0_2 * 6364136223846793005)) + 1442695040888963407)))
set_option maxHeartbeats 8000000 in
set_option maxRecDepth 100000 in
theorem spec_l01Byte.calls (g : Nat) (s0_0 : List Int) (s0_1 : Int) (s0_2 : Int) (r1 : Int) (r2 : Int) (r3 : Int) (w0 w : World) (hI : IsS83 w0 w g s0_0 s0_1 s0_2) (hB : Below w0.heap.size w0 w) (h : spec_l01Byte.f s0_0 s0_1 s0_2 = some (r1, r2, r3)) :
    Calls Try.prog 84 #[.pointer (some ⟨g, 0, none⟩)] w fun e w' => e = .returned (.int .i64 r1) ∧ IsS83 w0 w' g s0_0 r2 r3 ∧ Below w0.heap.size w0 w' ∧ KeepBut w w' g none := by
  have HI0 := Aside0.mk hI
  have HK := Aside0.mk (KeepBut.refl w g none)
  have HL := Aside0.mk hB.size
  clear hI
  have HW0 := Aside0.mk hB.size
  have HB := Aside0.mk hB
  clear hB
  have H : (if s0_1 < (s0_0.length : Int) then (if 0 ≤ s0_1 then (some (Go.bits .and .i64 (wrap64 ((Go.bits .and .i64 (Go.bits .xor .i64 ((wrap64 ((wrap64 (s0_2 * 6364136223846793005)) + 1442695040888963407)) / 8589934592) ((wrap64 ((wrap64 (s0_2 * 6364136223846793005)) + 1442695040888963407)) / 35184372088832)) 255) + (wrap64 (rd s0_0 s0_1)))) 255, wrap64 (s0_1 + 1), wrap64 ((wrap64 (s0_2 * 6364136223846793005)) + 1442695040888963407))) else (none)) else (some (Go.bits .and .i64 (Go.bits .xor .i64 ((wrap64 ((wrap64 (s0_2 * 6364136223846793005)) + 1442695040888963407)) / 8589934592) ((wrap64 ((wrap64 (s0_2 * 6364136223846793005)) + 1442695040888963407)) / 35184372088832)) 255, s0_1, wrap64 ((wrap64 (s0_2 * 6364136223846793005)) + 1442695040888963407)))) = some (r1, r2, r3) := h
  clear h
  by_cases c2 : s0_1 < (s0_0.length : Int)
  rotate_left
  · rw [if_neg c2] at H
    have c2b0 : decide (s0_1 < (s0_0.length : Int)) = false := decide_eq_false c2
    clear c2
    simp only [Option.some.injEq, Prod.mk.injEq] at H
    obtain ⟨rfl, rfl, rfl⟩ := H
    obtain ⟨ASz5_0, cSz5_0, HGz5, hgz5, HSz5_0⟩ := HI0.out
    have hcz5_0 := cellS83_0 HGz5
    have hcz5_1 := cellS83_1 HGz5
    have hcz5_2 := cellS83_2 HGz5
    have hfz5_1 := blk_frozen HGz5 1
    have hfz5_2 := blk_frozen HGz5 2
    clear HGz5 hgz5
    go_enter Try.func84, Try.ntmps84
    go_wp2
    repeat (go_quiet (fail); try go_wp2)
    go_ret
    exact ⟨by first | rfl | (simp [errW_none, errW_some] <;> rfl) | (simp [*, errW_none, errW_some] <;> rfl), u10_1, u10_0, u10_2⟩
  rw [if_pos c2] at H
  have c2b0 : decide (s0_1 < (s0_0.length : Int)) = true := decide_eq_true c2
  clear c2
  by_cases c3 : 0 ≤ s0_1
  rotate_left
  · rw [if_neg c3] at H
    exact absurd H (by simp)
  rw [if_pos c3] at H
  have c3b0 : decide (0 ≤ s0_1) = true := decide_eq_true c3
  clear c3
  simp only [Option.some.injEq, Prod.mk.injEq] at H
  obtain ⟨rfl, rfl, rfl⟩ := H
  obtain ⟨ASz4_0, cSz4_0, HGz4, hgz4, HSz4_0⟩ := HI0.out
  have hcz4_0 := cellS83_0 HGz4
  have hcz4_1 := cellS83_1 HGz4
  have hcz4_2 := cellS83_2 HGz4
  have hfz4_1 := blk_frozen HGz4 1
  have hfz4_2 := blk_frozen HGz4 2
  clear HGz4 hgz4
  have p339 : 0 ≤ (s0_1 : Int) := of_decide_eq_true u10_4
  have q339 : s0_1 < (s0_0.length : Int) := of_decide_eq_true u10_4
  obtain ⟨ad339, e339, hx339_0⟩ := Kd.at_int HSz4_0 s0_1 p339 q339
  cases e339
  have hn339_0 : ad339.block ≠ g := Nat.ne_of_lt (Nat.lt_of_lt_of_le (by have := World.block_lt_of_cell? _ _ hx339_0; first | rwa [add_block] at this | exact this) (IsS83.ge HI0.out))
  replace hx339_0 := pw_cell_below HB.out hx339_0
  replace hx339_0 := (cell_far (p := ⟨g, 2, none⟩) (by first | (rw [add_block]; exact hn339_0) | (show (Addr.add _ _).block ≠ _; rw [add_block]; exact hn339_0) | exact hn339_0) (.int .i64 (wrap64 ((wrap64 (s0_2 * 6364136223846793005)) + 1442695040888963407)))).trans hx339_0
  (try have hch_ := fun (n_ : Nat) => (show (((w.drewN n_).setCell ⟨g, 2, none⟩ (.int .i64 (wrap64 ((wrap64 (s0_2 * 6364136223846793005)) + 1442695040888963407))))) = World.drewN ((w.setCell ⟨g, 2, none⟩ (.int .i64 (wrap64 ((wrap64 (s0_2 * 6364136223846793005)) + 1442695040888963407))))) n_ from by simp only [Go.Proofs.Ytdbfjakhkclggaa.Slc.setCell_drewN])); (try have hy339_0 := fun (n_ : Nat) => Go.Proofs.Ytdbfjakhkclggaa.Slc.cell_of (hch_ n_) hx339_0)
  clear hn339_0
  replace p339 := eq_true p339
  replace q339 := eq_true q339
  go_enter Try.func84, Try.ntmps84
  go_wp2
  repeat (go_quiet (fail); try go_wp2)
  go_ret
  exact ⟨by first | rfl | (simp [errW_none, errW_some] <;> rfl) | (simp [*, errW_none, errW_some] <;> rfl), u10_1, u10_0, u10_2⟩

/-! ### spec_l01Below: function 74 -/
def spec_l01Below.f (s0_0 : List Int) (s0_1 : Int) (s0_2 : Int) (a1 : Int) : Option (Int × Int × Int) := if a1 ≤ 0 then (some (0, s0_1, s0_2)) else (if a1 ≤ 256 then ((spec_l01Byte.f s0_0 s0_1 s0_2).bind fun bt340 => (if a1 = 0 then (none) else (some (Int.tmod bt340.1 a1, bt340.2.1, bt340.2.2)))) else ((spec_l01Byte.f s0_0 s0_1 s0_2).bind fun bt343 => ((spec_l01Byte.f s0_0 bt343.2.1 bt343.2.2).bind fun bt346 => ((spec_l01Byte.f s0_0 bt346.2.1 bt346.2.2).bind fun bt349 => (if a1 = 0 then (none) else (some (Int.tmod (wrap64 ((wrap64 ((wrap64 (bt343.1 * 65536)) + (wrap64 (bt346.1 * 256)))) + bt349.1)) a1, bt349.2.1, bt349.2.2)))))))
set_option maxHeartbeats 8000000 in
set_option maxRecDepth 100000 in
theorem spec_l01Below.calls (g : Nat) (s0_0 : List Int) (s0_1 : Int) (s0_2 : Int) (a1 : Int) (r1 : Int) (r2 : Int) (r3 : Int) (w0 w : World) (hI : IsS83 w0 w g s0_0 s0_1 s0_2) (hB : Below w0.heap.size w0 w) (h : spec_l01Below.f s0_0 s0_1 s0_2 a1 = some (r1, r2, r3)) :
    Calls Try.prog 74 #[.pointer (some ⟨g, 0, none⟩), .int .i64 a1] w fun e w' => e = .returned (.int .i64 r1) ∧ IsS83 w0 w' g s0_0 r2 r3 ∧ Below w0.heap.size w0 w' ∧ KeepBut w w' g none := by
  have HI0 := Aside0.mk hI
  have HK := Aside0.mk (KeepBut.refl w g none)
  have HL := Aside0.mk hB.size
  clear hI
  have HW0 := Aside0.mk hB.size
  have HB := Aside0.mk hB
  clear hB
  have H : (if a1 ≤ 0 then (some (0, s0_1, s0_2)) else (if a1 ≤ 256 then ((spec_l01Byte.f s0_0 s0_1 s0_2).bind fun bt340 => (if a1 = 0 then (none) else (some (Int.tmod bt340.1 a1, bt340.2.1, bt340.2.2)))) else ((spec_l01Byte.f s0_0 s0_1 s0_2).bind fun bt343 => ((spec_l01Byte.f s0_0 bt343.2.1 bt343.2.2).bind fun bt346 => ((spec_l01Byte.f s0_0 bt346.2.1 bt346.2.2).bind fun bt349 => (if a1 = 0 then (none) else (some (Int.tmod (wrap64 ((wrap64 ((wrap64 (bt343.1 * 65536)) + (wrap64 (bt346.1 * 256)))) + bt349.1)) a1, bt349.2.1, bt349.2.2)))))))) = some (r1, r2, r3) := h
  clear h
  by_cases c3 : a1 ≤ 0
  · rw [if_pos c3] at H
    have c3b0 : decide (a1 ≤ 0) = true := decide_eq_true c3
    clear c3
    simp only [Option.some.injEq, Prod.mk.injEq] at H
    obtain ⟨rfl, rfl, rfl⟩ := H
    go_enter Try.func74, Try.ntmps74
    go_wp2
    go_ret
    exact ⟨by first | rfl | (simp [errW_none, errW_some] <;> rfl) | (simp [*, errW_none, errW_some] <;> rfl), u10_1, u10_0, u10_2⟩
  rw [if_neg c3] at H
  have c3b0 : decide (a1 ≤ 0) = false := decide_eq_false c3
  clear c3
  by_cases c4 : a1 ≤ 256
  · rw [if_pos c4] at H
    have c4b0 : decide (a1 ≤ 256) = true := decide_eq_true c4
    clear c4
    replace H := Option.bind_eq_some_iff.mp H
    obtain ⟨⟨t340, t341, t342⟩, A50, H⟩ := H
    replace H : (if a1 = 0 then (none) else (some (Int.tmod t340 a1, t341, t342))) = some (r1, r2, r3) := H
    have A5 := Aside0.mk A50
    clear A50
    by_cases c6 : a1 = 0
    · rw [if_pos c6] at H
      exact absurd H (by simp)
    rw [if_neg c6] at H
    have c6b0 : (a1 == 0) = false := beq_eq_false_iff_ne.mpr c6
    have c6b1 : (a1 != 0) = true := bne_iff_ne.mpr c6
    simp only [Option.some.injEq, Prod.mk.injEq] at H
    obtain ⟨rfl, rfl, rfl⟩ := H
    go_enter Try.func74, Try.ntmps74
    go_wp2_with (first | ((with_reducible refine gate_callee (f := 84) rfl ?_); refine goesL_ (some 13) rfl rfl Try.func84 (by kernel_rfl) rfl #[.pointer (some ⟨g, 0, none⟩)] rfl u10_3 ?_; (with_reducible refine (spec_l01Byte.calls g s0_0 s0_1 s0_2 t340 t341 t342 w0 _ ?side1 ?side2 A5.out).mono ?_); (case side1 => exact u10_1); (case side2 => exact u10_0); rintro e w7 ⟨rfl, hi, hb, hk⟩; refine ⟨_, rfl, ?_⟩; have n0_ := Aside0.mk (KeepBut.trans u10_2 hk (.inl rfl)); have n1_ := Aside0.mk (hb); have n2_ := Aside0.mk (hi); clear HK; clear HB; clear HI0; have HK := n0_; have HB := n1_; have HI0 := n2_; clear n0_ n1_ n2_; (try clear hb); (try clear hb2); (try clear hk); (try clear hi)))
    go_ret
    exact ⟨by first | rfl | (simp [errW_none, errW_some] <;> rfl) | (simp [*, errW_none, errW_some] <;> rfl), u10_1, u10_0, u10_2⟩
  rw [if_neg c4] at H
  have c4b0 : decide (a1 ≤ 256) = false := decide_eq_false c4
  clear c4
  replace H := Option.bind_eq_some_iff.mp H
  obtain ⟨⟨t343, t344, t345⟩, A80, H⟩ := H
  (try dsimp only at H)
  have A8 := Aside0.mk A80
  clear A80
  replace H := Option.bind_eq_some_iff.mp H
  obtain ⟨⟨t346, t347, t348⟩, A90, H⟩ := H
  (try dsimp only at H)
  have A9 := Aside0.mk A90
  clear A90
  replace H := Option.bind_eq_some_iff.mp H
  obtain ⟨⟨t349, t350, t351⟩, A100, H⟩ := H
  (try dsimp only at H)
  have A10 := Aside0.mk A100
  clear A100
  by_cases c11 : a1 = 0
  · rw [if_pos c11] at H
    exact absurd H (by simp)
  rw [if_neg c11] at H
  have c11b0 : (a1 == 0) = false := beq_eq_false_iff_ne.mpr c11
  have c11b1 : (a1 != 0) = true := bne_iff_ne.mpr c11
  simp only [Option.some.injEq, Prod.mk.injEq] at H
  obtain ⟨rfl, rfl, rfl⟩ := H
  go_enter Try.func74, Try.ntmps74
  go_wp2_with (first | ((with_reducible refine gate_callee (f := 84) rfl ?_); refine goesL_ (some 17) rfl rfl Try.func84 (by kernel_rfl) rfl #[.pointer (some ⟨g, 0, none⟩)] rfl u10_3 ?_; (with_reducible refine (spec_l01Byte.calls g s0_0 s0_1 s0_2 t343 t344 t345 w0 _ ?side1 ?side2 A8.out).mono ?_); (case side1 => exact u10_1); (case side2 => exact u10_0); rintro e w12 ⟨rfl, hi, hb, hk⟩; refine ⟨_, rfl, ?_⟩; have n0_ := Aside0.mk (KeepBut.trans u10_2 hk (.inl rfl)); have n1_ := Aside0.mk (hb); have n2_ := Aside0.mk (hi); clear HK; clear HB; clear HI0; have HK := n0_; have HB := n1_; have HI0 := n2_; clear n0_ n1_ n2_; (try clear hb); (try clear hb2); (try clear hk); (try clear hi)) | ((with_reducible refine gate_callee (f := 84) rfl ?_); refine goesL_ (some 19) rfl rfl Try.func84 (by kernel_rfl) rfl #[.pointer (some ⟨g, 0, none⟩)] rfl u10_3 ?_; (with_reducible refine (spec_l01Byte.calls g s0_0 t344 t345 t346 t347 t348 w0 _ ?side1 ?side2 A9.out).mono ?_); (case side1 => exact u10_1); (case side2 => exact u10_0); rintro e w13 ⟨rfl, hi, hb, hk⟩; refine ⟨_, rfl, ?_⟩; have n0_ := Aside0.mk (KeepBut.trans u10_2 hk (.inl rfl)); have n1_ := Aside0.mk (hb); have n2_ := Aside0.mk (hi); clear HK; clear HB; clear HI0; have HK := n0_; have HB := n1_; have HI0 := n2_; clear n0_ n1_ n2_; (try clear hb); (try clear hb2); (try clear hk); (try clear hi)) | ((with_reducible refine gate_callee (f := 84) rfl ?_); refine goesL_ (some 21) rfl rfl Try.func84 (by kernel_rfl) rfl #[.pointer (some ⟨g, 0, none⟩)] rfl u10_3 ?_; (with_reducible refine (spec_l01Byte.calls g s0_0 t347 t348 t349 t350 t351 w0 _ ?side1 ?side2 A10.out).mono ?_); (case side1 => exact u10_1); (case side2 => exact u10_0); rintro e w14 ⟨rfl, hi, hb, hk⟩; refine ⟨_, rfl, ?_⟩; have n0_ := Aside0.mk (KeepBut.trans u10_2 hk (.inl rfl)); have n1_ := Aside0.mk (hb); have n2_ := Aside0.mk (hi); clear HK; clear HB; clear HI0; have HK := n0_; have HB := n1_; have HI0 := n2_; clear n0_ n1_ n2_; (try clear hb); (try clear hb2); (try clear hk); (try clear hi)))
  go_ret
  exact ⟨by first | rfl | (simp [errW_none, errW_some] <;> rfl) | (simp [*, errW_none, errW_some] <;> rfl), u10_1, u10_0, u10_2⟩

/-! ### spec_l10DrawId: function 72 -/
def spec_l10DrawId.f (s0_0 : List Int) (s0_1 : Int) (s0_2 : Int) : Option (Int × Int × Int) := (some (([0, 1, 2, 5, 9, 100, 9223372036854775808, 18446744073709551615] : List Int) : List Int)).bind fun y352 => ((spec_l01Below.f s0_0 s0_1 s0_2 8).bind fun bt355 => (if 0 ≤ bt355.1 then (if bt355.1 < (y352.length : Int) then (some (rd y352 bt355.1, bt355.2.1, bt355.2.2)) else (none)) else (none)))
set_option maxHeartbeats 8000000 in
set_option maxRecDepth 100000 in
theorem spec_l10DrawId.calls (g : Nat) (s0_0 : List Int) (s0_1 : Int) (s0_2 : Int) (r1 : Int) (r2 : Int) (r3 : Int) (w0 w : World) (hI : IsS83 w0 w g s0_0 s0_1 s0_2) (hB : Below w0.heap.size w0 w) (h : spec_l10DrawId.f s0_0 s0_1 s0_2 = some (r1, r2, r3)) :
    Calls Try.prog 72 #[.pointer (some ⟨g, 0, none⟩)] w fun e w' => e = .returned (.int .u64 r1) ∧ IsS83 w0 w' g s0_0 r2 r3 ∧ Below w0.heap.size w0 w' ∧ KeepBut w w' g none := by
  have HI0 := Aside0.mk hI
  have HK := Aside0.mk (KeepBut.refl w g none)
  have HL := Aside0.mk hB.size
  clear hI
  have HW0 := Aside0.mk hB.size
  have HB := Aside0.mk hB
  clear hB
  have H : ((some (([0, 1, 2, 5, 9, 100, 9223372036854775808, 18446744073709551615] : List Int) : List Int)).bind fun y352 => ((spec_l01Below.f s0_0 s0_1 s0_2 8).bind fun bt355 => (if 0 ≤ bt355.1 then (if bt355.1 < (y352.length : Int) then (some (rd y352 bt355.1, bt355.2.1, bt355.2.2)) else (none)) else (none)))) = some (r1, r2, r3) := h
  clear h
  obtain ⟨y352, hy352⟩ : ∃ y_ : List Int, y_ = (([0, 1, 2, 5, 9, 100, 9223372036854775808, 18446744073709551615] : List Int)) := ⟨_, rfl⟩
  replace H : ((spec_l01Below.f s0_0 s0_1 s0_2 8).bind fun bt355 => (if 0 ≤ bt355.1 then (if bt355.1 < (y352.length : Int) then (some (rd y352 bt355.1, bt355.2.1, bt355.2.2)) else (none)) else (none))) = some (r1, r2, r3) := by first | (rw [hy352]; with_reducible exact H) | (have H2_ := (Option.bind_some _ _).symm.trans H; rw [hy352]; with_reducible exact H2_) | (have H2_ := (Option.bind_some _ _).symm.trans H; with_reducible exact H2_) | with_reducible exact H | (rw [hy352]; exact H) | exact H
  have Ny352 := Aside0.mk hy352
  clear hy352
  replace H := Option.bind_eq_some_iff.mp H
  obtain ⟨⟨t355, t356, t357⟩, A20, H⟩ := H
  (try dsimp only at H)
  have A2 := Aside0.mk A20
  clear A20
  by_cases c3 : 0 ≤ t355
  rotate_left
  · rw [if_neg c3] at H
    exact absurd H (by simp)
  rw [if_pos c3] at H
  have c3b0 : decide (0 ≤ t355) = true := decide_eq_true c3
  clear c3
  by_cases c4 : t355 < (y352.length : Int)
  rotate_left
  · rw [if_neg c4] at H
    exact absurd H (by simp)
  rw [if_pos c4] at H
  have c4b0 : decide (t355 < (y352.length : Int)) = true := decide_eq_true c4
  clear c4
  simp only [Option.some.injEq, Prod.mk.injEq] at H
  obtain ⟨rfl, rfl, rfl⟩ := H
  go_enter Try.func72, Try.ntmps72
  go_wp2_with (first | ((with_reducible refine gate_dst (N := 3) rfl ?_); refine Kd.R_lit (Kd.int .u64) _ 33 ?hg (N := 3) ?hd (xs := ([0, 1, 2, 5, 9, 100, 9223372036854775808, 18446744073709551615] : List Int)) (inner := [.int .u64 0, .int .u64 1, .int .u64 2, .int .u64 5, .int .u64 9, .int .u64 100, .int .u64 9223372036854775808, .int .u64 18446744073709551615]) (ok := fun _ => True) (okp := fun _ => True) ?hr ?hp (fun _ hk => hk) trivial (Below.refl _ _) (Nat.le_refl _) (by simp) ?_; (case hd => rfl); (case hg => rfl); (case hr => first | (go_simp; done) | (go_simp; rfl)); (case hp => exact (Reps.one (show Kd.M (Kd.int .u64) _ _ _ 0 [.int .u64 0] from rfl) (Reps.one (show Kd.M (Kd.int .u64) _ _ _ 1 [.int .u64 1] from rfl) (Reps.one (show Kd.M (Kd.int .u64) _ _ _ 2 [.int .u64 2] from rfl) (Reps.one (show Kd.M (Kd.int .u64) _ _ _ 5 [.int .u64 5] from rfl) (Reps.one (show Kd.M (Kd.int .u64) _ _ _ 9 [.int .u64 9] from rfl) (Reps.one (show Kd.M (Kd.int .u64) _ _ _ 100 [.int .u64 100] from rfl) (Reps.one (show Kd.M (Kd.int .u64) _ _ _ 9223372036854775808 [.int .u64 9223372036854775808] from rfl) (Reps.one (show Kd.M (Kd.int .u64) _ _ _ 18446744073709551615 [.int .u64 18446744073709551615] from rfl) (Reps.none _ _)))))))))); intro v353 w5 ho6 hb hg_ hnew_; clear hg_ hnew_; (first | rw [← Ny352.out] at ho6 | (simp only [Int.reduceToNat] at ho6; rw [← Ny352.out] at ho6)); have n0_ := Aside0.mk (Kd.R_lower ho6 (keep_size (w := w) (g := g) (row := none) u10_2)); have n1_ := Aside0.mk (IsS83.below u10_1 hb); have n2_ := Aside0.mk (KeepBut.trans u10_2 (KeepBut.of_below hb g none) (.inl rfl)); have n3_ := Aside0.mk (below_step u10_0 hb); clear HI0; clear HK; clear HB; have HO354 := n0_; have HI0 := n1_; have HK := n2_; have HB := n3_; clear n0_ n1_ n2_ n3_; clear hb ho6) | ((with_reducible refine gate_callee (f := 74) rfl ?_); refine goesL_ (some 5) rfl rfl Try.func74 (by kernel_rfl) rfl #[.pointer (some ⟨g, 0, none⟩), .int .i64 8] rfl u10_3 ?_; (with_reducible refine (spec_l01Below.calls g s0_0 s0_1 s0_2 8 t355 t356 t357 w0 _ ?side1 ?side2 A2.out).mono ?_); (case side1 => exact u10_1); (case side2 => exact u10_0); rintro e w7 ⟨rfl, hi, hb, hk⟩; refine ⟨_, rfl, ?_⟩; have n0_ := Aside0.mk (Kd.R_mono (Kd.R_keep (IsS83.apart (show IsS83 w0 _ g s0_0 s0_1 s0_2 from by repeat (first | (with_reducible first | exact HI0.out | apply IsS83.alloc | apply IsS83.drewN | apply IsS83.drew | apply IsS83.set_1 | apply IsS83.set_2) | exact HI0.out)) (by (with_reducible repeat (first | apply Kd.R_alloc | apply Kd.R_drewN | apply Kd.R_drew)); exact HO354.out) (by decide)) hk (fun _ h => h.2)) (fun _ h => h.1)); have n1_ := Aside0.mk (KeepBut.trans u10_2 hk (.inl rfl)); have n2_ := Aside0.mk (hb); have n3_ := Aside0.mk (hi); clear HO354; clear HK; clear HB; clear HI0; have HO354 := n0_; have HK := n1_; have HB := n2_; have HI0 := n3_; clear n0_ n1_ n2_ n3_; (try clear hb); (try clear hb2); (try clear hk); (try clear hi); obtain ⟨Ao8, co8, eo8⟩ := Kd.R_slice HO354.out; subst eo8; have p358 : 0 ≤ (t355 : Int) := of_decide_eq_true u10_4; have q358 : t355 < (y352.length : Int) := of_decide_eq_true u10_4; obtain ⟨ad358, e358, hx358_0⟩ := Kd.at_int (Kd.R_reads' HO354.out).2.2 t355 p358 q358; cases e358; replace p358 := eq_true p358; replace q358 := eq_true q358))
  go_ret
  exact ⟨by first | rfl | (simp [errW_none, errW_some] <;> rfl) | (simp [*, errW_none, errW_some] <;> rfl), u10_1, u10_0, u10_2⟩

/-! ### spec_l01Once: function 82 -/
def spec_l01Once.f (s0_0 : List Int) (s0_1 : Int) (s0_2 : Int) (a1 : Int) : Option (Bool × Int × Int) := (spec_l01Below.f s0_0 s0_1 s0_2 a1).bind fun bt359 => (some ((bt359.1 == 0), bt359.2.1, bt359.2.2))
set_option maxHeartbeats 8000000 in
set_option maxRecDepth 100000 in
theorem spec_l01Once.calls (g : Nat) (s0_0 : List Int) (s0_1 : Int) (s0_2 : Int) (a1 : Int) (r1 : Bool) (r2 : Int) (r3 : Int) (w0 w : World) (hI : IsS83 w0 w g s0_0 s0_1 s0_2) (hB : Below w0.heap.size w0 w) (h : spec_l01Once.f s0_0 s0_1 s0_2 a1 = some (r1, r2, r3)) :
    Calls Try.prog 82 #[.pointer (some ⟨g, 0, none⟩), .int .i64 a1] w fun e w' => e = .returned (.bool r1) ∧ IsS83 w0 w' g s0_0 r2 r3 ∧ Below w0.heap.size w0 w' ∧ KeepBut w w' g none := by
  have HI0 := Aside0.mk hI
  have HK := Aside0.mk (KeepBut.refl w g none)
  have HL := Aside0.mk hB.size
  clear hI
  have HW0 := Aside0.mk hB.size
  have HB := Aside0.mk hB
  clear hB
  have H : ((spec_l01Below.f s0_0 s0_1 s0_2 a1).bind fun bt359 => (some ((bt359.1 == 0), bt359.2.1, bt359.2.2))) = some (r1, r2, r3) := h
  clear h
  replace H := Option.bind_eq_some_iff.mp H
  obtain ⟨⟨t359, t360, t361⟩, A30, H⟩ := H
  replace H : (some ((t359 == 0), t360, t361)) = some (r1, r2, r3) := H
  have A3 := Aside0.mk A30
  clear A30
  simp only [Option.some.injEq, Prod.mk.injEq] at H
  obtain ⟨rfl, rfl, rfl⟩ := H
  go_enter Try.func82, Try.ntmps82
  go_wp2_with (first | ((with_reducible refine gate_callee (f := 74) rfl ?_); refine goesL_ (some 7) rfl rfl Try.func74 (by kernel_rfl) rfl #[.pointer (some ⟨g, 0, none⟩), .int .i64 a1] rfl u10_3 ?_; (with_reducible refine (spec_l01Below.calls g s0_0 s0_1 s0_2 a1 t359 t360 t361 w0 _ ?side1 ?side2 A3.out).mono ?_); (case side1 => exact u10_1); (case side2 => exact u10_0); rintro e w4 ⟨rfl, hi, hb, hk⟩; refine ⟨_, rfl, ?_⟩; have n0_ := Aside0.mk (KeepBut.trans u10_2 hk (.inl rfl)); have n1_ := Aside0.mk (hb); have n2_ := Aside0.mk (hi); clear HK; clear HB; clear HI0; have HK := n0_; have HB := n1_; have HI0 := n2_; clear n0_ n1_ n2_; (try clear hb); (try clear hb2); (try clear hk); (try clear hi)))
  go_ret
  exact ⟨by first | rfl | (simp [errW_none, errW_some] <;> rfl) | (simp [*, errW_none, errW_some] <;> rfl), u10_1, u10_0, u10_2⟩

/-! ### spec_l01Big: function 83 -/
def spec_l01Big.l0 : Nat → Int → Int → List Int → Int → Int → Option (Int × Int × Int)
  | 0, _, _, _, _, _ => none
  | k + 1, x3, x4, x1000, x1001, x1002 => if x4 < 8 then ((spec_l01Below.f x1000 x1001 x1002 256).bind fun bt374 => (spec_l01Big.l0 k (IntKind.u64.wrap ((IntKind.u64.wrap (x3 * 256)) + (IntKind.u64.wrap (bt374.1)))) (wrap64 (x4 + 1)) x1000 bt374.2.1 bt374.2.2)) else ((spec_l01Below.f x1000 x1001 x1002 64).bind fun bt377 => (if 0 ≤ (IntKind.u64.wrap (bt377.1)) then (some (shr .u64 x3 (IntKind.u64.wrap (bt377.1)), bt377.2.1, bt377.2.2)) else (none)))
def spec_l01Big.f (k : Nat) (s0_0 : List Int) (s0_1 : Int) (s0_2 : Int) : Option (Int × Int × Int) := (spec_l01Below.f s0_0 s0_1 s0_2 8).bind fun bt362 => (if bt362.1 = 0 then (some (0, bt362.2.1, bt362.2.2)) else (if bt362.1 = 1 then (some (18446744073709551615, bt362.2.1, bt362.2.2)) else (if bt362.1 = 2 then ((spec_l01Below.f s0_0 bt362.2.1 bt362.2.2 300).bind fun bt365 => (some (IntKind.u64.wrap (bt365.1), bt365.2.1, bt365.2.2))) else (if bt362.1 = 3 then ((spec_l01Below.f s0_0 bt362.2.1 bt362.2.2 300).bind fun bt368 => (some (IntKind.u64.wrap (18446744073709551615 - (IntKind.u64.wrap (bt368.1))), bt368.2.1, bt368.2.2))) else (if bt362.1 = 4 then ((spec_l01Below.f s0_0 bt362.2.1 bt362.2.2 64).bind fun bt371 => (if 0 ≤ (IntKind.u64.wrap (bt371.1)) then (some (shl .u64 1 (IntKind.u64.wrap (bt371.1)), bt371.2.1, bt371.2.2)) else (none))) else (spec_l01Big.l0 k 0 0 s0_0 bt362.2.1 bt362.2.2))))))
theorem spec_l01Big.mono_l : ∀ k, (∀ y0 y1 y2 y3 y4, LeO (spec_l01Big.l0 k y0 y1 y2 y3 y4) (spec_l01Big.l0 (k + 1) y0 y1 y2 y3 y4))
  | 0 => fun _ _ _ _ _ r h => by simp [spec_l01Big.l0] at h
  | k + 1 => by
    have ih0 := spec_l01Big.mono_l k
    · intro y0 y1 y2 y3 y4
      unfold spec_l01Big.l0
      repeat' first
      | (with_reducible exact ih0 _ _ _ _ _)
      | (with_reducible exact LeO.refl _)
      | (with_reducible exact LeO.none _)
      | (with_reducible refine LeO.ite ?_ ?_)
      | (with_reducible refine LeO.bind ?_ (fun _ => ?_))
      | exact ih0 _ _ _ _ _
      | exact LeO.none _
      | refine LeO.ite ?_ ?_
      | refine LeO.bind ?_ (fun _ => ?_)
theorem spec_l01Big.mono : ∀ a0 a1 a2 k, LeO (spec_l01Big.f k a0 a1 a2) (spec_l01Big.f (k + 1) a0 a1 a2) := by
  intro a0 a1 a2 k
  have ih0 := spec_l01Big.mono_l k
  unfold spec_l01Big.f
  repeat' first
      | (with_reducible exact ih0 _ _ _ _ _)
      | (with_reducible exact LeO.refl _)
      | (with_reducible exact LeO.none _)
      | (with_reducible refine LeO.ite ?_ ?_)
      | (with_reducible refine LeO.bind ?_ (fun _ => ?_))
      | exact ih0 _ _ _ _ _
      | exact LeO.none _
      | refine LeO.ite ?_ ?_
      | refine LeO.bind ?_ (fun _ => ?_)
set_option maxHeartbeats 8000000 in
set_option maxRecDepth 100000 in
theorem spec_l01Big.calls (k : Nat) (g : Nat) (s0_0 : List Int) (s0_1 : Int) (s0_2 : Int) (r1 : Int) (r2 : Int) (r3 : Int) (w0 w : World) (hI : IsS83 w0 w g s0_0 s0_1 s0_2) (hB : Below w0.heap.size w0 w) (h : spec_l01Big.f k s0_0 s0_1 s0_2 = some (r1, r2, r3)) :
    Calls Try.prog 83 #[.pointer (some ⟨g, 0, none⟩)] w fun e w' => e = .returned (.int .u64 r1) ∧ IsS83 w0 w' g s0_0 r2 r3 ∧ Below w0.heap.size w0 w' ∧ KeepBut w w' g none := by
  have HI0 := Aside0.mk hI
  have HK := Aside0.mk (KeepBut.refl w g none)
  have HL := Aside0.mk hB.size
  clear hI
  have HW0 := Aside0.mk hB.size
  have HB := Aside0.mk hB
  clear hB
  have H : ((spec_l01Below.f s0_0 s0_1 s0_2 8).bind fun bt362 => (if bt362.1 = 0 then (some (0, bt362.2.1, bt362.2.2)) else (if bt362.1 = 1 then (some (18446744073709551615, bt362.2.1, bt362.2.2)) else (if bt362.1 = 2 then ((spec_l01Below.f s0_0 bt362.2.1 bt362.2.2 300).bind fun bt365 => (some (IntKind.u64.wrap (bt365.1), bt365.2.1, bt365.2.2))) else (if bt362.1 = 3 then ((spec_l01Below.f s0_0 bt362.2.1 bt362.2.2 300).bind fun bt368 => (some (IntKind.u64.wrap (18446744073709551615 - (IntKind.u64.wrap (bt368.1))), bt368.2.1, bt368.2.2))) else (if bt362.1 = 4 then ((spec_l01Below.f s0_0 bt362.2.1 bt362.2.2 64).bind fun bt371 => (if 0 ≤ (IntKind.u64.wrap (bt371.1)) then (some (shl .u64 1 (IntKind.u64.wrap (bt371.1)), bt371.2.1, bt371.2.2)) else (none))) else (spec_l01Big.l0 k 0 0 s0_0 bt362.2.1 bt362.2.2))))))) = some (r1, r2, r3) := h
  clear h
  replace H := Option.bind_eq_some_iff.mp H
  obtain ⟨⟨t362, t363, t364⟩, A20, H⟩ := H
  (try dsimp only at H)
  have A2 := Aside0.mk A20
  clear A20
  have H9 := Aside0.mk H
  clear H
  go_enter Try.func83, Try.ntmps83
  go_upto_if 7 with (first | ((with_reducible refine gate_callee (f := 74) rfl ?_); refine goesL_ (some 6) rfl rfl Try.func74 (by kernel_rfl) rfl #[.pointer (some ⟨g, 0, none⟩), .int .i64 8] rfl u10_3 ?_; (with_reducible refine (spec_l01Below.calls g s0_0 s0_1 s0_2 8 t362 t363 t364 w0 _ ?side1 ?side2 A2.out).mono ?_); (case side1 => exact u10_1); (case side2 => exact u10_0); rintro e w3 ⟨rfl, hi, hb, hk⟩; refine ⟨_, rfl, ?_⟩; have n0_ := Aside0.mk (KeepBut.trans u10_2 hk (.inl rfl)); have n1_ := Aside0.mk (hb); have n2_ := Aside0.mk (hi); clear HK; clear HB; clear HI0; have HK := n0_; have HB := n1_; have HI0 := n2_; clear n0_ n1_ n2_; (try clear hb); (try clear hb2); (try clear hk); (try clear hi)))
  have H := H9.out
  clear H9
  by_cases c4 : t362 = 0
  · rw [if_pos c4] at H
    have c4b0 : (t362 == 0) = true := beq_iff_eq.mpr c4
    have c4b1 : (t362 != 0) = false := bne_eq_false_iff_eq.mpr c4
    clear c4
    (first | rw [c4b0] | (simp only [i64_w, i32_w]; rw [c4b0]) | skip)
    simp only [Option.some.injEq, Prod.mk.injEq] at H
    obtain ⟨rfl, rfl, rfl⟩ := H
    go_wp2
    go_ret
    exact ⟨by first | rfl | (simp [errW_none, errW_some] <;> rfl) | (simp [*, errW_none, errW_some] <;> rfl), u10_1, u10_0, u10_2⟩
  rw [if_neg c4] at H
  have c4b0 : (t362 == 0) = false := beq_eq_false_iff_ne.mpr c4
  have c4b1 : (t362 != 0) = true := bne_iff_ne.mpr c4
  (first | rw [c4b0] | (simp only [i64_w, i32_w]; rw [c4b0]) | skip)
  by_cases c5 : t362 = 1
  · rw [if_pos c5] at H
    have c5b0 : (t362 == 1) = true := beq_iff_eq.mpr c5
    have c5b1 : (t362 != 1) = false := bne_eq_false_iff_eq.mpr c5
    clear c5
    simp only [Option.some.injEq, Prod.mk.injEq] at H
    obtain ⟨rfl, rfl, rfl⟩ := H
    go_wp2
    go_ret
    exact ⟨by first | rfl | (simp [errW_none, errW_some] <;> rfl) | (simp [*, errW_none, errW_some] <;> rfl), u10_1, u10_0, u10_2⟩
  rw [if_neg c5] at H
  have c5b0 : (t362 == 1) = false := beq_eq_false_iff_ne.mpr c5
  have c5b1 : (t362 != 1) = true := bne_iff_ne.mpr c5
  by_cases c6 : t362 = 2
  · rw [if_pos c6] at H
    have c6b0 : (t362 == 2) = true := beq_iff_eq.mpr c6
    have c6b1 : (t362 != 2) = false := bne_eq_false_iff_eq.mpr c6
    clear c6
    replace H := Option.bind_eq_some_iff.mp H
    obtain ⟨⟨t365, t366, t367⟩, A70, H⟩ := H
    replace H : (some (IntKind.u64.wrap (t365), t366, t367)) = some (r1, r2, r3) := H
    have A7 := Aside0.mk A70
    clear A70
    simp only [Option.some.injEq, Prod.mk.injEq] at H
    obtain ⟨rfl, rfl, rfl⟩ := H
    go_wp2_with (first | ((with_reducible refine gate_callee (f := 74) rfl ?_); refine goesL_ (some 14) rfl rfl Try.func74 (by kernel_rfl) rfl #[.pointer (some ⟨g, 0, none⟩), .int .i64 300] rfl u10_3 ?_; (with_reducible refine (spec_l01Below.calls g s0_0 t363 t364 300 t365 t366 t367 w0 _ ?side1 ?side2 A7.out).mono ?_); (case side1 => exact u10_1); (case side2 => exact u10_0); rintro e w8 ⟨rfl, hi, hb, hk⟩; refine ⟨_, rfl, ?_⟩; have n0_ := Aside0.mk (KeepBut.trans u10_2 hk (.inl rfl)); have n1_ := Aside0.mk (hb); have n2_ := Aside0.mk (hi); clear HK; clear HB; clear HI0; have HK := n0_; have HB := n1_; have HI0 := n2_; clear n0_ n1_ n2_; (try clear hb); (try clear hb2); (try clear hk); (try clear hi)))
    go_ret
    exact ⟨by first | rfl | (simp [errW_none, errW_some] <;> rfl) | (simp [*, errW_none, errW_some] <;> rfl), u10_1, u10_0, u10_2⟩
  rw [if_neg c6] at H
  have c6b0 : (t362 == 2) = false := beq_eq_false_iff_ne.mpr c6
  have c6b1 : (t362 != 2) = true := bne_iff_ne.mpr c6
  by_cases c9 : t362 = 3
  · rw [if_pos c9] at H
    have c9b0 : (t362 == 3) = true := beq_iff_eq.mpr c9
    have c9b1 : (t362 != 3) = false := bne_eq_false_iff_eq.mpr c9
    clear c9
    replace H := Option.bind_eq_some_iff.mp H
    obtain ⟨⟨t368, t369, t370⟩, A100, H⟩ := H
    (try dsimp only at H)
    have A10 := Aside0.mk A100
    clear A100
    simp only [Option.some.injEq, Prod.mk.injEq] at H
    obtain ⟨rfl, rfl, rfl⟩ := H
    go_wp2_with (first | ((with_reducible refine gate_callee (f := 74) rfl ?_); refine goesL_ (some 19) rfl rfl Try.func74 (by kernel_rfl) rfl #[.pointer (some ⟨g, 0, none⟩), .int .i64 300] rfl u10_3 ?_; (with_reducible refine (spec_l01Below.calls g s0_0 t363 t364 300 t368 t369 t370 w0 _ ?side1 ?side2 A10.out).mono ?_); (case side1 => exact u10_1); (case side2 => exact u10_0); rintro e w11 ⟨rfl, hi, hb, hk⟩; refine ⟨_, rfl, ?_⟩; have n0_ := Aside0.mk (KeepBut.trans u10_2 hk (.inl rfl)); have n1_ := Aside0.mk (hb); have n2_ := Aside0.mk (hi); clear HK; clear HB; clear HI0; have HK := n0_; have HB := n1_; have HI0 := n2_; clear n0_ n1_ n2_; (try clear hb); (try clear hb2); (try clear hk); (try clear hi)))
    go_ret
    exact ⟨by first | rfl | (simp [errW_none, errW_some] <;> rfl) | (simp [*, errW_none, errW_some] <;> rfl), u10_1, u10_0, u10_2⟩
  rw [if_neg c9] at H
  have c9b0 : (t362 == 3) = false := beq_eq_false_iff_ne.mpr c9
  have c9b1 : (t362 != 3) = true := bne_iff_ne.mpr c9
  by_cases c12 : t362 = 4
  · rw [if_pos c12] at H
    have c12b0 : (t362 == 4) = true := beq_iff_eq.mpr c12
    have c12b1 : (t362 != 4) = false := bne_eq_false_iff_eq.mpr c12
    clear c12
    replace H := Option.bind_eq_some_iff.mp H
    obtain ⟨⟨t371, t372, t373⟩, A130, H⟩ := H
    (try dsimp only at H)
    have A13 := Aside0.mk A130
    clear A130
    obtain ⟨ji14, hji14⟩ : ∃ j_ : Int, (IntKind.u64.wrap (t371)) = j_ := ⟨_, rfl⟩
    replace H : (if 0 ≤ (ji14) then (some (shl .u64 1 (ji14), t372, t373)) else (none)) = some (r1, r2, r3) := by first | (rw [hji14] at H; exact H) | (simp only [hji14] at H ⊢; exact H)
    (try rw [hji14] at A13)
    by_cases c15 : 0 ≤ (ji14)
    rotate_left
    · rw [if_neg c15] at H
      exact absurd H (by simp)
    rw [if_pos c15] at H
    have c15b0 := eq_true c15
    have c15b1 : decide (0 ≤ (ji14)) = true := decide_eq_true c15
    clear c15
    obtain ⟨ji16, hji16⟩ : ∃ j_ : Int, (shl .u64 1 (ji14)) = j_ := ⟨_, rfl⟩
    replace H : (some (ji16, t372, t373)) = some (r1, r2, r3) := by first | (rw [hji16] at H; exact H) | (simp only [hji16] at H ⊢; exact H)
    (try rw [hji16] at A13)
    have hji16_ : (IntKind.u64.wrap (1 * 2 ^ min (ji14).toNat 64)) = ji16 := hji16
    have hji16z : (ji14) ≤ 64 → (IntKind.u64.wrap (1 * 2 ^ (ji14).toNat)) = ji16 := shl_small hji16
    have hji16u : (IntKind.u64.wrap (2 ^ min (ji14).toNat 64)) = ji16 := by have h_ := hji16_; rw [Int.one_mul] at h_; exact h_
    have hji16v : (ji14) ≤ 64 → (IntKind.u64.wrap (2 ^ (ji14).toNat)) = ji16 := fun hle_ => by have h_ := hji16z hle_; rw [Int.one_mul] at h_; exact h_
    simp only [Option.some.injEq, Prod.mk.injEq] at H
    obtain ⟨rfl, rfl, rfl⟩ := H
    go_wp2_with (first | ((with_reducible refine gate_callee (f := 74) rfl ?_); refine goesL_ (some 25) rfl rfl Try.func74 (by kernel_rfl) rfl #[.pointer (some ⟨g, 0, none⟩), .int .i64 64] rfl u10_3 ?_; (with_reducible refine (spec_l01Below.calls g s0_0 t363 t364 64 t371 t372 t373 w0 _ ?side1 ?side2 A13.out).mono ?_); (case side1 => exact u10_1); (case side2 => exact u10_0); rintro e w17 ⟨rfl, hi, hb, hk⟩; refine ⟨_, rfl, ?_⟩; have n0_ := Aside0.mk (KeepBut.trans u10_2 hk (.inl rfl)); have n1_ := Aside0.mk (hb); have n2_ := Aside0.mk (hi); clear HK; clear HB; clear HI0; have HK := n0_; have HB := n1_; have HI0 := n2_; clear n0_ n1_ n2_; (try clear hb); (try clear hb2); (try clear hk); (try clear hi)))
    go_ret
    exact ⟨by first | rfl | (simp [errW_none, errW_some] <;> rfl) | (simp only [← hji14, ← hji16]; first | rfl | (simp [errW_none, errW_some] <;> rfl)) | (simp [*, errW_none, errW_some] <;> rfl), u10_1, u10_0, u10_2⟩
  rw [if_neg c12] at H
  have c12b0 : (t362 == 4) = false := beq_eq_false_iff_ne.mpr c12
  have c12b1 : (t362 != 4) = true := bne_iff_ne.mpr c12
  have H' := Aside0.mk H
  clear H
  go_wp2
  go_loopg [3, 4] k (fun kq v3 v4 w' => ∃ (x3_1 : Int) (x4_1 : Int) (x1001_1 : Int) (x1002_1 : Int), v3 = .int .u64 x3_1 ∧ v4 = .int .i64 x4_1 ∧ Aside0 (spec_l01Big.l0 kq x3_1 x4_1 s0_0 x1001_1 x1002_1 = some (r1, r2, r3)) ∧ Aside0 (kq ≤ k) ∧ Aside0 (IsS83 w0 w' g s0_0 x1001_1 x1002_1) ∧ Aside0 (KeepBut w w' g none) ∧ Aside0 (Below w0.heap.size w0 w'))
  case atStart => exact ⟨(0), (0), (t363), (t364), u10_5, u10_5, H', ⟨Nat.le_refl _⟩, ⟨u10_1⟩, ⟨u10_2⟩, ⟨u10_0⟩⟩
  clear H'
  try clear c1
  try clear p2
  try clear c4
  try clear c4b0
  try clear c4b1
  try clear c5
  try clear c5b0
  try clear c5b1
  try clear c6
  try clear c6b0
  try clear c6b1
  try clear c7
  try clear c8
  try clear c9
  try clear c9b0
  try clear c9b1
  try clear c12
  try clear c12b0
  try clear c12b1
  try clear c15
  try clear c15b0
  try clear c15b1
  obtain ⟨x3_1, x4_1, x1001_1, x1002_1, rfl, rfl, HA, HK1, HI0, HK, HB⟩ := hrel
  cases gk with
  | zero => exact absurd HA.out (by simp [spec_l01Big.l0])
  | succ k1 =>
    have H := HA.out
    clear HA
    simp only [spec_l01Big.l0] at H
    by_cases c18 : x4_1 < 8
    · rw [if_pos c18] at H
      have c18b0 : decide (x4_1 < 8) = true := decide_eq_true c18
      clear c18
      replace H := Option.bind_eq_some_iff.mp H
      obtain ⟨⟨t374, t375, t376⟩, A190, H⟩ := H
      (try dsimp only at H)
      have A19 := Aside0.mk A190
      clear A190
      have H' := Aside0.mk H
      clear H
      go_wp2_with (first | ((with_reducible refine gate_callee (f := 74) rfl ?_); refine goesL_ (some 35) rfl rfl Try.func74 (by kernel_rfl) rfl #[.pointer (some ⟨g, 0, none⟩), .int .i64 256] rfl u10_3 ?_; (with_reducible refine (spec_l01Below.calls g s0_0 x1001_1 x1002_1 256 t374 t375 t376 w0 _ ?side1 ?side2 A19.out).mono ?_); (case side1 => exact u10_1); (case side2 => exact u10_0); rintro e w20 ⟨rfl, hi, hb, hk⟩; refine ⟨_, rfl, ?_⟩; have n0_ := Aside0.mk (KeepBut.trans u10_2 hk (.inl rfl)); have n1_ := Aside0.mk (hb); have n2_ := Aside0.mk (hi); clear HK; clear HB; clear HI0; have HK := n0_; have HB := n1_; have HI0 := n2_; clear n0_ n1_ n2_; (try clear hb); (try clear hb2); (try clear hk); (try clear hi)))
      go_roundg k1
      case measure => have := HK1.out; omega
      case rel => exact ⟨(IntKind.u64.wrap ((IntKind.u64.wrap (x3_1 * 256)) + (IntKind.u64.wrap (t374)))), (wrap64 (x4_1 + 1)), (t375), (t376), u10_5, u10_5, H', ⟨by have := HK1.out; omega⟩, ⟨u10_1⟩, ⟨u10_2⟩, ⟨u10_0⟩⟩
    rw [if_neg c18] at H
    have c18b0 : decide (x4_1 < 8) = false := decide_eq_false c18
    clear c18
    replace H := Option.bind_eq_some_iff.mp H
    obtain ⟨⟨t377, t378, t379⟩, A210, H⟩ := H
    (try dsimp only at H)
    have A21 := Aside0.mk A210
    clear A210
    obtain ⟨ji22, hji22⟩ : ∃ j_ : Int, (IntKind.u64.wrap (t377)) = j_ := ⟨_, rfl⟩
    replace H : (if 0 ≤ (ji22) then (some (shr .u64 x3_1 (ji22), t378, t379)) else (none)) = some (r1, r2, r3) := by first | (rw [hji22] at H; exact H) | (simp only [hji22] at H ⊢; exact H)
    (try rw [hji22] at A21)
    by_cases c23 : 0 ≤ (ji22)
    rotate_left
    · rw [if_neg c23] at H
      exact absurd H (by simp)
    rw [if_pos c23] at H
    have c23b0 := eq_true c23
    have c23b1 : decide (0 ≤ (ji22)) = true := decide_eq_true c23
    clear c23
    obtain ⟨ji24, hji24⟩ : ∃ j_ : Int, (shr .u64 x3_1 (ji22)) = j_ := ⟨_, rfl⟩
    replace H : (some (ji24, t378, t379)) = some (r1, r2, r3) := by first | (rw [hji24] at H; exact H) | (simp only [hji24] at H ⊢; exact H)
    (try rw [hji24] at A21)
    have hji24_ : (x3_1 / 2 ^ min (ji22).toNat 64) = ji24 := hji24
    have hji24z : (ji22) ≤ 64 → (x3_1 / 2 ^ (ji22).toNat) = ji24 := shr_small hji24
    simp only [Option.some.injEq, Prod.mk.injEq] at H
    obtain ⟨rfl, rfl, rfl⟩ := H
    go_wp2_with (first | ((with_reducible refine gate_callee (f := 74) rfl ?_); refine goesL_ (some 40) rfl rfl Try.func74 (by kernel_rfl) rfl #[.pointer (some ⟨g, 0, none⟩), .int .i64 64] rfl u10_3 ?_; (with_reducible refine (spec_l01Below.calls g s0_0 x1001_1 x1002_1 64 t377 t378 t379 w0 _ ?side1 ?side2 A21.out).mono ?_); (case side1 => exact u10_1); (case side2 => exact u10_0); rintro e w25 ⟨rfl, hi, hb, hk⟩; refine ⟨_, rfl, ?_⟩; have n0_ := Aside0.mk (KeepBut.trans u10_2 hk (.inl rfl)); have n1_ := Aside0.mk (hb); have n2_ := Aside0.mk (hi); clear HK; clear HB; clear HI0; have HK := n0_; have HB := n1_; have HI0 := n2_; clear n0_ n1_ n2_; (try clear hb); (try clear hb2); (try clear hk); (try clear hi)))
    go_ret
    exact ⟨by first | rfl | (simp [errW_none, errW_some] <;> rfl) | (simp only [← hji22, ← hji24]; first | rfl | (simp [errW_none, errW_some] <;> rfl)) | (simp [*, errW_none, errW_some] <;> rfl), u10_1, u10_0, u10_2⟩

/-! ### spec_l10DrawAmount: function 73 -/
def spec_l10DrawAmount.f (k : Nat) (s0_0 : List Int) (s0_1 : Int) (s0_2 : Int) : Option (Int × Int × Int) := (spec_l01Once.f s0_0 s0_1 s0_2 5).bind fun bt380 => (if bt380.1 = true then ((spec_l01Big.f k s0_0 bt380.2.1 bt380.2.2).bind fun bt383 => (some (bt383.1, bt383.2.1, bt383.2.2))) else ((spec_l01Below.f s0_0 bt380.2.1 bt380.2.2 60).bind fun bt386 => (some (IntKind.u64.wrap (bt386.1), bt386.2.1, bt386.2.2))))
theorem spec_l10DrawAmount.mono : ∀ a0 a1 a2 k, LeO (spec_l10DrawAmount.f k a0 a1 a2) (spec_l10DrawAmount.f (k + 1) a0 a1 a2) := by
  intro a0 a1 a2 k
  unfold spec_l10DrawAmount.f
  repeat' first
      | (with_reducible exact spec_l01Big.mono _ _ _ _)
      | (with_reducible exact LeO.refl _)
      | (with_reducible exact LeO.none _)
      | (with_reducible refine LeO.ite ?_ ?_)
      | (with_reducible refine LeO.bind ?_ (fun _ => ?_))
      | exact spec_l01Big.mono _ _ _ _
      | exact LeO.none _
      | refine LeO.ite ?_ ?_
      | refine LeO.bind ?_ (fun _ => ?_)
set_option maxHeartbeats 8000000 in
set_option maxRecDepth 100000 in
theorem spec_l10DrawAmount.calls (k : Nat) (g : Nat) (s0_0 : List Int) (s0_1 : Int) (s0_2 : Int) (r1 : Int) (r2 : Int) (r3 : Int) (w0 w : World) (hI : IsS83 w0 w g s0_0 s0_1 s0_2) (hB : Below w0.heap.size w0 w) (h : spec_l10DrawAmount.f k s0_0 s0_1 s0_2 = some (r1, r2, r3)) :
    Calls Try.prog 73 #[.pointer (some ⟨g, 0, none⟩)] w fun e w' => e = .returned (.int .u64 r1) ∧ IsS83 w0 w' g s0_0 r2 r3 ∧ Below w0.heap.size w0 w' ∧ KeepBut w w' g none := by
  have HI0 := Aside0.mk hI
  have HK := Aside0.mk (KeepBut.refl w g none)
  have HL := Aside0.mk hB.size
  clear hI
  have HW0 := Aside0.mk hB.size
  have HB := Aside0.mk hB
  clear hB
  have H : ((spec_l01Once.f s0_0 s0_1 s0_2 5).bind fun bt380 => (if bt380.1 = true then ((spec_l01Big.f k s0_0 bt380.2.1 bt380.2.2).bind fun bt383 => (some (bt383.1, bt383.2.1, bt383.2.2))) else ((spec_l01Below.f s0_0 bt380.2.1 bt380.2.2 60).bind fun bt386 => (some (IntKind.u64.wrap (bt386.1), bt386.2.1, bt386.2.2))))) = some (r1, r2, r3) := h
  clear h
  replace H := Option.bind_eq_some_iff.mp H
  obtain ⟨⟨t380, t381, t382⟩, A20, H⟩ := H
  (try dsimp only at H)
  have A2 := Aside0.mk A20
  clear A20
  have H9 := Aside0.mk H
  clear H
  go_enter Try.func73, Try.ntmps73
  go_upto_if 4 with (first | ((with_reducible refine gate_callee (f := 82) rfl ?_); refine goesL_ (some 4) rfl rfl Try.func82 (by kernel_rfl) rfl #[.pointer (some ⟨g, 0, none⟩), .int .i64 5] rfl u10_3 ?_; (with_reducible refine (spec_l01Once.calls g s0_0 s0_1 s0_2 5 t380 t381 t382 w0 _ ?side1 ?side2 A2.out).mono ?_); (case side1 => exact u10_1); (case side2 => exact u10_0); rintro e w3 ⟨rfl, hi, hb, hk⟩; refine ⟨_, rfl, ?_⟩; have n0_ := Aside0.mk (KeepBut.trans u10_2 hk (.inl rfl)); have n1_ := Aside0.mk (hb); have n2_ := Aside0.mk (hi); clear HK; clear HB; clear HI0; have HK := n0_; have HB := n1_; have HI0 := n2_; clear n0_ n1_ n2_; (try clear hb); (try clear hb2); (try clear hk); (try clear hi)))
  have H := H9.out
  clear H9
  by_cases c4 : t380 = true
  · subst c4
    rw [if_pos rfl] at H
    replace H := Option.bind_eq_some_iff.mp H
    obtain ⟨⟨t383, t384, t385⟩, A50, H⟩ := H
    replace H : (some (t383, t384, t385)) = some (r1, r2, r3) := H
    have A5 := Aside0.mk A50
    clear A50
    simp only [Option.some.injEq, Prod.mk.injEq] at H
    obtain ⟨rfl, rfl, rfl⟩ := H
    go_wp2_with (first | ((with_reducible refine gate_callee (f := 83) rfl ?_); refine goesL_ (some 6) rfl rfl Try.func83 (by kernel_rfl) rfl #[.pointer (some ⟨g, 0, none⟩)] rfl u10_3 ?_; (with_reducible refine (spec_l01Big.calls k g s0_0 t381 t382 t383 t384 t385 w0 _ ?side1 ?side2 A5.out).mono ?_); (case side1 => exact u10_1); (case side2 => exact u10_0); rintro e w6 ⟨rfl, hi, hb, hk⟩; refine ⟨_, rfl, ?_⟩; have n0_ := Aside0.mk (KeepBut.trans u10_2 hk (.inl rfl)); have n1_ := Aside0.mk (hb); have n2_ := Aside0.mk (hi); clear HK; clear HB; clear HI0; have HK := n0_; have HB := n1_; have HI0 := n2_; clear n0_ n1_ n2_; (try clear hb); (try clear hb2); (try clear hk); (try clear hi)))
    go_ret
    exact ⟨by first | rfl | (simp [errW_none, errW_some] <;> rfl) | (simp [*, errW_none, errW_some] <;> rfl), u10_1, u10_0, u10_2⟩
  replace c4 := Bool.eq_false_iff.mpr c4
  subst c4
  rw [if_neg (show ¬ (false = true) by decide)] at H
  replace H := Option.bind_eq_some_iff.mp H
  obtain ⟨⟨t386, t387, t388⟩, A70, H⟩ := H
  replace H : (some (IntKind.u64.wrap (t386), t387, t388)) = some (r1, r2, r3) := H
  have A7 := Aside0.mk A70
  clear A70
  simp only [Option.some.injEq, Prod.mk.injEq] at H
  obtain ⟨rfl, rfl, rfl⟩ := H
  go_wp2_with (first | ((with_reducible refine gate_callee (f := 74) rfl ?_); refine goesL_ (some 8) rfl rfl Try.func74 (by kernel_rfl) rfl #[.pointer (some ⟨g, 0, none⟩), .int .i64 60] rfl u10_3 ?_; (with_reducible refine (spec_l01Below.calls g s0_0 t381 t382 60 t386 t387 t388 w0 _ ?side1 ?side2 A7.out).mono ?_); (case side1 => exact u10_1); (case side2 => exact u10_0); rintro e w8 ⟨rfl, hi, hb, hk⟩; refine ⟨_, rfl, ?_⟩; have n0_ := Aside0.mk (KeepBut.trans u10_2 hk (.inl rfl)); have n1_ := Aside0.mk (hb); have n2_ := Aside0.mk (hi); clear HK; clear HB; clear HI0; have HK := n0_; have HB := n1_; have HI0 := n2_; clear n0_ n1_ n2_; (try clear hb); (try clear hb2); (try clear hk); (try clear hi)))
  go_ret
  exact ⟨by first | rfl | (simp [errW_none, errW_some] <;> rfl) | (simp [*, errW_none, errW_some] <;> rfl), u10_1, u10_0, u10_2⟩

/-! ### spec_l01Size: function 81 -/
def spec_l01Size.f (l0 : List Int) (a1 : Int) : Option (Int) := if (wrap64 (2 + (wrap64 ((l0.length : Int) / 16)))) > a1 then (some a1) else (some (wrap64 (2 + (wrap64 ((l0.length : Int) / 16)))))
set_option maxHeartbeats 8000000 in
set_option maxRecDepth 100000 in
theorem spec_l01Size.calls (A0 : Option Addr) (c0 : Nat) (l0 : List Int) (a1 : Int) (r : Int) (w : World) (hr0 : Kd.C (Kd.int .u8) w A0 l0.length l0) (hc0 : l0.length ≤ c0) (h : spec_l01Size.f l0 a1 = some r) :
    Calls Try.prog 81 #[.slice A0 l0.length c0, .int .i64 a1] w fun e w' => e = .returned (.int .i64 r) ∧ Drawn0 w w' := by
  have HR0 := Aside0.mk hr0
  have HC0 := Aside0.mk hc0
  clear hr0 hc0
  have H : (if (wrap64 (2 + (wrap64 ((l0.length : Int) / 16)))) > a1 then (some a1) else (some (wrap64 (2 + (wrap64 ((l0.length : Int) / 16)))))) = some r := h
  clear h
  by_cases c3 : (wrap64 (2 + (wrap64 ((l0.length : Int) / 16)))) > a1
  · rw [if_pos c3] at H
    have c3b0 : decide (a1 < (wrap64 (2 + (wrap64 ((l0.length : Int) / 16))))) = true := decide_eq_true c3
    clear c3
    obtain rfl := Option.some.inj H
    go_enter Try.func81, Try.ntmps81
    go_wp2
    go_ret
    exact ⟨by first | rfl | (simp; done) | (simp [*]; done), (by repeat (first | exact Drawn0.refl _ | apply Drawn0.step))⟩
  rw [if_neg c3] at H
  have c3b0 : decide (a1 < (wrap64 (2 + (wrap64 ((l0.length : Int) / 16))))) = false := decide_eq_false c3
  clear c3
  obtain rfl := Option.some.inj H
  go_enter Try.func81, Try.ntmps81
  go_wp2
  go_ret
  exact ⟨by first | rfl | (simp; done) | (simp [*]; done), (by repeat (first | exact Drawn0.refl _ | apply Drawn0.step))⟩

end Go.Proofs.Ytdbfjakhkclggaa.QFnHolds
