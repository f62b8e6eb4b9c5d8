-- Printed by the session's own program wip/prx.py.
import Derived.Test.YtoemdmjdpikfbaaQFnCommitsx0
import Derived.Test.YtoemdmjdpikfbaaQFnCommitsx1
import Derived.Test.YtoemdmjdpikfbaaQFnCommitsx7
import Derived.Test.YtoemdmjdpikfbaaQFnCommitsx9
import Derived.Test.YtoemdmjdpikfbaaQFnCommitsx10
import Derived.Test.YtoemdmjdpikfbaaQFnCommitsx11
namespace Go.Proofs.Ytoemdmjdpikfbaa.QFnCommits
open Go.RowKit Go.Proofs.YtoemdmjdpikfbaaW.PrintWords Go.Proofs.YtoemdmjdpikfbaaW.PrintLast Go.Proofs.YtoemdmjdpikfbaaW.PrintMore
attribute [local go_sem] max2_int min2_int max_two min_two max_three min_three max_four min_four Go.Proofs.Ytoemdmjdpikfbaa.Set.isSome_setCell   -- for this text's walks alone
set_option linter.unusedVariables false
set_option linter.unusedSimpArgs false

-- squeezed
theorem u12_0 {P : Prop} (h : P := by repeat (first | (with_reducible first | exact HB.out | apply below_alloc | apply pw_below_drewN | apply below_drew1 | refine below_set ?_ GE519.out) | exact HB.out)) : P := h
theorem u12_1 {P : Prop} (h : P := by (with_reducible repeat (first | apply Kd.R_alloc | apply Kd.R_drewN | apply Kd.R_drew)); exact HO_5.out) : P := h
theorem u12_2 {P : Prop} (h : P := by (with_reducible repeat (first | refine blk_drewN ?_ _ | refine blk_drew ?_ | refine blk_alloc ?_ _)); exact BK519.out) : P := h
theorem u12_3 {P : Prop} (h : P := by (with_reducible repeat (first | apply Kd.R_alloc | apply Kd.R_drewN | apply Kd.R_drew)); exact HO_520000.out) : P := h
theorem u12_4 {P : Prop} (h : P := by (with_reducible repeat (first | apply Kd.R_alloc | apply Kd.R_drewN | apply Kd.R_drew)); exact HO_520001.out) : P := h
theorem u12_5 {P : Prop} (h : P := by (with_reducible repeat (first | apply Kd.R_alloc | apply Kd.R_drewN | apply Kd.R_drew)); exact HO_520002.out) : P := h
theorem u12_6 {P : Prop} (h : P := by (try simp only [List.map_toArray, List.map_cons, List.map_nil]); first | done | rfl | (simp only [List.length_drop, List.length_take]; rfl)) : P := h
theorem u12_7 {P : Prop} (h : P := by repeat (first | (with_reducible first | exact HB.out | apply below_alloc | apply pw_below_drewN | apply below_drew1) | exact HB.out)) : P := h
theorem u12_8 {P : Prop} (h : P := by repeat (first | exact (Kd.R_reads' HO_520000.out).2.2 | (with_reducible refine Kd.C_alloc ?_ _) | (with_reducible refine Kd.C_drewN ?_ _) | (with_reducible refine Kd.C_drew ?_))) : P := h
theorem u12_9 {P : Prop} (h : P := by repeat (first | exact (Kd.R_reads' HO_520001.out).2.2 | (with_reducible refine Kd.C_alloc ?_ _) | (with_reducible refine Kd.C_drewN ?_ _) | (with_reducible refine Kd.C_drew ?_))) : P := h
theorem u12_10 {P : Prop} (h : P := by repeat (first | exact (Kd.R_reads' HO_520002.out).2.2 | (with_reducible refine Kd.C_alloc ?_ _) | (with_reducible refine Kd.C_drewN ?_ _) | (with_reducible refine Kd.C_drew ?_))) : P := h
theorem u12_11 {P : Prop} (h : P := by repeat (first | exact (Kd.C_below HR0.out HB.out) | (with_reducible refine Kd.C_alloc ?_ _) | (with_reducible refine Kd.C_drewN ?_ _) | (with_reducible refine Kd.C_drew ?_))) : P := h
theorem u12_12 {P : Prop} (h : P := by first | rfl | (simp; done) | (simp [*]; done)) : P := h
theorem u12_13 {P : Prop} (h : P := by (with_reducible repeat (first | apply Kd.R_alloc | apply Kd.R_drewN | apply Kd.R_drew)); exact HO543.out) : P := h
theorem u12_14 {P : Prop} (h : P := by (with_reducible repeat (first | apply Kd.R_alloc | apply Kd.R_drewN | apply Kd.R_drew)); exact HO548.out) : P := h
theorem u12_15 {P : Prop} (h : P := by (with_reducible repeat (first | apply Kd.R_alloc | apply Kd.R_drewN | apply Kd.R_drew)); exact HO_9.out) : P := h
theorem u12_16 {P : Prop} (h : P := by (with_reducible repeat (first | apply Kd.R_alloc | apply Kd.R_drewN | apply Kd.R_drew)); exact HO540.out) : P := h
theorem u12_17 {P : Prop} (h : P := by repeat (first | exact (Kd.R_reads' HO_5.out).2.2 | (with_reducible refine Kd.C_alloc ?_ _) | (with_reducible refine Kd.C_drewN ?_ _) | (with_reducible refine Kd.C_drew ?_))) : P := h
theorem u12_18 {P : Prop} (h : P := by have := HK1.out; have := HK2.out; have := HK3.out; omega) : P := h
theorem u12_19 {P : Prop} (h : P := by (with_reducible repeat (first | apply Kd.R_alloc | apply Kd.R_drewN | apply Kd.R_drew)); exact Kd.R_mono HO_520000.out (fun _ hk => ⟨hk.2, ⟨hk.1.1, hk.1.2⟩⟩)) : P := h
theorem u12_20 {P : Prop} (h : P := by (with_reducible repeat (first | apply Kd.R_alloc | apply Kd.R_drewN | apply Kd.R_drew)); exact Kd.R_mono HO_520001.out (fun _ hk => ⟨hk.2, ⟨hk.1.1, hk.1.2⟩⟩)) : P := h
theorem u12_21 {P : Prop} (h : P := by (with_reducible repeat (first | apply Kd.R_alloc | apply Kd.R_drewN | apply Kd.R_drew)); exact Kd.R_mono HO_520002.out (fun _ hk => ⟨hk.2, ⟨hk.1.1, hk.1.2⟩⟩)) : P := h
theorem u12_22 {P : Prop} (h : P := by (with_reducible repeat (first | apply Kd.R_alloc | apply Kd.R_drewN | apply Kd.R_drew)); exact Kd.R_mono HO_520000.out (fun _ hk => ⟨hk.2.1, hk.2.2⟩)) : P := h
theorem u12_23 {P : Prop} (h : P := by (with_reducible repeat (first | apply Kd.R_alloc | apply Kd.R_drewN | apply Kd.R_drew)); exact Kd.R_mono HO_520001.out (fun _ hk => ⟨hk.2.1, hk.2.2⟩)) : P := h
theorem u12_24 {P : Prop} (h : P := by (with_reducible repeat (first | apply Kd.R_alloc | apply Kd.R_drewN | apply Kd.R_drew)); exact Kd.R_mono HO_520002.out (fun _ hk => ⟨hk.2.1, hk.2.2⟩)) : P := h
theorem u12_25 {P : Prop} (h : P := by first | (with_reducible assumption) | assumption) : P := h
/-! ### laws_FnCommits: function 7 -/
mutual
def laws_FnCommits.l0 : Nat → List Int → List (S60) → Int → List Int → List Int → List Int → Option (Bool)
  | 0, _, _, _, _, _, _ => none
  | k + 1, x0, x5, x6, x520000, x520001, x520002 => if x6 < 10 then ((laws_at.f x0 x6).bind fun t523 => (if (Int.tmod t523 4) > 0 then ((laws_at.f x0 (wrap64 (x6 + 10))).bind fun t524 => (if x5.length < 8796093022208 then (laws_FnCommits.l0 k x0 (x5 ++ [(⟨x6, Int.tmod t524 9⟩ : S60)]) (wrap64 (x6 + 1)) x520000 x520001 x520002) else (none))) else (laws_FnCommits.l0 k x0 x5 (wrap64 (x6 + 1)) x520000 x520001 x520002))) else ((impl_CommitOf.f k x520000 x520001 x520002 x5).bind fun t528 => (laws_FnCommits.l1 k x0 x5 t528 t528 x520000 x520001 x520002))
def laws_FnCommits.l1 : Nat → List Int → List (S60) → Int → Int → List Int → List Int → List Int → Option (Bool)
  | 0, _, _, _, _, _, _, _ => none
  | k + 1, x0, x5, x7, x8, x520000, x520001, x520002 => if x8 ≤ (wrap64 (x7 + 1)) then (laws_FnCommits.l2 k x0 x5 x7 x8 (([] : List Int)) 0 x520000 x520001 x520002) else ((some (([] : List (S60)) : List (S60))).bind fun y538 => (if y538.length + x5.length < 8796093022208 then ((some (y538 ++ x5 : List (S60))).bind fun y541 => ((laws_at.f x0 30).bind fun t544 => ((laws_at.f x0 31).bind fun t545 => (if y541.length < 8796093022208 then ((spec_CommitOf.f k x520000 x520001 x520002 x5).bind fun t549 => (if x7 = t549 then ((impl_CommitOf.f k x520000 x520001 x520002 (y541 ++ [(⟨Int.tmod t544 10, Int.tmod t545 12⟩ : S60)])).bind fun t550 => (if t550 ≥ x7 then ((impl_Voters.f k x520000 x520001 x520002).bind fun t551 => ((impl_Quorum.f k x520000 x520001 x520002 t551).bind fun t554 => (some t554))) else (some false))) else (some false))) else (none))))) else (none)))
def laws_FnCommits.l2 : Nat → List Int → List (S60) → Int → Int → List Int → Int → List Int → List Int → List Int → Option (Bool)
  | 0, _, _, _, _, _, _, _, _, _ => none
  | k + 1, x0, x5, x7, x8, x9, x10, x520000, x520001, x520002 => if x10 < (x5.length : Int) then (if 0 ≤ x10 then (if ((rd_T60 x5 x10).f1) ≥ x8 then (if x9.length < 17592186044416 then (laws_FnCommits.l2 k x0 x5 x7 x8 (x9 ++ [(rd_T60 x5 x10).f0]) (wrap64 (x10 + 1)) x520000 x520001 x520002) else (none)) else (laws_FnCommits.l2 k x0 x5 x7 x8 x9 (wrap64 (x10 + 1)) x520000 x520001 x520002)) else (none)) else (if x8 > 0 then ((impl_Quorum.f k x520000 x520001 x520002 x9).bind fun t537 => (if (t537 != (x8 == x7)) = true then (some false) else (laws_FnCommits.l1 k x0 x5 x7 (wrap64 (x8 + 1)) x520000 x520001 x520002))) else (laws_FnCommits.l1 k x0 x5 x7 (wrap64 (x8 + 1)) x520000 x520001 x520002))
end
def laws_FnCommits.f (k : Nat) (l0 : List Int) : Option (Bool) := (laws_big.f l0).bind fun t506 => (if t506 = true then (some true) else ((spec_DrawRightConf.f k l0).bind fun bt507 => (laws_FnCommits.l0 k l0 (([] : List (S60))) 0 bt507.1 bt507.2.1 bt507.2.2.1)))
theorem laws_FnCommits.mono_l : ∀ k, (∀ y0 y1 y2 y3 y4 y5, LeO (laws_FnCommits.l0 k y0 y1 y2 y3 y4 y5) (laws_FnCommits.l0 (k + 1) y0 y1 y2 y3 y4 y5)) ∧ (∀ y0 y1 y2 y3 y4 y5 y6, LeO (laws_FnCommits.l1 k y0 y1 y2 y3 y4 y5 y6) (laws_FnCommits.l1 (k + 1) y0 y1 y2 y3 y4 y5 y6)) ∧ (∀ y0 y1 y2 y3 y4 y5 y6 y7 y8, LeO (laws_FnCommits.l2 k y0 y1 y2 y3 y4 y5 y6 y7 y8) (laws_FnCommits.l2 (k + 1) y0 y1 y2 y3 y4 y5 y6 y7 y8))
  | 0 => ⟨fun _ _ _ _ _ _ r h => by simp [laws_FnCommits.l0] at h, fun _ _ _ _ _ _ _ r h => by simp [laws_FnCommits.l1] at h, fun _ _ _ _ _ _ _ _ _ r h => by simp [laws_FnCommits.l2] at h⟩
  | k + 1 => by
    obtain ⟨ih0, ih1, ih2⟩ := laws_FnCommits.mono_l k
    refine ⟨?_, ?_, ?_⟩
    · intro y0 y1 y2 y3 y4 y5
      unfold laws_FnCommits.l0
      repeat' first
      | (with_reducible exact ih0 _ _ _ _ _ _)
      | (with_reducible exact ih1 _ _ _ _ _ _ _)
      | (with_reducible exact ih2 _ _ _ _ _ _ _ _ _)
      | (with_reducible exact impl_CommitOf.mono _ _ _ _ _)
      | (with_reducible exact impl_Quorum.mono _ _ _ _ _)
      | (with_reducible exact impl_Voters.mono _ _ _ _)
      | (with_reducible exact spec_CommitOf.mono _ _ _ _ _)
      | (with_reducible exact spec_DrawRightConf.mono _ _)
      | (with_reducible exact LeO.refl _)
      | (with_reducible exact LeO.none _)
      | (with_reducible refine LeO.ite ?_ ?_)
      | (with_reducible refine LeO.bind ?_ (fun _ => ?_))
      | exact ih0 _ _ _ _ _ _
      | exact ih1 _ _ _ _ _ _ _
      | exact ih2 _ _ _ _ _ _ _ _ _
      | exact impl_CommitOf.mono _ _ _ _ _
      | exact impl_Quorum.mono _ _ _ _ _
      | exact impl_Voters.mono _ _ _ _
      | exact spec_CommitOf.mono _ _ _ _ _
      | exact spec_DrawRightConf.mono _ _
      | exact LeO.none _
      | refine LeO.ite ?_ ?_
      | refine LeO.bind ?_ (fun _ => ?_)
    · intro y0 y1 y2 y3 y4 y5 y6
      unfold laws_FnCommits.l1
      repeat' first
      | (with_reducible exact ih0 _ _ _ _ _ _)
      | (with_reducible exact ih1 _ _ _ _ _ _ _)
      | (with_reducible exact ih2 _ _ _ _ _ _ _ _ _)
      | (with_reducible exact impl_CommitOf.mono _ _ _ _ _)
      | (with_reducible exact impl_Quorum.mono _ _ _ _ _)
      | (with_reducible exact impl_Voters.mono _ _ _ _)
      | (with_reducible exact spec_CommitOf.mono _ _ _ _ _)
      | (with_reducible exact spec_DrawRightConf.mono _ _)
      | (with_reducible exact LeO.refl _)
      | (with_reducible exact LeO.none _)
      | (with_reducible refine LeO.ite ?_ ?_)
      | (with_reducible refine LeO.bind ?_ (fun _ => ?_))
      | exact ih0 _ _ _ _ _ _
      | exact ih1 _ _ _ _ _ _ _
      | exact ih2 _ _ _ _ _ _ _ _ _
      | exact impl_CommitOf.mono _ _ _ _ _
      | exact impl_Quorum.mono _ _ _ _ _
      | exact impl_Voters.mono _ _ _ _
      | exact spec_CommitOf.mono _ _ _ _ _
      | exact spec_DrawRightConf.mono _ _
      | exact LeO.none _
      | refine LeO.ite ?_ ?_
      | refine LeO.bind ?_ (fun _ => ?_)
    · intro y0 y1 y2 y3 y4 y5 y6 y7 y8
      unfold laws_FnCommits.l2
      repeat' first
      | (with_reducible exact ih0 _ _ _ _ _ _)
      | (with_reducible exact ih1 _ _ _ _ _ _ _)
      | (with_reducible exact ih2 _ _ _ _ _ _ _ _ _)
      | (with_reducible exact impl_CommitOf.mono _ _ _ _ _)
      | (with_reducible exact impl_Quorum.mono _ _ _ _ _)
      | (with_reducible exact impl_Voters.mono _ _ _ _)
      | (with_reducible exact spec_CommitOf.mono _ _ _ _ _)
      | (with_reducible exact spec_DrawRightConf.mono _ _)
      | (with_reducible exact LeO.refl _)
      | (with_reducible exact LeO.none _)
      | (with_reducible refine LeO.ite ?_ ?_)
      | (with_reducible refine LeO.bind ?_ (fun _ => ?_))
      | exact ih0 _ _ _ _ _ _
      | exact ih1 _ _ _ _ _ _ _
      | exact ih2 _ _ _ _ _ _ _ _ _
      | exact impl_CommitOf.mono _ _ _ _ _
      | exact impl_Quorum.mono _ _ _ _ _
      | exact impl_Voters.mono _ _ _ _
      | exact spec_CommitOf.mono _ _ _ _ _
      | exact spec_DrawRightConf.mono _ _
      | exact LeO.none _
      | refine LeO.ite ?_ ?_
      | refine LeO.bind ?_ (fun _ => ?_)
theorem laws_FnCommits.mono : ∀ a0 k, LeO (laws_FnCommits.f k a0) (laws_FnCommits.f (k + 1) a0) := by
  intro a0 k
  obtain ⟨ih0, ih1, ih2⟩ := laws_FnCommits.mono_l k
  unfold laws_FnCommits.f
  repeat' first
      | (with_reducible exact ih0 _ _ _ _ _ _)
      | (with_reducible exact ih1 _ _ _ _ _ _ _)
      | (with_reducible exact ih2 _ _ _ _ _ _ _ _ _)
      | (with_reducible exact impl_CommitOf.mono _ _ _ _ _)
      | (with_reducible exact impl_Quorum.mono _ _ _ _ _)
      | (with_reducible exact impl_Voters.mono _ _ _ _)
      | (with_reducible exact spec_CommitOf.mono _ _ _ _ _)
      | (with_reducible exact spec_DrawRightConf.mono _ _)
      | (with_reducible exact LeO.refl _)
      | (with_reducible exact LeO.none _)
      | (with_reducible refine LeO.ite ?_ ?_)
      | (with_reducible refine LeO.bind ?_ (fun _ => ?_))
      | exact ih0 _ _ _ _ _ _
      | exact ih1 _ _ _ _ _ _ _
      | exact ih2 _ _ _ _ _ _ _ _ _
      | exact impl_CommitOf.mono _ _ _ _ _
      | exact impl_Quorum.mono _ _ _ _ _
      | exact impl_Voters.mono _ _ _ _
      | exact spec_CommitOf.mono _ _ _ _ _
      | exact spec_DrawRightConf.mono _ _
      | exact LeO.none _
      | refine LeO.ite ?_ ?_
      | refine LeO.bind ?_ (fun _ => ?_)
def laws_FnCommits.T23 : Bool × List (List Nat × List Nat) := (true, [([], []), ([], []), ([], []), ([1, 2], [1, 2]), ([0, 3], [0, 3]), ([4, 3], [4]), ([5], [5]), ([5], [5]), ([6, 7, 5, 5], [5, 6, 7]), ([5], [5]), ([8, 9, 5], [5, 8, 9]), ([5, 10], [5, 10]), ([11, 8], [11]), ([12], [12]), ([12], [12]), ([14, 12, 12], [12, 14]), ([13, 15, 15, 12], [12, 13, 15]), ([12, 16], [12, 16]), ([17, 16, 0, 1, 2, 3, 4, 5, 6, 7, 8, 9, 10, 11, 12, 13, 14, 15, 16, 17], [17])])
def laws_FnCommits.B23 : List Nat := [0, 0, 0, 6, 15, 31, 63, 63, 255, 63, 1023, 2047, 4095, 8191, 8191, 24575, 65535, 131071, 262143]
theorem laws_FnCommits.tab23 : rtab .any (opsOf Try.f7 23) = laws_FnCommits.T23 := by kernel_rfl
theorem laws_FnCommits.bits23 : waitsOk laws_FnCommits.T23.2 laws_FnCommits.B23 = true := by kernel_rfl
set_option maxHeartbeats 8000000 in
set_option maxRecDepth 100000 in
theorem laws_FnCommits.calls (k : Nat) (A0 : Option Addr) (c0 : Nat) (l0 : List Int) (r : Bool) (w : World) (hr0 : Kd.C (Kd.int .u8) w A0 l0.length l0) (hc0 : l0.length ≤ c0) (h : laws_FnCommits.f k l0 = some r) (hr_ : Aside0 (r = true)) :
    Calls Try.prog 7 #[.slice A0 l0.length c0] w fun e w' => e = .returned (.bool r) ∧ Below w.heap.size w w' := by
  have hu26 := Try.underlying26
  have hu60 := Try.underlying60
  have HR0 := Aside0.mk hr0
  have HC0 := Aside0.mk hc0
  clear hr0 hc0
  have HB := Aside0.mk (Below.refl w.heap.size w)
  have H : ((laws_big.f l0).bind fun t506 => (if t506 = true then (some true) else ((spec_DrawRightConf.f k l0).bind fun bt507 => (laws_FnCommits.l0 k l0 (([] : List (S60))) 0 bt507.1 bt507.2.1 bt507.2.2.1)))) = some r := h
  clear h
  replace H := Option.bind_eq_some_iff.mp H
  obtain ⟨t506, A20, H⟩ := H
  have A2 := Aside0.mk A20
  clear A20
  have H9 := Aside0.mk H
  clear H
  go_enter Try.func7, Try.ntmps7
  go_upto_if 13 with (first | ((with_reducible refine gate_callee (f := 9) rfl ?_); refine goesL_ (some 13) rfl rfl Try.func9 (by kernel_rfl) rfl #[.slice A0 l0.length c0] rfl u12_6 ?_; (with_reducible refine (laws_big.calls _ _ l0 t506 _ ?side1 ?side2 A2.out).mono ?_); (case side1 => exact (by repeat (first | exact HR0.out | (with_reducible refine Kd.C_alloc ?_ _) | (with_reducible refine Kd.C_drewN ?_ _) | (with_reducible refine Kd.C_drew ?_)))); (case side2 => exact HC0.out); rintro e w' ⟨rfl, ⟨nd, rfl⟩⟩; refine ⟨_, rfl, ?_⟩))
  have H := H9.out
  clear H9
  by_cases c3 : t506 = true
  · subst c3
    rw [if_pos rfl] at H
    obtain rfl := Option.some.inj H
    go_wp2
    go_ret
    exact ⟨by first | rfl | (simp [errW_none, errW_some] <;> rfl) | (simp [*, errW_none, errW_some] <;> rfl), u12_7⟩
  replace c3 := Bool.eq_false_iff.mpr c3
  subst c3
  rw [if_neg (show ¬ (false = true) by decide)] at H
  replace H := Option.bind_eq_some_iff.mp H
  obtain ⟨⟨t507, t510, t513, t516⟩, A40, H⟩ := H
  replace H : (laws_FnCommits.l0 k l0 (([] : List (S60))) 0 t507 t510 t513) = some r := H
  have A4 := Aside0.mk A40
  clear A40
  obtain ⟨y520, hy520⟩ : ∃ y_ : List (S60), y_ = (([] : List (S60))) := ⟨_, rfl⟩
  replace H : (laws_FnCommits.l0 k l0 y520 0 t507 t510 t513) = some r := by first | (rw [hy520]; with_reducible exact H) | (have H2_ := (Option.bind_some _ _).symm.trans H; rw [hy520]; with_reducible exact H2_) | (have H2_ := (Option.bind_some _ _).symm.trans H; with_reducible exact H2_) | with_reducible exact H | (rw [hy520]; exact H) | exact H
  have Ny520 := Aside0.mk hy520
  clear hy520
  have H' := Aside0.mk H
  clear H
  go_wp2_with (first | ((with_reducible refine gate_callee (f := 10) rfl ?_); refine goesL_ (some 16) rfl rfl Try.func10 (by kernel_rfl) rfl #[.slice A0 l0.length c0] rfl u12_6 ?_; (with_reducible refine (spec_DrawRightConf.calls k _ _ l0 t507 t510 t513 t516 _ ?side1 ?side2 A4.out).mono ?_); (case side1 => exact u12_11); (case side2 => exact HC0.out); rintro e w5 ⟨v508, v511, v514, v517, rfl, ho0, ho1, ho2, ho3, hb⟩; refine ⟨_, rfl, ?_⟩; have n0_ := Aside0.mk (Kd.R_lower ho0 (below_size u12_7)); have n1_ := Aside0.mk (Kd.R_lower ho1 (below_size u12_7)); have n2_ := Aside0.mk (Kd.R_lower ho2 (below_size u12_7)); have n3_ := Aside0.mk (Kd.R_lower ho3 (below_size u12_7)); have n4_ := Aside0.mk (below_step u12_7 hb); clear HB; have HO509 := n0_; have HO512 := n1_; have HO515 := n2_; have HO518 := n3_; have HB := n4_; clear n0_ n1_ n2_ n3_ n4_; (try clear hb); (try clear hb2); (try clear hk); (try clear hi); (try clear ho0); (try clear ho1); (try clear ho2); (try clear ho3)) | ((with_reducible refine gate_dst (N := 3) rfl ?_); refine box_event ?hg (N := 3) ?hd (cs := #[.slice none 0 0, .slice none 0 0, .slice none 0 0]) (t := 26) ?hr ?_; (case hd => rfl); (case hg => rfl); (case hr => first | (go_simp; done) | (go_simp; rfl)); intro gb519 hg w6 hbox hb; have n0_ := Aside0.mk (Kd.R_below (by (with_reducible repeat (first | apply Kd.R_alloc | apply Kd.R_drewN | apply Kd.R_drew)); exact HO509.out) hb); have n1_ := Aside0.mk (Kd.R_below (by (with_reducible repeat (first | apply Kd.R_alloc | apply Kd.R_drewN | apply Kd.R_drew)); exact HO512.out) hb); have n2_ := Aside0.mk (Kd.R_below (by (with_reducible repeat (first | apply Kd.R_alloc | apply Kd.R_drewN | apply Kd.R_drew)); exact HO515.out) hb); have n3_ := Aside0.mk (Kd.R_below (by (with_reducible repeat (first | apply Kd.R_alloc | apply Kd.R_drewN | apply Kd.R_drew)); exact HO518.out) hb); have n4_ := Aside0.mk (below_step u12_7 hb); have n5_ := Aside0.mk (hbox); have n6_ := Aside0.mk ((by rw [hg]; exact (below_size u12_7) : w.heap.size ≤ gb519)); have n7_ := Aside0.mk ((by rw [hg]; exact (below_size u12_7) : w.heap.size ≤ gb519)); clear HO509; clear HO512; clear HO515; clear HO518; clear HB; have HO509 := n0_; have HO512 := n1_; have HO515 := n2_; have HO518 := n3_; have HB := n4_; have BK519 := n5_; have GW519 := n6_; have GE519 := n7_; clear n0_ n1_ n2_ n3_ n4_ n5_ n6_ n7_; clear hb hbox hg; obtain ⟨Ao7, co7, eo7⟩ := Kd.R_slice HO509.out; subst eo7; have hcz8_0 : w6.cell? ⟨gb519, 0, none⟩ = some (.slice none 0 0) := (blk_cell BK519.out 0).trans rfl; have hcz8_1 : w6.cell? ⟨gb519, 1, none⟩ = some (.slice none 0 0) := (blk_cell BK519.out 1).trans rfl; have hcz8_2 : w6.cell? ⟨gb519, 2, none⟩ = some (.slice none 0 0) := (blk_cell BK519.out 2).trans rfl; have hfz8_0 := blk_frozen BK519.out 0; have hfz8_1 := blk_frozen BK519.out 1; have hfz8_2 := blk_frozen BK519.out 2; obtain ⟨Ao9, co9, eo9⟩ := Kd.R_slice HO512.out; subst eo9; obtain ⟨Ao10, co10, eo10⟩ := Kd.R_slice HO515.out; subst eo10) | ((with_reducible refine gate_dst (N := 19) rfl ?_); refine Kd.R_lit k60 _ 60 ?hg (N := 19) ?hd (xs := ([] : List (S60))) (inner := []) (ok := fun _ => True) (okp := fun _ => True) ?hr ?hp (fun _ hk => hk) trivial (Below.refl _ _) (Nat.le_refl _) (by simp) ?_; (case hd => rfl); (case hg => rfl); (case hr => first | (go_simp; done) | (go_simp; rfl)); (case hp => exact (Reps.none _ _)); intro v521 w11 ho12 hb hg_ hnew_; clear hg_ hnew_; (first | rw [← Ny520.out] at ho12 | (simp only [Int.reduceToNat] at ho12; rw [← Ny520.out] at ho12)); have n0_ := Aside0.mk (Kd.R_below (by (with_reducible repeat (first | apply Kd.R_alloc | apply Kd.R_drewN | apply Kd.R_drew)); exact (Kd.R_mono (Kd.R_far (p := ⟨gb519, 2, none⟩) (Kd.R_far (p := ⟨gb519, 1, none⟩) (Kd.R_far (p := ⟨gb519, 0, none⟩) (Kd.R_types HO509.out BK519.out (by decide)) (fun _ hk => hk.2) (.slice Ao7 t507.length co7)) (fun _ hk => hk.2) (.slice Ao9 t510.length co9)) (fun _ hk => hk.2) (.slice Ao10 t513.length co10)) (fun _ h_ => h_.1))) hb); have n1_ := Aside0.mk (Kd.R_below (by (with_reducible repeat (first | apply Kd.R_alloc | apply Kd.R_drewN | apply Kd.R_drew)); exact (Kd.R_mono (Kd.R_far (p := ⟨gb519, 2, none⟩) (Kd.R_far (p := ⟨gb519, 1, none⟩) (Kd.R_far (p := ⟨gb519, 0, none⟩) (Kd.R_types HO512.out BK519.out (by decide)) (fun _ hk => hk.2) (.slice Ao7 t507.length co7)) (fun _ hk => hk.2) (.slice Ao9 t510.length co9)) (fun _ hk => hk.2) (.slice Ao10 t513.length co10)) (fun _ h_ => h_.1))) hb); have n2_ := Aside0.mk (Kd.R_below (by (with_reducible repeat (first | apply Kd.R_alloc | apply Kd.R_drewN | apply Kd.R_drew)); exact (Kd.R_mono (Kd.R_far (p := ⟨gb519, 2, none⟩) (Kd.R_far (p := ⟨gb519, 1, none⟩) (Kd.R_far (p := ⟨gb519, 0, none⟩) (Kd.R_types HO515.out BK519.out (by decide)) (fun _ hk => hk.2) (.slice Ao7 t507.length co7)) (fun _ hk => hk.2) (.slice Ao9 t510.length co9)) (fun _ hk => hk.2) (.slice Ao10 t513.length co10)) (fun _ h_ => h_.1))) hb); have n3_ := Aside0.mk (Kd.R_below (by (with_reducible repeat (first | apply Kd.R_alloc | apply Kd.R_drewN | apply Kd.R_drew)); exact (Kd.R_mono (Kd.R_far (p := ⟨gb519, 2, none⟩) (Kd.R_far (p := ⟨gb519, 1, none⟩) (Kd.R_far (p := ⟨gb519, 0, none⟩) (Kd.R_types HO518.out BK519.out (by decide)) (fun _ hk => hk.2) (.slice Ao7 t507.length co7)) (fun _ hk => hk.2) (.slice Ao9 t510.length co9)) (fun _ hk => hk.2) (.slice Ao10 t513.length co10)) (fun _ h_ => h_.1))) hb); have n4_ := Aside0.mk (Kd.R_lower ho12 (below_size u12_0)); have n5_ := Aside0.mk (blk_below (g := gb519) (o := .cells #[.slice Ao7 t507.length co7, .slice Ao9 t510.length co9, .slice Ao10 t513.length co10] 26 (0, 0)) (by (with_reducible repeat (first | refine blk_drewN ?_ _ | refine blk_drew ?_ | refine blk_alloc ?_ _)); refine blk_put (cs := #[.slice Ao7 t507.length co7, .slice Ao9 t510.length co9, .slice none 0 0]) ?_ 2 _ rfl; (with_reducible repeat (first | refine blk_drewN ?_ _ | refine blk_drew ?_ | refine blk_alloc ?_ _)); refine blk_put (cs := #[.slice Ao7 t507.length co7, .slice none 0 0, .slice none 0 0]) ?_ 1 _ rfl; (with_reducible repeat (first | refine blk_drewN ?_ _ | refine blk_drew ?_ | refine blk_alloc ?_ _)); refine blk_put (cs := #[.slice none 0 0, .slice none 0 0, .slice none 0 0]) ?_ 0 _ rfl; (with_reducible repeat (first | refine blk_drewN ?_ _ | refine blk_drew ?_ | refine blk_alloc ?_ _)); exact BK519.out) hb); have n6_ := Aside0.mk (below_step u12_0 hb); clear HO509; clear HO512; clear HO515; clear HO518; clear BK519; clear HB; have HO509 := n0_; have HO512 := n1_; have HO515 := n2_; have HO518 := n3_; have HO522 := n4_; have BK519 := n5_; have HB := n6_; clear n0_ n1_ n2_ n3_ n4_ n5_ n6_; clear hb ho12))
  go_loopg [5, 6] k (fun kq v5 v6 w' => ∃ (x5_1 : List (S60)) (x6_1 : Int), v6 = .int .i64 x6_1 ∧ Aside0 (laws_FnCommits.l0 kq l0 x5_1 x6_1 t507 t510 t513 = some r) ∧ Aside0 (kq ≤ k) ∧ Aside0 (Kd.R k60 60 w' w.heap.size (fun _ => True) v5 x5_1) ∧ Aside0 (Kd.R (Kd.int .i64) 3 w' w.heap.size (fun k_ => some k_ ≠ ((.slice Ao9 t510.length co9) : Value).ownBlock ∧ some k_ ≠ ((.slice Ao10 t513.length co10) : Value).ownBlock) (.slice Ao7 t507.length co7) t507) ∧ Aside0 (Kd.R (Kd.int .i64) 3 w' w.heap.size (fun k_ => some k_ ≠ ((.slice Ao7 t507.length co7) : Value).ownBlock ∧ some k_ ≠ ((.slice Ao10 t513.length co10) : Value).ownBlock) (.slice Ao9 t510.length co9) t510) ∧ Aside0 (Kd.R (Kd.int .i64) 3 w' w.heap.size (fun k_ => some k_ ≠ ((.slice Ao7 t507.length co7) : Value).ownBlock ∧ some k_ ≠ ((.slice Ao9 t510.length co9) : Value).ownBlock) (.slice Ao10 t513.length co10) t513) ∧ Aside0 (w'.heap[gb519]? = some (.cells #[(.slice Ao7 t507.length co7), (.slice Ao9 t510.length co9), (.slice Ao10 t513.length co10)] 26 (0, 0))) ∧ Aside0 (Below w.heap.size w w'))
  case atStart => exact ⟨(y520), (0), u12_12, H', ⟨Nat.le_refl _⟩, ⟨(by (with_reducible repeat (first | apply Kd.R_alloc | apply Kd.R_drewN | apply Kd.R_drew)); exact HO522.out)⟩, ⟨(by (with_reducible repeat (first | apply Kd.R_alloc | apply Kd.R_drewN | apply Kd.R_drew)); exact Kd.R_mono HO509.out (fun _ hk => ⟨hk.1, hk.2.1⟩))⟩, ⟨(by (with_reducible repeat (first | apply Kd.R_alloc | apply Kd.R_drewN | apply Kd.R_drew)); exact Kd.R_mono HO512.out (fun _ hk => ⟨hk.1, hk.2.1⟩))⟩, ⟨(by (with_reducible repeat (first | apply Kd.R_alloc | apply Kd.R_drewN | apply Kd.R_drew)); exact Kd.R_mono HO515.out (fun _ hk => ⟨hk.1, hk.2.1⟩))⟩, ⟨u12_2⟩, ⟨u12_0⟩⟩
  clear H'
  try clear c1
  try clear p2
  try clear c3
  try clear c7
  try clear c9
  try clear c10
  try clear hcz8_0
  try clear hcz8_1
  try clear hcz8_2
  try clear hfz8_0
  try clear hfz8_1
  try clear hfz8_2
  obtain ⟨x5_1, x6_1, rfl, HA, HK1, HO_5, HO_520000, HO_520001, HO_520002, BK519, HB⟩ := hrel
  cases gk with
  | zero => exact absurd HA.out (by simp [laws_FnCommits.l0])
  | succ k1 =>
    have H := HA.out
    clear HA
    simp only [laws_FnCommits.l0] at H
    by_cases c13 : x6_1 < 10
    · rw [if_pos c13] at H
      have c13b0 : decide (x6_1 < 10) = true := decide_eq_true c13
      clear c13
      (first | rw [c13b0] | (simp only [i64_w, i32_w]; rw [c13b0]) | skip)
      replace H := Option.bind_eq_some_iff.mp H
      obtain ⟨t523, A140, H⟩ := H
      have A14 := Aside0.mk A140
      clear A140
      have H9 := Aside0.mk H
      clear H
      go_upto_if 28 with (first | ((with_reducible refine gate_callee (f := 16) rfl ?_); refine goesL_ (some 26) rfl rfl Try.func16 (by kernel_rfl) rfl #[.slice A0 l0.length c0, .int .i64 x6_1] rfl u12_6 ?_; (with_reducible refine (laws_at.calls _ _ l0 x6_1 t523 _ ?side1 ?side2 A14.out).mono ?_); (case side1 => exact u12_11); (case side2 => exact HC0.out); rintro e w' ⟨rfl, ⟨nd, rfl⟩⟩; refine ⟨_, rfl, ?_⟩))
      have H := H9.out
      clear H9
      by_cases c15 : (Int.tmod t523 4) > 0
      rotate_left
      · rw [if_neg c15] at H
        have c15b0 : decide (0 < (Int.tmod t523 4)) = false := decide_eq_false c15
        clear c15
        (first | rw [c15b0] | (simp only [i64_w, i32_w]; rw [c15b0]) | skip)
        have H' := Aside0.mk H
        clear H
        go_wp2
        go_roundg k1
        case measure => have := HK1.out; omega
        case rel => exact ⟨(x5_1), (wrap64 (x6_1 + 1)), u12_12, H', ⟨by have := HK1.out; omega⟩, ⟨u12_1⟩, ⟨u12_3⟩, ⟨u12_4⟩, ⟨u12_5⟩, ⟨u12_2⟩, ⟨u12_0⟩⟩
      rw [if_pos c15] at H
      have c15b0 : decide (0 < (Int.tmod t523 4)) = true := decide_eq_true c15
      clear c15
      (first | rw [c15b0] | (simp only [i64_w, i32_w]; rw [c15b0]) | skip)
      replace H := Option.bind_eq_some_iff.mp H
      obtain ⟨t524, A160, H⟩ := H
      have A16 := Aside0.mk A160
      clear A160
      by_cases c17 : x5_1.length < 8796093022208
      rotate_left
      · rw [if_neg c17] at H
        exact absurd H (by simp)
      rw [if_pos c17] at H
      have LMc17 := Aside0.mk c17
      clear c17
      obtain ⟨y525, hy525⟩ : ∃ y_ : List (S60), y_ = (x5_1 ++ [(⟨x6_1, Int.tmod t524 9⟩ : S60)]) := ⟨_, rfl⟩
      replace H : (laws_FnCommits.l0 k1 l0 y525 (wrap64 (x6_1 + 1)) t507 t510 t513) = some r := by first | (rw [hy525]; with_reducible exact H) | (have H2_ := (Option.bind_some _ _).symm.trans H; rw [hy525]; with_reducible exact H2_) | (have H2_ := (Option.bind_some _ _).symm.trans H; with_reducible exact H2_) | with_reducible exact H | (rw [hy525]; exact H) | exact H
      have Ny525 := Aside0.mk hy525
      clear hy525
      have H' := Aside0.mk H
      clear H
      go_wp2_with (first | ((with_reducible refine gate_callee (f := 16) rfl ?_); refine goesL_ (some 34) rfl rfl Try.func16 (by kernel_rfl) rfl #[.slice A0 l0.length c0, .int .i64 (wrap64 (x6_1 + 10))] rfl u12_6 ?_; (with_reducible refine (laws_at.calls _ _ l0 (wrap64 (x6_1 + 10)) t524 _ ?side1 ?side2 A16.out).mono ?_); (case side1 => exact u12_11); (case side2 => exact HC0.out); rintro e w' ⟨rfl, ⟨nd, rfl⟩⟩; refine ⟨_, rfl, ?_⟩) | ((with_reducible refine gate_builtin (b := .append) (xs := #[.tmp 29, .tmp 37]) rfl ?_); at_builtin; refine Kd.R_append k60 (w0 := w) w.heap.size rfl (.tmp 29) (.tmp 37) 58 60 (.agg #[(.int .i64 0), (.int .i64 0)]) 16 rfl Try.underlying58 info60 rfl (by decide) (by omega) u5 x5_1 (⟨x6_1, Int.tmod t524 9⟩ : S60) [.int .i64 x6_1, .int .i64 (Int.tmod t524 9)] (fun _ => True) (fun _ => False) rfl rfl ?aP (fun _ hk => hk.elim) ?aF ?aO ?aB ?aS ?aL ?_; (case aP => exact k60_mkM _ _ _ (⟨x6_1, Int.tmod t524 9⟩ : S60)); (case aB => exact u12_0); (case aF => exact (fun _ _ => trivial)); (case aO => exact u12_1); (case aS => exact (below_size u12_0)); (case aL => have := LMc17.out; omega); intro v526 w18 ho hb hg hat; rw [← Ny525.out] at ho; have n0_ := Aside0.mk (Kd.R_over' u12_3 (Kd.R_typed u12_1) (by decide) hg); have n1_ := Aside0.mk (Kd.R_over' u12_4 (Kd.R_typed u12_1) (by decide) hg); have n2_ := Aside0.mk (Kd.R_over' u12_5 (Kd.R_typed u12_1) (by decide) hg); have n3_ := Aside0.mk (blk_grown (g := gb519) (o := .cells #[.slice Ao7 t507.length co7, .slice Ao9 t510.length co9, .slice Ao10 t513.length co10] 26 (0, 0)) u12_2 hg (Kd.R_ne HO_5.out BK519.out (by decide))); have n4_ := Aside0.mk (hb); have n5_ := Aside0.mk (ho); clear HO_520000; clear HO_520001; clear HO_520002; clear BK519; clear HB; clear HO_5; have HO_520000 := n0_; have HO_520001 := n1_; have HO_520002 := n2_; have BK519 := n3_; have HB := n4_; have HO527 := n5_; clear n0_ n1_ n2_ n3_ n4_ n5_; clear ho hb hg hat))
      go_roundg k1
      case measure => have := HK1.out; omega
      case rel => exact ⟨(y525), (wrap64 (x6_1 + 1)), u12_12, H', ⟨by have := HK1.out; omega⟩, ⟨(by (with_reducible repeat (first | apply Kd.R_alloc | apply Kd.R_drewN | apply Kd.R_drew)); exact HO527.out)⟩, ⟨u12_3⟩, ⟨u12_4⟩, ⟨u12_5⟩, ⟨u12_2⟩, ⟨u12_0⟩⟩
    rw [if_neg c13] at H
    have c13b0 : decide (x6_1 < 10) = false := decide_eq_false c13
    clear c13
    (first | rw [c13b0] | (simp only [i64_w, i32_w]; rw [c13b0]) | skip)
    replace H := Option.bind_eq_some_iff.mp H
    obtain ⟨t528, A190, H⟩ := H
    replace H : (laws_FnCommits.l1 k1 l0 x5_1 t528 t528 t507 t510 t513) = some r := H
    have A19 := Aside0.mk A190
    clear A190
    have H' := Aside0.mk H
    clear H
    have hcz20_0 : wr.cell? ⟨gb519, 0, none⟩ = some (.slice Ao7 t507.length co7) := (blk_cell BK519.out 0).trans rfl
    have hcz20_1 : wr.cell? ⟨gb519, 1, none⟩ = some (.slice Ao9 t510.length co9) := (blk_cell BK519.out 1).trans rfl
    have hcz20_2 : wr.cell? ⟨gb519, 2, none⟩ = some (.slice Ao10 t513.length co10) := (blk_cell BK519.out 2).trans rfl
    have hfz20_0 := blk_frozen BK519.out 0
    have hfz20_1 := blk_frozen BK519.out 1
    have hfz20_2 := blk_frozen BK519.out 2
    obtain ⟨Ao21, co21, eo21⟩ := Kd.R_slice HO_5.out
    subst eo21
    go_wp2_with (first | ((with_reducible refine gate_callee (f := 39) rfl ?_); refine goesL_ (some 41) rfl rfl Try.func39 (by kernel_rfl) rfl #[.agg #[.slice Ao7 t507.length co7, .slice Ao9 t510.length co9, .slice Ao10 t513.length co10], .slice Ao21 x5_1.length co21] rfl u12_6 ?_; (with_reducible refine (impl_CommitOf.calls k1 _ _ t507 _ _ t510 _ _ t513 _ _ x5_1 t528 _ ?side1 ?side2 ?side3 ?side4 ?side5 ?side6 ?side7 ?side8 A19.out).mono ?_); (case side1 => exact u12_8); (case side2 => exact (Kd.R_reads' HO_520000.out).2.1); (case side3 => exact u12_9); (case side4 => exact (Kd.R_reads' HO_520001.out).2.1); (case side5 => exact u12_10); (case side6 => exact (Kd.R_reads' HO_520002.out).2.1); (case side7 => exact u12_17); (case side8 => exact (Kd.R_reads' HO_5.out).2.1); rintro e w22 ⟨rfl, hb⟩; refine ⟨_, rfl, ?_⟩; have n0_ := Aside0.mk (Kd.R_below u12_1 hb); have n1_ := Aside0.mk (Kd.R_below u12_3 hb); have n2_ := Aside0.mk (Kd.R_below u12_4 hb); have n3_ := Aside0.mk (Kd.R_below u12_5 hb); have n4_ := Aside0.mk (blk_below (g := gb519) (o := .cells #[.slice Ao7 t507.length co7, .slice Ao9 t510.length co9, .slice Ao10 t513.length co10] 26 (0, 0)) u12_2 hb); have n5_ := Aside0.mk (below_step u12_0 hb); clear HO_5; clear HO_520000; clear HO_520001; clear HO_520002; clear BK519; clear HB; have HO_5 := n0_; have HO_520000 := n1_; have HO_520001 := n2_; have HO_520002 := n3_; have BK519 := n4_; have HB := n5_; clear n0_ n1_ n2_ n3_ n4_ n5_; (try clear hb); (try clear hb2); (try clear hk); (try clear hi)))
    go_loopg [8] k1 (fun kq v8 w' => ∃ (x8_2 : Int), v8 = .int .i64 x8_2 ∧ Aside0 (laws_FnCommits.l1 kq l0 x5_1 t528 x8_2 t507 t510 t513 = some r) ∧ Aside0 (kq ≤ k1) ∧ Aside0 (Kd.R k60 60 w' w.heap.size (fun _ => True) (.slice Ao21 x5_1.length co21) x5_1) ∧ Aside0 (Kd.R (Kd.int .i64) 3 w' w.heap.size (fun k_ => some k_ ≠ ((.slice Ao9 t510.length co9) : Value).ownBlock ∧ some k_ ≠ ((.slice Ao10 t513.length co10) : Value).ownBlock) (.slice Ao7 t507.length co7) t507) ∧ Aside0 (Kd.R (Kd.int .i64) 3 w' w.heap.size (fun k_ => some k_ ≠ ((.slice Ao7 t507.length co7) : Value).ownBlock ∧ some k_ ≠ ((.slice Ao10 t513.length co10) : Value).ownBlock) (.slice Ao9 t510.length co9) t510) ∧ Aside0 (Kd.R (Kd.int .i64) 3 w' w.heap.size (fun k_ => some k_ ≠ ((.slice Ao7 t507.length co7) : Value).ownBlock ∧ some k_ ≠ ((.slice Ao9 t510.length co9) : Value).ownBlock) (.slice Ao10 t513.length co10) t513) ∧ Aside0 (w'.heap[gb519]? = some (.cells #[(.slice Ao7 t507.length co7), (.slice Ao9 t510.length co9), (.slice Ao10 t513.length co10)] 26 (0, 0))) ∧ Aside0 (Below w.heap.size w w'))
    case atStart => exact ⟨(t528), u12_12, H', ⟨Nat.le_refl _⟩, ⟨u12_1⟩, ⟨u12_3⟩, ⟨u12_4⟩, ⟨u12_5⟩, ⟨u12_2⟩, ⟨u12_0⟩⟩
    clear H'
    try clear c1
    try clear p2
    try clear c3
    try clear p6
    try clear c7
    try clear c9
    try clear c10
    try clear c13
    try clear c13b0
    try clear c15
    try clear c15b0
    try clear c16
    try clear c17
    try clear hcz20_0
    try clear hcz20_1
    try clear hcz20_2
    try clear hcz8_0
    try clear hcz8_1
    try clear hcz8_2
    try clear hfz20_0
    try clear hfz20_1
    try clear hfz20_2
    try clear hfz8_0
    try clear hfz8_1
    try clear hfz8_2
    try clear p2
    obtain ⟨x8_2, rfl, HA, HK2, HO_5, HO_520000, HO_520001, HO_520002, BK519, HB⟩ := hrel
    cases gk with
    | zero => exact absurd HA.out (by simp [laws_FnCommits.l1])
    | succ k2 =>
      have H := HA.out
      clear HA
      simp only [laws_FnCommits.l1] at H
      by_cases c23 : x8_2 ≤ (wrap64 (t528 + 1))
      · rw [if_pos c23] at H
        have c23b0 : decide (x8_2 ≤ (wrap64 (t528 + 1))) = true := decide_eq_true c23
        clear c23
        obtain ⟨y529, hy529⟩ : ∃ y_ : List Int, y_ = (([] : List Int)) := ⟨_, rfl⟩
        replace H : (laws_FnCommits.l2 k2 l0 x5_1 t528 x8_2 y529 0 t507 t510 t513) = some r := by first | (rw [hy529]; with_reducible exact H) | (have H2_ := (Option.bind_some _ _).symm.trans H; rw [hy529]; with_reducible exact H2_) | (have H2_ := (Option.bind_some _ _).symm.trans H; with_reducible exact H2_) | with_reducible exact H | (rw [hy529]; exact H) | exact H
        have Ny529 := Aside0.mk hy529
        clear hy529
        have H' := Aside0.mk H
        clear H
        go_wp2_with (first | ((with_reducible refine gate_dst (N := 49) rfl ?_); refine Kd.R_lit (Kd.int .i64) _ 3 ?hg (N := 49) ?hd (xs := ([] : List Int)) (inner := []) (ok := fun _ => True) (okp := fun _ => True) ?hr ?hp (fun _ hk => hk) trivial (Below.refl _ _) (Nat.le_refl _) (by simp) ?_; (case hd => rfl); (case hg => rfl); (case hr => first | (go_simp; done) | (go_simp; rfl)); (case hp => exact (Reps.none _ _)); intro v530 w24 ho25 hb hg_ hnew_; clear hg_ hnew_; (first | rw [← Ny529.out] at ho25 | (simp only [Int.reduceToNat] at ho25; rw [← Ny529.out] at ho25)); have n0_ := Aside0.mk (Kd.R_below u12_1 hb); have n1_ := Aside0.mk (Kd.R_elder' u12_3 (Kd.R_base ho25) hb); have n2_ := Aside0.mk (Kd.R_elder' u12_4 (Kd.R_base ho25) hb); have n3_ := Aside0.mk (Kd.R_elder' u12_5 (Kd.R_base ho25) hb); have n4_ := Aside0.mk (Kd.R_lower (Kd.R_new' (Kd.R_new' (Kd.R_new' ho25 (Kd.R_lt u12_3)) (Kd.R_lt u12_4)) (Kd.R_lt u12_5)) (below_size u12_0)); have n5_ := Aside0.mk (blk_below (g := gb519) (o := .cells #[.slice Ao7 t507.length co7, .slice Ao9 t510.length co9, .slice Ao10 t513.length co10] 26 (0, 0)) u12_2 hb); have n6_ := Aside0.mk (below_step u12_0 hb); clear HO_5; clear HO_520000; clear HO_520001; clear HO_520002; clear BK519; clear HB; have HO_5 := n0_; have HO_520000 := n1_; have HO_520001 := n2_; have HO_520002 := n3_; have HO531 := n4_; have BK519 := n5_; have HB := n6_; clear n0_ n1_ n2_ n3_ n4_ n5_ n6_; clear hb ho25))
        go_loopg [9, 10] k2 (fun kq v9 v10 w' => ∃ (x9_3 : List Int) (x10_3 : Int), v10 = .int .i64 x10_3 ∧ Aside0 (laws_FnCommits.l2 kq l0 x5_1 t528 x8_2 x9_3 x10_3 t507 t510 t513 = some r) ∧ Aside0 (kq ≤ k2) ∧ Aside0 (Kd.R k60 60 w' w.heap.size (fun _ => True) (.slice Ao21 x5_1.length co21) x5_1) ∧ Aside0 (Kd.R (Kd.int .i64) 3 w' w.heap.size (fun k_ => some k_ ≠ ((.slice Ao7 t507.length co7) : Value).ownBlock ∧ some k_ ≠ ((.slice Ao9 t510.length co9) : Value).ownBlock ∧ some k_ ≠ ((.slice Ao10 t513.length co10) : Value).ownBlock) v9 x9_3) ∧ Aside0 (Kd.R (Kd.int .i64) 3 w' w.heap.size (fun k_ => some k_ ≠ (v9 : Value).ownBlock ∧ some k_ ≠ ((.slice Ao9 t510.length co9) : Value).ownBlock ∧ some k_ ≠ ((.slice Ao10 t513.length co10) : Value).ownBlock) (.slice Ao7 t507.length co7) t507) ∧ Aside0 (Kd.R (Kd.int .i64) 3 w' w.heap.size (fun k_ => some k_ ≠ (v9 : Value).ownBlock ∧ some k_ ≠ ((.slice Ao7 t507.length co7) : Value).ownBlock ∧ some k_ ≠ ((.slice Ao10 t513.length co10) : Value).ownBlock) (.slice Ao9 t510.length co9) t510) ∧ Aside0 (Kd.R (Kd.int .i64) 3 w' w.heap.size (fun k_ => some k_ ≠ (v9 : Value).ownBlock ∧ some k_ ≠ ((.slice Ao7 t507.length co7) : Value).ownBlock ∧ some k_ ≠ ((.slice Ao9 t510.length co9) : Value).ownBlock) (.slice Ao10 t513.length co10) t513) ∧ Aside0 (w'.heap[gb519]? = some (.cells #[(.slice Ao7 t507.length co7), (.slice Ao9 t510.length co9), (.slice Ao10 t513.length co10)] 26 (0, 0))) ∧ Aside0 (Below w.heap.size w w'))
        case atStart => exact ⟨(y529), (0), u12_12, H', ⟨Nat.le_refl _⟩, ⟨u12_1⟩, ⟨(by (with_reducible repeat (first | apply Kd.R_alloc | apply Kd.R_drewN | apply Kd.R_drew)); exact Kd.R_mono HO531.out (fun _ hk => ⟨hk.1.1.2, ⟨hk.1.2, hk.2⟩⟩))⟩, ⟨u12_19⟩, ⟨u12_20⟩, ⟨u12_21⟩, ⟨u12_2⟩, ⟨u12_0⟩⟩
        clear H'
        try clear c1
        try clear c2
        try clear p2
        try clear c3
        try clear p6
        try clear c7
        try clear c9
        try clear c10
        try clear c13
        try clear c13b0
        try clear c15
        try clear c15b0
        try clear c16
        try clear c17
        try clear c23
        try clear c23b0
        try clear hcz20_0
        try clear hcz20_1
        try clear hcz20_2
        try clear hcz8_0
        try clear hcz8_1
        try clear hcz8_2
        try clear hfz20_0
        try clear hfz20_1
        try clear hfz20_2
        try clear hfz8_0
        try clear hfz8_1
        try clear hfz8_2
        try clear p2
        try clear p6
        obtain ⟨x9_3, x10_3, rfl, HA, HK3, HO_5, HO_9, HO_520000, HO_520001, HO_520002, BK519, HB⟩ := hrel
        cases gk with
        | zero => exact absurd HA.out (by simp [laws_FnCommits.l2])
        | succ k3 =>
          have H := HA.out
          clear HA
          simp only [laws_FnCommits.l2] at H
          by_cases c26 : x10_3 < (x5_1.length : Int)
          rotate_left
          · rw [if_neg c26] at H
            have c26b0 : decide (x10_3 < (x5_1.length : Int)) = false := decide_eq_false c26
            clear c26
            by_cases c31 : x8_2 > 0
            rotate_left
            · rw [if_neg c31] at H
              have c31b0 : decide (0 < x8_2) = false := decide_eq_false c31
              clear c31
              have H' := Aside0.mk H
              clear H
              go_wp2
              go_roundg k3
              case measure => have := HK1.out; have := HK2.out; have := HK3.out; omega
              case rel => exact ⟨(wrap64 (x8_2 + 1)), u12_12, H', ⟨u12_18⟩, ⟨u12_1⟩, ⟨u12_22⟩, ⟨u12_23⟩, ⟨u12_24⟩, ⟨u12_2⟩, ⟨u12_0⟩⟩
            rw [if_pos c31] at H
            have c31b0 : decide (0 < x8_2) = true := decide_eq_true c31
            clear c31
            replace H := Option.bind_eq_some_iff.mp H
            obtain ⟨t537, A320, H⟩ := H
            have A32 := Aside0.mk A320
            clear A320
            by_cases c33 : (t537 != (x8_2 == t528)) = true
            · rw [if_pos c33] at H
              have c33b0 : (t537 != (x8_2 == t528)) = true := c33
              (try (have c33b1 : decide (t537 = (x8_2 == t528)) = false := by simpa using c33))
              (try (have c33b2 : (t537 == (x8_2 == t528)) = false := by simpa using c33))
              (try (have c33b3 : ¬ (t537 = (x8_2 == t528)) := by simpa using c33))
              clear c33
              exact absurd ((Option.some.inj H).trans hr_.out) (by decide)
            rw [if_neg c33] at H
            have c33b0 : (t537 != (x8_2 == t528)) = false := by simpa using c33
            (try (have c33b1 : decide (t537 = (x8_2 == t528)) = true := by simpa using c33))
            (try (have c33b2 : (t537 == (x8_2 == t528)) = true := by simpa using c33))
            clear c33
            have H' := Aside0.mk H
            clear H
            have hcz34_0 : wr.cell? ⟨gb519, 0, none⟩ = some (.slice Ao7 t507.length co7) := (blk_cell BK519.out 0).trans rfl
            have hcz34_1 : wr.cell? ⟨gb519, 1, none⟩ = some (.slice Ao9 t510.length co9) := (blk_cell BK519.out 1).trans rfl
            have hcz34_2 : wr.cell? ⟨gb519, 2, none⟩ = some (.slice Ao10 t513.length co10) := (blk_cell BK519.out 2).trans rfl
            have hfz34_0 := blk_frozen BK519.out 0
            have hfz34_1 := blk_frozen BK519.out 1
            have hfz34_2 := blk_frozen BK519.out 2
            obtain ⟨Ao35, co35, eo35⟩ := Kd.R_slice HO_9.out
            subst eo35
            go_wp2_with (first | (go_at_call 40; (with_reducible refine (impl_Quorum.calls k3 _ _ t507 _ _ t510 _ _ t513 _ _ x9_3 t537 _ ?side1 ?side2 ?side3 ?side4 ?side5 ?side6 ?side7 ?side8 A32.out).mono ?_); (case side1 => exact u12_8); (case side2 => exact (Kd.R_reads' HO_520000.out).2.1); (case side3 => exact u12_9); (case side4 => exact (Kd.R_reads' HO_520001.out).2.1); (case side5 => exact u12_10); (case side6 => exact (Kd.R_reads' HO_520002.out).2.1); (case side7 => exact (by repeat (first | exact (Kd.R_reads' HO_9.out).2.2 | (with_reducible refine Kd.C_alloc ?_ _) | (with_reducible refine Kd.C_drewN ?_ _) | (with_reducible refine Kd.C_drew ?_)))); (case side8 => exact (Kd.R_reads' HO_9.out).2.1); rintro e w36 ⟨rfl, hb⟩; have n0_ := Aside0.mk (Kd.R_below u12_1 hb); have n1_ := Aside0.mk (Kd.R_below u12_15 hb); have n2_ := Aside0.mk (Kd.R_below u12_3 hb); have n3_ := Aside0.mk (Kd.R_below u12_4 hb); have n4_ := Aside0.mk (Kd.R_below u12_5 hb); have n5_ := Aside0.mk (blk_below (g := gb519) (o := .cells #[.slice Ao7 t507.length co7, .slice Ao9 t510.length co9, .slice Ao10 t513.length co10] 26 (0, 0)) u12_2 hb); have n6_ := Aside0.mk (below_step u12_0 hb); clear HO_5; clear HO_9; clear HO_520000; clear HO_520001; clear HO_520002; clear BK519; clear HB; have HO_5 := n0_; have HO_9 := n1_; have HO_520000 := n2_; have HO_520001 := n3_; have HO_520002 := n4_; have BK519 := n5_; have HB := n6_; clear n0_ n1_ n2_ n3_ n4_ n5_ n6_; (try clear hb); (try clear hb2); (try clear hk); (try clear hi)))
            go_roundg k3
            case measure => have := HK1.out; have := HK2.out; have := HK3.out; omega
            case rel => exact ⟨(wrap64 (x8_2 + 1)), u12_12, H', ⟨u12_18⟩, ⟨u12_1⟩, ⟨u12_22⟩, ⟨u12_23⟩, ⟨u12_24⟩, ⟨u12_2⟩, ⟨u12_0⟩⟩
          rw [if_pos c26] at H
          have c26b0 : decide (x10_3 < (x5_1.length : Int)) = true := decide_eq_true c26
          clear c26
          by_cases c27 : 0 ≤ x10_3
          rotate_left
          · rw [if_neg c27] at H
            exact absurd H (by simp)
          rw [if_pos c27] at H
          have c27b0 : decide (0 ≤ x10_3) = true := decide_eq_true c27
          clear c27
          have H9 := Aside0.mk H
          clear H
          have p532 : 0 ≤ (x10_3 : Int) := of_decide_eq_true u12_25
          have q532 : x10_3 < (x5_1.length : Int) := of_decide_eq_true u12_25
          obtain ⟨ad532, e532, hx532_0, hx532_1⟩ := at_T60 (Kd.R_reads' HO_5.out).2.2 x10_3 p532 q532
          cases e532
          replace p532 := eq_true p532
          replace q532 := eq_true q532
          go_upto_if 62 with (fail)
          have H := H9.out
          clear H9
          by_cases c28 : ((rd_T60 x5_1 x10_3).f1) ≥ x8_2
          rotate_left
          · rw [if_neg c28] at H
            have c28b0 : decide (x8_2 ≤ ((rd_T60 x5_1 x10_3).f1)) = false := decide_eq_false c28
            clear c28
            (first | rw [c28b0] | (simp only [i64_w, i32_w]; rw [c28b0]) | skip)
            have H' := Aside0.mk H
            clear H
            go_wp2
            go_roundg k3
            case measure => have := HK1.out; have := HK2.out; have := HK3.out; omega
            case rel => exact ⟨(x9_3), (wrap64 (x10_3 + 1)), u12_12, H', ⟨u12_18⟩, ⟨u12_1⟩, ⟨u12_15⟩, ⟨u12_3⟩, ⟨u12_4⟩, ⟨u12_5⟩, ⟨u12_2⟩, ⟨u12_0⟩⟩
          rw [if_pos c28] at H
          have c28b0 : decide (x8_2 ≤ ((rd_T60 x5_1 x10_3).f1)) = true := decide_eq_true c28
          clear c28
          (first | rw [c28b0] | (simp only [i64_w, i32_w]; rw [c28b0]) | skip)
          by_cases c29 : x9_3.length < 17592186044416
          rotate_left
          · rw [if_neg c29] at H
            exact absurd H (by simp)
          rw [if_pos c29] at H
          have LMc29 := Aside0.mk c29
          clear c29
          obtain ⟨y534, hy534⟩ : ∃ y_ : List Int, y_ = (x9_3 ++ [(rd_T60 x5_1 x10_3).f0]) := ⟨_, rfl⟩
          replace H : (laws_FnCommits.l2 k3 l0 x5_1 t528 x8_2 y534 (wrap64 (x10_3 + 1)) t507 t510 t513) = some r := by first | (rw [hy534]; with_reducible exact H) | (have H2_ := (Option.bind_some _ _).symm.trans H; rw [hy534]; with_reducible exact H2_) | (have H2_ := (Option.bind_some _ _).symm.trans H; with_reducible exact H2_) | with_reducible exact H | (rw [hy534]; exact H) | exact H
          have Ny534 := Aside0.mk hy534
          clear hy534
          have H' := Aside0.mk H
          clear H
          have p533 : 0 ≤ (x10_3 : Int) := of_decide_eq_true u12_25
          have q533 : x10_3 < (x5_1.length : Int) := of_decide_eq_true u12_25
          obtain ⟨ad533, e533, hx533_0, hx533_1⟩ := at_T60 (Kd.R_reads' HO_5.out).2.2 x10_3 p533 q533
          obtain rfl : ad532 = ad533 := (by injection e533)
          replace p533 := eq_true p533
          replace q533 := eq_true q533
          go_wp2_with (first | ((with_reducible refine gate_builtin (b := .append) (xs := #[.tmp 63, .tmp 69]) rfl ?_); at_builtin; refine Kd.R_append (Kd.int .i64) (w0 := w) w.heap.size rfl (.tmp 63) (.tmp 69) 24 3 (.int .i64 0) 8 rfl Try.underlying24 info3 rfl (by decide) (by omega) u9 x9_3 ((rd_T60 x5_1 x10_3).f0) [.int .i64 ((rd_T60 x5_1 x10_3).f0)] (fun k_ => some k_ ≠ (.slice Ao7 t507.length co7 : Value).ownBlock ∧ some k_ ≠ (.slice Ao9 t510.length co9 : Value).ownBlock ∧ some k_ ≠ (.slice Ao10 t513.length co10 : Value).ownBlock) (fun _ => False) rfl rfl ?aP (fun _ hk => hk.elim) ?aF ?aO ?aB ?aS ?aL ?_; (case aP => exact rfl); (case aB => exact u12_0); (case aF => exact (fun k_ hk => ⟨Kd.fresh' (Kd.R_lt u12_3) k_ hk, Kd.fresh' (Kd.R_lt u12_4) k_ hk, Kd.fresh' (Kd.R_lt u12_5) k_ hk⟩)); (case aO => exact u12_15); (case aS => exact (below_size u12_0)); (case aL => have := LMc29.out; omega); intro v535 w30 ho hb hg hat; rw [← Ny534.out] at ho; have n0_ := Aside0.mk (Kd.R_over' u12_1 (Kd.R_typed u12_15) (by decide) hg); have n1_ := Aside0.mk (Kd.R_after (ok := (fun k_ => some k_ ≠ (.slice Ao9 t510.length co9 : Value).ownBlock ∧ some k_ ≠ (.slice Ao10 t513.length co10 : Value).ownBlock)) (by (with_reducible repeat (first | apply Kd.R_alloc | apply Kd.R_drewN | apply Kd.R_drew)); exact Kd.R_mono HO_520000.out (fun _ hk => ⟨⟨hk.2.1, hk.2.2⟩, hk.1⟩)) hg hat); have n2_ := Aside0.mk (Kd.R_after (ok := (fun k_ => some k_ ≠ (.slice Ao7 t507.length co7 : Value).ownBlock ∧ some k_ ≠ (.slice Ao10 t513.length co10 : Value).ownBlock)) (by (with_reducible repeat (first | apply Kd.R_alloc | apply Kd.R_drewN | apply Kd.R_drew)); exact Kd.R_mono HO_520001.out (fun _ hk => ⟨⟨hk.2.1, hk.2.2⟩, hk.1⟩)) hg hat); have n3_ := Aside0.mk (Kd.R_after (ok := (fun k_ => some k_ ≠ (.slice Ao7 t507.length co7 : Value).ownBlock ∧ some k_ ≠ (.slice Ao9 t510.length co9 : Value).ownBlock)) (by (with_reducible repeat (first | apply Kd.R_alloc | apply Kd.R_drewN | apply Kd.R_drew)); exact Kd.R_mono HO_520002.out (fun _ hk => ⟨⟨hk.2.1, hk.2.2⟩, hk.1⟩)) hg hat); have n4_ := Aside0.mk (blk_grown (g := gb519) (o := .cells #[.slice Ao7 t507.length co7, .slice Ao9 t510.length co9, .slice Ao10 t513.length co10] 26 (0, 0)) u12_2 hg (Kd.R_ne HO_9.out BK519.out (by decide))); have n5_ := Aside0.mk (hb); have n6_ := Aside0.mk (ho); clear HO_5; clear HO_520000; clear HO_520001; clear HO_520002; clear BK519; clear HB; clear HO_9; have HO_5 := n0_; have HO_520000 := n1_; have HO_520001 := n2_; have HO_520002 := n3_; have BK519 := n4_; have HB := n5_; have HO536 := n6_; clear n0_ n1_ n2_ n3_ n4_ n5_ n6_; clear ho hb hg hat))
          go_roundg k3
          case measure => have := HK1.out; have := HK2.out; have := HK3.out; omega
          case rel => exact ⟨(y534), (wrap64 (x10_3 + 1)), u12_12, H', ⟨u12_18⟩, ⟨u12_1⟩, ⟨(by (with_reducible repeat (first | apply Kd.R_alloc | apply Kd.R_drewN | apply Kd.R_drew)); exact HO536.out)⟩, ⟨u12_19⟩, ⟨u12_20⟩, ⟨u12_21⟩, ⟨u12_2⟩, ⟨u12_0⟩⟩
      rw [if_neg c23] at H
      have c23b0 : decide (x8_2 ≤ (wrap64 (t528 + 1))) = false := decide_eq_false c23
      clear c23
      obtain ⟨y538, hy538⟩ : ∃ y_ : List (S60), y_ = (([] : List (S60))) := ⟨_, rfl⟩
      replace H : (if y538.length + x5_1.length < 8796093022208 then ((some (y538 ++ x5_1 : List (S60))).bind fun y541 => ((laws_at.f l0 30).bind fun t544 => ((laws_at.f l0 31).bind fun t545 => (if y541.length < 8796093022208 then ((spec_CommitOf.f k2 t507 t510 t513 x5_1).bind fun t549 => (if t528 = t549 then ((impl_CommitOf.f k2 t507 t510 t513 (y541 ++ [(⟨Int.tmod t544 10, Int.tmod t545 12⟩ : S60)])).bind fun t550 => (if t550 ≥ t528 then ((impl_Voters.f k2 t507 t510 t513).bind fun t551 => ((impl_Quorum.f k2 t507 t510 t513 t551).bind fun t554 => (some t554))) else (some false))) else (some false))) else (none))))) else (none)) = some r := by first | (rw [hy538]; with_reducible exact H) | (have H2_ := (Option.bind_some _ _).symm.trans H; rw [hy538]; with_reducible exact H2_) | (have H2_ := (Option.bind_some _ _).symm.trans H; with_reducible exact H2_) | with_reducible exact H | (rw [hy538]; exact H) | exact H
      have Ny538 := Aside0.mk hy538
      clear hy538
      by_cases c37 : y538.length + x5_1.length < 8796093022208
      rotate_left
      · rw [if_neg c37] at H
        exact absurd H (by simp)
      rw [if_pos c37] at H
      have LMc37 := Aside0.mk c37
      clear c37
      obtain ⟨y541, hy541⟩ : ∃ y_ : List (S60), y_ = (y538 ++ x5_1) := ⟨_, rfl⟩
      replace H : ((laws_at.f l0 30).bind fun t544 => ((laws_at.f l0 31).bind fun t545 => (if y541.length < 8796093022208 then ((spec_CommitOf.f k2 t507 t510 t513 x5_1).bind fun t549 => (if t528 = t549 then ((impl_CommitOf.f k2 t507 t510 t513 (y541 ++ [(⟨Int.tmod t544 10, Int.tmod t545 12⟩ : S60)])).bind fun t550 => (if t550 ≥ t528 then ((impl_Voters.f k2 t507 t510 t513).bind fun t551 => ((impl_Quorum.f k2 t507 t510 t513 t551).bind fun t554 => (some t554))) else (some false))) else (some false))) else (none)))) = some r := by first | (rw [hy541]; with_reducible exact H) | (have H2_ := (Option.bind_some _ _).symm.trans H; rw [hy541]; with_reducible exact H2_) | (have H2_ := (Option.bind_some _ _).symm.trans H; with_reducible exact H2_) | with_reducible exact H | (rw [hy541]; exact H) | exact H
      have Ny541 := Aside0.mk hy541
      clear hy541
      replace H := Option.bind_eq_some_iff.mp H
      obtain ⟨t544, A380, H⟩ := H
      have A38 := Aside0.mk A380
      clear A380
      replace H := Option.bind_eq_some_iff.mp H
      obtain ⟨t545, A390, H⟩ := H
      have A39 := Aside0.mk A390
      clear A390
      by_cases c40 : y541.length < 8796093022208
      rotate_left
      · rw [if_neg c40] at H
        exact absurd H (by simp)
      rw [if_pos c40] at H
      have LMc40 := Aside0.mk c40
      clear c40
      obtain ⟨y546, hy546⟩ : ∃ y_ : List (S60), y_ = (y541 ++ [(⟨Int.tmod t544 10, Int.tmod t545 12⟩ : S60)]) := ⟨_, rfl⟩
      replace H : ((spec_CommitOf.f k2 t507 t510 t513 x5_1).bind fun t549 => (if t528 = t549 then ((impl_CommitOf.f k2 t507 t510 t513 y546).bind fun t550 => (if t550 ≥ t528 then ((impl_Voters.f k2 t507 t510 t513).bind fun t551 => ((impl_Quorum.f k2 t507 t510 t513 t551).bind fun t554 => (some t554))) else (some false))) else (some false))) = some r := by first | (rw [hy546]; with_reducible exact H) | (have H2_ := (Option.bind_some _ _).symm.trans H; rw [hy546]; with_reducible exact H2_) | (have H2_ := (Option.bind_some _ _).symm.trans H; with_reducible exact H2_) | with_reducible exact H | (rw [hy546]; exact H) | exact H
      have Ny546 := Aside0.mk hy546
      clear hy546
      replace H := Option.bind_eq_some_iff.mp H
      obtain ⟨t549, A410, H⟩ := H
      have A41 := Aside0.mk A410
      clear A410
      by_cases c42 : t528 = t549
      rotate_left
      · rw [if_neg c42] at H
        have c42b0 : (t528 == t549) = false := beq_eq_false_iff_ne.mpr c42
        have c42b1 : (t528 != t549) = true := bne_iff_ne.mpr c42
        exact absurd ((Option.some.inj H).trans hr_.out) (by decide)
      rw [if_pos c42] at H
      have c42b0 : (t528 == t549) = true := beq_iff_eq.mpr c42
      have c42b1 : (t528 != t549) = false := bne_eq_false_iff_eq.mpr c42
      clear c42
      replace H := Option.bind_eq_some_iff.mp H
      obtain ⟨t550, A430, H⟩ := H
      have A43 := Aside0.mk A430
      clear A430
      by_cases c44 : t550 ≥ t528
      rotate_left
      · rw [if_neg c44] at H
        have c44b0 : decide (t528 ≤ t550) = false := decide_eq_false c44
        clear c44
        exact absurd ((Option.some.inj H).trans hr_.out) (by decide)
      rw [if_pos c44] at H
      have c44b0 : decide (t528 ≤ t550) = true := decide_eq_true c44
      clear c44
      replace H := Option.bind_eq_some_iff.mp H
      obtain ⟨t551, A450, H⟩ := H
      replace H : ((impl_Quorum.f k2 t507 t510 t513 t551).bind fun t554 => (some t554)) = some r := H
      have A45 := Aside0.mk A450
      clear A450
      replace H := Option.bind_eq_some_iff.mp H
      obtain ⟨t554, A460, H⟩ := H
      replace H : (some t554) = some r := H
      have A46 := Aside0.mk A460
      clear A460
      obtain rfl := Option.some.inj H
      try go_wp2_with (first | ((with_reducible refine gate_dst (N := 82) rfl ?_); refine Kd.R_lit k60 _ 60 ?hg (N := 82) ?hd (xs := ([] : List (S60))) (inner := []) (ok := fun _ => True) (okp := fun _ => True) ?hr ?hp (fun _ hk => hk) trivial (Below.refl _ _) (Nat.le_refl _) (by simp) ?_; (case hd => rfl); (case hg => rfl); (case hr => first | (go_simp; done) | (go_simp; rfl)); (case hp => exact (Reps.none _ _)); intro v539 w47 ho48 hb hg_ hnew_; clear hg_ hnew_; (first | rw [← Ny538.out] at ho48 | (simp only [Int.reduceToNat] at ho48; rw [← Ny538.out] at ho48)); have n0_ := Aside0.mk (Kd.R_elder' u12_1 (Kd.R_base ho48) hb); have n1_ := Aside0.mk (Kd.R_below u12_3 hb); have n2_ := Aside0.mk (Kd.R_below u12_4 hb); have n3_ := Aside0.mk (Kd.R_below u12_5 hb); have n4_ := Aside0.mk (Kd.R_lower (Kd.R_new' ho48 (Kd.R_lt u12_1)) (below_size u12_0)); have n5_ := Aside0.mk (blk_below (g := gb519) (o := .cells #[.slice Ao7 t507.length co7, .slice Ao9 t510.length co9, .slice Ao10 t513.length co10] 26 (0, 0)) u12_2 hb); have n6_ := Aside0.mk (below_step u12_0 hb); clear HO_5; clear HO_520000; clear HO_520001; clear HO_520002; clear BK519; clear HB; have HO_5 := n0_; have HO_520000 := n1_; have HO_520001 := n2_; have HO_520002 := n3_; have HO540 := n4_; have BK519 := n5_; have HB := n6_; clear n0_ n1_ n2_ n3_ n4_ n5_ n6_; clear hb ho48) | ((with_reducible refine gate_builtin (b := .append) (xs := #[.tmp 82, .tmp 83]) rfl ?_); at_builtin; refine Kd.R_append_rows k60 (w0 := w) w.heap.size rfl (.tmp 82) (.tmp 83) 58 60 (.agg #[(.int .i64 0), (.int .i64 0)]) 16 rfl Try.underlying58 info60 rfl (by decide) (by omega) v539 y538 x5_1 _ _ _ (fun k_ => some k_ ≠ (.slice Ao21 x5_1.length co21 : Value).ownBlock) (fun _ => False) rfl rfl ?aO ?aR (fun _ _ h => h) (fun _ h => h.elim) ?aF ?aB ?aS ?aL ?_; (case aR => repeat (first | exact (Kd.R_reads' HO_5.out).2.2 | (with_reducible refine Kd.C_alloc ?_ _) | (with_reducible refine Kd.C_drewN ?_ _) | (with_reducible refine Kd.C_drew ?_))); (case aB => exact u12_0); (case aF => exact (fun k_ hk => Kd.fresh' (Kd.R_lt u12_1) k_ hk)); (case aO => exact (by (with_reducible repeat (first | apply Kd.R_alloc | apply Kd.R_drewN | apply Kd.R_drew)); exact Kd.R_mono HO540.out (fun _ hk => hk.2))); (case aS => exact (below_size u12_0)); (case aL => have := LMc37.out; omega); intro v542 w49 ho hb hg hat; rw [← Ny541.out] at ho; have n0_ := Aside0.mk (Kd.R_after (ok := (fun _ => True)) u12_1 hg hat); have n1_ := Aside0.mk (Kd.R_over' u12_3 (Kd.R_typed u12_16) (by decide) hg); have n2_ := Aside0.mk (Kd.R_over' u12_4 (Kd.R_typed u12_16) (by decide) hg); have n3_ := Aside0.mk (Kd.R_over' u12_5 (Kd.R_typed u12_16) (by decide) hg); have n4_ := Aside0.mk (blk_grown (g := gb519) (o := .cells #[.slice Ao7 t507.length co7, .slice Ao9 t510.length co9, .slice Ao10 t513.length co10] 26 (0, 0)) u12_2 hg (Kd.R_ne HO540.out BK519.out (by decide))); have n5_ := Aside0.mk (hb); have n6_ := Aside0.mk (ho); clear HO_5; clear HO_520000; clear HO_520001; clear HO_520002; clear BK519; clear HB; clear HO540; have HO_5 := n0_; have HO_520000 := n1_; have HO_520001 := n2_; have HO_520002 := n3_; have BK519 := n4_; have HB := n5_; have HO543 := n6_; clear n0_ n1_ n2_ n3_ n4_ n5_ n6_; clear ho hb hg hat) | ((with_reducible refine gate_callee (f := 16) rfl ?_); refine goesL_ (some 86) rfl rfl Try.func16 (by kernel_rfl) rfl #[.slice A0 l0.length c0, .int .i64 30] rfl u12_6 ?_; (with_reducible refine (laws_at.calls _ _ l0 30 t544 _ ?side1 ?side2 A38.out).mono ?_); (case side1 => exact u12_11); (case side2 => exact HC0.out); rintro e w' ⟨rfl, ⟨nd, rfl⟩⟩; refine ⟨_, rfl, ?_⟩) | ((with_reducible refine gate_callee (f := 16) rfl ?_); refine goesL_ (some 89) rfl rfl Try.func16 (by kernel_rfl) rfl #[.slice A0 l0.length c0, .int .i64 31] rfl u12_6 ?_; (with_reducible refine (laws_at.calls _ _ l0 31 t545 _ ?side1 ?side2 A39.out).mono ?_); (case side1 => exact (by repeat (first | exact (Kd.C_below HR0.out u12_0) | (with_reducible refine Kd.C_alloc ?_ _) | (with_reducible refine Kd.C_drewN ?_ _) | (with_reducible refine Kd.C_drew ?_)))); (case side2 => exact HC0.out); rintro e w' ⟨rfl, ⟨nd, rfl⟩⟩; refine ⟨_, rfl, ?_⟩) | ((with_reducible refine gate_builtin (b := .append) (xs := #[.tmp 84, .tmp 92]) rfl ?_); at_builtin; refine Kd.R_append k60 (w0 := w) w.heap.size rfl (.tmp 84) (.tmp 92) 58 60 (.agg #[(.int .i64 0), (.int .i64 0)]) 16 rfl Try.underlying58 info60 rfl (by decide) (by omega) v542 y541 (⟨Int.tmod t544 10, Int.tmod t545 12⟩ : S60) [.int .i64 (Int.tmod t544 10), .int .i64 (Int.tmod t545 12)] (fun k_ => some k_ ≠ (.slice Ao21 x5_1.length co21 : Value).ownBlock) (fun _ => False) rfl rfl ?aP (fun _ hk => hk.elim) ?aF ?aO ?aB ?aS ?aL ?_; (case aP => exact k60_mkM _ _ _ (⟨Int.tmod t544 10, Int.tmod t545 12⟩ : S60)); (case aB => exact u12_0); (case aF => exact (fun k_ hk => Kd.fresh' (Kd.R_lt u12_1) k_ hk)); (case aO => exact u12_13); (case aS => exact (below_size u12_0)); (case aL => have := LMc40.out; omega); intro v547 w50 ho hb hg hat; rw [← Ny546.out] at ho; have n0_ := Aside0.mk (Kd.R_after (ok := (fun _ => True)) u12_1 hg hat); have n1_ := Aside0.mk (Kd.R_over' u12_3 (Kd.R_typed u12_13) (by decide) hg); have n2_ := Aside0.mk (Kd.R_over' u12_4 (Kd.R_typed u12_13) (by decide) hg); have n3_ := Aside0.mk (Kd.R_over' u12_5 (Kd.R_typed u12_13) (by decide) hg); have n4_ := Aside0.mk (blk_grown (g := gb519) (o := .cells #[.slice Ao7 t507.length co7, .slice Ao9 t510.length co9, .slice Ao10 t513.length co10] 26 (0, 0)) u12_2 hg (Kd.R_ne HO543.out BK519.out (by decide))); have n5_ := Aside0.mk (hb); have n6_ := Aside0.mk (ho); clear HO_5; clear HO_520000; clear HO_520001; clear HO_520002; clear BK519; clear HB; clear HO543; have HO_5 := n0_; have HO_520000 := n1_; have HO_520001 := n2_; have HO_520002 := n3_; have BK519 := n4_; have HB := n5_; have HO548 := n6_; clear n0_ n1_ n2_ n3_ n4_ n5_ n6_; clear ho hb hg hat))
      have n0_ := Aside0.mk (Kd.R_drew HO_5.out)
      have n1_ := Aside0.mk (Kd.R_drew HO_520000.out)
      have n2_ := Aside0.mk (Kd.R_drew HO_520001.out)
      have n3_ := Aside0.mk (Kd.R_drew HO_520002.out)
      have n4_ := Aside0.mk (Kd.R_drew HO548.out)
      have n5_ := Aside0.mk (blk_drew BK519.out)
      have n6_ := Aside0.mk (below_drew1 HB.out)
      clear HO_5
      clear HO_520000
      clear HO_520001
      clear HO_520002
      clear HO548
      clear BK519
      clear HB
      have HO_5 := n0_
      have HO_520000 := n1_
      have HO_520001 := n2_
      have HO_520002 := n3_
      have HO548 := n4_
      have BK519 := n5_
      have HB := n6_
      clear n0_ n1_ n2_ n3_ n4_ n5_ n6_
      refine start_ (n := 19) (S := fun w' => w'.cell? ⟨gb519, 0, none⟩ = some (.slice Ao7 t507.length co7) ∧ w'.cell? ⟨gb519, 1, none⟩ = some (.slice Ao9 t510.length co9) ∧ w'.cell? ⟨gb519, 2, none⟩ = some (.slice Ao10 t513.length co10)) (ds := []) #[false, false, false, false, false, false, false, false, false, false, false, false, false, false, false, false, false, false, false] (by kernel_rfl) rfl rfl ⟨(blk_cell BK519.out 0).trans rfl, (blk_cell BK519.out 1).trans rfl, (blk_cell BK519.out 2).trans rfl⟩ (fun hHeld => ?_); refine with_tabW laws_FnCommits.tab23 laws_FnCommits.bits23 (fun HT_ HW_ => ?_)
      generalize w50.drew = w51 at HO_5 HO_520000 HO_520001 HO_520002 HO548 BK519 HB hHeld ⊢
      refine pure_ (i := 0) (N := some 94) (v := ?_) (a' := ?_) #[true, false, false, false, false, false, false, false, false, false, false, false, false, false, false, false, false, false, false] rfl rfl (any_of HT_.out (by kernel_rfl)) (fun _ _ _ h => h) (Or.inl ⟨by rfl, ?_⟩) ?_ ?_
      rotate_left
      · intro w'
        go_simp
        with_reducible rfl
      rotate_left
      · simp only [Act.put, List.setIfInBounds_toArray, List.set_cons_zero, List.set_cons_succ, i64_w, i32_w]
        rfl
      refine pure_ (i := 2) (N := some 96) (v := ?_) (a' := ?_) #[true, false, true, false, false, false, false, false, false, false, false, false, false, false, false, false, false, false, false] rfl rfl (any_of HT_.out (by kernel_rfl)) (fun _ _ _ h => h) (Or.inl ⟨by rfl, ?_⟩) ?_ ?_
      rotate_left
      · intro w'
        go_simp
        with_reducible rfl
      rotate_left
      · simp only [Act.put, List.setIfInBounds_toArray, List.set_cons_zero, List.set_cons_succ, i64_w, i32_w]
        rfl
      refine take_ (i := 1) (N := some 95) (v := ?_) (a' := ?_) #[true, true, true, false, false, false, false, false, false, false, false, false, false, false, false, false, false, false, false] rfl rfl (take_ofW HT_.out HW_.out (by kernel_rfl)) (fun _ _ _ h => h) (Or.inl ⟨by rfl, ?_⟩) hHeld ?_ ?_
      rotate_left
      · rintro w' ⟨s0, s1, s2⟩
        go_simp
        with_reducible rfl
      rotate_left
      · simp only [Act.put, List.setIfInBounds_toArray, List.set_cons_zero, List.set_cons_succ, i64_w, i32_w]
        rfl
      refine one_ (i := 3) (N := some 97) #[true, true, true, true, false, false, false, false, false, false, false, false, false, false, false, false, false, false, false] rfl rfl (one_of HT_.out (by kernel_rfl)) (by decide) (fun K hK => ?_)
      refine goes_ Try.func41 (by kernel_rfl) rfl #[.agg #[.slice Ao7 t507.length co7, .slice Ao9 t510.length co9, .slice Ao10 t513.length co10], .slice Ao21 x5_1.length co21] (by rfl) rfl rfl u12_6 ?_
      with_reducible refine (spec_CommitOf.calls k2 _ _ t507 _ _ t510 _ _ t513 _ _ x5_1 t549 _ ?side1 ?side2 ?side3 ?side4 ?side5 ?side6 ?side7 ?side8 A41.out).mono ?_
      (case side1 => exact u12_8)
      (case side2 => exact (Kd.R_reads' HO_520000.out).2.1)
      (case side3 => exact u12_9)
      (case side4 => exact (Kd.R_reads' HO_520001.out).2.1)
      (case side5 => exact u12_10)
      (case side6 => exact (Kd.R_reads' HO_520002.out).2.1)
      (case side7 => exact u12_17)
      (case side8 => exact (Kd.R_reads' HO_5.out).2.1)
      rintro e w52 ⟨rfl, hb⟩
      refine ⟨_, rfl, ?_⟩
      have n0_ := Aside0.mk (Kd.R_below u12_1 hb)
      have n1_ := Aside0.mk (Kd.R_below u12_3 hb)
      have n2_ := Aside0.mk (Kd.R_below u12_4 hb)
      have n3_ := Aside0.mk (Kd.R_below u12_5 hb)
      have n4_ := Aside0.mk (Kd.R_below u12_14 hb)
      have n5_ := Aside0.mk (blk_below (g := gb519) (o := .cells #[.slice Ao7 t507.length co7, .slice Ao9 t510.length co9, .slice Ao10 t513.length co10] 26 (0, 0)) u12_2 hb)
      have n6_ := Aside0.mk (below_step u12_0 hb)
      clear HO_5
      clear HO_520000
      clear HO_520001
      clear HO_520002
      clear HO548
      clear BK519
      clear HB
      have HO_5 := n0_
      have HO_520000 := n1_
      have HO_520001 := n2_
      have HO_520002 := n3_
      have HO548 := n4_
      have BK519 := n5_
      have HB := n6_
      clear n0_ n1_ n2_ n3_ n4_ n5_ n6_
      (try clear hb)
      (try clear hb2)
      (try clear hk)
      (try clear hi)
      obtain ⟨Ao53, co53, eo53⟩ := Kd.R_slice HO548.out
      (first | subst eo53 | (injection eo53 with f1_ f2_ f3_; have f4_ := f1_.symm; have f5_ := f3_.symm; clear f1_ f2_ f3_; subst f4_; subst f5_))
      refine hK.out _ _ ⟨(blk_cell BK519.out 0).trans rfl, (blk_cell BK519.out 1).trans rfl, (blk_cell BK519.out 2).trans rfl⟩ (fun hHeld => ?_)
      clear hK K
      refine norm_ (a' := ?_) ?_ ?_
      rotate_left
      · show Act.put _ (some 97) _ = _
        simp only [Act.put, List.setIfInBounds_toArray, List.set_cons_zero, List.set_cons_succ, i64_w, i32_w]
        rfl
      refine pure_ (i := 4) (N := some 98) (v := ?_) (a' := ?_) #[true, true, true, true, true, false, false, false, false, false, false, false, false, false, false, false, false, false, false] rfl rfl (any_of HT_.out (by kernel_rfl)) (fun _ _ _ h => h) (Or.inl ⟨by rfl, ?_⟩) ?_ ?_
      rotate_left
      · intro w'
        go_simp
        with_reducible rfl
      rotate_left
      · simp only [Act.put, List.setIfInBounds_toArray, List.set_cons_zero, List.set_cons_succ, i64_w, i32_w]
        rfl
      refine pure_ (i := 5) (N := some 99) (v := ?_) (a' := ?_) #[true, true, true, true, true, true, false, false, false, false, false, false, false, false, false, false, false, false, false] rfl rfl (any_of HT_.out (by kernel_rfl)) (fun _ _ _ h => h) (Or.inl ⟨by rfl, ?_⟩) ?_ ?_
      rotate_left
      · intro w'
        go_simp
        with_reducible rfl
      rotate_left
      · simp only [Act.put, List.setIfInBounds_toArray, List.set_cons_zero, List.set_cons_succ, i64_w, i32_w]
        rfl
      refine pure_ (i := 7) (N := some 101) (v := ?_) (a' := ?_) #[true, true, true, true, true, true, false, true, false, false, false, false, false, false, false, false, false, false, false] rfl rfl (any_of HT_.out (by kernel_rfl)) (fun _ _ _ h => h) (Or.inl ⟨by rfl, ?_⟩) ?_ ?_
      rotate_left
      · intro w'
        go_simp
        with_reducible rfl
      rotate_left
      · simp only [Act.put, List.setIfInBounds_toArray, List.set_cons_zero, List.set_cons_succ, i64_w, i32_w]
        rfl
      refine pure_ (i := 9) (N := some 103) (v := ?_) (a' := ?_) #[true, true, true, true, true, true, false, true, false, true, false, false, false, false, false, false, false, false, false] rfl rfl (any_of HT_.out (by kernel_rfl)) (fun _ _ _ h => h) (Or.inl ⟨by rfl, ?_⟩) ?_ ?_
      rotate_left
      · intro w'
        go_simp
        with_reducible rfl
      rotate_left
      · simp only [Act.put, List.setIfInBounds_toArray, List.set_cons_zero, List.set_cons_succ, i64_w, i32_w]
        rfl
      refine take_ (i := 6) (N := some 100) (v := ?_) (a' := ?_) #[true, true, true, true, true, true, true, true, false, true, false, false, false, false, false, false, false, false, false] rfl rfl (take_ofW HT_.out HW_.out (by kernel_rfl)) (fun _ _ _ h => h) (Or.inl ⟨by rfl, ?_⟩) hHeld ?_ ?_
      rotate_left
      · rintro w' ⟨s0, s1, s2⟩
        go_simp
        with_reducible rfl
      rotate_left
      · simp only [Act.put, List.setIfInBounds_toArray, List.set_cons_zero, List.set_cons_succ, i64_w, i32_w]
        rfl
      refine one_ (i := 8) (N := some 102) #[true, true, true, true, true, true, true, true, true, true, false, false, false, false, false, false, false, false, false] rfl rfl (one_of HT_.out (by kernel_rfl)) (by decide) (fun K hK => ?_)
      refine goes_ Try.func39 (by kernel_rfl) rfl #[.agg #[.slice Ao7 t507.length co7, .slice Ao9 t510.length co9, .slice Ao10 t513.length co10], .slice Ao53 y546.length co53] (by rfl) rfl rfl u12_6 ?_
      with_reducible refine (impl_CommitOf.calls k2 _ _ t507 _ _ t510 _ _ t513 _ _ y546 t550 _ ?side1 ?side2 ?side3 ?side4 ?side5 ?side6 ?side7 ?side8 A43.out).mono ?_
      (case side1 => exact u12_8)
      (case side2 => exact (Kd.R_reads' HO_520000.out).2.1)
      (case side3 => exact u12_9)
      (case side4 => exact (Kd.R_reads' HO_520001.out).2.1)
      (case side5 => exact u12_10)
      (case side6 => exact (Kd.R_reads' HO_520002.out).2.1)
      (case side7 => exact (by repeat (first | exact (Kd.R_reads' HO548.out).2.2 | (with_reducible refine Kd.C_alloc ?_ _) | (with_reducible refine Kd.C_drewN ?_ _) | (with_reducible refine Kd.C_drew ?_))))
      (case side8 => exact (Kd.R_reads' HO548.out).2.1)
      rintro e w54 ⟨rfl, hb⟩
      refine ⟨_, rfl, ?_⟩
      have n0_ := Aside0.mk (Kd.R_below u12_1 hb)
      have n1_ := Aside0.mk (Kd.R_below u12_3 hb)
      have n2_ := Aside0.mk (Kd.R_below u12_4 hb)
      have n3_ := Aside0.mk (Kd.R_below u12_5 hb)
      have n4_ := Aside0.mk (Kd.R_below u12_14 hb)
      have n5_ := Aside0.mk (blk_below (g := gb519) (o := .cells #[.slice Ao7 t507.length co7, .slice Ao9 t510.length co9, .slice Ao10 t513.length co10] 26 (0, 0)) u12_2 hb)
      have n6_ := Aside0.mk (below_step u12_0 hb)
      clear HO_5
      clear HO_520000
      clear HO_520001
      clear HO_520002
      clear HO548
      clear BK519
      clear HB
      have HO_5 := n0_
      have HO_520000 := n1_
      have HO_520001 := n2_
      have HO_520002 := n3_
      have HO548 := n4_
      have BK519 := n5_
      have HB := n6_
      clear n0_ n1_ n2_ n3_ n4_ n5_ n6_
      (try clear hb)
      (try clear hb2)
      (try clear hk)
      (try clear hi)
      refine hK.out _ _ ⟨(blk_cell BK519.out 0).trans rfl, (blk_cell BK519.out 1).trans rfl, (blk_cell BK519.out 2).trans rfl⟩ (fun hHeld => ?_)
      clear hK K
      refine norm_ (a' := ?_) ?_ ?_
      rotate_left
      · show Act.put _ (some 102) _ = _
        simp only [Act.put, List.setIfInBounds_toArray, List.set_cons_zero, List.set_cons_succ, i64_w, i32_w]
        rfl
      refine pure_ (i := 10) (N := some 104) (v := ?_) (a' := ?_) #[true, true, true, true, true, true, true, true, true, true, true, false, false, false, false, false, false, false, false] rfl rfl (any_of HT_.out (by kernel_rfl)) (fun _ _ _ h => h) (Or.inl ⟨by rfl, ?_⟩) ?_ ?_
      rotate_left
      · intro w'
        go_simp
        with_reducible rfl
      rotate_left
      · simp only [Act.put, List.setIfInBounds_toArray, List.set_cons_zero, List.set_cons_succ, i64_w, i32_w]
        rfl
      refine pure_ (i := 11) (N := some 105) (v := ?_) (a' := ?_) #[true, true, true, true, true, true, true, true, true, true, true, true, false, false, false, false, false, false, false] rfl rfl (any_of HT_.out (by kernel_rfl)) (fun _ _ _ h => h) (Or.inl ⟨by rfl, ?_⟩) ?_ ?_
      rotate_left
      · intro w'
        go_simp
        with_reducible rfl
      rotate_left
      · simp only [Act.put, List.setIfInBounds_toArray, List.set_cons_zero, List.set_cons_succ, i64_w, i32_w]
        rfl
      refine pure_ (i := 12) (N := some 106) (v := ?_) (a' := ?_) #[true, true, true, true, true, true, true, true, true, true, true, true, true, false, false, false, false, false, false] rfl rfl (any_of HT_.out (by kernel_rfl)) (fun _ _ _ h => h) (Or.inl ⟨by rfl, ?_⟩) ?_ ?_
      rotate_left
      · intro w'
        go_simp
        with_reducible rfl
      rotate_left
      · simp only [Act.put, List.setIfInBounds_toArray, List.set_cons_zero, List.set_cons_succ, i64_w, i32_w]
        rfl
      refine take_ (i := 13) (N := some 107) (v := ?_) (a' := ?_) #[true, true, true, true, true, true, true, true, true, true, true, true, true, true, false, false, false, false, false] rfl rfl (take_ofW HT_.out HW_.out (by kernel_rfl)) (fun _ _ _ h => h) (Or.inl ⟨by rfl, ?_⟩) hHeld ?_ ?_
      rotate_left
      · rintro w' ⟨s0, s1, s2⟩
        go_simp
        with_reducible rfl
      rotate_left
      · simp only [Act.put, List.setIfInBounds_toArray, List.set_cons_zero, List.set_cons_succ, i64_w, i32_w]
        rfl
      refine take_ (i := 14) (N := some 108) (v := ?_) (a' := ?_) #[true, true, true, true, true, true, true, true, true, true, true, true, true, true, true, false, false, false, false] rfl rfl (take_ofW HT_.out HW_.out (by kernel_rfl)) (fun _ _ _ h => h) (Or.inl ⟨by rfl, ?_⟩) hHeld ?_ ?_
      rotate_left
      · rintro w' ⟨s0, s1, s2⟩
        go_simp
        with_reducible rfl
      rotate_left
      · simp only [Act.put, List.setIfInBounds_toArray, List.set_cons_zero, List.set_cons_succ, i64_w, i32_w]
        rfl
      refine one_ (i := 15) (N := some 109) #[true, true, true, true, true, true, true, true, true, true, true, true, true, true, true, true, false, false, false] rfl rfl (one_of HT_.out (by kernel_rfl)) (by decide) (fun K hK => ?_)
      refine goes_ Try.func19 (by kernel_rfl) rfl #[.agg #[.slice Ao7 t507.length co7, .slice Ao9 t510.length co9, .slice Ao10 t513.length co10]] (by rfl) rfl rfl u12_6 ?_
      with_reducible refine (impl_Voters.calls k2 _ _ t507 _ _ t510 _ _ t513 t551 _ ?side1 ?side2 ?side3 ?side4 ?side5 ?side6 A45.out).mono ?_
      (case side1 => exact u12_8)
      (case side2 => exact (Kd.R_reads' HO_520000.out).2.1)
      (case side3 => exact u12_9)
      (case side4 => exact (Kd.R_reads' HO_520001.out).2.1)
      (case side5 => exact u12_10)
      (case side6 => exact (Kd.R_reads' HO_520002.out).2.1)
      rintro e w55 ⟨v552, rfl, ho0, hb⟩
      refine ⟨_, rfl, ?_⟩
      have n0_ := Aside0.mk (Kd.R_below u12_1 hb)
      have n1_ := Aside0.mk (Kd.R_elder' u12_3 (Kd.R_base ho0) hb)
      have n2_ := Aside0.mk (Kd.R_elder' u12_4 (Kd.R_base ho0) hb)
      have n3_ := Aside0.mk (Kd.R_elder' u12_5 (Kd.R_base ho0) hb)
      have n4_ := Aside0.mk (Kd.R_below u12_14 hb)
      have n5_ := Aside0.mk (Kd.R_lower (Kd.R_new' (Kd.R_new' (Kd.R_new' ho0 (Kd.R_lt u12_3)) (Kd.R_lt u12_4)) (Kd.R_lt u12_5)) (below_size u12_0))
      have n6_ := Aside0.mk (blk_below (g := gb519) (o := .cells #[.slice Ao7 t507.length co7, .slice Ao9 t510.length co9, .slice Ao10 t513.length co10] 26 (0, 0)) u12_2 hb)
      have n7_ := Aside0.mk (below_step u12_0 hb)
      clear HO_5
      clear HO_520000
      clear HO_520001
      clear HO_520002
      clear HO548
      clear BK519
      clear HB
      have HO_5 := n0_
      have HO_520000 := n1_
      have HO_520001 := n2_
      have HO_520002 := n3_
      have HO548 := n4_
      have HO553 := n5_
      have BK519 := n6_
      have HB := n7_
      clear n0_ n1_ n2_ n3_ n4_ n5_ n6_ n7_
      (try clear hb)
      (try clear hb2)
      (try clear hk)
      (try clear hi)
      (try clear ho0)
      obtain ⟨Ao56, co56, eo56⟩ := Kd.R_slice HO553.out
      (first | subst eo56 | (injection eo56 with f1_ f2_ f3_; have f4_ := f1_.symm; have f5_ := f3_.symm; clear f1_ f2_ f3_; subst f4_; subst f5_))
      refine hK.out _ _ ⟨(blk_cell BK519.out 0).trans rfl, (blk_cell BK519.out 1).trans rfl, (blk_cell BK519.out 2).trans rfl⟩ (fun hHeld => ?_)
      clear hK K
      refine norm_ (a' := ?_) ?_ ?_
      rotate_left
      · show Act.put _ (some 109) _ = _
        simp only [Act.put, List.setIfInBounds_toArray, List.set_cons_zero, List.set_cons_succ, i64_w, i32_w]
        rfl
      refine one_ (i := 16) (N := some 110) #[true, true, true, true, true, true, true, true, true, true, true, true, true, true, true, true, true, false, false] rfl rfl (one_of HT_.out (by kernel_rfl)) (by decide) (fun K hK => ?_)
      refine goes_ Try.func40 (by kernel_rfl) rfl #[.agg #[.slice Ao7 t507.length co7, .slice Ao9 t510.length co9, .slice Ao10 t513.length co10], .slice Ao56 t551.length co56] (by rfl) rfl rfl u12_6 ?_
      with_reducible refine (impl_Quorum.calls k2 _ _ t507 _ _ t510 _ _ t513 _ _ t551 t554 _ ?side1 ?side2 ?side3 ?side4 ?side5 ?side6 ?side7 ?side8 A46.out).mono ?_
      (case side1 => exact u12_8)
      (case side2 => exact (Kd.R_reads' HO_520000.out).2.1)
      (case side3 => exact u12_9)
      (case side4 => exact (Kd.R_reads' HO_520001.out).2.1)
      (case side5 => exact u12_10)
      (case side6 => exact (Kd.R_reads' HO_520002.out).2.1)
      (case side7 => exact (by repeat (first | exact (Kd.R_reads' HO553.out).2.2 | (with_reducible refine Kd.C_alloc ?_ _) | (with_reducible refine Kd.C_drewN ?_ _) | (with_reducible refine Kd.C_drew ?_))))
      (case side8 => exact (Kd.R_reads' HO553.out).2.1)
      rintro e w57 ⟨rfl, hb⟩
      refine ⟨_, rfl, ?_⟩
      have n0_ := Aside0.mk (Kd.R_below u12_1 hb)
      have n1_ := Aside0.mk (Kd.R_below u12_3 hb)
      have n2_ := Aside0.mk (Kd.R_below u12_4 hb)
      have n3_ := Aside0.mk (Kd.R_below u12_5 hb)
      have n4_ := Aside0.mk (Kd.R_below u12_14 hb)
      have n5_ := Aside0.mk (Kd.R_below (by (with_reducible repeat (first | apply Kd.R_alloc | apply Kd.R_drewN | apply Kd.R_drew)); exact HO553.out) hb)
      have n6_ := Aside0.mk (blk_below (g := gb519) (o := .cells #[.slice Ao7 t507.length co7, .slice Ao9 t510.length co9, .slice Ao10 t513.length co10] 26 (0, 0)) u12_2 hb)
      have n7_ := Aside0.mk (below_step u12_0 hb)
      clear HO_5
      clear HO_520000
      clear HO_520001
      clear HO_520002
      clear HO548
      clear HO553
      clear BK519
      clear HB
      have HO_5 := n0_
      have HO_520000 := n1_
      have HO_520001 := n2_
      have HO_520002 := n3_
      have HO548 := n4_
      have HO553 := n5_
      have BK519 := n6_
      have HB := n7_
      clear n0_ n1_ n2_ n3_ n4_ n5_ n6_ n7_
      (try clear hb)
      (try clear hb2)
      (try clear hk)
      (try clear hi)
      refine hK.out _ _ ⟨(blk_cell BK519.out 0).trans rfl, (blk_cell BK519.out 1).trans rfl, (blk_cell BK519.out 2).trans rfl⟩ (fun hHeld => ?_)
      clear hK K
      refine norm_ (a' := ?_) ?_ ?_
      rotate_left
      · show Act.put _ (some 110) _ = _
        simp only [Act.put, List.setIfInBounds_toArray, List.set_cons_zero, List.set_cons_succ, i64_w, i32_w]
        rfl
      refine pure_ (i := 17) (N := some 111) (v := ?_) (a' := ?_) #[true, true, true, true, true, true, true, true, true, true, true, true, true, true, true, true, true, true, false] rfl rfl (any_of HT_.out (by kernel_rfl)) (fun _ _ _ h => h) (Or.inl ⟨by rfl, ?_⟩) ?_ ?_
      rotate_left
      · intro w'
        go_simp
        with_reducible rfl
      rotate_left
      · simp only [Act.put, List.setIfInBounds_toArray, List.set_cons_zero, List.set_cons_succ, i64_w, i32_w]
        rfl
      refine pure_ (i := 18) (N := some 2) (v := ?_) (a' := ?_) #[true, true, true, true, true, true, true, true, true, true, true, true, true, true, true, true, true, true, true] rfl rfl (any_of HT_.out (by kernel_rfl)) (fun _ _ _ h => h) (Or.inl ⟨by rfl, ?_⟩) ?_ ?_
      rotate_left
      · intro w'
        go_simp
        with_reducible rfl
      rotate_left
      · simp only [Act.put, List.setIfInBounds_toArray, List.set_cons_zero, List.set_cons_succ, i64_w, i32_w]
        rfl
      refine done_ (done_of HT_.out (by kernel_rfl)) ?_
      try go_wp2
      go_ret
      exact ⟨by first | rfl | (simp [errW_none, errW_some] <;> rfl) | (simp [*, errW_none, errW_some] <;> rfl), u12_0⟩

/-- THE ONE PURE STATEMENT of laws_FnCommits: yours. -/
def laws_FnCommits.Pure : Prop := ∀ (l0 : List Int), l0.length ≤ maxLen → l0.length * 1 ≤ 140737488351232 → (∀ x ∈ l0, (Lit.int .u8 x).wf = true) → ∃ k, laws_FnCommits.f k l0 = some true
theorem laws_FnCommits.walk (P : laws_FnCommits.Pure) (a0 : Option Addr) (len0 cap0 : Nat) (z0 : List Int) (w : World) (w0 : (a0 = none ∧ len0 = 0 ∧ cap0 = 0 ∧ z0 = []) ∨ ∃ x, a0 = some x ∧ len0 ≤ cap0 ∧ cap0 ≤ maxLen ∧ z0.length = cap0 ∧ (∀ i, i < z0.length → w.cell? (x.add i) = some (.int .u8 (z0.getD i 0))) ∧ ∀ n ∈ z0, (Lit.int .u8 n).wf = true) (y0 : len0 * 1 ≤ 140737488351232) :
    Calls Try.prog 7 #[.slice a0 len0 cap0] w fun e w' => e = .returned (.bool true) ∧ Below w.heap.size w w' := by
  obtain ⟨l0, rfl, hr0, hm0, hw0, hc0⟩ := ReadsInt.ofRowC w0
  obtain ⟨k, h⟩ := P l0 hm0 y0 hw0
  refine (laws_FnCommits.calls k _ _ l0 true w (Kd.C_of_reads (d := (0 : Int)) (h1 := fun _ => rfl) hr0) hc0 h ⟨rfl⟩).mono ?_
  rintro e w' ⟨rfl, hd⟩
  exact ⟨rfl, hd⟩

end Go.Proofs.Ytoemdmjdpikfbaa.QFnCommits
