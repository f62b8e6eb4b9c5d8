-- Printed by the session's own program wip/prx.py.
import Derived.Test.YtdbfjakhkclggaaQFnHoldsx0
import Derived.Test.YtdbfjakhkclggaaQFnHoldsx7
import Derived.Test.YtdbfjakhkclggaaQFnHoldsx8
import Derived.Test.YtdbfjakhkclggaaQFnHoldsx9
import Derived.Test.YtdbfjakhkclggaaQFnHoldsx10
namespace Go.Proofs.Ytdbfjakhkclggaa.QFnHolds
open Go.RowKit Go.Proofs.YtdbfjakhkclggaaW.PrintWords Go.Proofs.YtdbfjakhkclggaaW.PrintLast Go.Proofs.YtdbfjakhkclggaaW.PrintMore
attribute [local go_sem] max2_int min2_int max_two min_two max_three min_three max_four min_four Go.Proofs.Ytdbfjakhkclggaa.Set.isSome_setCell Go.Proofs.Ytdbfjakhkclggaa.Add.add64   -- for this text's walks alone
set_option linter.unusedVariables false
set_option linter.unusedSimpArgs false

-- squeezed
theorem u11_0 {P : Prop} (h : P := by repeat (first | (with_reducible first | exact HK.out | apply KeepBut.set_ | apply keep_drewN | apply keep_drew | apply keep_alloc | refine keep_far ?_ GW389.out _ | refine keep_far ?_ GW390.out _) | exact HK.out)) : P := h
theorem u11_1 {P : Prop} (h : P := by repeat (first | (with_reducible first | exact HI0.out | apply IsS83.alloc | apply IsS83.drewN | apply IsS83.drew | apply IsS83.set_1 | apply IsS83.set_2 | refine IsS83.far ?_ NB0_389.out _ | refine IsS83.far ?_ NB0_390.out _) | exact HI0.out)) : P := h
theorem u11_2 {P : Prop} (h : P := by repeat (first | (with_reducible first | exact HB.out | apply below_alloc | apply pw_below_drewN | apply below_drew1 | refine below_set ?_ (IsS83.ge HI0.out) | refine below_set ?_ GE389.out | refine below_set ?_ GE390.out) | exact HB.out)) : P := h
theorem u11_3 {P : Prop} (h : P := by (with_reducible repeat (first | apply Kd.R_alloc | apply Kd.R_drewN | apply Kd.R_drew)); exact HO_391000.out) : P := h
theorem u11_4 {P : Prop} (h : P := by (with_reducible repeat (first | refine blk_drewN ?_ _ | refine blk_drew ?_ | refine blk_alloc ?_ _)); exact BK389.out) : P := h
theorem u11_5 {P : Prop} (h : P := by (with_reducible repeat (first | refine blk_drewN ?_ _ | refine blk_drew ?_ | refine blk_alloc ?_ _)); exact BK390.out) : P := h
theorem u11_6 {P : Prop} (h : P := by (try simp only [List.map_toArray, List.map_cons, List.map_nil]); first | done | rfl | (simp only [List.length_drop, List.length_take]; rfl)) : P := h
theorem u11_7 {P : Prop} (h : P := by (with_reducible repeat (first | refine blk_drewN ?_ _ | refine blk_drew ?_ | refine blk_alloc ?_ _)); refine blk_far ?_ NB389_390.out _; (with_reducible repeat (first | refine blk_drewN ?_ _ | refine blk_drew ?_ | refine blk_alloc ?_ _)); exact BK389.out) : P := h
theorem u11_8 {P : Prop} (h : P := by repeat (first | exact (Kd.R_reads' HO_391000.out).2.2 | (with_reducible refine Kd.C_alloc ?_ _) | (with_reducible refine Kd.C_drewN ?_ _) | (with_reducible refine Kd.C_drew ?_))) : P := h
theorem u11_9 {P : Prop} (h : P := by first | rfl | (simp; done) | (simp [*]; done)) : P := h
theorem u11_10 {P : Prop} (h : P := by repeat (first | (with_reducible first | exact HK.out | apply KeepBut.set_ | apply keep_drewN | apply keep_drew | apply keep_alloc | refine keep_far ?_ GW389.out _) | exact HK.out)) : P := h
theorem u11_11 {P : Prop} (h : P := by have := HK1.out; have := HK2.out; have := HJ26.out; omega) : P := h
theorem u11_12 {P : Prop} (h : P := by repeat (first | (with_reducible first | exact HK.out | apply KeepBut.set_ | apply keep_drewN | apply keep_drew | apply keep_alloc) | exact HK.out)) : P := h
theorem u11_13 {P : Prop} (h : P := by have := HK1.out; have := HK2.out; first | omega | exact Nat.le_refl _) : P := h
/-! ### spec_l10DrawRight: function 71 -/
mutual
def spec_l10DrawRight.l0 : Nat → List Int → Int → List Int → Int → Int → List (S53) → Option ((List (S53)) × Int × Int)
  | 0, _, _, _, _, _, _ => none
  | k + 1, x1, x6, x1000, x1001, x1002, x391000 => if x6 > 0 then ((spec_l10DrawId.f x1000 x1001 x1002).bind fun bt394 => ((spec_OpenAccount.f k x391000 bt394.1).bind fun bt397 => (spec_l10DrawRight.l0 k x1 (wrap64 (x6 - 1)) x1000 bt394.2.1 bt394.2.2 bt397.1))) else ((spec_l01Size.f x1 16).bind fun t401 => ((spec_l01Below.f x1000 x1001 x1002 (wrap64 (4 + t401))).bind fun bt402 => (spec_l10DrawRight.l1 k bt402.1 x1000 bt402.2.1 bt402.2.2 x391000)))
def spec_l10DrawRight.l1 : Nat → Int → List Int → Int → Int → List (S53) → Option ((List (S53)) × Int × Int)
  | 0, _, _, _, _, _ => none
  | k + 1, x7, x1000, x1001, x1002, x391000 => if x7 > 0 then ((spec_l10DrawId.f x1000 x1001 x1002).bind fun bt405 => ((spec_l10DrawAmount.f k x1000 bt405.2.1 bt405.2.2).bind fun bt408 => ((spec_l01Below.f x1000 bt408.2.1 bt408.2.2 4).bind fun bt411 => ((spec_l01Below.f x1000 bt411.2.1 bt411.2.2 9).bind fun bt414 => (if bt414.1 = 0 then (spec_l10DrawRight.j2 k x7 bt405.1 bt408.1 (wrap64 (1 + bt411.1)) bt414.1 (bt414.1 == 0) x1000 bt414.2.1 bt414.2.2 x391000) else (if bt414.1 = 1 then (spec_l10DrawRight.j2 k x7 bt405.1 bt408.1 (wrap64 (1 + bt411.1)) bt414.1 (bt414.1 == 1) x1000 bt414.2.1 bt414.2.2 x391000) else (spec_l10DrawRight.j2 k x7 bt405.1 bt408.1 (wrap64 (1 + bt411.1)) bt414.1 (bt414.1 == 2) x1000 bt414.2.1 bt414.2.2 x391000))))))) else (some (x391000, x1001, x1002))
def spec_l10DrawRight.j2 : Nat → Int → Int → Int → Int → Int → Bool → List Int → Int → Int → List (S53) → Option ((List (S53)) × Int × Int)
  | 0, _, _, _, _, _, _, _, _, _, _ => none
  | k + 1, x7, x8, x9, x10, x43, x50, x1000, x1001, x1002, x391000 => if x50 = true then ((spec_Deposit.f k x391000 x8 x9).bind fun bt417 => (spec_l10DrawRight.l1 k (wrap64 (x7 - 1)) x1000 x1001 x1002 bt417.1)) else (if x43 = 3 then ((spec_Withdraw.f k x391000 x8 x9).bind fun bt421 => (spec_l10DrawRight.l1 k (wrap64 (x7 - 1)) x1000 x1001 x1002 bt421.1)) else (if x43 = 4 then ((spec_LockDebit.f k x391000 x8 x9 x10).bind fun bt425 => (spec_l10DrawRight.l1 k (wrap64 (x7 - 1)) x1000 x1001 x1002 bt425.1)) else (if x43 = 5 then ((spec_LockCredit.f k x391000 x8 x9 x10).bind fun bt429 => (spec_l10DrawRight.l1 k (wrap64 (x7 - 1)) x1000 x1001 x1002 bt429.1)) else (if x43 = 6 then ((spec_SettleHold.f k x391000 x8 x10).bind fun bt433 => (spec_l10DrawRight.l1 k (wrap64 (x7 - 1)) x1000 x1001 x1002 bt433.1)) else (if x43 = 7 then ((spec_ReleaseHold.f k x391000 x8 x10).bind fun bt437 => (spec_l10DrawRight.l1 k (wrap64 (x7 - 1)) x1000 x1001 x1002 bt437.1)) else ((spec_OpenAccount.f k x391000 x8).bind fun bt441 => (spec_l10DrawRight.l1 k (wrap64 (x7 - 1)) x1000 x1001 x1002 bt441.1)))))))
end
def spec_l10DrawRight.f (k : Nat) (s0_0 : List Int) (s0_1 : Int) (s0_2 : Int) (l1 : List Int) : Option ((List (S53)) × Int × Int) := (spec_l01Below.f s0_0 s0_1 s0_2 7).bind fun bt391 => (spec_l10DrawRight.l0 k l1 (wrap64 (2 + bt391.1)) s0_0 bt391.2.1 bt391.2.2 ([] : List (S53)))
theorem spec_l10DrawRight.mono_l : ∀ k, (∀ y0 y1 y2 y3 y4 y5, LeO (spec_l10DrawRight.l0 k y0 y1 y2 y3 y4 y5) (spec_l10DrawRight.l0 (k + 1) y0 y1 y2 y3 y4 y5)) ∧ (∀ y0 y1 y2 y3 y4, LeO (spec_l10DrawRight.l1 k y0 y1 y2 y3 y4) (spec_l10DrawRight.l1 (k + 1) y0 y1 y2 y3 y4)) ∧ (∀ y0 y1 y2 y3 y4 y5 y6 y7 y8 y9, LeO (spec_l10DrawRight.j2 k y0 y1 y2 y3 y4 y5 y6 y7 y8 y9) (spec_l10DrawRight.j2 (k + 1) y0 y1 y2 y3 y4 y5 y6 y7 y8 y9))
  | 0 => ⟨fun _ _ _ _ _ _ r h => by simp [spec_l10DrawRight.l0] at h, fun _ _ _ _ _ r h => by simp [spec_l10DrawRight.l1] at h, fun _ _ _ _ _ _ _ _ _ _ r h => by simp [spec_l10DrawRight.j2] at h⟩
  | k + 1 => by
    obtain ⟨ih0, ih1, ih2⟩ := spec_l10DrawRight.mono_l k
    refine ⟨?_, ?_, ?_⟩
    · intro y0 y1 y2 y3 y4 y5
      unfold spec_l10DrawRight.l0
      repeat' first
      | (with_reducible exact ih0 _ _ _ _ _ _)
      | (with_reducible exact ih1 _ _ _ _ _)
      | (with_reducible exact ih2 _ _ _ _ _ _ _ _ _ _)
      | (with_reducible exact spec_Deposit.mono _ _ _ _)
      | (with_reducible exact spec_LockCredit.mono _ _ _ _ _)
      | (with_reducible exact spec_LockDebit.mono _ _ _ _ _)
      | (with_reducible exact spec_OpenAccount.mono _ _ _)
      | (with_reducible exact spec_ReleaseHold.mono _ _ _ _)
      | (with_reducible exact spec_SettleHold.mono _ _ _ _)
      | (with_reducible exact spec_Withdraw.mono _ _ _ _)
      | (with_reducible exact spec_l10DrawAmount.mono _ _ _ _)
      | (with_reducible exact LeO.refl _)
      | (with_reducible exact LeO.none _)
      | (with_reducible refine LeO.ite ?_ ?_)
      | (with_reducible refine LeO.bind ?_ (fun _ => ?_))
      | exact ih0 _ _ _ _ _ _
      | exact ih1 _ _ _ _ _
      | exact ih2 _ _ _ _ _ _ _ _ _ _
      | exact spec_Deposit.mono _ _ _ _
      | exact spec_LockCredit.mono _ _ _ _ _
      | exact spec_LockDebit.mono _ _ _ _ _
      | exact spec_OpenAccount.mono _ _ _
      | exact spec_ReleaseHold.mono _ _ _ _
      | exact spec_SettleHold.mono _ _ _ _
      | exact spec_Withdraw.mono _ _ _ _
      | exact spec_l10DrawAmount.mono _ _ _ _
      | exact LeO.none _
      | refine LeO.ite ?_ ?_
      | refine LeO.bind ?_ (fun _ => ?_)
    · intro y0 y1 y2 y3 y4
      unfold spec_l10DrawRight.l1
      repeat' first
      | (with_reducible exact ih0 _ _ _ _ _ _)
      | (with_reducible exact ih1 _ _ _ _ _)
      | (with_reducible exact ih2 _ _ _ _ _ _ _ _ _ _)
      | (with_reducible exact spec_Deposit.mono _ _ _ _)
      | (with_reducible exact spec_LockCredit.mono _ _ _ _ _)
      | (with_reducible exact spec_LockDebit.mono _ _ _ _ _)
      | (with_reducible exact spec_OpenAccount.mono _ _ _)
      | (with_reducible exact spec_ReleaseHold.mono _ _ _ _)
      | (with_reducible exact spec_SettleHold.mono _ _ _ _)
      | (with_reducible exact spec_Withdraw.mono _ _ _ _)
      | (with_reducible exact spec_l10DrawAmount.mono _ _ _ _)
      | (with_reducible exact LeO.refl _)
      | (with_reducible exact LeO.none _)
      | (with_reducible refine LeO.ite ?_ ?_)
      | (with_reducible refine LeO.bind ?_ (fun _ => ?_))
      | exact ih0 _ _ _ _ _ _
      | exact ih1 _ _ _ _ _
      | exact ih2 _ _ _ _ _ _ _ _ _ _
      | exact spec_Deposit.mono _ _ _ _
      | exact spec_LockCredit.mono _ _ _ _ _
      | exact spec_LockDebit.mono _ _ _ _ _
      | exact spec_OpenAccount.mono _ _ _
      | exact spec_ReleaseHold.mono _ _ _ _
      | exact spec_SettleHold.mono _ _ _ _
      | exact spec_Withdraw.mono _ _ _ _
      | exact spec_l10DrawAmount.mono _ _ _ _
      | exact LeO.none _
      | refine LeO.ite ?_ ?_
      | refine LeO.bind ?_ (fun _ => ?_)
    · intro y0 y1 y2 y3 y4 y5 y6 y7 y8 y9
      unfold spec_l10DrawRight.j2
      repeat' first
      | (with_reducible exact ih0 _ _ _ _ _ _)
      | (with_reducible exact ih1 _ _ _ _ _)
      | (with_reducible exact ih2 _ _ _ _ _ _ _ _ _ _)
      | (with_reducible exact spec_Deposit.mono _ _ _ _)
      | (with_reducible exact spec_LockCredit.mono _ _ _ _ _)
      | (with_reducible exact spec_LockDebit.mono _ _ _ _ _)
      | (with_reducible exact spec_OpenAccount.mono _ _ _)
      | (with_reducible exact spec_ReleaseHold.mono _ _ _ _)
      | (with_reducible exact spec_SettleHold.mono _ _ _ _)
      | (with_reducible exact spec_Withdraw.mono _ _ _ _)
      | (with_reducible exact spec_l10DrawAmount.mono _ _ _ _)
      | (with_reducible exact LeO.refl _)
      | (with_reducible exact LeO.none _)
      | (with_reducible refine LeO.ite ?_ ?_)
      | (with_reducible refine LeO.bind ?_ (fun _ => ?_))
      | exact ih0 _ _ _ _ _ _
      | exact ih1 _ _ _ _ _
      | exact ih2 _ _ _ _ _ _ _ _ _ _
      | exact spec_Deposit.mono _ _ _ _
      | exact spec_LockCredit.mono _ _ _ _ _
      | exact spec_LockDebit.mono _ _ _ _ _
      | exact spec_OpenAccount.mono _ _ _
      | exact spec_ReleaseHold.mono _ _ _ _
      | exact spec_SettleHold.mono _ _ _ _
      | exact spec_Withdraw.mono _ _ _ _
      | exact spec_l10DrawAmount.mono _ _ _ _
      | exact LeO.none _
      | refine LeO.ite ?_ ?_
      | refine LeO.bind ?_ (fun _ => ?_)
theorem spec_l10DrawRight.mono : ∀ a0 a1 a2 a3 k, LeO (spec_l10DrawRight.f k a0 a1 a2 a3) (spec_l10DrawRight.f (k + 1) a0 a1 a2 a3) := by
  intro a0 a1 a2 a3 k
  obtain ⟨ih0, ih1, ih2⟩ := spec_l10DrawRight.mono_l k
  unfold spec_l10DrawRight.f
  repeat' first
      | (with_reducible exact ih0 _ _ _ _ _ _)
      | (with_reducible exact ih1 _ _ _ _ _)
      | (with_reducible exact ih2 _ _ _ _ _ _ _ _ _ _)
      | (with_reducible exact spec_Deposit.mono _ _ _ _)
      | (with_reducible exact spec_LockCredit.mono _ _ _ _ _)
      | (with_reducible exact spec_LockDebit.mono _ _ _ _ _)
      | (with_reducible exact spec_OpenAccount.mono _ _ _)
      | (with_reducible exact spec_ReleaseHold.mono _ _ _ _)
      | (with_reducible exact spec_SettleHold.mono _ _ _ _)
      | (with_reducible exact spec_Withdraw.mono _ _ _ _)
      | (with_reducible exact spec_l10DrawAmount.mono _ _ _ _)
      | (with_reducible exact LeO.refl _)
      | (with_reducible exact LeO.none _)
      | (with_reducible refine LeO.ite ?_ ?_)
      | (with_reducible refine LeO.bind ?_ (fun _ => ?_))
      | exact ih0 _ _ _ _ _ _
      | exact ih1 _ _ _ _ _
      | exact ih2 _ _ _ _ _ _ _ _ _ _
      | exact spec_Deposit.mono _ _ _ _
      | exact spec_LockCredit.mono _ _ _ _ _
      | exact spec_LockDebit.mono _ _ _ _ _
      | exact spec_OpenAccount.mono _ _ _
      | exact spec_ReleaseHold.mono _ _ _ _
      | exact spec_SettleHold.mono _ _ _ _
      | exact spec_Withdraw.mono _ _ _ _
      | exact spec_l10DrawAmount.mono _ _ _ _
      | exact LeO.none _
      | refine LeO.ite ?_ ?_
      | refine LeO.bind ?_ (fun _ => ?_)
def spec_l10DrawRight.T5 : Bool × List (List Nat × List Nat) := (true, [([], []), ([], []), ([1], [1]), ([0, 2, 2], [0, 2]), ([3], [3]), ([4], [4]), ([4], [4]), ([5, 3, 0, 1, 2, 3, 4, 5], [5])])
def spec_l10DrawRight.B5 : List Nat := [0, 0, 2, 7, 15, 31, 31, 63]
theorem spec_l10DrawRight.tab5 : rtab .any (opsOf Try.f71 5) = spec_l10DrawRight.T5 := by kernel_rfl
theorem spec_l10DrawRight.bits5 : waitsOk spec_l10DrawRight.T5.2 spec_l10DrawRight.B5 = true := by kernel_rfl
set_option maxHeartbeats 8000000 in
set_option maxRecDepth 100000 in
theorem spec_l10DrawRight.calls (k : Nat) (g : Nat) (s0_0 : List Int) (s0_1 : Int) (s0_2 : Int) (A1 : Option Addr) (c1 : Nat) (l1 : List Int) (r1 : List (S53)) (r2 : Int) (r3 : Int) (w0 w : World) (hI : IsS83 w0 w g s0_0 s0_1 s0_2) (hB : Below w0.heap.size w0 w) (hr1 : Kd.C (Kd.int .u8) w A1 l1.length l1) (hc1 : l1.length ≤ c1) (hf1 : ∀ ad, A1 = some ad → 0 < l1.length → ad.block ≠ g) (h : spec_l10DrawRight.f k s0_0 s0_1 s0_2 l1 = some (r1, r2, r3)) :
    Calls Try.prog 71 #[.pointer (some ⟨g, 0, none⟩), .slice A1 l1.length c1] w fun e w' => ∃ v0_ : Value, e = .returned (.agg #[v0_]) ∧ Kd.R k53 53 w' w.heap.size (fun _ => True) v0_ r1 ∧ IsS83 w0 w' g s0_0 r2 r3 ∧ Below w0.heap.size w0 w' ∧ KeepBut w w' g none := by
  have hu29 := Try.underlying29
  have HR1 := Aside0.mk hr1
  have HC1 := Aside0.mk hc1
  clear hr1 hc1
  have HI0 := Aside0.mk hI
  have HK := Aside0.mk (KeepBut.refl w g none)
  have HL := Aside0.mk hB.size
  clear hI
  have HW0 := Aside0.mk hB.size
  have HB := Aside0.mk hB
  clear hB
  have H : ((spec_l01Below.f s0_0 s0_1 s0_2 7).bind fun bt391 => (spec_l10DrawRight.l0 k l1 (wrap64 (2 + bt391.1)) s0_0 bt391.2.1 bt391.2.2 ([] : List (S53)))) = some (r1, r2, r3) := h
  clear h
  replace H := Option.bind_eq_some_iff.mp H
  obtain ⟨⟨t391, t392, t393⟩, A30, H⟩ := H
  replace H : (spec_l10DrawRight.l0 k l1 (wrap64 (2 + t391)) s0_0 t392 t393 ([] : List (S53))) = some (r1, r2, r3) := H
  have A3 := Aside0.mk A30
  clear A30
  have H' := Aside0.mk H
  clear H
  go_enter Try.func71, Try.ntmps71
  go_wp2_with (first | ((with_reducible refine gate_dst (N := 4) rfl ?_); refine box_event ?hg (N := 4) ?hd (cs := #[.slice none 0 0]) (t := 29) ?hr ?_; (case hd => rfl); (case hg => rfl); (case hr => first | (go_simp; done) | (go_simp; rfl)); intro gb389 hg w4 hbox hb; have n0_ := Aside0.mk (IsS83.below (by repeat (first | (with_reducible first | exact HI0.out | apply IsS83.alloc | apply IsS83.drewN | apply IsS83.drew | apply IsS83.set_1 | apply IsS83.set_2) | exact HI0.out)) hb); have n1_ := Aside0.mk (KeepBut.trans u11_12 (KeepBut.of_below hb g none) (.inl rfl)); have n2_ := Aside0.mk (below_step (by repeat (first | (with_reducible first | exact HB.out | apply below_alloc | apply pw_below_drewN | apply below_drew1 | refine below_set ?_ (IsS83.ge HI0.out)) | exact HB.out)) hb); have n3_ := Aside0.mk (hbox); have n4_ := Aside0.mk ((by rw [hg]; exact (keep_size (w := w) (g := g) (row := none) u11_12) : w.heap.size ≤ gb389)); have n5_ := Aside0.mk ((Nat.le_trans HW0.out (by rw [hg]; exact (keep_size (w := w) (g := g) (row := none) u11_12) : w.heap.size ≤ gb389) : w0.heap.size ≤ gb389)); have n6_ := Aside0.mk ((by rw [hg]; exact Nat.ne_of_lt (IsS83.lt (show IsS83 w0 _ g s0_0 s0_1 s0_2 from by repeat (first | (with_reducible first | exact HI0.out | apply IsS83.alloc | apply IsS83.drewN | apply IsS83.drew | apply IsS83.set_1 | apply IsS83.set_2) | exact HI0.out))) : g ≠ gb389)); have n7_ := Aside0.mk ((by rw [hg]; exact Nat.ne_of_gt (IsS83.lt (show IsS83 w0 _ g s0_0 s0_1 s0_2 from by repeat (first | (with_reducible first | exact HI0.out | apply IsS83.alloc | apply IsS83.drewN | apply IsS83.drew | apply IsS83.set_1 | apply IsS83.set_2) | exact HI0.out))) : gb389 ≠ g)); clear HI0; clear HK; clear HB; have HI0 := n0_; have HK := n1_; have HB := n2_; have BK389 := n3_; have GW389 := n4_; have GE389 := n5_; have NB0_389 := n6_; have NB389_0 := n7_; clear n0_ n1_ n2_ n3_ n4_ n5_ n6_ n7_; clear hb hbox hg) | ((with_reducible refine gate_dst (N := 5) rfl ?_); refine box_event ?hg (N := 5) ?hd (cs := #[.slice none 0 0]) (t := 29) ?hr ?_; (case hd => rfl); (case hg => rfl); (case hr => first | (go_simp; done) | (go_simp; rfl)); intro gb390 hg w5 hbox hb; have n0_ := Aside0.mk (IsS83.below (by repeat (first | (with_reducible first | exact HI0.out | apply IsS83.alloc | apply IsS83.drewN | apply IsS83.drew | apply IsS83.set_1 | apply IsS83.set_2 | refine IsS83.far ?_ NB0_389.out _) | exact HI0.out)) hb); have n1_ := Aside0.mk (blk_below (g := gb389) (o := .cells #[.slice none 0 0] 29 (0, 0)) u11_4 hb); have n2_ := Aside0.mk (KeepBut.trans u11_10 (KeepBut.of_below hb g none) (.inl rfl)); have n3_ := Aside0.mk (below_step (by repeat (first | (with_reducible first | exact HB.out | apply below_alloc | apply pw_below_drewN | apply below_drew1 | refine below_set ?_ (IsS83.ge HI0.out) | refine below_set ?_ GE389.out) | exact HB.out)) hb); have n4_ := Aside0.mk (hbox); have n5_ := Aside0.mk ((by rw [hg]; exact (keep_size (w := w) (g := g) (row := none) u11_10) : w.heap.size ≤ gb390)); have n6_ := Aside0.mk ((Nat.le_trans HW0.out (by rw [hg]; exact (keep_size (w := w) (g := g) (row := none) u11_10) : w.heap.size ≤ gb390) : w0.heap.size ≤ gb390)); have n7_ := Aside0.mk ((by rw [hg]; exact Nat.ne_of_lt (blk_lt (g := gb389) (o := .cells #[.slice none 0 0] 29 (0, 0)) u11_4) : gb389 ≠ gb390)); have n8_ := Aside0.mk ((by rw [hg]; exact Nat.ne_of_gt (blk_lt (g := gb389) (o := .cells #[.slice none 0 0] 29 (0, 0)) u11_4) : gb390 ≠ gb389)); have n9_ := Aside0.mk ((by rw [hg]; exact Nat.ne_of_lt (IsS83.lt (show IsS83 w0 _ g s0_0 s0_1 s0_2 from by repeat (first | (with_reducible first | exact HI0.out | apply IsS83.alloc | apply IsS83.drewN | apply IsS83.drew | apply IsS83.set_1 | apply IsS83.set_2 | refine IsS83.far ?_ NB0_389.out _) | exact HI0.out))) : g ≠ gb390)); have n10_ := Aside0.mk ((by rw [hg]; exact Nat.ne_of_gt (IsS83.lt (show IsS83 w0 _ g s0_0 s0_1 s0_2 from by repeat (first | (with_reducible first | exact HI0.out | apply IsS83.alloc | apply IsS83.drewN | apply IsS83.drew | apply IsS83.set_1 | apply IsS83.set_2 | refine IsS83.far ?_ NB0_389.out _) | exact HI0.out))) : gb390 ≠ g)); clear HI0; clear BK389; clear HK; clear HB; have HI0 := n0_; have BK389 := n1_; have HK := n2_; have HB := n3_; have BK390 := n4_; have GW390 := n5_; have GE390 := n6_; have NB389_390 := n7_; have NB390_389 := n8_; have NB0_390 := n9_; have NB390_0 := n10_; clear n0_ n1_ n2_ n3_ n4_ n5_ n6_ n7_ n8_ n9_ n10_; clear hb hbox hg; have hnb6 := NB390_389.out; have hnc6 := NB389_390.out; have hnb7 := NB390_0.out; have hnc7 := NB0_390.out; have hcz8_0 : w5.cell? ⟨gb390, 0, none⟩ = some (.slice none 0 0) := (blk_cell BK390.out 0).trans rfl; have hfz8_0 := blk_frozen BK390.out 0) | ((with_reducible refine gate_callee (f := 74) rfl ?_); refine goesL_ (some 13) rfl rfl Try.func74 (by kernel_rfl) rfl #[.pointer (some ⟨g, 0, none⟩), .int .i64 7] rfl u11_6 ?_; (with_reducible refine (spec_l01Below.calls g s0_0 s0_1 s0_2 7 t391 t392 t393 w0 _ ?side1 ?side2 A3.out).mono ?_); (case side1 => exact u11_1); (case side2 => exact u11_2); rintro e w9 ⟨rfl, hi, hb, hk⟩; refine ⟨_, rfl, ?_⟩; have n0_ := Aside0.mk (KeepBut.blk hk (g' := gb389) (o := .cells #[.slice none 0 0] 29 (0, 0)) u11_7 NB389_0.out (by simp)); have n1_ := Aside0.mk (KeepBut.blk hk (g' := gb390) (o := .cells #[.slice none 0 0] 29 (0, 0)) (by (with_reducible repeat (first | refine blk_drewN ?_ _ | refine blk_drew ?_ | refine blk_alloc ?_ _)); refine blk_put (cs := #[.slice none 0 0]) ?_ 0 _ rfl; (with_reducible repeat (first | refine blk_drewN ?_ _ | refine blk_drew ?_ | refine blk_alloc ?_ _)); exact BK390.out) NB390_0.out (by simp)); have n2_ := Aside0.mk (KeepBut.trans u11_0 hk (.inl rfl)); have n3_ := Aside0.mk (hb); have n4_ := Aside0.mk (hi); clear BK389; clear BK390; clear HK; clear HB; clear HI0; have BK389 := n0_; have BK390 := n1_; have HK := n2_; have HB := n3_; have HI0 := n4_; clear n0_ n1_ n2_ n3_ n4_; (try clear hb); (try clear hb2); (try clear hk); (try clear hi)))
  go_loopg [6] k (fun kq v6 w' => ∃ (x6_1 : Int) (x1001_1 : Int) (x1002_1 : Int) (x391000_1 : List (S53)) (u391000 : Value), v6 = .int .i64 x6_1 ∧ Aside0 (spec_l10DrawRight.l0 kq l1 x6_1 s0_0 x1001_1 x1002_1 x391000_1 = some (r1, r2, r3)) ∧ Aside0 (kq ≤ k) ∧ Aside0 (Kd.R k53 53 w' w.heap.size (fun _ => True) u391000 x391000_1) ∧ Aside0 (w'.heap[gb389]? = some (.cells #[(.slice none 0 0)] 29 (0, 0))) ∧ Aside0 (w'.heap[gb390]? = some (.cells #[u391000] 29 (0, 0))) ∧ Aside0 (IsS83 w0 w' g s0_0 x1001_1 x1002_1) ∧ Aside0 (KeepBut w w' g none) ∧ Aside0 (Below w0.heap.size w0 w'))
  case atStart => exact ⟨(wrap64 (2 + t391)), (t392), (t393), (([] : List (S53))), (.slice none 0 0), u11_9, H', ⟨Nat.le_refl _⟩, ⟨(by first | exact Kd.R_nil _ _ _ _ _ | exact Kd.N_nil _ _ _ _ _ | exact Kd.V_nil _ _ _ _ _ | exact Kd.Q_nil _ _ _ _ _ | exact Kd.S_nil _ _ _ _ _)⟩, ⟨u11_4⟩, ⟨u11_5⟩, ⟨u11_1⟩, ⟨u11_0⟩, ⟨u11_2⟩⟩
  clear H'
  try clear c1
  try clear p2
  try clear c6
  try clear p6
  try clear c7
  try clear hcz8_0
  try clear hfz8_0
  obtain ⟨x6_1, x1001_1, x1002_1, x391000_1, u391000, rfl, HA, HK1, HO_391000, BK389, BK390, HI0, HK, HB⟩ := hrel
  cases gk with
  | zero => exact absurd HA.out (by simp [spec_l10DrawRight.l0])
  | succ k1 =>
    have H := HA.out
    clear HA
    simp only [spec_l10DrawRight.l0] at H
    by_cases c10 : x6_1 > 0
    · rw [if_pos c10] at H
      have c10b0 : decide (0 < x6_1) = true := decide_eq_true c10
      clear c10
      replace H := Option.bind_eq_some_iff.mp H
      obtain ⟨⟨t394, t395, t396⟩, A110, H⟩ := H
      (try dsimp only at H)
      have A11 := Aside0.mk A110
      clear A110
      replace H := Option.bind_eq_some_iff.mp H
      obtain ⟨⟨t397, t400⟩, A120, H⟩ := H
      replace H : (spec_l10DrawRight.l0 k1 l1 (wrap64 (x6_1 - 1)) s0_0 t395 t396 t397) = some (r1, r2, r3) := H
      have A12 := Aside0.mk A120
      clear A120
      have H' := Aside0.mk H
      clear H
      try go_wp2
      have n0_ := Aside0.mk (Kd.R_drew HO_391000.out)
      have n1_ := Aside0.mk (blk_drew BK389.out)
      have n2_ := Aside0.mk (blk_drew BK390.out)
      have n3_ := Aside0.mk (IsS83.drew HI0.out)
      have n4_ := Aside0.mk (keep_drew HK.out)
      have n5_ := Aside0.mk (below_drew1 HB.out)
      clear HO_391000
      clear BK389
      clear BK390
      clear HI0
      clear HK
      clear HB
      have HO_391000 := n0_
      have BK389 := n1_
      have BK390 := n2_
      have HI0 := n3_
      have HK := n4_
      have HB := n5_
      clear n0_ n1_ n2_ n3_ n4_ n5_
      refine start_ (n := 8) (S := fun w' => w'.cell? ⟨gb390, 0, none⟩ = some (u391000)) (ds := [7]) #[false, false, false, false, false, false, false, false] (by kernel_rfl) rfl rfl ((blk_cell BK390.out 0).trans rfl) (fun hHeld => ?_); refine with_tabW spec_l10DrawRight.tab5 spec_l10DrawRight.bits5 (fun HT_ HW_ => ?_)
      generalize wr.drew = w13 at HO_391000 BK389 BK390 HI0 HK HB hHeld ⊢
      refine pure_ (i := 1) (N := some 21) (v := ?_) (a' := ?_) #[false, true, false, false, false, false, false, false] rfl rfl (any_of HT_.out (by kernel_rfl)) (fun _ _ _ h => h) (Or.inl ⟨by rfl, ?_⟩) ?_ ?_
      rotate_left
      · intro w'
        go_simp
        with_reducible rfl
      rotate_left
      · simp only [Act.put, List.setIfInBounds_toArray, List.set_cons_zero, List.set_cons_succ, i64_w, i32_w]
        rfl
      refine take_ (i := 0) (N := some 20) (v := ?_) (a' := ?_) #[true, true, false, false, false, false, false, false] rfl rfl (take_ofW HT_.out HW_.out (by kernel_rfl)) (fun _ _ _ h => h) (Or.inl ⟨by rfl, ?_⟩) hHeld ?_ ?_
      rotate_left
      · intro w' s0
        go_simp
        with_reducible rfl
      rotate_left
      · simp only [Act.put, List.setIfInBounds_toArray, List.set_cons_zero, List.set_cons_succ, i64_w, i32_w]
        rfl
      refine one_ (i := 2) (N := some 22) #[true, true, true, false, false, false, false, false] rfl rfl (one_of HT_.out (by kernel_rfl)) (by decide) (fun K hK => ?_)
      refine goes_ Try.func72 (by kernel_rfl) rfl #[.pointer (some ⟨g, 0, none⟩)] (by rfl) rfl rfl u11_6 ?_
      with_reducible refine (spec_l10DrawId.calls g s0_0 x1001_1 x1002_1 t394 t395 t396 w0 _ ?side1 ?side2 A11.out).mono ?_
      (case side1 => exact u11_1)
      (case side2 => exact u11_2)
      rintro e w14 ⟨rfl, hi, hb, hk⟩
      refine ⟨_, rfl, ?_⟩
      have n0_ := Aside0.mk (Kd.R_mono (Kd.R_keep (IsS83.apart (show IsS83 w0 _ g s0_0 x1001_1 x1002_1 from by repeat (first | (with_reducible first | exact HI0.out | apply IsS83.alloc | apply IsS83.drewN | apply IsS83.drew | apply IsS83.set_1 | apply IsS83.set_2 | refine IsS83.far ?_ NB0_389.out _ | refine IsS83.far ?_ NB0_390.out _) | exact HI0.out)) u11_3 (by decide)) hk (fun _ h => h.2)) (fun _ h => h.1))
      have n1_ := Aside0.mk (KeepBut.blk hk (g' := gb389) (o := .cells #[.slice none 0 0] 29 (0, 0)) u11_4 NB389_0.out (by simp))
      have n2_ := Aside0.mk (KeepBut.blk hk (g' := gb390) (o := .cells #[u391000] 29 (0, 0)) u11_5 NB390_0.out (by simp))
      have n3_ := Aside0.mk (KeepBut.trans u11_0 hk (.inl rfl))
      have n4_ := Aside0.mk (hb)
      have n5_ := Aside0.mk (hi)
      clear HO_391000
      clear BK389
      clear BK390
      clear HK
      clear HB
      clear HI0
      have HO_391000 := n0_
      have BK389 := n1_
      have BK390 := n2_
      have HK := n3_
      have HB := n4_
      have HI0 := n5_
      clear n0_ n1_ n2_ n3_ n4_ n5_
      (try clear hb)
      (try clear hb2)
      (try clear hk)
      (try clear hi)
      obtain ⟨Ao15, co15, eo15⟩ := Kd.R_slice HO_391000.out
      (first | subst eo15 | (injection eo15 with f1_ f2_ f3_; have f4_ := f1_.symm; have f5_ := f3_.symm; clear f1_ f2_ f3_; subst f4_; subst f5_))
      refine hK.out _ _ ((blk_cell BK390.out 0).trans rfl) (fun hHeld => ?_)
      clear hK K
      refine norm_ (a' := ?_) ?_ ?_
      rotate_left
      · show Act.put _ (some 22) _ = _
        simp only [Act.put, List.setIfInBounds_toArray, List.set_cons_zero, List.set_cons_succ, i64_w, i32_w]
        rfl
      refine one_ (i := 3) (N := some 23) #[true, true, true, true, false, false, false, false] rfl rfl (one_of HT_.out (by kernel_rfl)) (by decide) (fun K hK => ?_)
      refine goes_ Try.func42 (by kernel_rfl) rfl #[.agg #[.slice Ao15 x391000_1.length co15], .int .u64 t394] (by rfl) rfl rfl u11_6 ?_
      with_reducible refine (spec_OpenAccount.calls k1 _ _ x391000_1 t394 t397 t400 _ ?side1 ?side2 A12.out).mono ?_
      (case side1 => exact u11_8)
      (case side2 => exact (Kd.R_reads' HO_391000.out).2.1)
      rintro e w16 ⟨v398, rfl, ho0, hb⟩
      refine ⟨_, rfl, ?_⟩
      have n0_ := Aside0.mk (Kd.R_elder' u11_3 (Kd.R_base ho0) hb)
      have n1_ := Aside0.mk (Kd.R_lower (Kd.R_new' ho0 (Kd.R_lt u11_3)) (keep_size (w := w) (g := g) (row := none) u11_0))
      have n2_ := Aside0.mk (blk_below (g := gb389) (o := .cells #[.slice none 0 0] 29 (0, 0)) u11_4 hb)
      have n3_ := Aside0.mk (blk_below (g := gb390) (o := .cells #[.slice Ao15 x391000_1.length co15] 29 (0, 0)) u11_5 hb)
      have n4_ := Aside0.mk (IsS83.below u11_1 hb)
      have n5_ := Aside0.mk (KeepBut.trans u11_0 (KeepBut.of_below hb g none) (.inl rfl))
      have n6_ := Aside0.mk (below_step u11_2 hb)
      clear HO_391000
      clear BK389
      clear BK390
      clear HI0
      clear HK
      clear HB
      have HO_391000 := n0_
      have HO399 := n1_
      have BK389 := n2_
      have BK390 := n3_
      have HI0 := n4_
      have HK := n5_
      have HB := n6_
      clear n0_ n1_ n2_ n3_ n4_ n5_ n6_
      (try clear hb)
      (try clear hb2)
      (try clear hk)
      (try clear hi)
      (try clear ho0)
      obtain ⟨Ao17, co17, eo17⟩ := Kd.R_slice HO399.out
      (first | subst eo17 | (injection eo17 with f1_ f2_ f3_; have f4_ := f1_.symm; have f5_ := f3_.symm; clear f1_ f2_ f3_; subst f4_; subst f5_))
      refine hK.out _ _ ((blk_cell BK390.out 0).trans rfl) (fun hHeld => ?_)
      clear hK K
      refine norm_ (a' := ?_) ?_ ?_
      rotate_left
      · show Act.put _ (some 23) _ = _
        simp only [Act.put, List.setIfInBounds_toArray, List.set_cons_zero, List.set_cons_succ, i64_w, i32_w]
        rfl
      refine pure_ (i := 4) (N := some 19) (v := ?_) (a' := ?_) #[true, true, true, true, true, false, false, false] rfl rfl (any_of HT_.out (by kernel_rfl)) (fun _ _ _ h => h) (Or.inl ⟨by rfl, ?_⟩) ?_ ?_
      rotate_left
      · intro w'
        go_simp
        with_reducible rfl
      rotate_left
      · simp only [Act.put, List.setIfInBounds_toArray, List.set_cons_zero, List.set_cons_succ, i64_w, i32_w]
        rfl
      refine pure_ (i := 5) (N := some 24) (v := ?_) (a' := ?_) #[true, true, true, true, true, true, false, false] rfl rfl (any_of HT_.out (by kernel_rfl)) (fun _ _ _ h => h) (Or.inl ⟨by rfl, ?_⟩) ?_ ?_
      rotate_left
      · intro w'
        go_simp
        with_reducible rfl
      rotate_left
      · simp only [Act.put, List.setIfInBounds_toArray, List.set_cons_zero, List.set_cons_succ, i64_w, i32_w]
        rfl
      refine pure_ (i := 6) (N := some 25) (v := ?_) (a' := ?_) #[true, true, true, true, true, true, true, false] rfl rfl (any_of HT_.out (by kernel_rfl)) (fun _ _ _ h => h) (Or.inl ⟨by rfl, ?_⟩) ?_ ?_
      rotate_left
      · intro w'
        go_simp
        with_reducible rfl
      rotate_left
      · simp only [Act.put, List.setIfInBounds_toArray, List.set_cons_zero, List.set_cons_succ, i64_w, i32_w]
        rfl
      refine last_ (i := 7) (N := none) #[true, true, true, true, true, true, true, true] rfl rfl (one_of HT_.out (by kernel_rfl)) (by decide) (fun K hK => ?_)
      have hs18 : w16.cell? ⟨gb390, 0, none⟩ = some (.slice Ao15 x391000_1.length co15) := (blk_cell BK390.out 0).trans rfl
      have hfs18 := blk_frozen BK390.out 0
      have hns18_0 := NB389_390.out
      have hms18_0 := NB390_389.out
      refine skip_ (w1 := ?_) (by rfl) rfl ?_ ?_
      rotate_left
      · go_simp
        rfl
      refine hK.out _ _ ?_
      clear hK K
      refine done_ (done_of HT_.out (by kernel_rfl)) ?_
      try go_wp2
      go_roundg k1
      case measure => have := HK1.out; omega
      case rel => exact ⟨(wrap64 (x6_1 - 1)), (t395), (t396), (t397), (.slice Ao17 t397.length co17), u11_9, H', ⟨by have := HK1.out; omega⟩, ⟨(by (with_reducible repeat (first | apply Kd.R_alloc | apply Kd.R_drewN | apply Kd.R_drew)); exact Kd.R_mono (Kd.R_far (p := ⟨gb390, 0, none⟩) (Kd.R_types HO399.out BK390.out (by decide)) (fun _ hk => hk.2) (.slice Ao17 t397.length co17)) (fun _ hk => trivial))⟩, ⟨u11_7⟩, ⟨(by (with_reducible repeat (first | refine blk_drewN ?_ _ | refine blk_drew ?_ | refine blk_alloc ?_ _)); refine blk_put (cs := #[.slice Ao15 x391000_1.length co15]) ?_ 0 _ rfl; (with_reducible repeat (first | refine blk_drewN ?_ _ | refine blk_drew ?_ | refine blk_alloc ?_ _)); exact BK390.out)⟩, ⟨u11_1⟩, ⟨u11_0⟩, ⟨u11_2⟩⟩
    rw [if_neg c10] at H
    have c10b0 : decide (0 < x6_1) = false := decide_eq_false c10
    clear c10
    replace H := Option.bind_eq_some_iff.mp H
    obtain ⟨t401, A190, H⟩ := H
    have A19 := Aside0.mk A190
    clear A190
    replace H := Option.bind_eq_some_iff.mp H
    obtain ⟨⟨t402, t403, t404⟩, A200, H⟩ := H
    replace H : (spec_l10DrawRight.l1 k1 t402 s0_0 t403 t404 x391000_1) = some (r1, r2, r3) := H
    have A20 := Aside0.mk A200
    clear A200
    have H' := Aside0.mk H
    clear H
    go_wp2_with (first | ((with_reducible refine gate_callee (f := 81) rfl ?_); refine goesL_ (some 28) rfl rfl Try.func81 (by kernel_rfl) rfl #[.slice A1 l1.length c1, .int .i64 16] rfl u11_6 ?_; (with_reducible refine (spec_l01Size.calls _ _ l1 16 t401 _ ?side1 ?side2 A19.out).mono ?_); (case side1 => exact (by exact Kd.C_keep 0 HR1.out u11_0 hf1)); (case side2 => exact HC1.out); rintro e w' ⟨rfl, ⟨nd, rfl⟩⟩; refine ⟨_, rfl, ?_⟩) | ((with_reducible refine gate_callee (f := 74) rfl ?_); refine goesL_ (some 30) rfl rfl Try.func74 (by kernel_rfl) rfl #[.pointer (some ⟨g, 0, none⟩), .int .i64 (wrap64 (4 + t401))] rfl u11_6 ?_; (with_reducible refine (spec_l01Below.calls g s0_0 x1001_1 x1002_1 (wrap64 (4 + t401)) t402 t403 t404 w0 _ ?side1 ?side2 A20.out).mono ?_); (case side1 => exact u11_1); (case side2 => exact u11_2); rintro e w21 ⟨rfl, hi, hb, hk⟩; refine ⟨_, rfl, ?_⟩; have n0_ := Aside0.mk (Kd.R_mono (Kd.R_keep (IsS83.apart (show IsS83 w0 _ g s0_0 x1001_1 x1002_1 from by repeat (first | (with_reducible first | exact HI0.out | apply IsS83.alloc | apply IsS83.drewN | apply IsS83.drew | apply IsS83.set_1 | apply IsS83.set_2 | refine IsS83.far ?_ NB0_389.out _ | refine IsS83.far ?_ NB0_390.out _) | exact HI0.out)) u11_3 (by decide)) hk (fun _ h => h.2)) (fun _ h => h.1)); have n1_ := Aside0.mk (KeepBut.blk hk (g' := gb389) (o := .cells #[.slice none 0 0] 29 (0, 0)) u11_4 NB389_0.out (by simp)); have n2_ := Aside0.mk (KeepBut.blk hk (g' := gb390) (o := .cells #[u391000] 29 (0, 0)) u11_5 NB390_0.out (by simp)); have n3_ := Aside0.mk (KeepBut.trans u11_0 hk (.inl rfl)); have n4_ := Aside0.mk (hb); have n5_ := Aside0.mk (hi); clear HO_391000; clear BK389; clear BK390; clear HK; clear HB; clear HI0; have HO_391000 := n0_; have BK389 := n1_; have BK390 := n2_; have HK := n3_; have HB := n4_; have HI0 := n5_; clear n0_ n1_ n2_ n3_ n4_ n5_; (try clear hb); (try clear hb2); (try clear hk); (try clear hi)))
    go_loopg [7] k1 (fun kq v7 w' => ∃ (x7_2 : Int) (x1001_2 : Int) (x1002_2 : Int) (x391000_2 : List (S53)) (u391000 : Value), v7 = .int .i64 x7_2 ∧ Aside0 (spec_l10DrawRight.l1 kq x7_2 s0_0 x1001_2 x1002_2 x391000_2 = some (r1, r2, r3)) ∧ Aside0 (kq ≤ k1) ∧ Aside0 (Kd.R k53 53 w' w.heap.size (fun _ => True) u391000 x391000_2) ∧ Aside0 (w'.heap[gb389]? = some (.cells #[(.slice none 0 0)] 29 (0, 0))) ∧ Aside0 (w'.heap[gb390]? = some (.cells #[u391000] 29 (0, 0))) ∧ Aside0 (IsS83 w0 w' g s0_0 x1001_2 x1002_2) ∧ Aside0 (KeepBut w w' g none) ∧ Aside0 (Below w0.heap.size w0 w'))
    case atStart => exact ⟨(t402), (t403), (t404), (x391000_1), (u391000), u11_9, H', ⟨Nat.le_refl _⟩, ⟨u11_3⟩, ⟨u11_4⟩, ⟨u11_5⟩, ⟨u11_1⟩, ⟨u11_0⟩, ⟨u11_2⟩⟩
    clear H'
    try clear c1
    try clear p2
    try clear c4
    try clear c6
    try clear p6
    try clear c7
    try clear c8
    try clear c10
    try clear c10b0
    try clear hcz8_0
    try clear hfz8_0
    try clear p2
    try clear p6
    obtain ⟨x7_2, x1001_2, x1002_2, x391000_2, u391000, rfl, HA, HK2, HO_391000, BK389, BK390, HI0, HK, HB⟩ := hrel
    cases gk with
    | zero => exact absurd HA.out (by simp [spec_l10DrawRight.l1])
    | succ k2 =>
      have H := HA.out
      clear HA
      simp only [spec_l10DrawRight.l1] at H
      by_cases c22 : x7_2 > 0
      rotate_left
      · rw [if_neg c22] at H
        have c22b0 : decide (0 < x7_2) = false := decide_eq_false c22
        clear c22
        simp only [Option.some.injEq, Prod.mk.injEq] at H
        obtain ⟨rfl, rfl, rfl⟩ := H
        have hnb96 := NB390_389.out
        have hnc96 := NB389_390.out
        have hnb97 := NB390_0.out
        have hnc97 := NB0_390.out
        have hcz98_0 : wr.cell? ⟨gb390, 0, none⟩ = some (u391000) := (blk_cell BK390.out 0).trans rfl
        have hfz98_0 := blk_frozen BK390.out 0
        obtain ⟨Ao99, co99, eo99⟩ := Kd.R_slice HO_391000.out
        subst eo99
        have hnb100 := NB389_0.out
        have hnc100 := NB0_389.out
        have hcz101_0 : wr.cell? ⟨gb389, 0, none⟩ = some (.slice none 0 0) := (blk_cell BK389.out 0).trans rfl
        have hfz101_0 := blk_frozen BK389.out 0
        go_wp2
        refine bodyPost_ret (results_cell_row rfl _ _ gb389 29 #[.slice Ao99 x391000_2.length co99] (0, 0) _ rfl (by (with_reducible repeat (first | refine blk_drewN ?_ _ | refine blk_drew ?_ | refine blk_alloc ?_ _)); refine blk_put (cs := #[.slice none 0 0]) ?_ 0 _ rfl; (with_reducible repeat (first | refine blk_drewN ?_ _ | refine blk_drew ?_ | refine blk_alloc ?_ _)); exact BK389.out) Try.underlying29 rfl (by kernel_rfl)) rfl ?_
        exact ⟨_, by first | rfl | (simp [errW_none, errW_some] <;> rfl) | (simp [*, errW_none, errW_some] <;> rfl), (by (with_reducible repeat (first | apply Kd.R_alloc | apply Kd.R_drewN | apply Kd.R_drew)); exact Kd.R_mono (Kd.R_far (p := ⟨gb389, 0, none⟩) (Kd.R_types HO_391000.out BK389.out (by decide)) (fun _ hk => hk.2) (.slice Ao99 x391000_2.length co99)) (fun _ hk => trivial)), u11_1, u11_2, u11_0⟩
      rw [if_pos c22] at H
      have c22b0 : decide (0 < x7_2) = true := decide_eq_true c22
      clear c22
      replace H := Option.bind_eq_some_iff.mp H
      obtain ⟨⟨t405, t406, t407⟩, A230, H⟩ := H
      (try dsimp only at H)
      have A23 := Aside0.mk A230
      clear A230
      replace H := Option.bind_eq_some_iff.mp H
      obtain ⟨⟨t408, t409, t410⟩, A240, H⟩ := H
      (try dsimp only at H)
      have A24 := Aside0.mk A240
      clear A240
      replace H := Option.bind_eq_some_iff.mp H
      obtain ⟨⟨t411, t412, t413⟩, A250, H⟩ := H
      (try dsimp only at H)
      have A25 := Aside0.mk A250
      clear A250
      replace H := Option.bind_eq_some_iff.mp H
      obtain ⟨⟨t414, t415, t416⟩, A260, H⟩ := H
      (try dsimp only at H)
      have A26 := Aside0.mk A260
      clear A260
      have HC27 := Aside0.mk H
      clear H
      go_upto_if 50 with (first | ((with_reducible refine gate_callee (f := 72) rfl ?_); refine goesL_ (some 36) rfl rfl Try.func72 (by kernel_rfl) rfl #[.pointer (some ⟨g, 0, none⟩)] rfl u11_6 ?_; (with_reducible refine (spec_l10DrawId.calls g s0_0 x1001_2 x1002_2 t405 t406 t407 w0 _ ?side1 ?side2 A23.out).mono ?_); (case side1 => exact u11_1); (case side2 => exact u11_2); rintro e w28 ⟨rfl, hi, hb, hk⟩; refine ⟨_, rfl, ?_⟩; have n0_ := Aside0.mk (Kd.R_mono (Kd.R_keep (IsS83.apart (show IsS83 w0 _ g s0_0 x1001_2 x1002_2 from by repeat (first | (with_reducible first | exact HI0.out | apply IsS83.alloc | apply IsS83.drewN | apply IsS83.drew | apply IsS83.set_1 | apply IsS83.set_2 | refine IsS83.far ?_ NB0_389.out _ | refine IsS83.far ?_ NB0_390.out _) | exact HI0.out)) u11_3 (by decide)) hk (fun _ h => h.2)) (fun _ h => h.1)); have n1_ := Aside0.mk (KeepBut.blk hk (g' := gb389) (o := .cells #[.slice none 0 0] 29 (0, 0)) u11_4 NB389_0.out (by simp)); have n2_ := Aside0.mk (KeepBut.blk hk (g' := gb390) (o := .cells #[u391000] 29 (0, 0)) u11_5 NB390_0.out (by simp)); have n3_ := Aside0.mk (KeepBut.trans u11_0 hk (.inl rfl)); have n4_ := Aside0.mk (hb); have n5_ := Aside0.mk (hi); clear HO_391000; clear BK389; clear BK390; clear HK; clear HB; clear HI0; have HO_391000 := n0_; have BK389 := n1_; have BK390 := n2_; have HK := n3_; have HB := n4_; have HI0 := n5_; clear n0_ n1_ n2_ n3_ n4_ n5_; (try clear hb); (try clear hb2); (try clear hk); (try clear hi)) | ((with_reducible refine gate_callee (f := 73) rfl ?_); refine goesL_ (some 38) rfl rfl Try.func73 (by kernel_rfl) rfl #[.pointer (some ⟨g, 0, none⟩)] rfl u11_6 ?_; (with_reducible refine (spec_l10DrawAmount.calls k2 g s0_0 t406 t407 t408 t409 t410 w0 _ ?side1 ?side2 A24.out).mono ?_); (case side1 => exact u11_1); (case side2 => exact u11_2); rintro e w29 ⟨rfl, hi, hb, hk⟩; refine ⟨_, rfl, ?_⟩; have n0_ := Aside0.mk (Kd.R_mono (Kd.R_keep (IsS83.apart (show IsS83 w0 _ g s0_0 t406 t407 from by repeat (first | (with_reducible first | exact HI0.out | apply IsS83.alloc | apply IsS83.drewN | apply IsS83.drew | apply IsS83.set_1 | apply IsS83.set_2 | refine IsS83.far ?_ NB0_389.out _ | refine IsS83.far ?_ NB0_390.out _) | exact HI0.out)) u11_3 (by decide)) hk (fun _ h => h.2)) (fun _ h => h.1)); have n1_ := Aside0.mk (KeepBut.blk hk (g' := gb389) (o := .cells #[.slice none 0 0] 29 (0, 0)) u11_4 NB389_0.out (by simp)); have n2_ := Aside0.mk (KeepBut.blk hk (g' := gb390) (o := .cells #[u391000] 29 (0, 0)) u11_5 NB390_0.out (by simp)); have n3_ := Aside0.mk (KeepBut.trans u11_0 hk (.inl rfl)); have n4_ := Aside0.mk (hb); have n5_ := Aside0.mk (hi); clear HO_391000; clear BK389; clear BK390; clear HK; clear HB; clear HI0; have HO_391000 := n0_; have BK389 := n1_; have BK390 := n2_; have HK := n3_; have HB := n4_; have HI0 := n5_; clear n0_ n1_ n2_ n3_ n4_ n5_; (try clear hb); (try clear hb2); (try clear hk); (try clear hi)) | ((with_reducible refine gate_callee (f := 74) rfl ?_); refine goesL_ (some 40) rfl rfl Try.func74 (by kernel_rfl) rfl #[.pointer (some ⟨g, 0, none⟩), .int .i64 4] rfl u11_6 ?_; (with_reducible refine (spec_l01Below.calls g s0_0 t409 t410 4 t411 t412 t413 w0 _ ?side1 ?side2 A25.out).mono ?_); (case side1 => exact u11_1); (case side2 => exact u11_2); rintro e w30 ⟨rfl, hi, hb, hk⟩; refine ⟨_, rfl, ?_⟩; have n0_ := Aside0.mk (Kd.R_mono (Kd.R_keep (IsS83.apart (show IsS83 w0 _ g s0_0 t409 t410 from by repeat (first | (with_reducible first | exact HI0.out | apply IsS83.alloc | apply IsS83.drewN | apply IsS83.drew | apply IsS83.set_1 | apply IsS83.set_2 | refine IsS83.far ?_ NB0_389.out _ | refine IsS83.far ?_ NB0_390.out _) | exact HI0.out)) u11_3 (by decide)) hk (fun _ h => h.2)) (fun _ h => h.1)); have n1_ := Aside0.mk (KeepBut.blk hk (g' := gb389) (o := .cells #[.slice none 0 0] 29 (0, 0)) u11_4 NB389_0.out (by simp)); have n2_ := Aside0.mk (KeepBut.blk hk (g' := gb390) (o := .cells #[u391000] 29 (0, 0)) u11_5 NB390_0.out (by simp)); have n3_ := Aside0.mk (KeepBut.trans u11_0 hk (.inl rfl)); have n4_ := Aside0.mk (hb); have n5_ := Aside0.mk (hi); clear HO_391000; clear BK389; clear BK390; clear HK; clear HB; clear HI0; have HO_391000 := n0_; have BK389 := n1_; have BK390 := n2_; have HK := n3_; have HB := n4_; have HI0 := n5_; clear n0_ n1_ n2_ n3_ n4_ n5_; (try clear hb); (try clear hb2); (try clear hk); (try clear hi)) | ((with_reducible refine gate_callee (f := 74) rfl ?_); refine goesL_ (some 43) rfl rfl Try.func74 (by kernel_rfl) rfl #[.pointer (some ⟨g, 0, none⟩), .int .i64 9] rfl u11_6 ?_; (with_reducible refine (spec_l01Below.calls g s0_0 t412 t413 9 t414 t415 t416 w0 _ ?side1 ?side2 A26.out).mono ?_); (case side1 => exact u11_1); (case side2 => exact u11_2); rintro e w31 ⟨rfl, hi, hb, hk⟩; refine ⟨_, rfl, ?_⟩; have n0_ := Aside0.mk (Kd.R_mono (Kd.R_keep (IsS83.apart (show IsS83 w0 _ g s0_0 t412 t413 from by repeat (first | (with_reducible first | exact HI0.out | apply IsS83.alloc | apply IsS83.drewN | apply IsS83.drew | apply IsS83.set_1 | apply IsS83.set_2 | refine IsS83.far ?_ NB0_389.out _ | refine IsS83.far ?_ NB0_390.out _) | exact HI0.out)) u11_3 (by decide)) hk (fun _ h => h.2)) (fun _ h => h.1)); have n1_ := Aside0.mk (KeepBut.blk hk (g' := gb389) (o := .cells #[.slice none 0 0] 29 (0, 0)) u11_4 NB389_0.out (by simp)); have n2_ := Aside0.mk (KeepBut.blk hk (g' := gb390) (o := .cells #[u391000] 29 (0, 0)) u11_5 NB390_0.out (by simp)); have n3_ := Aside0.mk (KeepBut.trans u11_0 hk (.inl rfl)); have n4_ := Aside0.mk (hb); have n5_ := Aside0.mk (hi); clear HO_391000; clear BK389; clear BK390; clear HK; clear HB; clear HI0; have HO_391000 := n0_; have BK389 := n1_; have BK390 := n2_; have HK := n3_; have HB := n4_; have HI0 := n5_; clear n0_ n1_ n2_ n3_ n4_ n5_; (try clear hb); (try clear hb2); (try clear hk); (try clear hi)))
      (try simp only [Act.put, List.setIfInBounds_toArray, List.set_cons_zero, List.set_cons_succ])
      go_cut [50] (fun v50 wc => ∃ (kq : Nat) (x50_26 : Bool), v50 = .bool x50_26 ∧ Aside0 (spec_l10DrawRight.j2 kq x7_2 t405 t408 (wrap64 (1 + t411)) t414 x50_26 s0_0 t415 t416 x391000_2 = some (r1, r2, r3)) ∧ Aside0 (kq ≤ k2) ∧ Aside0 (Kd.R k53 53 wc w.heap.size (fun _ => True) u391000 x391000_2) ∧ Aside0 (wc.heap[gb389]? = some (.cells #[(.slice none 0 0)] 29 (0, 0))) ∧ Aside0 (wc.heap[gb390]? = some (.cells #[u391000] 29 (0, 0))) ∧ Aside0 (IsS83 w0 wc g s0_0 t415 t416) ∧ Aside0 (KeepBut w wc g none) ∧ Aside0 (Below w0.heap.size w0 wc))
      case first =>
        have H := HC27.out
        clear HC27
        by_cases c32 : t414 = 0
        · rw [if_pos c32] at H
          have c32b0 : (t414 == 0) = true := beq_iff_eq.mpr c32
          have c32b1 : (t414 != 0) = false := bne_eq_false_iff_eq.mpr c32
          clear c32
          (first | rw [c32b0] | (simp only [i64_w, i32_w]; rw [c32b0]) | skip)
          have H' := Aside0.mk H
          clear H
          go_wp2
          go_meet
          case rel => exact ⟨_, ((t414 == 0)), u11_9, H', ⟨u11_13⟩, ⟨u11_3⟩, ⟨u11_4⟩, ⟨u11_5⟩, ⟨u11_1⟩, ⟨u11_0⟩, ⟨u11_2⟩⟩
        rw [if_neg c32] at H
        have c32b0 : (t414 == 0) = false := beq_eq_false_iff_ne.mpr c32
        have c32b1 : (t414 != 0) = true := bne_iff_ne.mpr c32
        (first | rw [c32b0] | (simp only [i64_w, i32_w]; rw [c32b0]) | skip)
        by_cases c33 : t414 = 1
        rotate_left
        · rw [if_neg c33] at H
          have c33b0 : (t414 == 1) = false := beq_eq_false_iff_ne.mpr c33
          have c33b1 : (t414 != 1) = true := bne_iff_ne.mpr c33
          have H' := Aside0.mk H
          clear H
          go_wp2
          go_meet
          case rel => exact ⟨_, ((t414 == 2)), u11_9, H', ⟨u11_13⟩, ⟨u11_3⟩, ⟨u11_4⟩, ⟨u11_5⟩, ⟨u11_1⟩, ⟨u11_0⟩, ⟨u11_2⟩⟩
        rw [if_pos c33] at H
        have c33b0 : (t414 == 1) = true := beq_iff_eq.mpr c33
        have c33b1 : (t414 != 1) = false := bne_eq_false_iff_eq.mpr c33
        clear c33
        have H' := Aside0.mk H
        clear H
        go_wp2
        go_meet
        case rel => exact ⟨_, ((t414 == 1)), u11_9, H', ⟨u11_13⟩, ⟨u11_3⟩, ⟨u11_4⟩, ⟨u11_5⟩, ⟨u11_1⟩, ⟨u11_0⟩, ⟨u11_2⟩⟩
      clear HC27
      try clear c1
      try clear c2
      try clear p2
      try clear c3
      try clear c4
      try clear c6
      try clear p6
      try clear c7
      try clear c8
      try clear c10
      try clear c10b0
      try clear c22
      try clear c22b0
      try clear c32
      try clear c32b0
      try clear c32b1
      try clear c33
      try clear c33b0
      try clear c33b1
      try clear hcz8_0
      try clear hfz8_0
      try clear p2
      try clear p6
      obtain ⟨kq, x50_26, rfl, HA, HJ26, HO_391000, BK389, BK390, HI0, HK, HB⟩ := hcut
      cases kq with
      | zero => exact absurd HA.out (by simp [spec_l10DrawRight.j2])
      | succ kj26 =>
        have H := HA.out
        clear HA
        simp only [spec_l10DrawRight.j2] at H
        by_cases c34 : x50_26 = true
        · subst c34
          rw [if_pos rfl] at H
          replace H := Option.bind_eq_some_iff.mp H
          obtain ⟨⟨t417, t420⟩, A350, H⟩ := H
          replace H : (spec_l10DrawRight.l1 kj26 (wrap64 (x7_2 - 1)) s0_0 t415 t416 t417) = some (r1, r2, r3) := H
          have A35 := Aside0.mk A350
          clear A350
          have H' := Aside0.mk H
          clear H
          have hnb36 := NB390_389.out
          have hnc36 := NB389_390.out
          have hnb37 := NB390_0.out
          have hnc37 := NB0_390.out
          have hcz38_0 : wc.cell? ⟨gb390, 0, none⟩ = some (u391000) := (blk_cell BK390.out 0).trans rfl
          have hfz38_0 := blk_frozen BK390.out 0
          obtain ⟨Ao39, co39, eo39⟩ := Kd.R_slice HO_391000.out
          subst eo39
          go_wp2_with (first | ((with_reducible refine gate_callee (f := 34) rfl ?_); refine goesL_ (some 58) rfl rfl Try.func34 (by kernel_rfl) rfl #[.agg #[.slice Ao39 x391000_2.length co39], .int .u64 t405, .int .u64 t408] rfl u11_6 ?_; (with_reducible refine (spec_Deposit.calls kj26 _ _ x391000_2 t405 t408 t417 t420 _ ?side1 ?side2 A35.out).mono ?_); (case side1 => exact u11_8); (case side2 => exact (Kd.R_reads' HO_391000.out).2.1); rintro e w40 ⟨v418, rfl, ho0, hb⟩; refine ⟨_, rfl, ?_⟩; have n0_ := Aside0.mk (Kd.R_elder' u11_3 (Kd.R_base ho0) hb); have n1_ := Aside0.mk (Kd.R_lower (Kd.R_new' ho0 (Kd.R_lt u11_3)) (keep_size (w := w) (g := g) (row := none) u11_0)); have n2_ := Aside0.mk (blk_below (g := gb389) (o := .cells #[.slice none 0 0] 29 (0, 0)) u11_4 hb); have n3_ := Aside0.mk (blk_below (g := gb390) (o := .cells #[.slice Ao39 x391000_2.length co39] 29 (0, 0)) u11_5 hb); have n4_ := Aside0.mk (IsS83.below u11_1 hb); have n5_ := Aside0.mk (KeepBut.trans u11_0 (KeepBut.of_below hb g none) (.inl rfl)); have n6_ := Aside0.mk (below_step u11_2 hb); clear HO_391000; clear BK389; clear BK390; clear HI0; clear HK; clear HB; have HO_391000 := n0_; have HO419 := n1_; have BK389 := n2_; have BK390 := n3_; have HI0 := n4_; have HK := n5_; have HB := n6_; clear n0_ n1_ n2_ n3_ n4_ n5_ n6_; (try clear hb); (try clear hb2); (try clear hk); (try clear hi); (try clear ho0); obtain ⟨Ao41, co41, eo41⟩ := Kd.R_slice HO419.out; subst eo41; have hcz42_0 : w40.cell? ⟨gb390, 0, none⟩ = some (.slice Ao39 x391000_2.length co39) := (blk_cell BK390.out 0).trans rfl; have hfz42_0 := blk_frozen BK390.out 0))
          go_roundg kj26
          case measure => have := HK1.out; have := HK2.out; have := HJ26.out; omega
          case rel => exact ⟨(wrap64 (x7_2 - 1)), (t415), (t416), (t417), (.slice Ao41 t417.length co41), u11_9, H', ⟨u11_11⟩, ⟨(by (with_reducible repeat (first | apply Kd.R_alloc | apply Kd.R_drewN | apply Kd.R_drew)); exact Kd.R_mono (Kd.R_far (p := ⟨gb390, 0, none⟩) (Kd.R_types HO419.out BK390.out (by decide)) (fun _ hk => hk.2) (.slice Ao41 t417.length co41)) (fun _ hk => trivial))⟩, ⟨u11_7⟩, ⟨(by (with_reducible repeat (first | refine blk_drewN ?_ _ | refine blk_drew ?_ | refine blk_alloc ?_ _)); refine blk_put (cs := #[.slice Ao39 x391000_2.length co39]) ?_ 0 _ rfl; (with_reducible repeat (first | refine blk_drewN ?_ _ | refine blk_drew ?_ | refine blk_alloc ?_ _)); exact BK390.out)⟩, ⟨u11_1⟩, ⟨u11_0⟩, ⟨u11_2⟩⟩
        replace c34 := Bool.eq_false_iff.mpr c34
        subst c34
        rw [if_neg (show ¬ (false = true) by decide)] at H
        by_cases c43 : t414 = 3
        · rw [if_pos c43] at H
          have c43b0 : (t414 == 3) = true := beq_iff_eq.mpr c43
          have c43b1 : (t414 != 3) = false := bne_eq_false_iff_eq.mpr c43
          clear c43
          replace H := Option.bind_eq_some_iff.mp H
          obtain ⟨⟨t421, t424⟩, A440, H⟩ := H
          replace H : (spec_l10DrawRight.l1 kj26 (wrap64 (x7_2 - 1)) s0_0 t415 t416 t421) = some (r1, r2, r3) := H
          have A44 := Aside0.mk A440
          clear A440
          have H' := Aside0.mk H
          clear H
          have hnb45 := NB390_389.out
          have hnc45 := NB389_390.out
          have hnb46 := NB390_0.out
          have hnc46 := NB0_390.out
          have hcz47_0 : wc.cell? ⟨gb390, 0, none⟩ = some (u391000) := (blk_cell BK390.out 0).trans rfl
          have hfz47_0 := blk_frozen BK390.out 0
          obtain ⟨Ao48, co48, eo48⟩ := Kd.R_slice HO_391000.out
          subst eo48
          go_wp2_with (first | ((with_reducible refine gate_callee (f := 36) rfl ?_); refine goesL_ (some 67) rfl rfl Try.func36 (by kernel_rfl) rfl #[.agg #[.slice Ao48 x391000_2.length co48], .int .u64 t405, .int .u64 t408] rfl u11_6 ?_; (with_reducible refine (spec_Withdraw.calls kj26 _ _ x391000_2 t405 t408 t421 t424 _ ?side1 ?side2 A44.out).mono ?_); (case side1 => exact u11_8); (case side2 => exact (Kd.R_reads' HO_391000.out).2.1); rintro e w49 ⟨v422, rfl, ho0, hb⟩; refine ⟨_, rfl, ?_⟩; have n0_ := Aside0.mk (Kd.R_elder' u11_3 (Kd.R_base ho0) hb); have n1_ := Aside0.mk (Kd.R_lower (Kd.R_new' ho0 (Kd.R_lt u11_3)) (keep_size (w := w) (g := g) (row := none) u11_0)); have n2_ := Aside0.mk (blk_below (g := gb389) (o := .cells #[.slice none 0 0] 29 (0, 0)) u11_4 hb); have n3_ := Aside0.mk (blk_below (g := gb390) (o := .cells #[.slice Ao48 x391000_2.length co48] 29 (0, 0)) u11_5 hb); have n4_ := Aside0.mk (IsS83.below u11_1 hb); have n5_ := Aside0.mk (KeepBut.trans u11_0 (KeepBut.of_below hb g none) (.inl rfl)); have n6_ := Aside0.mk (below_step u11_2 hb); clear HO_391000; clear BK389; clear BK390; clear HI0; clear HK; clear HB; have HO_391000 := n0_; have HO423 := n1_; have BK389 := n2_; have BK390 := n3_; have HI0 := n4_; have HK := n5_; have HB := n6_; clear n0_ n1_ n2_ n3_ n4_ n5_ n6_; (try clear hb); (try clear hb2); (try clear hk); (try clear hi); (try clear ho0); obtain ⟨Ao50, co50, eo50⟩ := Kd.R_slice HO423.out; subst eo50; have hcz51_0 : w49.cell? ⟨gb390, 0, none⟩ = some (.slice Ao48 x391000_2.length co48) := (blk_cell BK390.out 0).trans rfl; have hfz51_0 := blk_frozen BK390.out 0))
          go_roundg kj26
          case measure => have := HK1.out; have := HK2.out; have := HJ26.out; omega
          case rel => exact ⟨(wrap64 (x7_2 - 1)), (t415), (t416), (t421), (.slice Ao50 t421.length co50), u11_9, H', ⟨u11_11⟩, ⟨(by (with_reducible repeat (first | apply Kd.R_alloc | apply Kd.R_drewN | apply Kd.R_drew)); exact Kd.R_mono (Kd.R_far (p := ⟨gb390, 0, none⟩) (Kd.R_types HO423.out BK390.out (by decide)) (fun _ hk => hk.2) (.slice Ao50 t421.length co50)) (fun _ hk => trivial))⟩, ⟨u11_7⟩, ⟨(by (with_reducible repeat (first | refine blk_drewN ?_ _ | refine blk_drew ?_ | refine blk_alloc ?_ _)); refine blk_put (cs := #[.slice Ao48 x391000_2.length co48]) ?_ 0 _ rfl; (with_reducible repeat (first | refine blk_drewN ?_ _ | refine blk_drew ?_ | refine blk_alloc ?_ _)); exact BK390.out)⟩, ⟨u11_1⟩, ⟨u11_0⟩, ⟨u11_2⟩⟩
        rw [if_neg c43] at H
        have c43b0 : (t414 == 3) = false := beq_eq_false_iff_ne.mpr c43
        have c43b1 : (t414 != 3) = true := bne_iff_ne.mpr c43
        by_cases c52 : t414 = 4
        · rw [if_pos c52] at H
          have c52b0 : (t414 == 4) = true := beq_iff_eq.mpr c52
          have c52b1 : (t414 != 4) = false := bne_eq_false_iff_eq.mpr c52
          clear c52
          replace H := Option.bind_eq_some_iff.mp H
          obtain ⟨⟨t425, t428⟩, A530, H⟩ := H
          replace H : (spec_l10DrawRight.l1 kj26 (wrap64 (x7_2 - 1)) s0_0 t415 t416 t425) = some (r1, r2, r3) := H
          have A53 := Aside0.mk A530
          clear A530
          have H' := Aside0.mk H
          clear H
          have hnb54 := NB390_389.out
          have hnc54 := NB389_390.out
          have hnb55 := NB390_0.out
          have hnc55 := NB0_390.out
          have hcz56_0 : wc.cell? ⟨gb390, 0, none⟩ = some (u391000) := (blk_cell BK390.out 0).trans rfl
          have hfz56_0 := blk_frozen BK390.out 0
          obtain ⟨Ao57, co57, eo57⟩ := Kd.R_slice HO_391000.out
          subst eo57
          go_wp2_with (first | ((with_reducible refine gate_callee (f := 40) rfl ?_); refine goesL_ (some 77) rfl rfl Try.func40 (by kernel_rfl) rfl #[.agg #[.slice Ao57 x391000_2.length co57], .int .u64 t405, .int .u64 t408, .int .i64 (wrap64 (1 + t411))] rfl u11_6 ?_; (with_reducible refine (spec_LockDebit.calls kj26 _ _ x391000_2 t405 t408 (wrap64 (1 + t411)) t425 t428 _ ?side1 ?side2 A53.out).mono ?_); (case side1 => exact u11_8); (case side2 => exact (Kd.R_reads' HO_391000.out).2.1); rintro e w58 ⟨v426, rfl, ho0, hb⟩; refine ⟨_, rfl, ?_⟩; have n0_ := Aside0.mk (Kd.R_elder' u11_3 (Kd.R_base ho0) hb); have n1_ := Aside0.mk (Kd.R_lower (Kd.R_new' ho0 (Kd.R_lt u11_3)) (keep_size (w := w) (g := g) (row := none) u11_0)); have n2_ := Aside0.mk (blk_below (g := gb389) (o := .cells #[.slice none 0 0] 29 (0, 0)) u11_4 hb); have n3_ := Aside0.mk (blk_below (g := gb390) (o := .cells #[.slice Ao57 x391000_2.length co57] 29 (0, 0)) u11_5 hb); have n4_ := Aside0.mk (IsS83.below u11_1 hb); have n5_ := Aside0.mk (KeepBut.trans u11_0 (KeepBut.of_below hb g none) (.inl rfl)); have n6_ := Aside0.mk (below_step u11_2 hb); clear HO_391000; clear BK389; clear BK390; clear HI0; clear HK; clear HB; have HO_391000 := n0_; have HO427 := n1_; have BK389 := n2_; have BK390 := n3_; have HI0 := n4_; have HK := n5_; have HB := n6_; clear n0_ n1_ n2_ n3_ n4_ n5_ n6_; (try clear hb); (try clear hb2); (try clear hk); (try clear hi); (try clear ho0); obtain ⟨Ao59, co59, eo59⟩ := Kd.R_slice HO427.out; subst eo59; have hcz60_0 : w58.cell? ⟨gb390, 0, none⟩ = some (.slice Ao57 x391000_2.length co57) := (blk_cell BK390.out 0).trans rfl; have hfz60_0 := blk_frozen BK390.out 0))
          go_roundg kj26
          case measure => have := HK1.out; have := HK2.out; have := HJ26.out; omega
          case rel => exact ⟨(wrap64 (x7_2 - 1)), (t415), (t416), (t425), (.slice Ao59 t425.length co59), u11_9, H', ⟨u11_11⟩, ⟨(by (with_reducible repeat (first | apply Kd.R_alloc | apply Kd.R_drewN | apply Kd.R_drew)); exact Kd.R_mono (Kd.R_far (p := ⟨gb390, 0, none⟩) (Kd.R_types HO427.out BK390.out (by decide)) (fun _ hk => hk.2) (.slice Ao59 t425.length co59)) (fun _ hk => trivial))⟩, ⟨u11_7⟩, ⟨(by (with_reducible repeat (first | refine blk_drewN ?_ _ | refine blk_drew ?_ | refine blk_alloc ?_ _)); refine blk_put (cs := #[.slice Ao57 x391000_2.length co57]) ?_ 0 _ rfl; (with_reducible repeat (first | refine blk_drewN ?_ _ | refine blk_drew ?_ | refine blk_alloc ?_ _)); exact BK390.out)⟩, ⟨u11_1⟩, ⟨u11_0⟩, ⟨u11_2⟩⟩
        rw [if_neg c52] at H
        have c52b0 : (t414 == 4) = false := beq_eq_false_iff_ne.mpr c52
        have c52b1 : (t414 != 4) = true := bne_iff_ne.mpr c52
        by_cases c61 : t414 = 5
        · rw [if_pos c61] at H
          have c61b0 : (t414 == 5) = true := beq_iff_eq.mpr c61
          have c61b1 : (t414 != 5) = false := bne_eq_false_iff_eq.mpr c61
          clear c61
          replace H := Option.bind_eq_some_iff.mp H
          obtain ⟨⟨t429, t432⟩, A620, H⟩ := H
          replace H : (spec_l10DrawRight.l1 kj26 (wrap64 (x7_2 - 1)) s0_0 t415 t416 t429) = some (r1, r2, r3) := H
          have A62 := Aside0.mk A620
          clear A620
          have H' := Aside0.mk H
          clear H
          have hnb63 := NB390_389.out
          have hnc63 := NB389_390.out
          have hnb64 := NB390_0.out
          have hnc64 := NB0_390.out
          have hcz65_0 : wc.cell? ⟨gb390, 0, none⟩ = some (u391000) := (blk_cell BK390.out 0).trans rfl
          have hfz65_0 := blk_frozen BK390.out 0
          obtain ⟨Ao66, co66, eo66⟩ := Kd.R_slice HO_391000.out
          subst eo66
          go_wp2_with (first | ((with_reducible refine gate_callee (f := 38) rfl ?_); refine goesL_ (some 87) rfl rfl Try.func38 (by kernel_rfl) rfl #[.agg #[.slice Ao66 x391000_2.length co66], .int .u64 t405, .int .u64 t408, .int .i64 (wrap64 (1 + t411))] rfl u11_6 ?_; (with_reducible refine (spec_LockCredit.calls kj26 _ _ x391000_2 t405 t408 (wrap64 (1 + t411)) t429 t432 _ ?side1 ?side2 A62.out).mono ?_); (case side1 => exact u11_8); (case side2 => exact (Kd.R_reads' HO_391000.out).2.1); rintro e w67 ⟨v430, rfl, ho0, hb⟩; refine ⟨_, rfl, ?_⟩; have n0_ := Aside0.mk (Kd.R_elder' u11_3 (Kd.R_base ho0) hb); have n1_ := Aside0.mk (Kd.R_lower (Kd.R_new' ho0 (Kd.R_lt u11_3)) (keep_size (w := w) (g := g) (row := none) u11_0)); have n2_ := Aside0.mk (blk_below (g := gb389) (o := .cells #[.slice none 0 0] 29 (0, 0)) u11_4 hb); have n3_ := Aside0.mk (blk_below (g := gb390) (o := .cells #[.slice Ao66 x391000_2.length co66] 29 (0, 0)) u11_5 hb); have n4_ := Aside0.mk (IsS83.below u11_1 hb); have n5_ := Aside0.mk (KeepBut.trans u11_0 (KeepBut.of_below hb g none) (.inl rfl)); have n6_ := Aside0.mk (below_step u11_2 hb); clear HO_391000; clear BK389; clear BK390; clear HI0; clear HK; clear HB; have HO_391000 := n0_; have HO431 := n1_; have BK389 := n2_; have BK390 := n3_; have HI0 := n4_; have HK := n5_; have HB := n6_; clear n0_ n1_ n2_ n3_ n4_ n5_ n6_; (try clear hb); (try clear hb2); (try clear hk); (try clear hi); (try clear ho0); obtain ⟨Ao68, co68, eo68⟩ := Kd.R_slice HO431.out; subst eo68; have hcz69_0 : w67.cell? ⟨gb390, 0, none⟩ = some (.slice Ao66 x391000_2.length co66) := (blk_cell BK390.out 0).trans rfl; have hfz69_0 := blk_frozen BK390.out 0))
          go_roundg kj26
          case measure => have := HK1.out; have := HK2.out; have := HJ26.out; omega
          case rel => exact ⟨(wrap64 (x7_2 - 1)), (t415), (t416), (t429), (.slice Ao68 t429.length co68), u11_9, H', ⟨u11_11⟩, ⟨(by (with_reducible repeat (first | apply Kd.R_alloc | apply Kd.R_drewN | apply Kd.R_drew)); exact Kd.R_mono (Kd.R_far (p := ⟨gb390, 0, none⟩) (Kd.R_types HO431.out BK390.out (by decide)) (fun _ hk => hk.2) (.slice Ao68 t429.length co68)) (fun _ hk => trivial))⟩, ⟨u11_7⟩, ⟨(by (with_reducible repeat (first | refine blk_drewN ?_ _ | refine blk_drew ?_ | refine blk_alloc ?_ _)); refine blk_put (cs := #[.slice Ao66 x391000_2.length co66]) ?_ 0 _ rfl; (with_reducible repeat (first | refine blk_drewN ?_ _ | refine blk_drew ?_ | refine blk_alloc ?_ _)); exact BK390.out)⟩, ⟨u11_1⟩, ⟨u11_0⟩, ⟨u11_2⟩⟩
        rw [if_neg c61] at H
        have c61b0 : (t414 == 5) = false := beq_eq_false_iff_ne.mpr c61
        have c61b1 : (t414 != 5) = true := bne_iff_ne.mpr c61
        by_cases c70 : t414 = 6
        · rw [if_pos c70] at H
          have c70b0 : (t414 == 6) = true := beq_iff_eq.mpr c70
          have c70b1 : (t414 != 6) = false := bne_eq_false_iff_eq.mpr c70
          clear c70
          replace H := Option.bind_eq_some_iff.mp H
          obtain ⟨⟨t433, t436⟩, A710, H⟩ := H
          replace H : (spec_l10DrawRight.l1 kj26 (wrap64 (x7_2 - 1)) s0_0 t415 t416 t433) = some (r1, r2, r3) := H
          have A71 := Aside0.mk A710
          clear A710
          have H' := Aside0.mk H
          clear H
          have hnb72 := NB390_389.out
          have hnc72 := NB389_390.out
          have hnb73 := NB390_0.out
          have hnc73 := NB0_390.out
          have hcz74_0 : wc.cell? ⟨gb390, 0, none⟩ = some (u391000) := (blk_cell BK390.out 0).trans rfl
          have hfz74_0 := blk_frozen BK390.out 0
          obtain ⟨Ao75, co75, eo75⟩ := Kd.R_slice HO_391000.out
          subst eo75
          go_wp2_with (first | ((with_reducible refine gate_callee (f := 32) rfl ?_); refine goesL_ (some 96) rfl rfl Try.func32 (by kernel_rfl) rfl #[.agg #[.slice Ao75 x391000_2.length co75], .int .u64 t405, .int .i64 (wrap64 (1 + t411))] rfl u11_6 ?_; (with_reducible refine (spec_SettleHold.calls kj26 _ _ x391000_2 t405 (wrap64 (1 + t411)) t433 t436 _ ?side1 ?side2 A71.out).mono ?_); (case side1 => exact u11_8); (case side2 => exact (Kd.R_reads' HO_391000.out).2.1); rintro e w76 ⟨v434, rfl, ho0, hb⟩; refine ⟨_, rfl, ?_⟩; have n0_ := Aside0.mk (Kd.R_elder' u11_3 (Kd.R_base ho0) hb); have n1_ := Aside0.mk (Kd.R_lower (Kd.R_new' ho0 (Kd.R_lt u11_3)) (keep_size (w := w) (g := g) (row := none) u11_0)); have n2_ := Aside0.mk (blk_below (g := gb389) (o := .cells #[.slice none 0 0] 29 (0, 0)) u11_4 hb); have n3_ := Aside0.mk (blk_below (g := gb390) (o := .cells #[.slice Ao75 x391000_2.length co75] 29 (0, 0)) u11_5 hb); have n4_ := Aside0.mk (IsS83.below u11_1 hb); have n5_ := Aside0.mk (KeepBut.trans u11_0 (KeepBut.of_below hb g none) (.inl rfl)); have n6_ := Aside0.mk (below_step u11_2 hb); clear HO_391000; clear BK389; clear BK390; clear HI0; clear HK; clear HB; have HO_391000 := n0_; have HO435 := n1_; have BK389 := n2_; have BK390 := n3_; have HI0 := n4_; have HK := n5_; have HB := n6_; clear n0_ n1_ n2_ n3_ n4_ n5_ n6_; (try clear hb); (try clear hb2); (try clear hk); (try clear hi); (try clear ho0); obtain ⟨Ao77, co77, eo77⟩ := Kd.R_slice HO435.out; subst eo77; have hcz78_0 : w76.cell? ⟨gb390, 0, none⟩ = some (.slice Ao75 x391000_2.length co75) := (blk_cell BK390.out 0).trans rfl; have hfz78_0 := blk_frozen BK390.out 0))
          go_roundg kj26
          case measure => have := HK1.out; have := HK2.out; have := HJ26.out; omega
          case rel => exact ⟨(wrap64 (x7_2 - 1)), (t415), (t416), (t433), (.slice Ao77 t433.length co77), u11_9, H', ⟨u11_11⟩, ⟨(by (with_reducible repeat (first | apply Kd.R_alloc | apply Kd.R_drewN | apply Kd.R_drew)); exact Kd.R_mono (Kd.R_far (p := ⟨gb390, 0, none⟩) (Kd.R_types HO435.out BK390.out (by decide)) (fun _ hk => hk.2) (.slice Ao77 t433.length co77)) (fun _ hk => trivial))⟩, ⟨u11_7⟩, ⟨(by (with_reducible repeat (first | refine blk_drewN ?_ _ | refine blk_drew ?_ | refine blk_alloc ?_ _)); refine blk_put (cs := #[.slice Ao75 x391000_2.length co75]) ?_ 0 _ rfl; (with_reducible repeat (first | refine blk_drewN ?_ _ | refine blk_drew ?_ | refine blk_alloc ?_ _)); exact BK390.out)⟩, ⟨u11_1⟩, ⟨u11_0⟩, ⟨u11_2⟩⟩
        rw [if_neg c70] at H
        have c70b0 : (t414 == 6) = false := beq_eq_false_iff_ne.mpr c70
        have c70b1 : (t414 != 6) = true := bne_iff_ne.mpr c70
        by_cases c79 : t414 = 7
        rotate_left
        · rw [if_neg c79] at H
          have c79b0 : (t414 == 7) = false := beq_eq_false_iff_ne.mpr c79
          have c79b1 : (t414 != 7) = true := bne_iff_ne.mpr c79
          replace H := Option.bind_eq_some_iff.mp H
          obtain ⟨⟨t441, t444⟩, A880, H⟩ := H
          replace H : (spec_l10DrawRight.l1 kj26 (wrap64 (x7_2 - 1)) s0_0 t415 t416 t441) = some (r1, r2, r3) := H
          have A88 := Aside0.mk A880
          clear A880
          have H' := Aside0.mk H
          clear H
          have hnb89 := NB390_389.out
          have hnc89 := NB389_390.out
          have hnb90 := NB390_0.out
          have hnc90 := NB0_390.out
          have hcz91_0 : wc.cell? ⟨gb390, 0, none⟩ = some (u391000) := (blk_cell BK390.out 0).trans rfl
          have hfz91_0 := blk_frozen BK390.out 0
          obtain ⟨Ao92, co92, eo92⟩ := Kd.R_slice HO_391000.out
          subst eo92
          go_wp2_with (first | ((with_reducible refine gate_callee (f := 42) rfl ?_); refine goesL_ (some 47) rfl rfl Try.func42 (by kernel_rfl) rfl #[.agg #[.slice Ao92 x391000_2.length co92], .int .u64 t405] rfl u11_6 ?_; (with_reducible refine (spec_OpenAccount.calls kj26 _ _ x391000_2 t405 t441 t444 _ ?side1 ?side2 A88.out).mono ?_); (case side1 => exact u11_8); (case side2 => exact (Kd.R_reads' HO_391000.out).2.1); rintro e w93 ⟨v442, rfl, ho0, hb⟩; refine ⟨_, rfl, ?_⟩; have n0_ := Aside0.mk (Kd.R_elder' u11_3 (Kd.R_base ho0) hb); have n1_ := Aside0.mk (Kd.R_lower (Kd.R_new' ho0 (Kd.R_lt u11_3)) (keep_size (w := w) (g := g) (row := none) u11_0)); have n2_ := Aside0.mk (blk_below (g := gb389) (o := .cells #[.slice none 0 0] 29 (0, 0)) u11_4 hb); have n3_ := Aside0.mk (blk_below (g := gb390) (o := .cells #[.slice Ao92 x391000_2.length co92] 29 (0, 0)) u11_5 hb); have n4_ := Aside0.mk (IsS83.below u11_1 hb); have n5_ := Aside0.mk (KeepBut.trans u11_0 (KeepBut.of_below hb g none) (.inl rfl)); have n6_ := Aside0.mk (below_step u11_2 hb); clear HO_391000; clear BK389; clear BK390; clear HI0; clear HK; clear HB; have HO_391000 := n0_; have HO443 := n1_; have BK389 := n2_; have BK390 := n3_; have HI0 := n4_; have HK := n5_; have HB := n6_; clear n0_ n1_ n2_ n3_ n4_ n5_ n6_; (try clear hb); (try clear hb2); (try clear hk); (try clear hi); (try clear ho0); obtain ⟨Ao94, co94, eo94⟩ := Kd.R_slice HO443.out; subst eo94; have hcz95_0 : w93.cell? ⟨gb390, 0, none⟩ = some (.slice Ao92 x391000_2.length co92) := (blk_cell BK390.out 0).trans rfl; have hfz95_0 := blk_frozen BK390.out 0))
          go_roundg kj26
          case measure => have := HK1.out; have := HK2.out; have := HJ26.out; omega
          case rel => exact ⟨(wrap64 (x7_2 - 1)), (t415), (t416), (t441), (.slice Ao94 t441.length co94), u11_9, H', ⟨u11_11⟩, ⟨(by (with_reducible repeat (first | apply Kd.R_alloc | apply Kd.R_drewN | apply Kd.R_drew)); exact Kd.R_mono (Kd.R_far (p := ⟨gb390, 0, none⟩) (Kd.R_types HO443.out BK390.out (by decide)) (fun _ hk => hk.2) (.slice Ao94 t441.length co94)) (fun _ hk => trivial))⟩, ⟨u11_7⟩, ⟨(by (with_reducible repeat (first | refine blk_drewN ?_ _ | refine blk_drew ?_ | refine blk_alloc ?_ _)); refine blk_put (cs := #[.slice Ao92 x391000_2.length co92]) ?_ 0 _ rfl; (with_reducible repeat (first | refine blk_drewN ?_ _ | refine blk_drew ?_ | refine blk_alloc ?_ _)); exact BK390.out)⟩, ⟨u11_1⟩, ⟨u11_0⟩, ⟨u11_2⟩⟩
        rw [if_pos c79] at H
        have c79b0 : (t414 == 7) = true := beq_iff_eq.mpr c79
        have c79b1 : (t414 != 7) = false := bne_eq_false_iff_eq.mpr c79
        clear c79
        replace H := Option.bind_eq_some_iff.mp H
        obtain ⟨⟨t437, t440⟩, A800, H⟩ := H
        replace H : (spec_l10DrawRight.l1 kj26 (wrap64 (x7_2 - 1)) s0_0 t415 t416 t437) = some (r1, r2, r3) := H
        have A80 := Aside0.mk A800
        clear A800
        have H' := Aside0.mk H
        clear H
        have hnb81 := NB390_389.out
        have hnc81 := NB389_390.out
        have hnb82 := NB390_0.out
        have hnc82 := NB0_390.out
        have hcz83_0 : wc.cell? ⟨gb390, 0, none⟩ = some (u391000) := (blk_cell BK390.out 0).trans rfl
        have hfz83_0 := blk_frozen BK390.out 0
        obtain ⟨Ao84, co84, eo84⟩ := Kd.R_slice HO_391000.out
        subst eo84
        go_wp2_with (first | ((with_reducible refine gate_callee (f := 30) rfl ?_); refine goesL_ (some 105) rfl rfl Try.func30 (by kernel_rfl) rfl #[.agg #[.slice Ao84 x391000_2.length co84], .int .u64 t405, .int .i64 (wrap64 (1 + t411))] rfl u11_6 ?_; (with_reducible refine (spec_ReleaseHold.calls kj26 _ _ x391000_2 t405 (wrap64 (1 + t411)) t437 t440 _ ?side1 ?side2 A80.out).mono ?_); (case side1 => exact u11_8); (case side2 => exact (Kd.R_reads' HO_391000.out).2.1); rintro e w85 ⟨v438, rfl, ho0, hb⟩; refine ⟨_, rfl, ?_⟩; have n0_ := Aside0.mk (Kd.R_elder' u11_3 (Kd.R_base ho0) hb); have n1_ := Aside0.mk (Kd.R_lower (Kd.R_new' ho0 (Kd.R_lt u11_3)) (keep_size (w := w) (g := g) (row := none) u11_0)); have n2_ := Aside0.mk (blk_below (g := gb389) (o := .cells #[.slice none 0 0] 29 (0, 0)) u11_4 hb); have n3_ := Aside0.mk (blk_below (g := gb390) (o := .cells #[.slice Ao84 x391000_2.length co84] 29 (0, 0)) u11_5 hb); have n4_ := Aside0.mk (IsS83.below u11_1 hb); have n5_ := Aside0.mk (KeepBut.trans u11_0 (KeepBut.of_below hb g none) (.inl rfl)); have n6_ := Aside0.mk (below_step u11_2 hb); clear HO_391000; clear BK389; clear BK390; clear HI0; clear HK; clear HB; have HO_391000 := n0_; have HO439 := n1_; have BK389 := n2_; have BK390 := n3_; have HI0 := n4_; have HK := n5_; have HB := n6_; clear n0_ n1_ n2_ n3_ n4_ n5_ n6_; (try clear hb); (try clear hb2); (try clear hk); (try clear hi); (try clear ho0); obtain ⟨Ao86, co86, eo86⟩ := Kd.R_slice HO439.out; subst eo86; have hcz87_0 : w85.cell? ⟨gb390, 0, none⟩ = some (.slice Ao84 x391000_2.length co84) := (blk_cell BK390.out 0).trans rfl; have hfz87_0 := blk_frozen BK390.out 0))
        go_roundg kj26
        case measure => have := HK1.out; have := HK2.out; have := HJ26.out; omega
        case rel => exact ⟨(wrap64 (x7_2 - 1)), (t415), (t416), (t437), (.slice Ao86 t437.length co86), u11_9, H', ⟨u11_11⟩, ⟨(by (with_reducible repeat (first | apply Kd.R_alloc | apply Kd.R_drewN | apply Kd.R_drew)); exact Kd.R_mono (Kd.R_far (p := ⟨gb390, 0, none⟩) (Kd.R_types HO439.out BK390.out (by decide)) (fun _ hk => hk.2) (.slice Ao86 t437.length co86)) (fun _ hk => trivial))⟩, ⟨u11_7⟩, ⟨(by (with_reducible repeat (first | refine blk_drewN ?_ _ | refine blk_drew ?_ | refine blk_alloc ?_ _)); refine blk_put (cs := #[.slice Ao84 x391000_2.length co84]) ?_ 0 _ rfl; (with_reducible repeat (first | refine blk_drewN ?_ _ | refine blk_drew ?_ | refine blk_alloc ?_ _)); exact BK390.out)⟩, ⟨u11_1⟩, ⟨u11_0⟩, ⟨u11_2⟩⟩

end Go.Proofs.Ytdbfjakhkclggaa.QFnHolds
