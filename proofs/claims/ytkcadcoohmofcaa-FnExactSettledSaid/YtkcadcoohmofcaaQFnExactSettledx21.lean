import Derived.Test.YtkcadcoohmofcaaSqFnExactSettled
import Derived.Test.YtkcadcoohmofcaaQFnExactSettledx0
import Derived.Test.YtkcadcoohmofcaaQFnExactSettledx1
import Derived.Test.YtkcadcoohmofcaaQFnExactSettledx4
import Derived.Test.YtkcadcoohmofcaaQFnExactSettledx5
import Derived.Test.YtkcadcoohmofcaaQFnExactSettledx6
import Derived.Test.YtkcadcoohmofcaaQFnExactSettledx7
import Derived.Test.YtkcadcoohmofcaaQFnExactSettledx14
import Derived.Test.YtkcadcoohmofcaaQFnExactSettledx20
namespace Go.Proofs.Ytkcadcoohmofcaa.QFnExactSettled
open Go.RowKit Go.Proofs.YtkcadcoohmofcaaW.PrintWords Go.Proofs.YtkcadcoohmofcaaW.PrintLast Go.Proofs.YtkcadcoohmofcaaW.PrintMore Go.Proofs.Ytkcadcoohmofcaa.SqFnExactSettled
attribute [local go_sem] max2_int min2_int max_two min_two max_three min_three max_four min_four Go.Proofs.Ytkcadcoohmofcaa.Set.isSome_setCell
set_option linter.unusedVariables false
set_option linter.unusedSimpArgs false
theorem u21_1 {P : Prop} (h : P := by (with_reducible repeat (first | apply b1_ | apply b2_ | apply b3_)); exact BK398.out) : P := h
theorem u21_4 {P : Prop} (h : P := by (with_reducible repeat (first | apply r1_ | apply r2_ | apply r3_)); exact HO409.out) : P := h
theorem u21_5 {P : Prop} (h : P := by (with_reducible repeat (first | apply r1_ | apply r2_ | apply r3_)); exact HO420.out) : P := h
theorem u21_6 {P : Prop} (h : P := by (with_reducible repeat (first | apply b1_ | apply b2_ | apply b3_)); exact BK417.out) : P := h
theorem u21_10 {P : Prop} (h : P := by repeat (first | exact (Kd.R_reads' HO420.out).2.2 | (with_reducible refine Kd.C_alloc ?_ _) | (with_reducible refine Kd.C_drewN ?_ _) | (with_reducible refine Kd.C_drew ?_))) : P := h
theorem u21_11 {P : Prop} (h : P := by (with_reducible repeat (first | apply s1_ | apply s2_ | apply s3_)); exact (Kd.S_mono (Kd.S_far (p := ⟨gb417, 2, none⟩) (Kd.S_far (p := ⟨gb417, 1, none⟩) (Kd.S_far (p := ⟨gb417, 0, none⟩) (Kd.S_types HO413.out BK417.out (by decide)) (fun _ hk => hk.2) (.int .i64 t410)) (fun _ hk => hk.2) (.slice Ao41 t411.length co41)) (fun _ hk => hk.2) (.slice Ao42 t414.length co42)) (fun _ h_ => h_.1))) : P := h
theorem u21_12 {P : Prop} (h : P := by (with_reducible repeat (first | apply s1_ | apply s2_ | apply s3_)); exact (Kd.S_mono (Kd.S_far (p := ⟨gb417, 2, none⟩) (Kd.S_far (p := ⟨gb417, 1, none⟩) (Kd.S_far (p := ⟨gb417, 0, none⟩) (Kd.S_types HO416.out BK417.out (by decide)) (fun _ hk => hk.2) (.int .i64 t410)) (fun _ hk => hk.2) (.slice Ao41 t411.length co41)) (fun _ hk => hk.2) (.slice Ao42 t414.length co42)) (fun _ h_ => h_.1))) : P := h
theorem u21_13 {P : Prop} (h : P := by (with_reducible repeat (first | apply r1_ | apply r2_ | apply r3_)); exact (Kd.R_mono (Kd.R_far (p := ⟨gb417, 2, none⟩) (Kd.R_far (p := ⟨gb417, 1, none⟩) (Kd.R_far (p := ⟨gb417, 0, none⟩) (Kd.R_types HO409.out BK417.out (by decide)) (fun _ hk => hk.2) (.int .i64 t410)) (fun _ hk => hk.2) (.slice Ao41 t411.length co41)) (fun _ hk => hk.2) (.slice Ao42 t414.length co42)) (fun _ h_ => h_.1))) : P := h
theorem u21_14 {P : Prop} (h : P := by (with_reducible repeat (first | apply s1_ | apply s2_ | apply s3_)); exact HO413.out) : P := h
theorem u21_15 {P : Prop} (h : P := by (with_reducible repeat (first | apply s1_ | apply s2_ | apply s3_)); exact HO416.out) : P := h
theorem u21_16 {P : Prop} (h : P := by repeat (first | exact (Kd.R_reads' HO409.out).2.2 | (with_reducible refine Kd.C_alloc ?_ _) | (with_reducible refine Kd.C_drewN ?_ _) | (with_reducible refine Kd.C_drew ?_))) : P := h
theorem u21_17 {P : Prop} (h : P := by (try simp only [List.map_toArray, List.map_cons, List.map_nil]); first | done | (rw [show t435.length = t418.length from (Kd.R_reads' HO420.out).1.symm] <;> rfl) | rfl | (simp only [List.length_drop, List.length_take]; rfl)) : P := h
theorem u21_20 {P : Prop} (h : P := by rw [show t435.length = t418.length from (Kd.R_reads' HO420.out).1.symm]; exact (Kd.R_reads' HO420.out).2.1) : P := h
def laws_heldEntryS.l0 : Nat → List (S85) → Int → Int → Option (Int)
 | 0, _, _, _ => none
 | k + 1, x0, x1, x5 => if x5 < (x0.length : Int) then (if 0 ≤ x5 then (if ((rd_T85 x0 x5).f0) = x1 then ((laws_markText.f k (wrap64 (x1 + 1))).bind fun t397 => (if ((rd_T85 x0 x5).f1).toList = t397.toList then (laws_heldEntryS.l0 k x0 (wrap64 ((wrap64 (x1 + 1)) + 1)) (wrap64 (x5 + 1))) else (some (-1)))) else (some (-1))) else (none)) else (some x1)
def laws_heldEntryS.f (k : Nat) (l0 : List (S85)) (a1 : Int) : Option (Int) := laws_heldEntryS.l0 k l0 a1 0
theorem laws_heldEntryS.mono_l : ∀ k, (∀ y0 y1 y2, LeO (laws_heldEntryS.l0 k y0 y1 y2) (laws_heldEntryS.l0 (k + 1) y0 y1 y2))
 | 0 => fun _ _ _ r h => by simp [laws_heldEntryS.l0] at h
 | k + 1 => by
   have ih0 := laws_heldEntryS.mono_l k
   · intro y0 y1 y2
     unfold laws_heldEntryS.l0
     repeat' first
     | (with_reducible exact ih0 _ _ _)
     | (with_reducible exact laws_markText.mono _ _)
     | (with_reducible exact LeO.refl _)
     | (with_reducible exact LeO.none _)
     | (with_reducible refine LeO.ite ?_ ?_)
     | (with_reducible refine LeO.bind ?_ (fun _ => ?_))
     | exact ih0 _ _ _
     | exact laws_markText.mono _ _
     | exact LeO.none _
     | refine LeO.ite ?_ ?_
     | refine LeO.bind ?_ (fun _ => ?_)
theorem laws_heldEntryS.mono : ∀ a0 a1 k, LeO (laws_heldEntryS.f k a0 a1) (laws_heldEntryS.f (k + 1) a0 a1) := by
 intro a0 a1 k
 have ih0 := laws_heldEntryS.mono_l k
 unfold laws_heldEntryS.f
 repeat' first
     | (with_reducible exact ih0 _ _ _)
     | (with_reducible exact laws_markText.mono _ _)
     | (with_reducible exact LeO.refl _)
     | (with_reducible exact LeO.none _)
     | (with_reducible refine LeO.ite ?_ ?_)
     | (with_reducible refine LeO.bind ?_ (fun _ => ?_))
     | exact ih0 _ _ _
     | exact laws_markText.mono _ _
     | exact LeO.none _
     | refine LeO.ite ?_ ?_
     | refine LeO.bind ?_ (fun _ => ?_)
def laws_heldEntryS.T7 : Bool × List (List Nat × List Nat) := (true, [([], []), ([], []), ([0, 1], [0, 1]), ([2], [2]), ([3], [3]), ([], []), ([5], [5]), ([4, 6], [4, 6])])
def laws_heldEntryS.B7 : List Nat := [0, 0, 3, 7, 15, 0, 32, 127]
theorem laws_heldEntryS.tab7 : rtab .any (opsOf Try.f60 7) = laws_heldEntryS.T7 := by kernel_rfl
theorem laws_heldEntryS.bits7 : waitsOk laws_heldEntryS.T7.2 laws_heldEntryS.B7 = true := by kernel_rfl
set_option maxHeartbeats 8000000 in
set_option maxRecDepth 100000 in
theorem laws_heldEntryS.calls (k : Nat) (A0 : Option Addr) (c0 : Nat) (l0 : List (S85)) (a1 : Int) (r : Int) (w : World) (hr0 : Kd.C k85 w A0 l0.length l0) (hc0 : l0.length ≤ c0) (h : laws_heldEntryS.f k l0 a1 = some r) :
   Calls Try.prog 60 #[.slice A0 l0.length c0, .int .i64 a1] w fun e w' => e = .returned (.int .i64 r) ∧ Below w.heap.size w w' := by
 have HR0 := am hr0
 have HC0 := am hc0
 clear hr0 hc0
 have HB := am (Below.refl w.heap.size w)
 have H : (laws_heldEntryS.l0 k l0 a1 0) = some r := h
 clear h
 have H' := am H
 clear H
 go_enter Try.func60, Try.ntmps60
 go_wp2
 go_loopg [1, 5] k (fun kq v1 v5 w' => ∃ (x1_1 : Int) (x5_1 : Int), v1 = .int .i64 x1_1 ∧ v5 = .int .i64 x5_1 ∧ Aside0 (laws_heldEntryS.l0 kq l0 x1_1 x5_1 = some r) ∧ Aside0 (kq ≤ k) ∧ Aside0 (Below w.heap.size w w'))
 case atStart => exact ⟨(a1), (0), Q3, Q3, H', ⟨Nat.le_refl _⟩, ⟨Q2⟩⟩
 clear H'
 obtain ⟨x1_1, x5_1, rfl, rfl, HA, HK1, HB⟩ := hrel
 cases gk with
 | zero => exact absurd HA.out (by simp [laws_heldEntryS.l0])
 | succ k1 =>
   have H := HA.out
   clear HA
   simp only [laws_heldEntryS.l0] at H
   by_cases c3 : x5_1 < (l0.length : Int)
   rotate_left
   · rw [if_neg c3] at H
     have c3b0 : decide (x5_1 < (l0.length : Int)) = false := decide_eq_false c3
     clear c3
     obtain rfl := sj H
     go_wp2
     go_ret
     exact ⟨er, Q2⟩
   rw [if_pos c3] at H
   have c3b0 : decide (x5_1 < (l0.length : Int)) = true := decide_eq_true c3
   clear c3
   by_cases c4 : 0 ≤ x5_1
   rotate_left
   · rw [if_neg c4] at H
     exact absurd H (by simp)
   rw [if_pos c4] at H
   have c4b0 : decide (0 ≤ x5_1) = true := decide_eq_true c4
   clear c4
   have H9 := am H
   clear H
   have p395 : 0 ≤ (x5_1 : Int) := of_decide_eq_true Q1
   have q395 : x5_1 < (l0.length : Int) := of_decide_eq_true Q1
   obtain ⟨ad395, e395, hx395_0, hx395_1⟩ := at_T85 HR0.out x5_1 p395 q395
   cases e395
   replace hx395_0 := cm HB.out hx395_0
   replace hx395_1 := cm HB.out hx395_1
   replace p395 := eq_true p395
   replace q395 := eq_true q395
   go_upto_if 18 with (fail)
   have H := H9.out
   clear H9
   by_cases c5 : ((rd_T85 l0 x5_1).f0) = x1_1
   rotate_left
   · rw [if_neg c5] at H
     have c5b0 : (((rd_T85 l0 x5_1).f0) == x1_1) = false := beq_eq_false_iff_ne.mpr c5
     have c5b1 : (((rd_T85 l0 x5_1).f0) != x1_1) = true := bne_iff_ne.mpr c5
     (first | rw [c5b0] | (simp only [i64_w, i32_w]; rw [c5b0]) | skip)
     obtain rfl := sj H
     go_wp2
     go_ret
     exact ⟨er, Q2⟩
   rw [if_pos c5] at H
   have c5b0 : (((rd_T85 l0 x5_1).f0) == x1_1) = true := beq_iff_eq.mpr c5
   have c5b1 : (((rd_T85 l0 x5_1).f0) != x1_1) = false := bne_eq_false_iff_eq.mpr c5
   clear c5
   (first | rw [c5b0] | (simp only [i64_w, i32_w]; rw [c5b0]) | skip)
   replace H := Option.bind_eq_some_iff.mp H
   obtain ⟨t397, A60, H⟩ := H
   have A6 := am A60
   clear A60
   have H9 := am H
   clear H
   try go_wp2
   replace HB := am (below_drew1 HB.out)
   have p396 : 0 ≤ (x5_1 : Int) := of_decide_eq_true Q1
   have q396 : x5_1 < (l0.length : Int) := of_decide_eq_true Q1
   obtain ⟨ad396, e396, hx396_0, hx396_1⟩ := at_T85 HR0.out x5_1 p396 q396
   have hw396_1 := hx396_1
   have hw396_0 := hx396_0
   obtain rfl : ad395 = ad396 := (by injection e396)
   replace hx396_0 := cm HB.out hx396_0
   replace hx396_1 := cm HB.out hx396_1
   replace p396 := eq_true p396
   replace q396 := eq_true q396
   refine start_ (n := 8) (S := fun w' => w'.cell? (ad395.add ((x5_1).toNat * 2)) = some (.int .i64 ((rd_T85 l0 x5_1).f0)) ∧ w'.cell? ⟨(ad395.add ((x5_1).toNat * 2)).block, (ad395.add ((x5_1).toNat * 2)).off + 1, none⟩ = some (.string ((rd_T85 l0 x5_1).f1))) (ds := []) #[false, false, false, false, false, false, false, false] kr rfl rfl ⟨(cm HB.out hw396_0), (cm HB.out hw396_1)⟩ (fun hHeld => ?_); refine with_tabW laws_heldEntryS.tab7 laws_heldEntryS.bits7 (fun HT_ HW_ => ?_)
   generalize wr.drew = w7 at HB hx396_0 hx396_1 hHeld ⊢
   refine pV 0 21 (bt 1 8) ?_
   refine pV 1 22 (bt 2 8) ?_
   refine pV 2 23 (bt 3 8) ?_
   refine pV 3 24 (bt 4 8) ?_
   refine pV 5 26 #[true, true, true, true, false, true, false, false] ?_
   refine tV 4 25 (bt 6 8) ?_
   refine one_ (i := 6) (N := some 27) #[true, true, true, true, true, true, true, false] rfl rfl (one_of HT_.out kr) (by decide) (fun K hK => ?_)
   refine goes_ Try.func106 kr rfl #[.int .i64 (wrap64 (x1_1 + 1))] (by rfl) rfl rfl Q0 ?_
   with_reducible refine (laws_markText.calls k1 (wrap64 (x1_1 + 1)) t397 _ A6.out).mono ?_
   rintro e w8 ⟨rfl, hb⟩
   refine ⟨_, rfl, ?_⟩
   replace HB := am (below_step Q2 hb)
   (try clear hb)
   (try clear hb2)
   (try clear hk)
   (try clear hi)
   refine hK.out _ _ ⟨(cm HB.out hw396_0), (cm HB.out hw396_1)⟩ (fun hHeld => ?_)
   clear hK K
   refine norm_ (a' := ?_) ?_ ?_
   rotate_left
   · show Act.put _ (some 27) _ = _
     simp only [Act.put, la, lb, lc, i64_w, i32_w]
     rfl
   refine pV 7 28 (bt 8 8) ?_
   refine done_ (done_of HT_.out kr) ?_
   go_upto_if 28 with (fail)
   have H := H9.out
   clear H9
   by_cases c9 : ((rd_T85 l0 x5_1).f1).toList = t397.toList
   rotate_left
   · rw [if_neg c9] at H
     have c9b0 : (((rd_T85 l0 x5_1).f1).toList == t397.toList) = false := beq_eq_false_iff_ne.mpr c9
     have c9b1 : (((rd_T85 l0 x5_1).f1).toList != t397.toList) = true := bne_iff_ne.mpr c9
     (first | rw [c9b0] | (simp only [i64_w, i32_w]; rw [c9b0]) | skip)
     obtain rfl := sj H
     go_wp2
     go_ret
     exact ⟨er, Q2⟩
   rw [if_pos c9] at H
   have c9b0 : (((rd_T85 l0 x5_1).f1).toList == t397.toList) = true := beq_iff_eq.mpr c9
   have c9b1 : (((rd_T85 l0 x5_1).f1).toList != t397.toList) = false := bne_eq_false_iff_eq.mpr c9
   clear c9
   (first | rw [c9b0] | (simp only [i64_w, i32_w]; rw [c9b0]) | skip)
   have H' := am H
   clear H
   go_wp2
   go_roundg k1
   case measure => have := HK1.out; omega
   case rel => exact ⟨(wrap64 ((wrap64 (x1_1 + 1)) + 1)), (wrap64 (x5_1 + 1)), Q3, Q3, H', ⟨by have := HK1.out; omega⟩, ⟨Q2⟩⟩
theorem untyped_ {w : World} {k t : Nat} {L : List Nat} (h : ∃ q_, q_ ∈ L ∧ ∃ cells_, w.heap[k]? = some (.cells cells_ q_ (0, 0))) (h2 : ∃ cells_, w.heap[k]? = some (.cells cells_ t (0, 0))) (hn : ∀ q ∈ L, q ≠ t) : False := by
 obtain ⟨q, hq, c, e⟩ := h
 obtain ⟨c2, e2⟩ := h2
 rw [e] at e2
 injection e2 with e2
 injection e2 with _ e3
 exact hn q hq e3
theorem pair_ {α β : Type} {d : Kd α} {d' : Kd β} {e e' b0 : Nat} {W w1 : World} {okA okB : Nat → Prop} {u v z : Value} {xs : List α} {ys : List β} (hA : Kd.S d e w1 W.heap.size okA u xs) (hB : Kd.S d' e' w1 W.heap.size okB v ys) (hc : ∀ k, z.ownBlock = some k → k < W.heap.size) (hl : b0 ≤ W.heap.size) : ∃ lo : Nat, Kd.S d e w1 b0 (fun k => lo ≤ k ∧ okA k) u xs ∧ Kd.S d' e' w1 b0 (fun k => lo ≤ k ∧ okB k) v ys ∧ ∀ k, z.ownBlock = some k → k < lo :=
 ⟨W.heap.size, Kd.S_lower (Kd.S_mono (Kd.S_bound hA) (fun k h => ⟨h.2.1, h.1⟩)) hl, Kd.S_lower (Kd.S_mono (Kd.S_bound hB) (fun k h => ⟨h.2.1, h.1⟩)) hl, hc⟩
theorem old2_ {α β : Type} {d : Kd α} {d' : Kd β} {e e' b b' : Nat} {W w1 : World} {okA okB : Nat → Prop} {u v z : Value} {xs : List α} {ys : List β} (hb : Below W.heap.size W w1) (hA : Kd.S d e W b okA u xs) (hB : Kd.S d' e' W b' okB v ys) (hc : ∀ k, z.ownBlock = some k → W.heap.size ≤ k) : ∃ hi : Nat, Kd.S d e w1 b (fun k => okA k ∧ k < hi) u xs ∧ Kd.S d' e' w1 b' (fun k => okB k ∧ k < hi) v ys ∧ ∀ k, z.ownBlock = some k → hi ≤ k :=
 ⟨W.heap.size, Kd.S_old hA hb, Kd.S_old hB hb, hc⟩
def laws_FnExactSettled.f (k : Nat) (a0_0 : Int) (l0_1 : List (S45)) (l0_2 : List (S24)) : Option (Bool) := (laws_szGroup.f k a0_0 l0_1 l0_2 1048576).bind fun t399 => (if t399 < 0 then (some true) else ((laws_toGroup.f k a0_0 l0_1 l0_2).bind fun bt400 => ((spec_Settled.f k bt400.1 bt400.2.1 bt400.2.2).bind fun t407 => ((laws_toGroup.f k a0_0 l0_1 l0_2).bind fun bt410 => ((impl_Settled.f k bt410.1 bt410.2.1 bt410.2.2).bind fun t418 => ((laws_eqEntryS.f k t418 t407).bind fun t421 => (if t421 = true then ((laws_toGroup.f k a0_0 l0_1 l0_2).bind fun bt422 => ((laws_eqGroup.f k bt410.1 bt410.2.1 bt410.2.2 bt422.1 bt422.2.1 bt422.2.2).bind fun t429 => (if t429 = true then ((laws_markGroup.f k bt410.1 bt410.2.1 bt410.2.2 1).bind fun bt430 => (if bt430.1 < 0 then (some false) else ((laws_eqEntryS.f k t418 t407).bind fun t433 => (if t433 = true then ((laws_markEntryS.f k t418 1).bind fun bt434 => ((laws_heldEntryS.f k bt434.2 1).bind fun t436 => (if t436 < 0 then (some false) else (if t436 = bt434.1 then ((laws_toGroup.f k a0_0 l0_1 l0_2).bind fun bt437 => ((impl_Settled.f k bt437.1 bt437.2.1 bt437.2.2).bind fun t444 => ((laws_eqEntryS.f k t444 t407).bind fun t447 => (if t447 = true then ((laws_heldEntryS.f k bt434.2 1).bind fun t448 => (if t448 < 0 then (some false) else (if t448 = bt434.1 then (some true) else (some false)))) else (some false))))) else (some false))))) else (some false))))) else (some false)))) else (some false))))))))
theorem laws_FnExactSettled.mono : ∀ a0 a1 a2 k, LeO (laws_FnExactSettled.f k a0 a1 a2) (laws_FnExactSettled.f (k + 1) a0 a1 a2) := by
 intro a0 a1 a2 k
 unfold laws_FnExactSettled.f
 repeat' first
     | (with_reducible exact impl_Settled.mono _ _ _ _)
     | (with_reducible exact laws_eqEntryS.mono _ _ _)
     | (with_reducible exact laws_eqGroup.mono _ _ _ _ _ _ _)
     | (with_reducible exact laws_heldEntryS.mono _ _ _)
     | (with_reducible exact laws_markEntryS.mono _ _ _)
     | (with_reducible exact laws_markGroup.mono _ _ _ _ _)
     | (with_reducible exact laws_szGroup.mono _ _ _ _ _)
     | (with_reducible exact laws_toGroup.mono _ _ _ _)
     | (with_reducible exact spec_Settled.mono _ _ _ _)
     | (with_reducible exact LeO.refl _)
     | (with_reducible exact LeO.none _)
     | (with_reducible refine LeO.ite ?_ ?_)
     | (with_reducible refine LeO.bind ?_ (fun _ => ?_))
     | exact impl_Settled.mono _ _ _ _
     | exact laws_eqEntryS.mono _ _ _
     | exact laws_eqGroup.mono _ _ _ _ _ _ _
     | exact laws_heldEntryS.mono _ _ _
     | exact laws_markEntryS.mono _ _ _
     | exact laws_markGroup.mono _ _ _ _ _
     | exact laws_szGroup.mono _ _ _ _ _
     | exact laws_toGroup.mono _ _ _ _
     | exact spec_Settled.mono _ _ _ _
     | exact LeO.none _
     | refine LeO.ite ?_ ?_
     | refine LeO.bind ?_ (fun _ => ?_)
set_option maxHeartbeats 8000000 in
set_option maxRecDepth 100000 in
theorem laws_FnExactSettled.calls (k : Nat) (a0_0 : Int) (A0_1 : Option Addr) (c0_1 : Nat) (l0_1 : List (S45)) (A0_2 : Option Addr) (c0_2 : Nat) (l0_2 : List (S24)) (r : Bool) (w : World) (hr0_1 : Kd.C k45 w A0_1 l0_1.length l0_1) (hc0_1 : l0_1.length ≤ c0_1) (hr0_2 : Kd.C k24 w A0_2 l0_2.length l0_2) (hc0_2 : l0_2.length ≤ c0_2) (h : laws_FnExactSettled.f k a0_0 l0_1 l0_2 = some r) (hr_ : Aside0 (r = true)) :
   Calls Try.prog 14 #[.agg #[.int .i64 a0_0, .slice A0_1 l0_1.length c0_1, .slice A0_2 l0_2.length c0_2]] w fun e w' => e = .returned (.bool r) ∧ Below w.heap.size w w' := by
 have hu68 := Try.underlying68
 have hu53 := Try.underlying53
 have HR0_1 := am hr0_1
 have HC0_1 := am hc0_1
 clear hr0_1 hc0_1
 have HR0_2 := am hr0_2
 have HC0_2 := am hc0_2
 clear hr0_2 hc0_2
 have HB := am (Below.refl w.heap.size w)
 have H : ((laws_szGroup.f k a0_0 l0_1 l0_2 1048576).bind fun t399 => (if t399 < 0 then (some true) else ((laws_toGroup.f k a0_0 l0_1 l0_2).bind fun bt400 => ((spec_Settled.f k bt400.1 bt400.2.1 bt400.2.2).bind fun t407 => ((laws_toGroup.f k a0_0 l0_1 l0_2).bind fun bt410 => ((impl_Settled.f k bt410.1 bt410.2.1 bt410.2.2).bind fun t418 => ((laws_eqEntryS.f k t418 t407).bind fun t421 => (if t421 = true then ((laws_toGroup.f k a0_0 l0_1 l0_2).bind fun bt422 => ((laws_eqGroup.f k bt410.1 bt410.2.1 bt410.2.2 bt422.1 bt422.2.1 bt422.2.2).bind fun t429 => (if t429 = true then ((laws_markGroup.f k bt410.1 bt410.2.1 bt410.2.2 1).bind fun bt430 => (if bt430.1 < 0 then (some false) else ((laws_eqEntryS.f k t418 t407).bind fun t433 => (if t433 = true then ((laws_markEntryS.f k t418 1).bind fun bt434 => ((laws_heldEntryS.f k bt434.2 1).bind fun t436 => (if t436 < 0 then (some false) else (if t436 = bt434.1 then ((laws_toGroup.f k a0_0 l0_1 l0_2).bind fun bt437 => ((impl_Settled.f k bt437.1 bt437.2.1 bt437.2.2).bind fun t444 => ((laws_eqEntryS.f k t444 t407).bind fun t447 => (if t447 = true then ((laws_heldEntryS.f k bt434.2 1).bind fun t448 => (if t448 < 0 then (some false) else (if t448 = bt434.1 then (some true) else (some false)))) else (some false))))) else (some false))))) else (some false))))) else (some false)))) else (some false))))))))) = some r := h
 clear h
 replace H := Option.bind_eq_some_iff.mp H
 obtain ⟨t399, A20, H⟩ := H
 have A2 := am A20
 clear A20
 have H9 := am H
 clear H
 go_enter Try.func14, Try.ntmps14
 go_upto_if 15 with (first | ((with_reducible refine gate_dst (N := 1) rfl ?_); refine box_event ?hg (N := 1) ?hd (cs := #[.int .i64 a0_0, .slice A0_1 l0_1.length c0_1, .slice A0_2 l0_2.length c0_2]) (t := 68) ?hr ?_; (case hd => rfl); (case hg => rfl); (case hr => first | (go_simp; done) | (go_simp; rfl)); intro gb398 hg w3 hbox hb; have BK398 := am (hbox); have GW398 := am ((by rw [hg]; exact (below_size Q2) : w.heap.size ≤ gb398)); have GE398 := am ((by rw [hg]; exact (below_size Q2) : w.heap.size ≤ gb398)); replace HB := am (below_step Q2 hb); clear hb hbox hg; obtain ⟨hcz4_0, hcz4_1, hcz4_2, hfz4_0, hfz4_1, hfz4_2⟩ := bc3f w3 BK398.out) | ((with_reducible refine gate_callee (f := 43) rfl ?_); refine goesL_ (some 13) rfl rfl Try.func43 kr rfl #[.agg #[.int .i64 a0_0, .slice A0_1 l0_1.length c0_1, .slice A0_2 l0_2.length c0_2], .int .i64 1048576] rfl Q0 ?_; (with_reducible refine (laws_szGroup.calls k a0_0 _ _ l0_1 _ _ l0_2 1048576 t399 _ ?side1 ?side2 ?side3 ?side4 A2.out).mono ?_); (case side1 => exact Q13); (case side2 => exact HC0_1.out); (case side3 => exact Q11); (case side4 => exact HC0_2.out); rintro e w5 ⟨rfl, hb⟩; refine ⟨_, rfl, ?_⟩; replace BK398 := am (bb_ BK398.out u21_1 hb); replace HB := am (below_step Q2 hb); (try clear hb); (try clear hb2); (try clear hk); (try clear hi)))
 have H := H9.out
 clear H9
 by_cases c6 : t399 < 0
 · rw [if_pos c6] at H
   have c6b0 : decide (t399 < 0) = true := decide_eq_true c6
   clear c6
   (first | rw [c6b0] | (simp only [i64_w, i32_w]; rw [c6b0]) | skip)
   obtain rfl := sj H
   go_wp2
   go_ret
   exact ⟨er, Q2⟩
 rw [if_neg c6] at H
 have c6b0 : decide (t399 < 0) = false := decide_eq_false c6
 clear c6
 (first | rw [c6b0] | (simp only [i64_w, i32_w]; rw [c6b0]) | skip)
 replace H := Option.bind_eq_some_iff.mp H
 obtain ⟨⟨t400, t401, t404⟩, A70, H⟩ := H
 (try dsimp only at H)
 have A7 := am A70
 clear A70
 replace H := Option.bind_eq_some_iff.mp H
 obtain ⟨t407, A80, H⟩ := H
 have A8 := am A80
 clear A80
 replace H := Option.bind_eq_some_iff.mp H
 obtain ⟨⟨t410, t411, t414⟩, A90, H⟩ := H
 (try dsimp only at H)
 have A9 := am A90
 clear A90
 replace H := Option.bind_eq_some_iff.mp H
 obtain ⟨t418, A100, H⟩ := H
 have A10 := am A100
 clear A100
 replace H := Option.bind_eq_some_iff.mp H
 obtain ⟨t421, A110, H⟩ := H
 have A11 := am A110
 clear A110
 by_cases c12 : t421 = true
 rotate_left
 · replace c12 := Bool.eq_false_iff.mpr c12
   subst c12
   rw [nf] at H
   exact absurd ((Option.some.inj H).trans hr_.out) (by decide)
 subst c12
 rw [if_pos rfl] at H
 replace H := Option.bind_eq_some_iff.mp H
 obtain ⟨⟨t422, t423, t426⟩, A130, H⟩ := H
 (try dsimp only at H)
 have A13 := am A130
 clear A130
 replace H := Option.bind_eq_some_iff.mp H
 obtain ⟨t429, A140, H⟩ := H
 have A14 := am A140
 clear A140
 by_cases c15 : t429 = true
 rotate_left
 · replace c15 := Bool.eq_false_iff.mpr c15
   subst c15
   rw [nf] at H
   exact absurd ((Option.some.inj H).trans hr_.out) (by decide)
 subst c15
 rw [if_pos rfl] at H
 replace H := Option.bind_eq_some_iff.mp H
 obtain ⟨⟨t430, t431, t432⟩, A160, H⟩ := H
 (try dsimp only at H)
 have A16 := am A160
 clear A160
 by_cases c17 : t430 < 0
 · rw [if_pos c17] at H
   have c17b0 : decide (t430 < 0) = true := decide_eq_true c17
   clear c17
   exact absurd ((Option.some.inj H).trans hr_.out) (by decide)
 rw [if_neg c17] at H
 have c17b0 : decide (t430 < 0) = false := decide_eq_false c17
 clear c17
 replace H := Option.bind_eq_some_iff.mp H
 obtain ⟨t433, A180, H⟩ := H
 have A18 := am A180
 clear A180
 by_cases c19 : t433 = true
 rotate_left
 · replace c19 := Bool.eq_false_iff.mpr c19
   subst c19
   rw [nf] at H
   exact absurd ((Option.some.inj H).trans hr_.out) (by decide)
 subst c19
 rw [if_pos rfl] at H
 replace H := Option.bind_eq_some_iff.mp H
 obtain ⟨⟨t434, t435⟩, A200, H⟩ := H
 (try dsimp only at H)
 have A20 := am A200
 clear A200
 replace H := Option.bind_eq_some_iff.mp H
 obtain ⟨t436, A210, H⟩ := H
 have A21 := am A210
 clear A210
 by_cases c22 : t436 < 0
 · rw [if_pos c22] at H
   have c22b0 : decide (t436 < 0) = true := decide_eq_true c22
   clear c22
   exact absurd ((Option.some.inj H).trans hr_.out) (by decide)
 rw [if_neg c22] at H
 have c22b0 : decide (t436 < 0) = false := decide_eq_false c22
 clear c22
 by_cases c23 : t436 = t434
 rotate_left
 · rw [if_neg c23] at H
   have c23b0 : (t436 == t434) = false := beq_eq_false_iff_ne.mpr c23
   have c23b1 : (t436 != t434) = true := bne_iff_ne.mpr c23
   exact absurd ((Option.some.inj H).trans hr_.out) (by decide)
 rw [if_pos c23] at H
 have c23b0 : (t436 == t434) = true := beq_iff_eq.mpr c23
 have c23b1 : (t436 != t434) = false := bne_eq_false_iff_eq.mpr c23
 clear c23
 replace H := Option.bind_eq_some_iff.mp H
 obtain ⟨⟨t437, t438, t441⟩, A240, H⟩ := H
 (try dsimp only at H)
 have A24 := am A240
 clear A240
 replace H := Option.bind_eq_some_iff.mp H
 obtain ⟨t444, A250, H⟩ := H
 have A25 := am A250
 clear A250
 replace H := Option.bind_eq_some_iff.mp H
 obtain ⟨t447, A260, H⟩ := H
 have A26 := am A260
 clear A260
 by_cases c27 : t447 = true
 rotate_left
 · replace c27 := Bool.eq_false_iff.mpr c27
   subst c27
   rw [nf] at H
   exact absurd ((Option.some.inj H).trans hr_.out) (by decide)
 subst c27
 rw [if_pos rfl] at H
 replace H := Option.bind_eq_some_iff.mp H
 obtain ⟨t448, A280, H⟩ := H
 replace H : (if t448 < 0 then (some false) else (if t448 = t434 then (some true) else (some false))) = some r := H
 have A28 := am A280
 clear A280
 by_cases c29 : t448 < 0
 · rw [if_pos c29] at H
   have c29b0 : decide (t448 < 0) = true := decide_eq_true c29
   clear c29
   exact absurd ((Option.some.inj H).trans hr_.out) (by decide)
 rw [if_neg c29] at H
 have c29b0 : decide (t448 < 0) = false := decide_eq_false c29
 clear c29
 by_cases c30 : t448 = t434
 rotate_left
 · rw [if_neg c30] at H
   have c30b0 : (t448 == t434) = false := beq_eq_false_iff_ne.mpr c30
   have c30b1 : (t448 != t434) = true := bne_iff_ne.mpr c30
   exact absurd ((Option.some.inj H).trans hr_.out) (by decide)
 rw [if_pos c30] at H
 have c30b0 : (t448 == t434) = true := beq_iff_eq.mpr c30
 have c30b1 : (t448 != t434) = false := bne_eq_false_iff_eq.mpr c30
 clear c30
 obtain rfl := sj H
 obtain ⟨hcz31_0, hcz31_1, hcz31_2, hfz31_0, hfz31_1, hfz31_2⟩ := bc3f w5 BK398.out
 try go_wp2_with (first | ((with_reducible refine gate_callee (f := 45) rfl ?_); refine goesL_ (some 17) rfl rfl Try.func45 kr rfl #[.agg #[.int .i64 a0_0, .slice A0_1 l0_1.length c0_1, .slice A0_2 l0_2.length c0_2]] rfl Q0 ?_; (with_reducible refine (laws_toGroup.calls k a0_0 _ _ l0_1 _ _ l0_2 t400 t401 t404 _ ?side1 ?side2 ?side3 ?side4 A7.out).mono ?_); (case side1 => exact Q13); (case side2 => exact HC0_1.out); (case side3 => exact Q11); (case side4 => exact HC0_2.out); rintro e w32 ⟨v402, v405, rfl, ho0, ho1, hb⟩; refine ⟨_, rfl, ?_⟩; have HO403 := am (Kd.S_lower ho0 (below_size Q2)); have HO406 := am (Kd.S_lower ho1 (below_size Q2)); replace BK398 := am (bb_ BK398.out u21_1 hb); replace HB := am (below_step Q2 hb); (try clear hb); (try clear hb2); (try clear hk); (try clear hi); (try clear ho0); (try clear ho1); obtain ⟨Ao33, co33, eo33⟩ := Kd.S_slice HO403.out; subst eo33; obtain ⟨Ao34, co34, eo34⟩ := Kd.S_slice HO406.out; subst eo34) | ((with_reducible refine gate_callee (f := 56) rfl ?_); refine goesL_ (some 18) rfl rfl Try.func56 kr rfl #[.agg #[.int .i64 t400, .slice Ao33 t401.length co33, .slice Ao34 t404.length co34]] rfl Q0 ?_; (with_reducible refine (spec_Settled.calls k t400 _ _ t401 _ _ t404 t407 _ ?side1 ?side2 ?side3 ?side4 A8.out).mono ?_); (case side1 => exact (by repeat (first | exact (Kd.S_reads' HO403.out).2.2 | (with_reducible refine Kd.C_alloc ?_ _) | (with_reducible refine Kd.C_drewN ?_ _) | (with_reducible refine Kd.C_drew ?_)))); (case side2 => exact (Kd.S_reads' HO403.out).2.1); (case side3 => exact (by repeat (first | exact (Kd.S_reads' HO406.out).2.2 | (with_reducible refine Kd.C_alloc ?_ _) | (with_reducible refine Kd.C_drewN ?_ _) | (with_reducible refine Kd.C_drew ?_)))); (case side4 => exact (Kd.S_reads' HO406.out).2.1); rintro e w35 ⟨v408, rfl, ho0, hb⟩; refine ⟨_, rfl, ?_⟩; replace HO403 := am (Kd.S_elder' (by (with_reducible repeat (first | apply s1_ | apply s2_ | apply s3_)); exact HO403.out) (Kd.R_base ho0) hb); replace HO406 := am (Kd.S_elder' (by (with_reducible repeat (first | apply s1_ | apply s2_ | apply s3_)); exact HO406.out) (Kd.R_base ho0) hb); have HO409 := am (Kd.R_lower ho0 (below_size Q2)); replace BK398 := am (bb_ BK398.out u21_1 hb); replace HB := am (below_step Q2 hb); (try clear hb); (try clear hb2); (try clear hk); (try clear hi); (try clear ho0); obtain ⟨hcz36_0, hcz36_1, hcz36_2, hfz36_0, hfz36_1, hfz36_2⟩ := bc3f w35 BK398.out; clear HO403 HO406) | ((with_reducible refine gate_callee (f := 45) rfl ?_); refine goesL_ (some 20) rfl rfl Try.func45 kr rfl #[.agg #[.int .i64 a0_0, .slice A0_1 l0_1.length c0_1, .slice A0_2 l0_2.length c0_2]] rfl Q0 ?_; (with_reducible refine (laws_toGroup.callsQ k a0_0 _ _ l0_1 _ _ l0_2 t410 t411 t414 _ ?side1 ?side2 ?side3 ?side4 A9.out).mono ?_); (case side1 => exact Q13); (case side2 => exact HC0_1.out); (case side3 => exact Q11); (case side4 => exact HC0_2.out); rintro e w37 ⟨v412, v415, rfl, ho0, ho1, hb, hq_⟩; refine ⟨_, rfl, ?_⟩; have n0_ := am (Kd.R_below u21_4 hb); have n1_ := am (Kd.S_lower (Kd.S_new' ho0 (Kd.R_lt u21_4)) (below_size Q2)); have n2_ := am (Kd.S_lower (Kd.S_new' ho1 (Kd.R_lt u21_4)) (below_size Q2)); have n3_ := am (bb_ BK398.out u21_1 hb); have n4_ := am (below_step Q2 hb); obtain ⟨N_, g0_, g1_⟩ := hq_; obtain ⟨lo_, q0_, q1_, q2_⟩ := pair_ g0_ g1_ (Kd.R_lt u21_4) (below_size Q2); have HQ413 := am q0_; have HQ416 := am q1_; have LTW := am q2_; clear g0_ g1_ q0_ q1_ q2_; clear HO409; clear BK398; clear HB; have HO409 := n0_; have HO413 := n1_; have HO416 := n2_; have BK398 := n3_; have HB := n4_; clear n0_ n1_ n2_ n3_ n4_; (try clear hb); (try clear hb2); (try clear hk); (try clear hi); (try clear ho0); (try clear ho1)) | ((with_reducible refine gate_dst (N := 5) rfl ?_); refine box_event ?hg (N := 5) ?hd (cs := #[.int .i64 0, .slice none 0 0, .slice none 0 0]) (t := 53) ?hr ?_; (case hd => rfl); (case hg => rfl); (case hr => first | (go_simp; done) | (go_simp; rfl)); intro gb417 hg w38 hbox hb; have n0_ := am (Kd.R_below u21_4 hb); have n1_ := am (Kd.S_below u21_14 hb); have n2_ := am (Kd.S_below u21_15 hb); have n3_ := am (bb_ BK398.out u21_1 hb); have n4_ := am (below_step Q2 hb); have n5_ := am (hbox); have n6_ := am ((by rw [hg]; exact (below_size Q2) : w.heap.size ≤ gb417)); have n7_ := am ((by rw [hg]; exact (below_size Q2) : w.heap.size ≤ gb417)); have n8_ := am ((by rw [hg]; exact Nat.ne_of_lt (blk_lt (g := gb398) (o := .cells #[.int .i64 a0_0, .slice A0_1 l0_1.length c0_1, .slice A0_2 l0_2.length c0_2] 68 (0, 0)) u21_1) : gb398 ≠ gb417)); have n9_ := am ((by rw [hg]; exact Nat.ne_of_gt (blk_lt (g := gb398) (o := .cells #[.int .i64 a0_0, .slice A0_1 l0_1.length c0_1, .slice A0_2 l0_2.length c0_2] 68 (0, 0)) u21_1) : gb417 ≠ gb398)); have q0_ := am (Kd.S_below (by (with_reducible repeat (first | apply s1_ | apply s2_ | apply s3_)); exact HQ413.out) hb); have q1_ := am (Kd.S_below (by (with_reducible repeat (first | apply s1_ | apply s2_ | apply s3_)); exact HQ416.out) hb); clear HQ413 HQ416; have HQ413 := q0_; have HQ416 := q1_; clear q0_ q1_; clear HO409; clear HO413; clear HO416; clear BK398; clear HB; have HO409 := n0_; have HO413 := n1_; have HO416 := n2_; have BK398 := n3_; have HB := n4_; have BK417 := n5_; have GW417 := n6_; have GE417 := n7_; have NB398_417 := n8_; have NB417_398 := n9_; clear n0_ n1_ n2_ n3_ n4_ n5_ n6_ n7_ n8_ n9_; clear hb hbox hg; have hnb39 := NB417_398.out; have hnc39 := NB398_417.out; obtain ⟨hcz40_0, hcz40_1, hcz40_2, hfz40_0, hfz40_1, hfz40_2⟩ := bc3f w38 BK417.out; obtain ⟨Ao41, co41, eo41⟩ := Kd.S_slice HO413.out; subst eo41; obtain ⟨Ao42, co42, eo42⟩ := Kd.S_slice HO416.out; subst eo42) | ((with_reducible refine gate_callee (f := 57) rfl ?_); refine goesL_ (some 22) rfl rfl Try.func57 kr rfl #[.agg #[.int .i64 t410, .slice Ao41 t411.length co41, .slice Ao42 t414.length co42]] rfl Q0 ?_; (with_reducible refine (impl_Settled.calls k t410 _ _ t411 _ _ t414 t418 _ ?side1 ?side2 ?side3 ?side4 A10.out).mono ?_); (case side1 => exact (by refine (Kd.S_reads' (e := 37) (base := w.heap.size) (ok := fun k_ => (True ∧ some k_ ≠ (v408 : Value).ownBlock)) (n := t411.length) (c := co41) ?_).2.2; exact u21_11)); (case side2 => exact (Kd.S_reads' HO413.out).2.1); (case side3 => exact (by refine (Kd.S_reads' (e := 29) (base := w.heap.size) (ok := fun k_ => (True ∧ some k_ ≠ (v408 : Value).ownBlock)) (n := t414.length) (c := co42) ?_).2.2; exact u21_12)); (case side4 => exact (Kd.S_reads' HO416.out).2.1); rintro e w43 ⟨v419, rfl, ho0, hb⟩; refine ⟨_, rfl, ?_⟩; have n0_ := am (Kd.R_elder' u21_13 (Kd.R_base ho0) hb); have n1_ := am (Kd.S_elder' u21_11 (Kd.R_base ho0) hb); have n2_ := am (Kd.S_elder' u21_12 (Kd.R_base ho0) hb); have n3_ := am (Kd.R_lower (Kd.R_new' ho0 (Kd.R_lt u21_13)) (below_size Q2)); have n4_ := am (blk_below (g := gb398) (o := .cells #[.int .i64 a0_0, .slice A0_1 l0_1.length c0_1, .slice A0_2 l0_2.length c0_2] 68 (0, 0)) (by (with_reducible repeat (first | apply b1_ | apply b2_ | apply b3_)); refine blk_far ?_ NB398_417.out _; (with_reducible repeat (first | apply b1_ | apply b2_ | apply b3_)); refine blk_far ?_ NB398_417.out _; (with_reducible repeat (first | apply b1_ | apply b2_ | apply b3_)); refine blk_far ?_ NB398_417.out _; (with_reducible repeat (first | apply b1_ | apply b2_ | apply b3_)); exact BK398.out) hb); have n5_ := am (blk_below (g := gb417) (o := .cells #[.int .i64 t410, .slice Ao41 t411.length co41, .slice Ao42 t414.length co42] 53 (0, 0)) (by (with_reducible repeat (first | apply b1_ | apply b2_ | apply b3_)); refine blk_put (cs := #[.int .i64 t410, .slice Ao41 t411.length co41, .slice none 0 0]) ?_ 2 _ rfl; (with_reducible repeat (first | apply b1_ | apply b2_ | apply b3_)); refine blk_put (cs := #[.int .i64 t410, .slice none 0 0, .slice none 0 0]) ?_ 1 _ rfl; (with_reducible repeat (first | apply b1_ | apply b2_ | apply b3_)); refine blk_put (cs := #[.int .i64 0, .slice none 0 0, .slice none 0 0]) ?_ 0 _ rfl; (with_reducible repeat (first | apply b1_ | apply b2_ | apply b3_)); exact BK417.out) hb); have n6_ := am (below_step Q2 hb); obtain ⟨hi_, q0_, q1_, q2_⟩ := old2_ hb (by (with_reducible repeat (first | apply s1_ | apply s2_ | apply s3_)); exact (Kd.S_mono (Kd.S_far (p := ⟨gb417, 2, none⟩) (Kd.S_far (p := ⟨gb417, 1, none⟩) (Kd.S_far (p := ⟨gb417, 0, none⟩) (Kd.S_types HQ413.out BK417.out (by decide)) (fun _ hk => hk.2) (.int .i64 t410)) (fun _ hk => hk.2) (.slice Ao41 t411.length co41)) (fun _ hk => hk.2) (.slice Ao42 t414.length co42)) (fun _ h_ => h_.1))) (by (with_reducible repeat (first | apply s1_ | apply s2_ | apply s3_)); exact (Kd.S_mono (Kd.S_far (p := ⟨gb417, 2, none⟩) (Kd.S_far (p := ⟨gb417, 1, none⟩) (Kd.S_far (p := ⟨gb417, 0, none⟩) (Kd.S_types HQ416.out BK417.out (by decide)) (fun _ hk => hk.2) (.int .i64 t410)) (fun _ hk => hk.2) (.slice Ao41 t411.length co41)) (fun _ hk => hk.2) (.slice Ao42 t414.length co42)) (fun _ h_ => h_.1))) (Kd.R_base ho0); clear HQ413 HQ416; have HQ413 := am q0_; have HQ416 := am q1_; have GEW := am q2_; clear q0_ q1_ q2_; clear HO409; clear HO413; clear HO416; clear BK398; clear BK417; clear HB; have HO409 := n0_; have HO413 := n1_; have HO416 := n2_; have HO420 := n3_; have BK398 := n4_; have BK417 := n5_; have HB := n6_; clear n0_ n1_ n2_ n3_ n4_ n5_ n6_; (try clear hb); (try clear hb2); (try clear hk); (try clear hi); (try clear ho0); obtain ⟨Ao44, co44, eo44⟩ := Kd.R_slice HO420.out; subst eo44; obtain ⟨Ao45, co45, eo45⟩ := Kd.R_slice HO409.out; subst eo45) | ((with_reducible refine gate_callee (f := 58) rfl ?_); refine goesL_ (some 25) rfl rfl Try.func58 kr rfl #[.slice Ao44 t418.length co44, .slice Ao45 t407.length co45] rfl Q0 ?_; (with_reducible refine (laws_eqEntryS.calls k _ _ t418 _ _ t407 true _ ?side1 ?side2 ?side3 ?side4 A11.out).mono ?_); (case side1 => exact u21_10); (case side2 => exact (Kd.R_reads' HO420.out).2.1); (case side3 => exact u21_16); (case side4 => exact (Kd.R_reads' HO409.out).2.1); rintro e w46 ⟨rfl, hb⟩; refine ⟨_, rfl, ?_⟩; have n0_ := am (Kd.R_below u21_4 hb); have n1_ := am (Kd.S_below u21_14 hb); have n2_ := am (Kd.S_below u21_15 hb); have n3_ := am (Kd.R_below u21_5 hb); have n4_ := am (bb_ BK398.out u21_1 hb); have n5_ := am (bb_ BK417.out u21_6 hb); have n6_ := am (below_step Q2 hb); have q0_ := am (Kd.S_below (by (with_reducible repeat (first | apply s1_ | apply s2_ | apply s3_)); exact HQ413.out) hb); have q1_ := am (Kd.S_below (by (with_reducible repeat (first | apply s1_ | apply s2_ | apply s3_)); exact HQ416.out) hb); clear HQ413 HQ416; have HQ413 := q0_; have HQ416 := q1_; clear q0_ q1_; clear HO409; clear HO413; clear HO416; clear HO420; clear BK398; clear BK417; clear HB; have HO409 := n0_; have HO413 := n1_; have HO416 := n2_; have HO420 := n3_; have BK398 := n4_; have BK417 := n5_; have HB := n6_; clear n0_ n1_ n2_ n3_ n4_ n5_ n6_; (try clear hb); (try clear hb2); (try clear hk); (try clear hi)))
 have n0_ := am (Kd.R_drew HO409.out)
 have n1_ := am (Kd.S_drew HO413.out)
 have n2_ := am (Kd.S_drew HO416.out)
 have n3_ := am (Kd.R_drew HO420.out)
 have n4_ := am (blk_drew BK398.out)
 have n5_ := am (blk_drew BK417.out)
 have n6_ := am (below_drew1 HB.out)
 have q0_ := am (Kd.S_drew HQ413.out)
 have q1_ := am (Kd.S_drew HQ416.out)
 clear HQ413 HQ416
 have HQ413 := q0_
 have HQ416 := q1_
 clear q0_ q1_
 clear HO409
 clear HO413
 clear HO416
 clear HO420
 clear BK398
 clear BK417
 clear HB
 have HO409 := n0_
 have HO413 := n1_
 have HO416 := n2_
 have HO420 := n3_
 have BK398 := n4_
 have BK417 := n5_
 have HB := n6_
 clear n0_ n1_ n2_ n3_ n4_ n5_ n6_
 refine start_ (n := 5) (S := fun w' => w'.cell? ⟨gb417, 0, none⟩ = some (.int .i64 t410) ∧ w'.cell? ⟨gb417, 1, none⟩ = some (.slice Ao41 t411.length co41) ∧ w'.cell? ⟨gb417, 2, none⟩ = some (.slice Ao42 t414.length co42) ∧ w'.cell? ⟨gb398, 0, none⟩ = some (.int .i64 a0_0) ∧ w'.cell? ⟨gb398, 1, none⟩ = some (.slice A0_1 l0_1.length c0_1) ∧ w'.cell? ⟨gb398, 2, none⟩ = some (.slice A0_2 l0_2.length c0_2)) (ds := []) #[false, false, false, false, false] kr rfl rfl ⟨(blk_cell BK417.out 0).trans rfl, (blk_cell BK417.out 1).trans rfl, (blk_cell BK417.out 2).trans rfl, (blk_cell BK398.out 0).trans rfl, (blk_cell BK398.out 1).trans rfl, (blk_cell BK398.out 2).trans rfl⟩ (fun hHeld => ?_)
 generalize w46.drew = w47 at HO409 HO413 HO416 HQ413 HQ416 HO420 BK398 BK417 HB hHeld ⊢
 refine take_ (i := 0) (N := some 27) (v := ?_) (a' := ?_) #[true, false, false, false, false] rfl rfl kr (fun _ _ _ h => h) (Or.inl ⟨by rfl, ?_⟩) hHeld ?_ ?_
 rotate_left
 · rintro w' ⟨s0, s1, s2, s3, s4, s5⟩
   go_simp
   with_reducible rfl
 rotate_left
 · simp only [Act.put, la, lb, lc, i64_w, i32_w]
   rfl
 refine take_ (i := 1) (N := some 28) (v := ?_) (a' := ?_) #[true, true, false, false, false] rfl rfl kr (fun _ _ _ h => h) (Or.inl ⟨by rfl, ?_⟩) hHeld ?_ ?_
 rotate_left
 · rintro w' ⟨s0, s1, s2, s3, s4, s5⟩
   go_simp
   with_reducible rfl
 rotate_left
 · simp only [Act.put, la, lb, lc, i64_w, i32_w]
   rfl
 refine one_ (i := 2) (N := some 29) #[true, true, true, false, false] rfl rfl kr (by decide) (fun K hK => ?_)
 refine goes_ Try.func45 kr rfl #[.agg #[.int .i64 a0_0, .slice A0_1 l0_1.length c0_1, .slice A0_2 l0_2.length c0_2]] (by rfl) rfl rfl Q0 ?_
 with_reducible refine (laws_toGroup.calls k a0_0 _ _ l0_1 _ _ l0_2 t422 t423 t426 _ ?side1 ?side2 ?side3 ?side4 A13.out).mono ?_
 (case side1 => exact Q13)
 (case side2 => exact HC0_1.out)
 (case side3 => exact Q11)
 (case side4 => exact HC0_2.out)
 rintro e w48 ⟨v424, v427, rfl, ho0, ho1, hb⟩
 refine ⟨_, rfl, ?_⟩
 have n0_ := am (Kd.R_below u21_4 hb)
 have n1_ := am (Kd.S_elder' u21_14 (Kd.S_base ho0) hb)
 have n2_ := am (Kd.S_elder' u21_15 (Kd.S_base ho1) hb)
 have n3_ := am (Kd.R_below u21_5 hb)
 have n4_ := am (Kd.S_lower (Kd.S_new' (Kd.S_new' (Kd.S_new' ho0 (Kd.R_lt u21_4)) (Kd.S_lt u21_14)) (Kd.R_lt u21_5)) (below_size Q2))
 have n5_ := am (Kd.S_lower (Kd.S_new' (Kd.S_new' (Kd.S_new' ho1 (Kd.R_lt u21_4)) (Kd.S_lt u21_15)) (Kd.R_lt u21_5)) (below_size Q2))
 have n6_ := am (bb_ BK398.out u21_1 hb)
 have n7_ := am (bb_ BK417.out u21_6 hb)
 have n8_ := am (below_step Q2 hb)
 have q0_ := am (Kd.S_below (by (with_reducible repeat (first | apply s1_ | apply s2_ | apply s3_)); exact HQ413.out) hb)
 have q1_ := am (Kd.S_below (by (with_reducible repeat (first | apply s1_ | apply s2_ | apply s3_)); exact HQ416.out) hb)
 clear HQ413 HQ416
 have HQ413 := q0_
 have HQ416 := q1_
 clear q0_ q1_
 clear HO409
 clear HO413
 clear HO416
 clear HO420
 clear BK398
 clear BK417
 clear HB
 have HO409 := n0_
 have HO413 := n1_
 have HO416 := n2_
 have HO420 := n3_
 have HO425 := n4_
 have HO428 := n5_
 have BK398 := n6_
 have BK417 := n7_
 have HB := n8_
 clear n0_ n1_ n2_ n3_ n4_ n5_ n6_ n7_ n8_
 (try clear hb)
 (try clear hb2)
 (try clear hk)
 (try clear hi)
 (try clear ho0)
 (try clear ho1)
 obtain ⟨Ao49, co49, eo49⟩ := Kd.S_slice HO425.out
 (first | subst eo49 | (injection eo49 with f1_ f2_ f3_; have f4_ := f1_.symm; have f5_ := f3_.symm; clear f1_ f2_ f3_; subst f4_; subst f5_))
 obtain ⟨Ao50, co50, eo50⟩ := Kd.S_slice HO428.out
 (first | subst eo50 | (injection eo50 with f1_ f2_ f3_; have f4_ := f1_.symm; have f5_ := f3_.symm; clear f1_ f2_ f3_; subst f4_; subst f5_))
 refine hK.out _ _ ⟨(blk_cell BK417.out 0).trans rfl, (blk_cell BK417.out 1).trans rfl, (blk_cell BK417.out 2).trans rfl, (blk_cell BK398.out 0).trans rfl, (blk_cell BK398.out 1).trans rfl, (blk_cell BK398.out 2).trans rfl⟩ (fun hHeld => ?_)
 clear hK K
 refine norm_ (a' := ?_) ?_ ?_
 rotate_left
 · show Act.put _ (some 29) _ = _
   simp only [Act.put, la, lb, lc, i64_w, i32_w]
   rfl
 refine one_ (i := 3) (N := some 30) #[true, true, true, true, false] rfl rfl kr (by decide) (fun K hK => ?_)
 refine goes_ Try.func31 kr rfl #[.agg #[.int .i64 t410, .slice Ao41 t411.length co41, .slice Ao42 t414.length co42], .agg #[.int .i64 t422, .slice Ao49 t423.length co49, .slice Ao50 t426.length co50]] (by rfl) rfl rfl Q0 ?_
 with_reducible refine (laws_eqGroup.calls k t410 _ _ t411 _ _ t414 t422 _ _ t423 _ _ t426 true _ ?side1 ?side2 ?side3 ?side4 ?side5 ?side6 ?side7 ?side8 A14.out).mono ?_
 (case side1 => exact (by repeat (first | exact (Kd.S_reads' HO413.out).2.2 | (with_reducible refine Kd.C_alloc ?_ _) | (with_reducible refine Kd.C_drewN ?_ _) | (with_reducible refine Kd.C_drew ?_))))
 (case side2 => exact (Kd.S_reads' HO413.out).2.1)
 (case side3 => exact (by repeat (first | exact (Kd.S_reads' HO416.out).2.2 | (with_reducible refine Kd.C_alloc ?_ _) | (with_reducible refine Kd.C_drewN ?_ _) | (with_reducible refine Kd.C_drew ?_))))
 (case side4 => exact (Kd.S_reads' HO416.out).2.1)
 (case side5 => exact (by repeat (first | exact (Kd.S_reads' HO425.out).2.2 | (with_reducible refine Kd.C_alloc ?_ _) | (with_reducible refine Kd.C_drewN ?_ _) | (with_reducible refine Kd.C_drew ?_))))
 (case side6 => exact (Kd.S_reads' HO425.out).2.1)
 (case side7 => exact (by repeat (first | exact (Kd.S_reads' HO428.out).2.2 | (with_reducible refine Kd.C_alloc ?_ _) | (with_reducible refine Kd.C_drewN ?_ _) | (with_reducible refine Kd.C_drew ?_))))
 (case side8 => exact (Kd.S_reads' HO428.out).2.1)
 rintro e w51 ⟨rfl, hb⟩
 refine ⟨_, rfl, ?_⟩
 have n0_ := am (Kd.R_below u21_4 hb)
 have n1_ := am (Kd.S_below u21_14 hb)
 have n2_ := am (Kd.S_below u21_15 hb)
 have n3_ := am (Kd.R_below u21_5 hb)
 have n4_ := am (Kd.S_below (by (with_reducible repeat (first | apply s1_ | apply s2_ | apply s3_)); exact HO425.out) hb)
 have n5_ := am (Kd.S_below (by (with_reducible repeat (first | apply s1_ | apply s2_ | apply s3_)); exact HO428.out) hb)
 have n6_ := am (bb_ BK398.out u21_1 hb)
 have n7_ := am (bb_ BK417.out u21_6 hb)
 have n8_ := am (below_step Q2 hb)
 have q0_ := am (Kd.S_below (by (with_reducible repeat (first | apply s1_ | apply s2_ | apply s3_)); exact HQ413.out) hb)
 have q1_ := am (Kd.S_below (by (with_reducible repeat (first | apply s1_ | apply s2_ | apply s3_)); exact HQ416.out) hb)
 clear HQ413 HQ416
 have HQ413 := q0_
 have HQ416 := q1_
 clear q0_ q1_
 clear HO409
 clear HO413
 clear HO416
 clear HO420
 clear HO425
 clear HO428
 clear BK398
 clear BK417
 clear HB
 have HO409 := n0_
 have HO413 := n1_
 have HO416 := n2_
 have HO420 := n3_
 have HO425 := n4_
 have HO428 := n5_
 have BK398 := n6_
 have BK417 := n7_
 have HB := n8_
 clear n0_ n1_ n2_ n3_ n4_ n5_ n6_ n7_ n8_
 (try clear hb)
 (try clear hb2)
 (try clear hk)
 (try clear hi)
 refine hK.out _ _ ⟨(blk_cell BK417.out 0).trans rfl, (blk_cell BK417.out 1).trans rfl, (blk_cell BK417.out 2).trans rfl, (blk_cell BK398.out 0).trans rfl, (blk_cell BK398.out 1).trans rfl, (blk_cell BK398.out 2).trans rfl⟩ (fun hHeld => ?_)
 clear hK K
 refine norm_ (a' := ?_) ?_ ?_
 rotate_left
 · show Act.put _ (some 30) _ = _
   simp only [Act.put, la, lb, lc, i64_w, i32_w]
   rfl
 refine pure_ (i := 4) (N := some 31) (v := ?_) (a' := ?_) #[true, true, true, true, true] rfl rfl kr (fun _ _ _ h => h) (Or.inl ⟨by rfl, ?_⟩) ?_ ?_
 rotate_left; (intro w'; go_simp; with_reducible rfl); rotate_left; (simp only [Act.put, la, lb, lc, i64_w, i32_w]; rfl)
 refine done_ kr ?_
 obtain ⟨hcz52_0, hcz52_1, hcz52_2, hfz52_0, hfz52_1, hfz52_2⟩ := bc3f w51 BK417.out
 have n_ := am (Kd.S_mono (ok' := (fun k_ => some k_ ≠ (.slice Ao45 t407.length co45 : Value).ownBlock ∧ some k_ ≠ (.slice Ao44 t418.length co44 : Value).ownBlock)) HO413.out (fun k_ hk => ⟨hk.1.1.2, hk.1.2⟩))
 clear HO413
 have HO413 := n_
 clear n_
 have n_ := am (Kd.S_mono (ok' := (fun k_ => some k_ ≠ (.slice Ao45 t407.length co45 : Value).ownBlock ∧ some k_ ≠ (.slice Ao44 t418.length co44 : Value).ownBlock)) HO416.out (fun k_ hk => ⟨hk.1.1.2, hk.1.2⟩))
 clear HO416
 have HO416 := n_
 clear n_
 clear HO425 HO428
 try go_wp2_with (first | ((with_reducible refine gate_callee (f := 32) rfl ?_); refine goesL_ (some 34) rfl rfl Try.func32 kr rfl #[.agg #[.int .i64 t410, .slice Ao41 t411.length co41, .slice Ao42 t414.length co42], .int .i64 1] rfl Q0 ?_; (with_reducible refine (laws_markGroup.calls k t410 (fun k_ => ((lo_ ≤ k_ ∧ k_ < N_) ∧ k_ < hi_) ∧ ∃ q_, q_ ∈ (37 :: Kd.E k37) ∧ ∃ cells_, w51.heap[k_]? = some (.cells cells_ q_ (0, 0))) (.slice Ao41 t411.length co41) t411 (fun k_ => ((lo_ ≤ k_ ∧ N_ ≤ k_) ∧ k_ < hi_) ∧ ∃ q_, q_ ∈ (29 :: Kd.E k29) ∧ ∃ cells_, w51.heap[k_]? = some (.cells cells_ q_ (0, 0))) (.slice Ao42 t414.length co42) t414 1 t430 t431 t432 w _ ?side1 ?side2 ?side3 (fun k_ h1_ h2_ => absurd (Nat.lt_of_lt_of_le h1_.1.1.2 h2_.1.1.2) (Nat.lt_irrefl _)) A16.out).mono ?_); (case side1 => exact Q2); (case side2 => exact Kd.S_mono (Kd.S_bound HQ413.out) (fun _ h_ => ⟨h_.1, h_.2.2.2⟩)); (case side3 => exact Kd.S_mono (Kd.S_bound HQ416.out) (fun _ h_ => ⟨h_.1, h_.2.2.2⟩)); rintro e w53 ⟨rfl, hy0, hy1, hb, hkp⟩; refine ⟨_, rfl, ?_⟩; replace BK398 := am (blk_kept u21_1 hkp (fun hs_ => Or.elim hs_ (fun e_ => untyped_ e_.2 ⟨_, BK398.out⟩ (by decide)) (fun e_ => untyped_ e_.2 ⟨_, BK398.out⟩ (by decide)))); replace HO409 := am (Kd.R_mono (ok' := fun k_ => some k_ ≠ (.slice Ao44 t418.length co44 : Value).ownBlock) (Kd.R_keptB (Kd.R_mono (Kd.R_tight2 rfl HO409.out) (fun _ h_ => And.intro h_.2 h_.1)) hkp (fun k_ hk_ hs_ => Or.elim hs_ (fun e_ => by first | exact Nat.lt_irrefl _ (Nat.lt_of_lt_of_le (LTW.out k_ hk_.2.symm) e_.1.1.1) | exact Nat.lt_irrefl _ (Nat.lt_of_lt_of_le e_.1.2 (GEW.out k_ hk_.2.symm))) (fun e_ => by first | exact Nat.lt_irrefl _ (Nat.lt_of_lt_of_le (LTW.out k_ hk_.2.symm) e_.1.1.1) | exact Nat.lt_irrefl _ (Nat.lt_of_lt_of_le e_.1.2 (GEW.out k_ hk_.2.symm))))) (fun k_ hk_ => hk_.1.1.2)); replace HO413 := am (hy0); replace HO416 := am (hy1); replace BK417 := am (blk_kept u21_6 hkp (fun hs_ => Or.elim hs_ (fun e_ => untyped_ e_.2 ⟨_, BK417.out⟩ (by decide)) (fun e_ => untyped_ e_.2 ⟨_, BK417.out⟩ (by decide)))); replace HO420 := am (Kd.R_mono (ok' := fun k_ => some k_ ≠ (.slice Ao45 t407.length co45 : Value).ownBlock) (Kd.R_keptB (Kd.R_mono (Kd.R_tight2 rfl HO420.out) (fun _ h_ => And.intro h_.2 h_.1)) hkp (fun k_ hk_ hs_ => Or.elim hs_ (fun e_ => by first | exact Nat.lt_irrefl _ (Nat.lt_of_lt_of_le (LTW.out k_ hk_.2.symm) e_.1.1.1) | exact Nat.lt_irrefl _ (Nat.lt_of_lt_of_le e_.1.2 (GEW.out k_ hk_.2.symm))) (fun e_ => by first | exact Nat.lt_irrefl _ (Nat.lt_of_lt_of_le (LTW.out k_ hk_.2.symm) e_.1.1.1) | exact Nat.lt_irrefl _ (Nat.lt_of_lt_of_le e_.1.2 (GEW.out k_ hk_.2.symm))))) (fun k_ hk_ => hk_.1.1.2)); replace HB := am (hb); (try clear hb); (try clear hkp); (try clear hy0); (try clear hy1); clear HO413 HO416; clear HQ413 HQ416 LTW GEW) | (go_at_call 58; (with_reducible refine (laws_eqEntryS.calls k _ _ t418 _ _ t407 true _ ?side1 ?side2 ?side3 ?side4 A18.out).mono ?_); (case side1 => exact u21_10); (case side2 => exact (Kd.R_reads' HO420.out).2.1); (case side3 => exact u21_16); (case side4 => exact (Kd.R_reads' HO409.out).2.1); rintro e w54 ⟨rfl, hb⟩; replace HO409 := am (Kd.R_below u21_4 hb); replace HO420 := am (Kd.R_below u21_5 hb); replace BK398 := am (bb_ BK398.out u21_1 hb); replace BK417 := am (bb_ BK417.out u21_6 hb); replace HB := am (below_step Q2 hb); (try clear hb); (try clear hb2); (try clear hk); (try clear hi)) | ((with_reducible refine gate_callee (f := 59) rfl ?_); refine goesL_ (some 45) rfl rfl Try.func59 kr rfl #[.slice Ao44 t418.length co44, .int .i64 1] rfl Q0 ?_; (with_reducible refine (laws_markEntryS.calls k (fun k_ => some k_ = (.slice Ao44 t418.length co44 : Value).ownBlock) (.slice Ao44 t418.length co44) t418 1 t434 t435 w _ ?side1 ?side2 A20.out).mono ?_); (case side1 => exact Q2); (case side2 => exact Kd.R_tight rfl HO420.out); rintro e w55 ⟨rfl, hy0, hb, hkp⟩; refine ⟨_, rfl, ?_⟩; replace BK398 := am (blk_kept u21_1 hkp (fun hs_ => (fun e_ => (Kd.R_ne HO420.out BK398.out (by decide)) e_) hs_)); replace HO409 := am (Kd.R_mono (ok' := fun k_ => some k_ ≠ (.slice Ao44 t418.length co44 : Value).ownBlock) (Kd.R_keptB (HO409.out) hkp (fun k_ hk_ hs_ => (hk_) hs_)) (fun k_ hk_ => hk_.1)); replace BK417 := am (blk_kept u21_6 hkp (fun hs_ => (fun e_ => (Kd.R_ne HO420.out BK417.out (by decide)) e_) hs_)); replace HO420 := am (Kd.R_reok rfl hy0 (fun k_ e_ => HO420.out.1 k_ e_)); replace HB := am (hb); (try clear hb); (try clear hkp); (try clear hy0)) | ((with_reducible refine gate_callee (f := 60) rfl ?_); refine goesL_ (some 48) rfl rfl Try.func60 kr rfl #[.slice Ao44 t435.length co44, .int .i64 1] rfl u21_17 ?_; (with_reducible refine (laws_heldEntryS.calls k _ _ t435 1 t436 _ ?side1 ?side2 A21.out).mono ?_); (case side1 => exact u21_10); (case side2 => exact u21_20); rintro e w56 ⟨rfl, hb⟩; refine ⟨_, rfl, ?_⟩; replace HO409 := am (Kd.R_below u21_4 hb); replace HO420 := am (Kd.R_below u21_5 hb); replace BK398 := am (bb_ BK398.out u21_1 hb); replace BK417 := am (bb_ BK417.out u21_6 hb); replace HB := am (below_step Q2 hb); (try clear hb); (try clear hb2); (try clear hk); (try clear hi); obtain ⟨hcz57_0, hcz57_1, hcz57_2, hfz57_0, hfz57_1, hfz57_2⟩ := bc3f w56 BK398.out) | ((with_reducible refine gate_callee (f := 45) rfl ?_); refine goesL_ (some 55) rfl rfl Try.func45 kr rfl #[.agg #[.int .i64 a0_0, .slice A0_1 l0_1.length c0_1, .slice A0_2 l0_2.length c0_2]] rfl Q0 ?_; (with_reducible refine (laws_toGroup.calls k a0_0 _ _ l0_1 _ _ l0_2 t437 t438 t441 _ ?side1 ?side2 ?side3 ?side4 A24.out).mono ?_); (case side1 => exact Q13); (case side2 => exact HC0_1.out); (case side3 => exact Q11); (case side4 => exact HC0_2.out); rintro e w58 ⟨v439, v442, rfl, ho0, ho1, hb⟩; refine ⟨_, rfl, ?_⟩; have HO440 := am (Kd.S_lower (Kd.S_new' (Kd.S_new' ho0 (Kd.R_lt u21_4)) (Kd.R_lt u21_5)) (below_size Q2)); have HO443 := am (Kd.S_lower (Kd.S_new' (Kd.S_new' ho1 (Kd.R_lt u21_4)) (Kd.R_lt u21_5)) (below_size Q2)); replace HO409 := am (Kd.R_below u21_4 hb); replace HO420 := am (Kd.R_below u21_5 hb); replace BK398 := am (bb_ BK398.out u21_1 hb); replace BK417 := am (bb_ BK417.out u21_6 hb); replace HB := am (below_step Q2 hb); (try clear hb); (try clear hb2); (try clear hk); (try clear hi); (try clear ho0); (try clear ho1); obtain ⟨Ao59, co59, eo59⟩ := Kd.S_slice HO440.out; subst eo59; obtain ⟨Ao60, co60, eo60⟩ := Kd.S_slice HO443.out; subst eo60) | ((with_reducible refine gate_callee (f := 57) rfl ?_); refine goesL_ (some 56) rfl rfl Try.func57 kr rfl #[.agg #[.int .i64 t437, .slice Ao59 t438.length co59, .slice Ao60 t441.length co60]] rfl Q0 ?_; (with_reducible refine (impl_Settled.calls k t437 _ _ t438 _ _ t441 t444 _ ?side1 ?side2 ?side3 ?side4 A25.out).mono ?_); (case side1 => exact (by repeat (first | exact (Kd.S_reads' HO440.out).2.2 | (with_reducible refine Kd.C_alloc ?_ _) | (with_reducible refine Kd.C_drewN ?_ _) | (with_reducible refine Kd.C_drew ?_)))); (case side2 => exact (Kd.S_reads' HO440.out).2.1); (case side3 => exact (by repeat (first | exact (Kd.S_reads' HO443.out).2.2 | (with_reducible refine Kd.C_alloc ?_ _) | (with_reducible refine Kd.C_drewN ?_ _) | (with_reducible refine Kd.C_drew ?_)))); (case side4 => exact (Kd.S_reads' HO443.out).2.1); rintro e w61 ⟨v445, rfl, ho0, hb⟩; refine ⟨_, rfl, ?_⟩; replace HO440 := am (Kd.S_elder' (by (with_reducible repeat (first | apply s1_ | apply s2_ | apply s3_)); exact HO440.out) (Kd.R_base ho0) hb); replace HO443 := am (Kd.S_elder' (by (with_reducible repeat (first | apply s1_ | apply s2_ | apply s3_)); exact HO443.out) (Kd.R_base ho0) hb); have HO446 := am (Kd.R_lower (Kd.R_new' (Kd.R_new' ho0 (Kd.R_lt u21_4)) (Kd.R_lt u21_5)) (below_size Q2)); replace HO409 := am (Kd.R_elder' u21_4 (Kd.R_base ho0) hb); replace HO420 := am (Kd.R_elder' u21_5 (Kd.R_base ho0) hb); replace BK398 := am (bb_ BK398.out u21_1 hb); replace BK417 := am (bb_ BK417.out u21_6 hb); replace HB := am (below_step Q2 hb); (try clear hb); (try clear hb2); (try clear hk); (try clear hi); (try clear ho0); clear HO440 HO443; obtain ⟨Ao62, co62, eo62⟩ := Kd.R_slice HO446.out; subst eo62) | ((with_reducible refine gate_callee (f := 58) rfl ?_); refine goesL_ (some 59) rfl rfl Try.func58 kr rfl #[.slice Ao62 t444.length co62, .slice Ao45 t407.length co45] rfl Q0 ?_; (with_reducible refine (laws_eqEntryS.calls k _ _ t444 _ _ t407 true _ ?side1 ?side2 ?side3 ?side4 A26.out).mono ?_); (case side1 => exact (by repeat (first | exact (Kd.R_reads' HO446.out).2.2 | (with_reducible refine Kd.C_alloc ?_ _) | (with_reducible refine Kd.C_drewN ?_ _) | (with_reducible refine Kd.C_drew ?_)))); (case side2 => exact (Kd.R_reads' HO446.out).2.1); (case side3 => exact u21_16); (case side4 => exact (Kd.R_reads' HO409.out).2.1); rintro e w63 ⟨rfl, hb⟩; refine ⟨_, rfl, ?_⟩; replace HO409 := am (Kd.R_below u21_4 hb); replace HO420 := am (Kd.R_below u21_5 hb); replace HO446 := am (Kd.R_below (by (with_reducible repeat (first | apply r1_ | apply r2_ | apply r3_)); exact HO446.out) hb); replace BK398 := am (bb_ BK398.out u21_1 hb); replace BK417 := am (bb_ BK417.out u21_6 hb); replace HB := am (below_step Q2 hb); (try clear hb); (try clear hb2); (try clear hk); (try clear hi); have n_ := am (Kd.R_mono (ok' := (fun _ => True)) HO420.out (fun k_ hk => trivial)); clear HO420; have HO420 := n_; clear n_; clear HO409 HO446) | ((with_reducible refine gate_callee (f := 60) rfl ?_); refine goesL_ (some 63) rfl rfl Try.func60 kr rfl #[.slice Ao44 t435.length co44, .int .i64 1] rfl u21_17 ?_; (with_reducible refine (laws_heldEntryS.calls k _ _ t435 1 t448 _ ?side1 ?side2 A28.out).mono ?_); (case side1 => exact u21_10); (case side2 => exact u21_20); rintro e w64 ⟨rfl, hb⟩; refine ⟨_, rfl, ?_⟩; replace HO420 := am (Kd.R_below u21_5 hb); replace BK398 := am (bb_ BK398.out u21_1 hb); replace BK417 := am (bb_ BK417.out u21_6 hb); replace HB := am (below_step Q2 hb); (try clear hb); (try clear hb2); (try clear hk); (try clear hi)))
 go_ret
 exact ⟨er, Q2⟩
end Go.Proofs.Ytkcadcoohmofcaa.QFnExactSettled
