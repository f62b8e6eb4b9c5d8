-- Printed by the session's own program wip/prx.py.
import Derived.Test.YtjdpifafijcpbaaDoorSqFnExactOnceEach
import Derived.Test.YtjdpifafijcpbaaDoorQFnExactOnceEachx0
import Derived.Test.YtjdpifafijcpbaaDoorQFnExactOnceEachx13
namespace Go.Proofs.YtjdpifafijcpbaaDoor.QFnExactOnceEach
open Go.RowKit Go.Proofs.YtjdpifafijcpbaaDoorW.PrintWords Go.Proofs.YtjdpifafijcpbaaDoorW.PrintLast Go.Proofs.YtjdpifafijcpbaaDoorW.PrintMore Go.Proofs.YtjdpifafijcpbaaDoor.SqFnExactOnceEach
attribute [local go_sem] max2_int min2_int max_two min_two max_three min_three max_four min_four Go.Proofs.YtjdpifafijcpbaaDoor.Set.isSome_setCell
set_option linter.unusedVariables false
set_option linter.unusedSimpArgs false

-- squeezed
theorem u14_1 {P : Prop} (h : P := by repeat (first | (with_reducible first | exact HK.out | apply Kept.alloc | apply Kept.drewN | apply Kept.drew) | exact HK.out)) : P := h
theorem u14_3 {P : Prop} (h : P := by (with_reducible repeat (first | apply Kd.R_alloc | apply Kd.R_drewN | apply Kd.R_drew)); exact HO_0.out) : P := h
theorem u14_6 {P : Prop} (h : P := by (with_reducible repeat (first | apply Kd.R_alloc | apply Kd.R_drewN | apply Kd.R_drew)); exact HO0.out) : P := h
theorem u14_7 {P : Prop} (h : P := by repeat (first | (with_reducible first | exact HK.out | apply Kept.alloc | apply Kept.drewN | apply Kept.drew | refine Kept.setCell ?_ (.inr GW386.out) _) | exact HK.out)) : P := h
theorem u14_9 {P : Prop} (h : P := by (with_reducible repeat (first | apply Kd.R_alloc | apply Kd.R_drewN | apply Kd.R_drew)); exact HO0_2.out) : P := h
/-! ### laws_eqSessionCallS: function 14 -/
def laws_eqSessionCallS.l0 : Nat → List (S50) → List (S50) → Int → Option (Bool)
 | 0, _, _, _ => none
 | k + 1, x0, x1, x5 => if x5 < (x0.length : Int) then (if 0 ≤ x5 then (if x5 < (x1.length : Int) then ((laws_eqSessionCall.f ((rd_T50 x0 x5).f0) ((rd_T50 x0 x5).f1) ((rd_T50 x0 x5).f2) ((rd_T50 x1 x5).f0) ((rd_T50 x1 x5).f1) ((rd_T50 x1 x5).f2)).bind fun t377 => (if t377 = true then (laws_eqSessionCallS.l0 k x0 x1 (wrap64 (x5 + 1))) else (some false))) else (none)) else (none)) else (some true)
def laws_eqSessionCallS.f (k : Nat) (l0 : List (S50)) (l1 : List (S50)) : Option (Bool) := if (l0.length : Int) = (l1.length : Int) then (laws_eqSessionCallS.l0 k l0 l1 0) else (some false)
theorem laws_eqSessionCallS.mono_l : ∀ k, (∀ y0 y1 y2, LeO (laws_eqSessionCallS.l0 k y0 y1 y2) (laws_eqSessionCallS.l0 (k + 1) y0 y1 y2))
 | 0 => fun _ _ _ r h => by simp [laws_eqSessionCallS.l0] at h
 | k + 1 => by
   have ih0 := laws_eqSessionCallS.mono_l k
   · intro y0 y1 y2
     unfold laws_eqSessionCallS.l0
     repeat' first
     | (with_reducible exact ih0 _ _ _)
     | (with_reducible exact LeO.refl _)
     | (with_reducible exact LeO.none _)
     | (with_reducible refine LeO.ite ?_ ?_)
     | (with_reducible refine LeO.bind ?_ (fun _ => ?_))
     | exact ih0 _ _ _
     | exact LeO.none _
     | refine LeO.ite ?_ ?_
     | refine LeO.bind ?_ (fun _ => ?_)
theorem laws_eqSessionCallS.mono : ∀ a0 a1 k, LeO (laws_eqSessionCallS.f k a0 a1) (laws_eqSessionCallS.f (k + 1) a0 a1) := by
 intro a0 a1 k
 have ih0 := laws_eqSessionCallS.mono_l k
 unfold laws_eqSessionCallS.f
 repeat' first
     | (with_reducible exact ih0 _ _ _)
     | (with_reducible exact LeO.refl _)
     | (with_reducible exact LeO.none _)
     | (with_reducible refine LeO.ite ?_ ?_)
     | (with_reducible refine LeO.bind ?_ (fun _ => ?_))
     | exact ih0 _ _ _
     | exact LeO.none _
     | refine LeO.ite ?_ ?_
     | refine LeO.bind ?_ (fun _ => ?_)
def laws_eqSessionCallS.T6 : Bool × List (List Nat × List Nat) := (true, [([], []), ([], []), ([0, 1], [0, 1]), ([2], [2]), ([], []), ([], []), ([4, 5], [4, 5]), ([6], [6]), ([3, 7], [3, 7]), ([8], [8])])
def laws_eqSessionCallS.B6 : List Nat := [0, 0, 3, 7, 0, 0, 48, 112, 255, 511]
theorem laws_eqSessionCallS.tab6 : rtab .any (opsOf Tryd.f14 6) = laws_eqSessionCallS.T6 := by kernel_rfl
theorem laws_eqSessionCallS.bits6 : waitsOk laws_eqSessionCallS.T6.2 laws_eqSessionCallS.B6 = true := by kernel_rfl
set_option maxHeartbeats 8000000 in
set_option maxRecDepth 100000 in
theorem laws_eqSessionCallS.calls (k : Nat) (A0 : Option Addr) (c0 : Nat) (l0 : List (S50)) (A1 : Option Addr) (c1 : Nat) (l1 : List (S50)) (r : Bool) (w : World) (hr0 : Kd.C k50 w A0 l0.length l0) (hc0 : l0.length ≤ c0) (hr1 : Kd.C k50 w A1 l1.length l1) (hc1 : l1.length ≤ c1) (h : laws_eqSessionCallS.f k l0 l1 = some r) :
   Calls Tryd.prog 14 #[.slice A0 l0.length c0, .slice A1 l1.length c1] w fun e w' => e = .returned (.bool r) ∧ Below w.heap.size w w' := by
 have hu50 := Tryd.underlying50
 have HR0 := am hr0
 have HC0 := am hc0
 clear hr0 hc0
 have HR1 := am hr1
 have HC1 := am hc1
 clear hr1 hc1
 have HB := am (Below.refl w.heap.size w)
 have H : (if (l0.length : Int) = (l1.length : Int) then (laws_eqSessionCallS.l0 k l0 l1 0) else (some false)) = some r := h
 clear h
 by_cases c3 : (l0.length : Int) = (l1.length : Int)
 rotate_left
 · rw [if_neg c3] at H
   have c3b0 : ((l0.length : Int) == (l1.length : Int)) = false := beq_eq_false_iff_ne.mpr c3
   have c3b1 : ((l0.length : Int) != (l1.length : Int)) = true := bne_iff_ne.mpr c3
   have c3b2 : (l0.length == l1.length) = false := by first | simpa using c3 | (simp at c3 ⊢; omega)
   obtain rfl := sj H
   go_enter Tryd.func14, Tryd.ntmps14
   go_wp2
   go_ret
   exact ⟨er, q1⟩
 rw [if_pos c3] at H
 have c3b0 : ((l0.length : Int) == (l1.length : Int)) = true := beq_iff_eq.mpr c3
 have c3b1 : ((l0.length : Int) != (l1.length : Int)) = false := bne_eq_false_iff_eq.mpr c3
 have c3b2 : (l0.length == l1.length) = true := by first | simpa using c3 | (simp at c3 ⊢; omega)
 clear c3
 have H' := am H
 clear H
 go_enter Tryd.func14, Tryd.ntmps14
 go_wp2
 go_loopg [5] k (fun kq v5 w' => ∃ (x5_1 : Int), v5 = .int .i64 x5_1 ∧ Aside0 (laws_eqSessionCallS.l0 kq l0 l1 x5_1 = some r) ∧ Aside0 (kq ≤ k) ∧ Aside0 (Below w.heap.size w w'))
 case atStart => exact ⟨(0), q2, H', ⟨Nat.le_refl _⟩, ⟨q1⟩⟩
 clear H'
 try clear c1
 try clear c3
 try clear c3b0
 try clear c3b1
 try clear c3b2
 obtain ⟨x5_1, rfl, HA, HK1, HB⟩ := hrel
 cases gk with
 | zero => exact absurd HA.out (by simp [laws_eqSessionCallS.l0])
 | succ k1 =>
   have H := HA.out
   clear HA
   simp only [laws_eqSessionCallS.l0] at H
   by_cases c4 : x5_1 < (l0.length : Int)
   rotate_left
   · rw [if_neg c4] at H
     have c4b0 : decide (x5_1 < (l0.length : Int)) = false := decide_eq_false c4
     clear c4
     obtain rfl := sj H
     go_wp2
     go_ret
     exact ⟨er, q1⟩
   rw [if_pos c4] at H
   have c4b0 : decide (x5_1 < (l0.length : Int)) = true := decide_eq_true c4
   clear c4
   by_cases c5 : 0 ≤ x5_1
   rotate_left
   · rw [if_neg c5] at H
     exact absurd H (by simp)
   rw [if_pos c5] at H
   have c5b0 : decide (0 ≤ x5_1) = true := decide_eq_true c5
   clear c5
   by_cases c6 : x5_1 < (l1.length : Int)
   rotate_left
   · rw [if_neg c6] at H
     exact absurd H (by simp)
   rw [if_pos c6] at H
   have c6b0 : decide (x5_1 < (l1.length : Int)) = true := decide_eq_true c6
   clear c6
   replace H := Option.bind_eq_some_iff.mp H
   obtain ⟨t377, A70, H⟩ := H
   replace H : (if t377 = true then (laws_eqSessionCallS.l0 k1 l0 l1 (wrap64 (x5_1 + 1))) else (some false)) = some r := H
   have A7 := am A70
   clear A70
   have H9 := am H
   clear H
   try go_wp2
   replace HB := am (below_drew1 HB.out)
   have p375 : 0 ≤ (x5_1 : Int) := of_decide_eq_true q0
   have q375 : x5_1 < (l0.length : Int) := of_decide_eq_true q0
   obtain ⟨ad375, e375, hx375_0, hx375_1, hx375_2⟩ := at_T50 HR0.out x5_1 p375 q375
   have hw375_2 := hx375_2
   have hw375_1 := hx375_1
   have hw375_0 := hx375_0
   cases e375
   replace hx375_0 := cm HB.out hx375_0
   replace hx375_1 := cm HB.out hx375_1
   replace hx375_2 := cm HB.out hx375_2
   replace p375 := eq_true p375
   replace q375 := eq_true q375
   have p376 : 0 ≤ (x5_1 : Int) := of_decide_eq_true q0
   have q376 : x5_1 < (l1.length : Int) := of_decide_eq_true q0
   obtain ⟨ad376, e376, hx376_0, hx376_1, hx376_2⟩ := at_T50 HR1.out x5_1 p376 q376
   have hw376_2 := hx376_2
   have hw376_1 := hx376_1
   have hw376_0 := hx376_0
   cases e376
   replace hx376_0 := cm HB.out hx376_0
   replace hx376_1 := cm HB.out hx376_1
   replace hx376_2 := cm HB.out hx376_2
   replace p376 := eq_true p376
   replace q376 := eq_true q376
   refine start_ (n := 10) (S := fun w' => w'.cell? (ad375.add ((x5_1).toNat * 3)) = some (.int .i64 ((rd_T50 l0 x5_1).f0)) ∧ w'.cell? ⟨(ad375.add ((x5_1).toNat * 3)).block, (ad375.add ((x5_1).toNat * 3)).off + 1, none⟩ = some (.int .i64 ((rd_T50 l0 x5_1).f1)) ∧ w'.cell? ⟨(ad375.add ((x5_1).toNat * 3)).block, (ad375.add ((x5_1).toNat * 3)).off + 2, none⟩ = some (.string ((rd_T50 l0 x5_1).f2)) ∧ w'.cell? (ad376.add ((x5_1).toNat * 3)) = some (.int .i64 ((rd_T50 l1 x5_1).f0)) ∧ w'.cell? ⟨(ad376.add ((x5_1).toNat * 3)).block, (ad376.add ((x5_1).toNat * 3)).off + 1, none⟩ = some (.int .i64 ((rd_T50 l1 x5_1).f1)) ∧ w'.cell? ⟨(ad376.add ((x5_1).toNat * 3)).block, (ad376.add ((x5_1).toNat * 3)).off + 2, none⟩ = some (.string ((rd_T50 l1 x5_1).f2))) (ds := []) #[false, false, false, false, false, false, false, false, false, false] kr rfl rfl ⟨(cm HB.out hw375_0), (cm HB.out hw375_1), (cm HB.out hw375_2), (cm HB.out hw376_0), (cm HB.out hw376_1), (cm HB.out hw376_2)⟩ (fun hHeld => ?_); refine with_tabW laws_eqSessionCallS.tab6 laws_eqSessionCallS.bits6 (fun HT_ HW_ => ?_)
   generalize wr.drew = w8 at HB hx375_0 hx375_1 hx375_2 hx376_0 hx376_1 hx376_2 hHeld ⊢
   refine pV 0 17 (bt 1 10) ?_
   refine pV 1 18 (bt 2 10) ?_
   refine pV 2 19 (bt 3 10) ?_
   refine pV 4 21 #[true, true, true, false, true, false, false, false, false, false] ?_
   refine pV 5 22 #[true, true, true, false, true, true, false, false, false, false] ?_
   refine pV 6 23 #[true, true, true, false, true, true, true, false, false, false] ?_
   refine tV 3 20 (bt 7 10) ?_
   refine tV 7 24 (bt 8 10) ?_
   refine one_ (i := 8) (N := some 25) #[true, true, true, true, true, true, true, true, true, false] rfl rfl (one_of HT_.out kr) (by decide) (fun K hK => ?_)
   refine goes_ Tryd.func40 kr rfl #[.agg #[.int .i64 ((rd_T50 l0 x5_1).f0), .int .i64 ((rd_T50 l0 x5_1).f1), .string ((rd_T50 l0 x5_1).f2)], .agg #[.int .i64 ((rd_T50 l1 x5_1).f0), .int .i64 ((rd_T50 l1 x5_1).f1), .string ((rd_T50 l1 x5_1).f2)]] (by rfl) rfl rfl q3 ?_
   with_reducible refine (laws_eqSessionCall.calls ((rd_T50 l0 x5_1).f0) ((rd_T50 l0 x5_1).f1) ((rd_T50 l0 x5_1).f2) ((rd_T50 l1 x5_1).f0) ((rd_T50 l1 x5_1).f1) ((rd_T50 l1 x5_1).f2) t377 _ A7.out).mono ?_
   rintro e w9 ⟨rfl, hb⟩
   refine ⟨_, rfl, ?_⟩
   replace HB := am (below_step q1 hb)
   (try clear hb)
   (try clear hb2)
   (try clear hk)
   (try clear hi)
   refine hK.out _ _ ⟨(cm HB.out hw375_0), (cm HB.out hw375_1), (cm HB.out hw375_2), (cm HB.out hw376_0), (cm HB.out hw376_1), (cm HB.out hw376_2)⟩ (fun hHeld => ?_)
   clear hK K
   refine norm_ (a' := ?_) ?_ ?_
   rotate_left
   · show Act.put _ (some 25) _ = _
     simp only [Act.put, la, lb, lc, i64_w, i32_w]
     rfl
   refine pV 9 26 (bt 10 10) ?_
   refine done_ (done_of HT_.out kr) ?_
   go_upto_if 26 with (fail)
   have H := H9.out
   clear H9
   by_cases c10 : t377 = true
   · subst c10
     rw [if_pos rfl] at H
     have H' := am H
     clear H
     go_wp2
     go_roundg k1
     case measure => have := HK1.out; omega
     case rel => exact ⟨(wrap64 (x5_1 + 1)), q2, H', ⟨by have := HK1.out; omega⟩, ⟨q1⟩⟩
   replace c10 := Bool.eq_false_iff.mpr c10
   subst c10
   rw [nf] at H
   obtain rfl := sj H
   go_wp2
   go_ret
   exact ⟨er, q1⟩

/-! ### laws_markText: function 42 -/
def laws_markText.l0 : Nat → Int → ByteArray → Option (ByteArray)
 | 0, _, _ => none
 | k + 1, x0, x3 => if x0 > 0 then ((some (([(wrap64 (48 + (Int.tmod x0 10))) % 256] : List Int) : List Int)).bind fun y378 => (if (strOfNums y378).size + x3.size ≤ 9223372036854775807 then (laws_markText.l0 k (wrap64 (Int.tdiv x0 10)) ((strOfNums y378) ++ x3)) else (none))) else (if 1 + x3.size ≤ 9223372036854775807 then (some ((⟨#[109]⟩ : ByteArray) ++ x3)) else (none))
def laws_markText.f (k : Nat) (a0 : Int) : Option (ByteArray) := if a0 ≤ 0 then (some (⟨#[109, 48]⟩ : ByteArray)) else (laws_markText.l0 k a0 (⟨#[]⟩ : ByteArray))
theorem laws_markText.mono_l : ∀ k, (∀ y0 y1, LeO (laws_markText.l0 k y0 y1) (laws_markText.l0 (k + 1) y0 y1))
 | 0 => fun _ _ r h => by simp [laws_markText.l0] at h
 | k + 1 => by
   have ih0 := laws_markText.mono_l k
   · intro y0 y1
     unfold laws_markText.l0
     repeat' first
     | (with_reducible exact ih0 _ _)
     | (with_reducible exact LeO.refl _)
     | (with_reducible exact LeO.none _)
     | (with_reducible refine LeO.ite ?_ ?_)
     | (with_reducible refine LeO.bind ?_ (fun _ => ?_))
     | exact ih0 _ _
     | exact LeO.none _
     | refine LeO.ite ?_ ?_
     | refine LeO.bind ?_ (fun _ => ?_)
theorem laws_markText.mono : ∀ a0 k, LeO (laws_markText.f k a0) (laws_markText.f (k + 1) a0) := by
 intro a0 k
 have ih0 := laws_markText.mono_l k
 unfold laws_markText.f
 repeat' first
     | (with_reducible exact ih0 _ _)
     | (with_reducible exact LeO.refl _)
     | (with_reducible exact LeO.none _)
     | (with_reducible refine LeO.ite ?_ ?_)
     | (with_reducible refine LeO.bind ?_ (fun _ => ?_))
     | exact ih0 _ _
     | exact LeO.none _
     | refine LeO.ite ?_ ?_
     | refine LeO.bind ?_ (fun _ => ?_)
set_option maxHeartbeats 8000000 in
set_option maxRecDepth 100000 in
theorem laws_markText.calls (k : Nat) (a0 : Int) (r : ByteArray) (w : World) (h : laws_markText.f k a0 = some r) :
   Calls Tryd.prog 42 #[.int .i64 a0] w fun e w' => e = .returned (.string r) ∧ Below w.heap.size w w' := by
 have HB := am (Below.refl w.heap.size w)
 have H : (if a0 ≤ 0 then (some (⟨#[109, 48]⟩ : ByteArray)) else (laws_markText.l0 k a0 (⟨#[]⟩ : ByteArray))) = some r := h
 clear h
 by_cases c2 : a0 ≤ 0
 · rw [if_pos c2] at H
   have c2b0 : decide (a0 ≤ 0) = true := decide_eq_true c2
   clear c2
   obtain rfl := sj H
   go_enter Tryd.func42, Tryd.ntmps42
   go_wp2
   go_ret
   exact ⟨er, q1⟩
 rw [if_neg c2] at H
 have c2b0 : decide (a0 ≤ 0) = false := decide_eq_false c2
 clear c2
 have H' := am H
 clear H
 go_enter Tryd.func42, Tryd.ntmps42
 go_wp2
 go_loopg [0, 3] k (fun kq v0 v3 w' => ∃ (x0_1 : Int) (x3_1 : ByteArray), v0 = .int .i64 x0_1 ∧ v3 = .string x3_1 ∧ Aside0 (laws_markText.l0 kq x0_1 x3_1 = some r) ∧ Aside0 (kq ≤ k) ∧ Aside0 (Below w.heap.size w w'))
 case atStart => exact ⟨(a0), ((⟨#[]⟩ : ByteArray)), q2, q2, H', ⟨Nat.le_refl _⟩, ⟨q1⟩⟩
 clear H'
 try clear c2
 try clear c2b0
 obtain ⟨x0_1, x3_1, rfl, rfl, HA, HK1, HB⟩ := hrel
 cases gk with
 | zero => exact absurd HA.out (by simp [laws_markText.l0])
 | succ k1 =>
   have H := HA.out
   clear HA
   simp only [laws_markText.l0] at H
   by_cases c3 : x0_1 > 0
   rotate_left
   · rw [if_neg c3] at H
     have c3b0 : decide (0 < x0_1) = false := decide_eq_false c3
     clear c3
     by_cases c8 : 1 + x3_1.size ≤ 9223372036854775807
     rotate_left
     · rw [if_neg c8] at H
       exact absurd H (by simp)
     rw [if_pos c8] at H
     have c8b0 := eq_true c8
     have c8b1 : decide (1 + x3_1.size ≤ 9223372036854775807) = true := decide_eq_true c8
     try have c8b2 : (9223372036854775807 < 1 + x3_1.size) = False := eq_false (Nat.not_lt.2 c8)
     obtain rfl := sj H
     go_wp2
     go_ret
     exact ⟨er, q1⟩
   rw [if_pos c3] at H
   have c3b0 : decide (0 < x0_1) = true := decide_eq_true c3
   clear c3
   obtain ⟨y378, hy378⟩ : ∃ y_ : List Int, y_ = (([(wrap64 (48 + (Int.tmod x0_1 10))) % 256] : List Int)) := ⟨_, rfl⟩
   replace H : (if (strOfNums y378).size + x3_1.size ≤ 9223372036854775807 then (laws_markText.l0 k1 (wrap64 (Int.tdiv x0_1 10)) ((strOfNums y378) ++ x3_1)) else (none)) = some r := by first | (rw [hy378]; with_reducible exact H) | (have H2_ := (Option.bind_some _ _).symm.trans H; rw [hy378]; with_reducible exact H2_) | (have H2_ := (Option.bind_some _ _).symm.trans H; with_reducible exact H2_) | with_reducible exact H | (rw [hy378]; exact H) | exact H
   have Ny378 := am hy378
   clear hy378
   by_cases c4 : (strOfNums y378).size + x3_1.size ≤ 9223372036854775807
   rotate_left
   · rw [if_neg c4] at H
     exact absurd H (by simp)
   rw [if_pos c4] at H
   have c4b0 := eq_true c4
   have c4b1 : decide ((strOfNums y378).size + x3_1.size ≤ 9223372036854775807) = true := decide_eq_true c4
   try have c4b2 : (9223372036854775807 < (strOfNums y378).size + x3_1.size) = False := eq_false (Nat.not_lt.2 c4)
   have H' := am H
   clear H
   go_wp2_with (first | ((with_reducible refine gate_dst (N := 12) rfl ?_); refine Kd.R_lit (Kd.int .u8) _ 5 ?hg (N := 12) ?hd (xs := ([(wrap64 (48 + (Int.tmod x0_1 10))) % 256] : List Int)) (inner := [.int .u8 ((wrap64 (48 + (Int.tmod x0_1 10))) % 256)]) (ok := fun _ => True) (okp := fun _ => True) ?hr ?hp (fun _ hk => hk) trivial (Below.refl _ _) (Nat.le_refl _) (by simp) ?_; (case hd => rfl); (case hg => rfl); (case hr => first | (go_simp; done) | (go_simp; rfl)); (case hp => exact (Reps.one (show Kd.M (Kd.int .u8) _ _ _ ((wrap64 (48 + (Int.tmod x0_1 10))) % 256) [.int .u8 ((wrap64 (48 + (Int.tmod x0_1 10))) % 256)] from rfl) (Reps.none _ _))); intro v379 w5 ho6 hb hg_ hnew_; clear hg_ hnew_; (first | rw [← Ny378.out] at ho6 | (simp only [Int.reduceToNat] at ho6; rw [← Ny378.out] at ho6)); have HO380 := am (Kd.R_lower ho6 (below_size q1)); replace HB := am (below_step q1 hb); clear hb ho6; have hcv7 := own_string (P := Tryd.prog) Tryd.underlying44 Tryd.underlying5 Tryd.underlying9 (Kd.own_of_R HO380.out)))
   go_roundg k1
   case measure => have := HK1.out; omega
   case rel => exact ⟨(wrap64 (Int.tdiv x0_1 10)), ((strOfNums y378) ++ x3_1), q2, q2, H', ⟨by have := HK1.out; omega⟩, ⟨q1⟩⟩

/-! ### laws_markSessionS: function 41 -/
def laws_markSessionS.l0 : Nat → List (S54) → Int → Int → Option (Int × (List (S54)))
 | 0, _, _, _ => none
 | k + 1, x0, x1, x5 => if x5 < (x0.length : Int) then (if 0 ≤ x5 then ((some (x0.set (x5 : Int).toNat (⟨x1, (rd_T54 x0 x5).f1, (rd_T54 x0 x5).f2, (rd_T54 x0 x5).f3⟩ : S54) : List (S54))).bind fun y381 => ((some (y381.set (x5 : Int).toNat (⟨(rd_T54 y381 x5).f0, wrap64 (x1 + 1), (rd_T54 y381 x5).f2, (rd_T54 y381 x5).f3⟩ : S54) : List (S54))).bind fun y382 => ((some (y382.set (x5 : Int).toNat (⟨(rd_T54 y382 x5).f0, (rd_T54 y382 x5).f1, wrap64 ((wrap64 (x1 + 1)) + 1), (rd_T54 y382 x5).f3⟩ : S54) : List (S54))).bind fun y383 => ((laws_markText.f k (wrap64 ((wrap64 ((wrap64 (x1 + 1)) + 1)) + 1))).bind fun t384 => (laws_markSessionS.l0 k (y383.set (x5 : Int).toNat (⟨(rd_T54 y383 x5).f0, (rd_T54 y383 x5).f1, (rd_T54 y383 x5).f2, t384⟩ : S54)) (wrap64 ((wrap64 ((wrap64 ((wrap64 (x1 + 1)) + 1)) + 1)) + 1)) (wrap64 (x5 + 1))))))) else (none)) else (some (x1, x0))
def laws_markSessionS.f (k : Nat) (l0 : List (S54)) (a1 : Int) : Option (Int × (List (S54))) := laws_markSessionS.l0 k l0 a1 0
theorem laws_markSessionS.mono_l : ∀ k, (∀ y0 y1 y2, LeO (laws_markSessionS.l0 k y0 y1 y2) (laws_markSessionS.l0 (k + 1) y0 y1 y2))
 | 0 => fun _ _ _ r h => by simp [laws_markSessionS.l0] at h
 | k + 1 => by
   have ih0 := laws_markSessionS.mono_l k
   · intro y0 y1 y2
     unfold laws_markSessionS.l0
     repeat' first
     | (with_reducible exact ih0 _ _ _)
     | (with_reducible exact laws_markText.mono _ _)
     | (with_reducible exact LeO.refl _)
     | (with_reducible exact LeO.none _)
     | (with_reducible refine LeO.ite ?_ ?_)
     | (with_reducible refine LeO.bind ?_ (fun _ => ?_))
     | exact ih0 _ _ _
     | exact laws_markText.mono _ _
     | exact LeO.none _
     | refine LeO.ite ?_ ?_
     | refine LeO.bind ?_ (fun _ => ?_)
theorem laws_markSessionS.mono : ∀ a0 a1 k, LeO (laws_markSessionS.f k a0 a1) (laws_markSessionS.f (k + 1) a0 a1) := by
 intro a0 a1 k
 have ih0 := laws_markSessionS.mono_l k
 unfold laws_markSessionS.f
 repeat' first
     | (with_reducible exact ih0 _ _ _)
     | (with_reducible exact laws_markText.mono _ _)
     | (with_reducible exact LeO.refl _)
     | (with_reducible exact LeO.none _)
     | (with_reducible refine LeO.ite ?_ ?_)
     | (with_reducible refine LeO.bind ?_ (fun _ => ?_))
     | exact ih0 _ _ _
     | exact laws_markText.mono _ _
     | exact LeO.none _
     | refine LeO.ite ?_ ?_
     | refine LeO.bind ?_ (fun _ => ?_)
set_option maxHeartbeats 8000000 in
set_option maxRecDepth 100000 in
theorem laws_markSessionS.calls (k : Nat) (P0_ : Nat → Prop) (u9000_ : Value) (l0 : List (S54)) (a1 : Int) (r1 : Int) (r2 : List (S54)) (w0 w : World) (hB : Below w0.heap.size w0 w) (ho0 : Kd.R k54 54 w w0.heap.size P0_ u9000_ l0) (h : laws_markSessionS.f k l0 a1 = some (r1, r2)) :
   Calls Tryd.prog 41 #[u9000_, .int .i64 a1] w fun e w' => e = .returned (.int .i64 r1) ∧ Kd.R k54 54 w' w0.heap.size (fun k_ => (P0_ k_ ∨ w.heap.size ≤ k_)) u9000_ r2 ∧ Below w0.heap.size w0 w' ∧ Kept w w' (fun k_ => P0_ k_) := by
 have HO0 := am (show Kd.R k54 54 w w0.heap.size (fun k_ => (P0_ k_ ∨ w.heap.size ≤ k_)) u9000_ l0 from Kd.R_mono ho0 (fun k_ hk => (.inl hk)))
 have HK := am (Kept.refl w (fun k_ => P0_ k_))
 have HW0 := am hB.size
 have HB := am hB
 clear hB
 have H : (laws_markSessionS.l0 k l0 a1 0) = some (r1, r2) := h
 clear h
 have H' := am H
 clear H
 go_enter Tryd.func41, Tryd.ntmps41
 go_wp2
 go_loopg [1, 5] k (fun kq v1 v5 w' => ∃ (x0_1 : List (S54)) (x1_1 : Int) (x5_1 : Int), v1 = .int .i64 x1_1 ∧ v5 = .int .i64 x5_1 ∧ Aside0 (laws_markSessionS.l0 kq x0_1 x1_1 x5_1 = some (r1, r2)) ∧ Aside0 (kq ≤ k) ∧ Aside0 (Kd.R k54 54 w' w0.heap.size (fun k_ => (P0_ k_ ∨ w.heap.size ≤ k_)) u9000_ x0_1) ∧ Aside0 (Kept w w' (fun k_ => P0_ k_)) ∧ Aside0 (Below w0.heap.size w0 w'))
 case atStart => exact ⟨(l0), (a1), (0), q2, q2, H', ⟨Nat.le_refl _⟩, ⟨u14_6⟩, ⟨u14_1⟩, ⟨q1⟩⟩
 clear H'
 obtain ⟨x0_1, x1_1, x5_1, rfl, rfl, HA, HK1, HO_0, HK, HB⟩ := hrel
 cases gk with
 | zero => exact absurd HA.out (by simp [laws_markSessionS.l0])
 | succ k1 =>
   have H := HA.out
   clear HA
   simp only [laws_markSessionS.l0] at H
   by_cases c3 : x5_1 < (x0_1.length : Int)
   rotate_left
   · rw [if_neg c3] at H
     have c3b0 : decide (x5_1 < (x0_1.length : Int)) = false := decide_eq_false c3
     clear c3
     simp only [Option.some.injEq, Prod.mk.injEq] at H
     obtain ⟨rfl, rfl⟩ := H
     obtain ⟨Ao20, co20, eo20⟩ := Kd.R_slice HO_0.out
     subst eo20
     go_wp2
     go_ret
     exact ⟨er, u14_3, q1, u14_1⟩
   rw [if_pos c3] at H
   have c3b0 : decide (x5_1 < (x0_1.length : Int)) = true := decide_eq_true c3
   clear c3
   by_cases c4 : 0 ≤ x5_1
   rotate_left
   · rw [if_neg c4] at H
     exact absurd H (by simp)
   rw [if_pos c4] at H
   have c4b0 : decide (0 ≤ x5_1) = true := decide_eq_true c4
   clear c4
   obtain ⟨y381, hy381⟩ : ∃ y_ : List (S54), y_ = (x0_1.set (x5_1 : Int).toNat (⟨x1_1, (rd_T54 x0_1 x5_1).f1, (rd_T54 x0_1 x5_1).f2, (rd_T54 x0_1 x5_1).f3⟩ : S54)) := ⟨_, rfl⟩
   replace H : ((some (y381.set (x5_1 : Int).toNat (⟨(rd_T54 y381 x5_1).f0, wrap64 (x1_1 + 1), (rd_T54 y381 x5_1).f2, (rd_T54 y381 x5_1).f3⟩ : S54) : List (S54))).bind fun y382 => ((some (y382.set (x5_1 : Int).toNat (⟨(rd_T54 y382 x5_1).f0, (rd_T54 y382 x5_1).f1, wrap64 ((wrap64 (x1_1 + 1)) + 1), (rd_T54 y382 x5_1).f3⟩ : S54) : List (S54))).bind fun y383 => ((laws_markText.f k1 (wrap64 ((wrap64 ((wrap64 (x1_1 + 1)) + 1)) + 1))).bind fun t384 => (laws_markSessionS.l0 k1 (y383.set (x5_1 : Int).toNat (⟨(rd_T54 y383 x5_1).f0, (rd_T54 y383 x5_1).f1, (rd_T54 y383 x5_1).f2, t384⟩ : S54)) (wrap64 ((wrap64 ((wrap64 ((wrap64 (x1_1 + 1)) + 1)) + 1)) + 1)) (wrap64 (x5_1 + 1)))))) = some (r1, r2) := by first | (rw [hy381]; with_reducible exact H) | (have H2_ := (Option.bind_some _ _).symm.trans H; rw [hy381]; with_reducible exact H2_) | (have H2_ := (Option.bind_some _ _).symm.trans H; with_reducible exact H2_) | with_reducible exact H | (rw [hy381]; exact H) | exact H
   have Ny381 := am hy381
   clear hy381
   obtain ⟨y382, hy382⟩ : ∃ y_ : List (S54), y_ = (y381.set (x5_1 : Int).toNat (⟨(rd_T54 y381 x5_1).f0, wrap64 (x1_1 + 1), (rd_T54 y381 x5_1).f2, (rd_T54 y381 x5_1).f3⟩ : S54)) := ⟨_, rfl⟩
   replace H : ((some (y382.set (x5_1 : Int).toNat (⟨(rd_T54 y382 x5_1).f0, (rd_T54 y382 x5_1).f1, wrap64 ((wrap64 (x1_1 + 1)) + 1), (rd_T54 y382 x5_1).f3⟩ : S54) : List (S54))).bind fun y383 => ((laws_markText.f k1 (wrap64 ((wrap64 ((wrap64 (x1_1 + 1)) + 1)) + 1))).bind fun t384 => (laws_markSessionS.l0 k1 (y383.set (x5_1 : Int).toNat (⟨(rd_T54 y383 x5_1).f0, (rd_T54 y383 x5_1).f1, (rd_T54 y383 x5_1).f2, t384⟩ : S54)) (wrap64 ((wrap64 ((wrap64 ((wrap64 (x1_1 + 1)) + 1)) + 1)) + 1)) (wrap64 (x5_1 + 1))))) = some (r1, r2) := by first | (rw [hy382]; with_reducible exact H) | (have H2_ := (Option.bind_some _ _).symm.trans H; rw [hy382]; with_reducible exact H2_) | (have H2_ := (Option.bind_some _ _).symm.trans H; with_reducible exact H2_) | with_reducible exact H | (rw [hy382]; exact H) | exact H
   have Ny382 := am hy382
   clear hy382
   obtain ⟨y383, hy383⟩ : ∃ y_ : List (S54), y_ = (y382.set (x5_1 : Int).toNat (⟨(rd_T54 y382 x5_1).f0, (rd_T54 y382 x5_1).f1, wrap64 ((wrap64 (x1_1 + 1)) + 1), (rd_T54 y382 x5_1).f3⟩ : S54)) := ⟨_, rfl⟩
   replace H : ((laws_markText.f k1 (wrap64 ((wrap64 ((wrap64 (x1_1 + 1)) + 1)) + 1))).bind fun t384 => (laws_markSessionS.l0 k1 (y383.set (x5_1 : Int).toNat (⟨(rd_T54 y383 x5_1).f0, (rd_T54 y383 x5_1).f1, (rd_T54 y383 x5_1).f2, t384⟩ : S54)) (wrap64 ((wrap64 ((wrap64 ((wrap64 (x1_1 + 1)) + 1)) + 1)) + 1)) (wrap64 (x5_1 + 1)))) = some (r1, r2) := by first | (rw [hy383]; with_reducible exact H) | (have H2_ := (Option.bind_some _ _).symm.trans H; rw [hy383]; with_reducible exact H2_) | (have H2_ := (Option.bind_some _ _).symm.trans H; with_reducible exact H2_) | with_reducible exact H | (rw [hy383]; exact H) | exact H
   have Ny383 := am hy383
   clear hy383
   replace H := Option.bind_eq_some_iff.mp H
   obtain ⟨t384, A80, H⟩ := H
   have A8 := am A80
   clear A80
   obtain ⟨y385, hy385⟩ : ∃ y_ : List (S54), y_ = (y383.set (x5_1 : Int).toNat (⟨(rd_T54 y383 x5_1).f0, (rd_T54 y383 x5_1).f1, (rd_T54 y383 x5_1).f2, t384⟩ : S54)) := ⟨_, rfl⟩
   replace H : (laws_markSessionS.l0 k1 y385 (wrap64 ((wrap64 ((wrap64 ((wrap64 (x1_1 + 1)) + 1)) + 1)) + 1)) (wrap64 (x5_1 + 1))) = some (r1, r2) := by first | (rw [hy385]; with_reducible exact H) | (have H2_ := (Option.bind_some _ _).symm.trans H; rw [hy385]; with_reducible exact H2_) | (have H2_ := (Option.bind_some _ _).symm.trans H; with_reducible exact H2_) | with_reducible exact H | (rw [hy385]; exact H) | exact H
   have Ny385 := am hy385
   clear hy385
   have H' := am H
   clear H
   obtain ⟨Ao10, co10, eo10⟩ := Kd.R_slice HO_0.out
   subst eo10
   have p5 : 0 ≤ (x5_1 : Int) := of_decide_eq_true q0
   have q5 : (x5_1 : Int) < ((x0_1.length : Int) : Int) := of_decide_eq_true q0
   obtain ⟨go5, co5, eo5, gb5, gl5, cl5, HG5⟩ := Kd.R_form HO_0.out (by omega)
   (first | cases eo5 | (injection eo5 with ea_ en_ ec_; (first | subst ea_ | (injection ea_ with ea_; subst ea_)); subst ec_; clear en_))
   have GB5 := am gb5
   have GG5 := am HG5
   clear gb5 gl5 HG5
   have HMgo5 := am (show (P0_ go5 ∨ w.heap.size ≤ go5) from (HO_0.out.1 _ rfl))
   obtain ⟨ce5, hcl5, hM5, hcc5, hfr5⟩ := Kd.R_elem HO_0.out z54 (x5_1 : Int) p5 q5
   obtain rfl := k54_openM hM5
   have hx5_0 : wr.cell? ⟨go5, (x5_1 : Int).toNat * 4, none⟩ = some (.int .i64 ((rd_T54 x0_1 x5_1).f0)) := hcc5 0 _ rfl
   have hx5_1 : wr.cell? ⟨go5, (x5_1 : Int).toNat * 4 + 1, none⟩ = some (.int .i64 ((rd_T54 x0_1 x5_1).f1)) := hcc5 1 _ rfl
   have hx5_2 : wr.cell? ⟨go5, (x5_1 : Int).toNat * 4 + 2, none⟩ = some (.int .i64 ((rd_T54 x0_1 x5_1).f2)) := hcc5 2 _ rfl
   have hx5_3 : wr.cell? ⟨go5, (x5_1 : Int).toNat * 4 + 3, none⟩ = some (.string ((rd_T54 x0_1 x5_1).f3)) := hcc5 3 _ rfl
   have hf5_0 : wr.frozen? ⟨go5, (x5_1 : Int).toNat * 4, none⟩ = false := hfr5 0
   have hf5_1 : wr.frozen? ⟨go5, (x5_1 : Int).toNat * 4 + 1, none⟩ = false := hfr5 1
   have hf5_2 : wr.frozen? ⟨go5, (x5_1 : Int).toNat * 4 + 2, none⟩ = false := hfr5 2
   have hf5_3 : wr.frozen? ⟨go5, (x5_1 : Int).toNat * 4 + 3, none⟩ = false := hfr5 3
   clear hcl5 hcc5 hfr5 hM5
   replace p5 := eq_true p5
   replace q5 := eq_true q5
   have HX11 := am (show Kd.R k54 54 wr w0.heap.size (fun k_ => (P0_ k_ ∨ w.heap.size ≤ k_)) (.slice (some ⟨go5, 0, none⟩) x0_1.length co10) x0_1 from u14_3)
   obtain ⟨ce11, hcl11, hM11, hcc11, hfr11⟩ := Kd.R_elem HX11.out z54 (x5_1 : Int) (of_decide_eq_true q0) (by have h_ : (x5_1 : Int) < ((x0_1.length : Int) : Int) := of_decide_eq_true q0; first | exact h_ | (have e_ := (Kd.R_reads' HO_0.out).1; omega) | simpa using h_)
   obtain rfl := k54_openM hM11
   have HP11 := Kd.R_seg HX11.out (x5_1 : Int) (of_decide_eq_true q0) (by have h_ : (x5_1 : Int) < ((x0_1.length : Int) : Int) := of_decide_eq_true q0; first | exact h_ | (have e_ := (Kd.R_reads' HO_0.out).1; omega) | simpa using h_) (seg := [.int .i64 x1_1]) (j := 0) hcl11 hcc11 (show 1 ≤ 4 from by decide) (x' := (⟨x1_1, (rd_T54 x0_1 x5_1).f1, (rd_T54 x0_1 x5_1).f2, (rd_T54 x0_1 x5_1).f3⟩ : S54)) (k54_mkM _ _ _ (⟨x1_1, (rd_T54 x0_1 x5_1).f1, (rd_T54 x0_1 x5_1).f2, (rd_T54 x0_1 x5_1).f3⟩ : S54) ) (fun _ hk => hk)
   have hx11_0 := hcc11 0 _ rfl
   (try simp only [show (k54).sz = 4 from rfl, Nat.mul_one, Nat.add_zero] at hx11_0)
   have hf11_0 := hfr11 0
   (try simp only [show (k54).sz = 4 from rfl, Nat.mul_one, Nat.add_zero] at hf11_0)
   clear hcl11 hcc11 hfr11 hM11
   go_wp2_with (first | ((with_reducible refine gate_store (t := 3) (p := 16) rfl ?_); refine store_event (t := 3) (p := 16) (v := ?vo_w12) (w1 := (wr.setCell ⟨go5, (x5_1 : Int).toNat * 4, none⟩ (.int .i64 x1_1))) ?hg ?ho ?hn ?hr ?_; (case ho => rfl); (case hg => rfl); (case hn => rfl); (case hr => first | (go_simp; done) | (go_simp; rfl)); intro w12 hw; have hg : wr.grownBy w12 (some go5) := (by rw [hw]; exact HP11.2); have hp_ : Kd.R k54 54 w12 w0.heap.size (fun k_ => (P0_ k_ ∨ w.heap.size ≤ k_)) (.slice (some ⟨go5, 0, none⟩) x0_1.length co10) y381 := (by rw [hw, Ny381.out]; exact HP11.1); clear HP11; replace HB := am ((by rw [hw]; exact below_set (HB.out) GB5.out : Below w0.heap.size w0 w12)); replace HK := am (Kept.of_grown (S := (fun k_ => P0_ k_)) hg u14_1 (fun k_ e_ => (HO_0.out.1 k_ e_))); replace HO_0 := am (hp_); clear hg hw hp_; have p6 : 0 ≤ (x5_1 : Int) := of_decide_eq_true q0; have q6 : (x5_1 : Int) < ((x0_1.length : Int) : Int) := of_decide_eq_true q0; obtain ⟨ce6, hcl6, hM6, hcc6, hfr6⟩ := Kd.R_elem HO_0.out z54 (x5_1 : Int) p6 q6; obtain rfl := k54_openM hM6; have hx6_0 : w12.cell? ⟨go5, (x5_1 : Int).toNat * 4, none⟩ = some (.int .i64 ((rd_T54 y381 x5_1).f0)) := hcc6 0 _ rfl; have hx6_1 : w12.cell? ⟨go5, (x5_1 : Int).toNat * 4 + 1, none⟩ = some (.int .i64 ((rd_T54 y381 x5_1).f1)) := hcc6 1 _ rfl; have hx6_2 : w12.cell? ⟨go5, (x5_1 : Int).toNat * 4 + 2, none⟩ = some (.int .i64 ((rd_T54 y381 x5_1).f2)) := hcc6 2 _ rfl; have hx6_3 : w12.cell? ⟨go5, (x5_1 : Int).toNat * 4 + 3, none⟩ = some (.string ((rd_T54 y381 x5_1).f3)) := hcc6 3 _ rfl; have hf6_0 : w12.frozen? ⟨go5, (x5_1 : Int).toNat * 4, none⟩ = false := hfr6 0; have hf6_1 : w12.frozen? ⟨go5, (x5_1 : Int).toNat * 4 + 1, none⟩ = false := hfr6 1; have hf6_2 : w12.frozen? ⟨go5, (x5_1 : Int).toNat * 4 + 2, none⟩ = false := hfr6 2; have hf6_3 : w12.frozen? ⟨go5, (x5_1 : Int).toNat * 4 + 3, none⟩ = false := hfr6 3; clear hcl6 hcc6 hfr6 hM6; replace p6 := eq_true p6; replace q6 := eq_true q6; have HX13 := am (show Kd.R k54 54 w12 w0.heap.size (fun k_ => (P0_ k_ ∨ w.heap.size ≤ k_)) (.slice (some ⟨go5, 0, none⟩) x0_1.length co10) y381 from u14_3); obtain ⟨ce13, hcl13, hM13, hcc13, hfr13⟩ := Kd.R_elem HX13.out z54 (x5_1 : Int) (of_decide_eq_true q0) (by have h_ : (x5_1 : Int) < ((x0_1.length : Int) : Int) := of_decide_eq_true q0; first | exact h_ | (have e_ := (Kd.R_reads' HO_0.out).1; omega) | simpa using h_); obtain rfl := k54_openM hM13; have HP13 := Kd.R_seg HX13.out (x5_1 : Int) (of_decide_eq_true q0) (by have h_ : (x5_1 : Int) < ((x0_1.length : Int) : Int) := of_decide_eq_true q0; first | exact h_ | (have e_ := (Kd.R_reads' HO_0.out).1; omega) | simpa using h_) (seg := [.int .i64 (wrap64 (x1_1 + 1))]) (j := 1) hcl13 hcc13 (show 2 ≤ 4 from by decide) (x' := (⟨(rd_T54 y381 x5_1).f0, wrap64 (x1_1 + 1), (rd_T54 y381 x5_1).f2, (rd_T54 y381 x5_1).f3⟩ : S54)) (k54_mkM _ _ _ (⟨(rd_T54 y381 x5_1).f0, wrap64 (x1_1 + 1), (rd_T54 y381 x5_1).f2, (rd_T54 y381 x5_1).f3⟩ : S54) ) (fun _ hk => hk); have hx13_1 := hcc13 1 _ rfl; (try simp only [show (k54).sz = 4 from rfl, Nat.mul_one, Nat.add_zero] at hx13_1); have hf13_1 := hfr13 1; (try simp only [show (k54).sz = 4 from rfl, Nat.mul_one, Nat.add_zero] at hf13_1); clear hcl13 hcc13 hfr13 hM13) | ((with_reducible refine gate_store (t := 3) (p := 23) rfl ?_); refine store_event (t := 3) (p := 23) (v := ?vo_w14) (w1 := (w12.setCell ⟨go5, (x5_1 : Int).toNat * 4 + 1, none⟩ (.int .i64 (wrap64 (x1_1 + 1))))) ?hg ?ho ?hn ?hr ?_; (case ho => rfl); (case hg => rfl); (case hn => rfl); (case hr => first | (go_simp; done) | (go_simp; rfl)); intro w14 hw; have hg : w12.grownBy w14 (some go5) := (by rw [hw]; exact HP13.2); have hp_ : Kd.R k54 54 w14 w0.heap.size (fun k_ => (P0_ k_ ∨ w.heap.size ≤ k_)) (.slice (some ⟨go5, 0, none⟩) x0_1.length co10) y382 := (by rw [hw, Ny382.out]; exact HP13.1); clear HP13; replace HB := am ((by rw [hw]; exact below_set (HB.out) GB5.out : Below w0.heap.size w0 w14)); replace HK := am (Kept.of_grown (S := (fun k_ => P0_ k_)) hg u14_1 (fun k_ e_ => (HO_0.out.1 k_ e_))); replace HO_0 := am (hp_); clear hg hw hp_; have p7 : 0 ≤ (x5_1 : Int) := of_decide_eq_true q0; have q7 : (x5_1 : Int) < ((x0_1.length : Int) : Int) := of_decide_eq_true q0; obtain ⟨ce7, hcl7, hM7, hcc7, hfr7⟩ := Kd.R_elem HO_0.out z54 (x5_1 : Int) p7 q7; obtain rfl := k54_openM hM7; have hx7_0 : w14.cell? ⟨go5, (x5_1 : Int).toNat * 4, none⟩ = some (.int .i64 ((rd_T54 y382 x5_1).f0)) := hcc7 0 _ rfl; have hx7_1 : w14.cell? ⟨go5, (x5_1 : Int).toNat * 4 + 1, none⟩ = some (.int .i64 ((rd_T54 y382 x5_1).f1)) := hcc7 1 _ rfl; have hx7_2 : w14.cell? ⟨go5, (x5_1 : Int).toNat * 4 + 2, none⟩ = some (.int .i64 ((rd_T54 y382 x5_1).f2)) := hcc7 2 _ rfl; have hx7_3 : w14.cell? ⟨go5, (x5_1 : Int).toNat * 4 + 3, none⟩ = some (.string ((rd_T54 y382 x5_1).f3)) := hcc7 3 _ rfl; have hf7_0 : w14.frozen? ⟨go5, (x5_1 : Int).toNat * 4, none⟩ = false := hfr7 0; have hf7_1 : w14.frozen? ⟨go5, (x5_1 : Int).toNat * 4 + 1, none⟩ = false := hfr7 1; have hf7_2 : w14.frozen? ⟨go5, (x5_1 : Int).toNat * 4 + 2, none⟩ = false := hfr7 2; have hf7_3 : w14.frozen? ⟨go5, (x5_1 : Int).toNat * 4 + 3, none⟩ = false := hfr7 3; clear hcl7 hcc7 hfr7 hM7; replace p7 := eq_true p7; replace q7 := eq_true q7; have HX15 := am (show Kd.R k54 54 w14 w0.heap.size (fun k_ => (P0_ k_ ∨ w.heap.size ≤ k_)) (.slice (some ⟨go5, 0, none⟩) x0_1.length co10) y382 from u14_3); obtain ⟨ce15, hcl15, hM15, hcc15, hfr15⟩ := Kd.R_elem HX15.out z54 (x5_1 : Int) (of_decide_eq_true q0) (by have h_ : (x5_1 : Int) < ((x0_1.length : Int) : Int) := of_decide_eq_true q0; first | exact h_ | (have e_ := (Kd.R_reads' HO_0.out).1; omega) | simpa using h_); obtain rfl := k54_openM hM15; have HP15 := Kd.R_seg HX15.out (x5_1 : Int) (of_decide_eq_true q0) (by have h_ : (x5_1 : Int) < ((x0_1.length : Int) : Int) := of_decide_eq_true q0; first | exact h_ | (have e_ := (Kd.R_reads' HO_0.out).1; omega) | simpa using h_) (seg := [.int .i64 (wrap64 ((wrap64 (x1_1 + 1)) + 1))]) (j := 2) hcl15 hcc15 (show 3 ≤ 4 from by decide) (x' := (⟨(rd_T54 y382 x5_1).f0, (rd_T54 y382 x5_1).f1, wrap64 ((wrap64 (x1_1 + 1)) + 1), (rd_T54 y382 x5_1).f3⟩ : S54)) (k54_mkM _ _ _ (⟨(rd_T54 y382 x5_1).f0, (rd_T54 y382 x5_1).f1, wrap64 ((wrap64 (x1_1 + 1)) + 1), (rd_T54 y382 x5_1).f3⟩ : S54) ) (fun _ hk => hk); have hx15_2 := hcc15 2 _ rfl; (try simp only [show (k54).sz = 4 from rfl, Nat.mul_one, Nat.add_zero] at hx15_2); have hf15_2 := hfr15 2; (try simp only [show (k54).sz = 4 from rfl, Nat.mul_one, Nat.add_zero] at hf15_2); clear hcl15 hcc15 hfr15 hM15) | ((with_reducible refine gate_store (t := 3) (p := 30) rfl ?_); refine store_event (t := 3) (p := 30) (v := ?vo_w16) (w1 := (w14.setCell ⟨go5, (x5_1 : Int).toNat * 4 + 2, none⟩ (.int .i64 (wrap64 ((wrap64 (x1_1 + 1)) + 1))))) ?hg ?ho ?hn ?hr ?_; (case ho => rfl); (case hg => rfl); (case hn => rfl); (case hr => first | (go_simp; done) | (go_simp; rfl)); intro w16 hw; have hg : w14.grownBy w16 (some go5) := (by rw [hw]; exact HP15.2); have hp_ : Kd.R k54 54 w16 w0.heap.size (fun k_ => (P0_ k_ ∨ w.heap.size ≤ k_)) (.slice (some ⟨go5, 0, none⟩) x0_1.length co10) y383 := (by rw [hw, Ny383.out]; exact HP15.1); clear HP15; replace HB := am ((by rw [hw]; exact below_set (HB.out) GB5.out : Below w0.heap.size w0 w16)); replace HK := am (Kept.of_grown (S := (fun k_ => P0_ k_)) hg u14_1 (fun k_ e_ => (HO_0.out.1 k_ e_))); replace HO_0 := am (hp_); clear hg hw hp_) | ((with_reducible refine gate_callee (f := 42) rfl ?_); refine goesL_ (some 36) rfl rfl Tryd.func42 kr rfl #[.int .i64 (wrap64 ((wrap64 ((wrap64 (x1_1 + 1)) + 1)) + 1))] rfl q3 ?_; (with_reducible refine (laws_markText.calls k1 (wrap64 ((wrap64 ((wrap64 (x1_1 + 1)) + 1)) + 1)) t384 _ A8.out).mono ?_); rintro e w17 ⟨rfl, hb⟩; refine ⟨_, rfl, ?_⟩; replace HO_0 := am (Kd.R_below u14_3 hb); replace HK := am (Kept.below (S := (fun k_ => P0_ k_)) u14_1 hb); replace HB := am (below_step q1 hb); (try clear hb); (try clear hb2); (try clear hk); (try clear hi); have p9 : 0 ≤ (x5_1 : Int) := of_decide_eq_true q0; have q9 : (x5_1 : Int) < ((x0_1.length : Int) : Int) := of_decide_eq_true q0; obtain ⟨ce9, hcl9, hM9, hcc9, hfr9⟩ := Kd.R_elem HO_0.out z54 (x5_1 : Int) p9 q9; obtain rfl := k54_openM hM9; have hx9_0 : w17.cell? ⟨go5, (x5_1 : Int).toNat * 4, none⟩ = some (.int .i64 ((rd_T54 y383 x5_1).f0)) := hcc9 0 _ rfl; have hx9_1 : w17.cell? ⟨go5, (x5_1 : Int).toNat * 4 + 1, none⟩ = some (.int .i64 ((rd_T54 y383 x5_1).f1)) := hcc9 1 _ rfl; have hx9_2 : w17.cell? ⟨go5, (x5_1 : Int).toNat * 4 + 2, none⟩ = some (.int .i64 ((rd_T54 y383 x5_1).f2)) := hcc9 2 _ rfl; have hx9_3 : w17.cell? ⟨go5, (x5_1 : Int).toNat * 4 + 3, none⟩ = some (.string ((rd_T54 y383 x5_1).f3)) := hcc9 3 _ rfl; have hf9_0 : w17.frozen? ⟨go5, (x5_1 : Int).toNat * 4, none⟩ = false := hfr9 0; have hf9_1 : w17.frozen? ⟨go5, (x5_1 : Int).toNat * 4 + 1, none⟩ = false := hfr9 1; have hf9_2 : w17.frozen? ⟨go5, (x5_1 : Int).toNat * 4 + 2, none⟩ = false := hfr9 2; have hf9_3 : w17.frozen? ⟨go5, (x5_1 : Int).toNat * 4 + 3, none⟩ = false := hfr9 3; clear hcl9 hcc9 hfr9 hM9; replace p9 := eq_true p9; replace q9 := eq_true q9; have HX18 := am (show Kd.R k54 54 w17 w0.heap.size (fun k_ => (P0_ k_ ∨ w.heap.size ≤ k_)) (.slice (some ⟨go5, 0, none⟩) x0_1.length co10) y383 from u14_3); obtain ⟨ce18, hcl18, hM18, hcc18, hfr18⟩ := Kd.R_elem HX18.out z54 (x5_1 : Int) (of_decide_eq_true q0) (by have h_ : (x5_1 : Int) < ((x0_1.length : Int) : Int) := of_decide_eq_true q0; first | exact h_ | (have e_ := (Kd.R_reads' HO_0.out).1; omega) | simpa using h_); obtain rfl := k54_openM hM18; have HP18 := Kd.R_seg HX18.out (x5_1 : Int) (of_decide_eq_true q0) (by have h_ : (x5_1 : Int) < ((x0_1.length : Int) : Int) := of_decide_eq_true q0; first | exact h_ | (have e_ := (Kd.R_reads' HO_0.out).1; omega) | simpa using h_) (seg := [.string t384]) (j := 3) hcl18 hcc18 (show 4 ≤ 4 from by decide) (x' := (⟨(rd_T54 y383 x5_1).f0, (rd_T54 y383 x5_1).f1, (rd_T54 y383 x5_1).f2, t384⟩ : S54)) (k54_mkM _ _ _ (⟨(rd_T54 y383 x5_1).f0, (rd_T54 y383 x5_1).f1, (rd_T54 y383 x5_1).f2, t384⟩ : S54) ) (fun _ hk => hk); have hx18_3 := hcc18 3 _ rfl; (try simp only [show (k54).sz = 4 from rfl, Nat.mul_one, Nat.add_zero] at hx18_3); have hf18_3 := hfr18 3; (try simp only [show (k54).sz = 4 from rfl, Nat.mul_one, Nat.add_zero] at hf18_3); clear hcl18 hcc18 hfr18 hM18) | ((with_reducible refine gate_store (t := 9) (p := 38) rfl ?_); refine store_event (t := 9) (p := 38) (v := ?vo_w19) (w1 := (w17.setCell ⟨go5, (x5_1 : Int).toNat * 4 + 3, none⟩ (.string t384))) ?hg ?ho ?hn ?hr ?_; (case ho => rfl); (case hg => rfl); (case hn => rfl); (case hr => first | (go_simp; done) | (go_simp; rfl)); intro w19 hw; have hg : w17.grownBy w19 (some go5) := (by rw [hw]; exact HP18.2); have hp_ : Kd.R k54 54 w19 w0.heap.size (fun k_ => (P0_ k_ ∨ w.heap.size ≤ k_)) (.slice (some ⟨go5, 0, none⟩) x0_1.length co10) y385 := (by rw [hw, Ny385.out]; exact HP18.1); clear HP18; replace HB := am ((by rw [hw]; exact below_set (HB.out) GB5.out : Below w0.heap.size w0 w19)); replace HK := am (Kept.of_grown (S := (fun k_ => P0_ k_)) hg u14_1 (fun k_ e_ => (HO_0.out.1 k_ e_))); replace HO_0 := am (hp_); clear hg hw hp_))
   go_roundg k1
   case measure => have := HK1.out; omega
   case rel => exact ⟨(y385), (wrap64 ((wrap64 ((wrap64 ((wrap64 (x1_1 + 1)) + 1)) + 1)) + 1)), (wrap64 (x5_1 + 1)), q2, q2, H', ⟨by have := HK1.out; omega⟩, ⟨u14_3⟩, ⟨u14_1⟩, ⟨q1⟩⟩

/-! ### laws_markSessions: function 15 -/
def laws_markSessions.f (k : Nat) (a0_0 : Int) (a0_1 : Int) (l0_2 : List (S54)) (a1 : Int) : Option (Int × (List (S54))) := (laws_markSessionS.f k l0_2 a1).bind fun bt387 => (some (bt387.1, bt387.2))
theorem laws_markSessions.mono : ∀ a0 a1 a2 a3 k, LeO (laws_markSessions.f k a0 a1 a2 a3) (laws_markSessions.f (k + 1) a0 a1 a2 a3) := by
 intro a0 a1 a2 a3 k
 unfold laws_markSessions.f
 repeat' first
     | (with_reducible exact laws_markSessionS.mono _ _ _)
     | (with_reducible exact LeO.refl _)
     | (with_reducible exact LeO.none _)
     | (with_reducible refine LeO.ite ?_ ?_)
     | (with_reducible refine LeO.bind ?_ (fun _ => ?_))
     | exact laws_markSessionS.mono _ _ _
     | exact LeO.none _
     | refine LeO.ite ?_ ?_
     | refine LeO.bind ?_ (fun _ => ?_)
set_option maxHeartbeats 8000000 in
set_option maxRecDepth 100000 in
theorem laws_markSessions.calls (k : Nat) (a0_0 : Int) (a0_1 : Int) (P0_2_ : Nat → Prop) (u9000_ : Value) (l0_2 : List (S54)) (a1 : Int) (r1 : Int) (r2 : List (S54)) (w0 w : World) (hB : Below w0.heap.size w0 w) (ho0_2 : Kd.R k54 54 w w0.heap.size P0_2_ u9000_ l0_2) (h : laws_markSessions.f k a0_0 a0_1 l0_2 a1 = some (r1, r2)) :
   Calls Tryd.prog 15 #[.agg #[.int .i64 a0_0, .int .i64 a0_1, u9000_], .int .i64 a1] w fun e w' => e = .returned (.int .i64 r1) ∧ Kd.R k54 54 w' w0.heap.size (fun k_ => (P0_2_ k_ ∨ w.heap.size ≤ k_)) u9000_ r2 ∧ Below w0.heap.size w0 w' ∧ Kept w w' (fun k_ => P0_2_ k_) := by
 have hu30 := Tryd.underlying30
 have HO0_2 := am (show Kd.R k54 54 w w0.heap.size (fun k_ => (P0_2_ k_ ∨ w.heap.size ≤ k_)) u9000_ l0_2 from Kd.R_mono ho0_2 (fun k_ hk => (.inl hk)))
 have HK := am (Kept.refl w (fun k_ => P0_2_ k_))
 have HW0 := am hB.size
 have HB := am hB
 clear hB
 have H : ((laws_markSessionS.f k l0_2 a1).bind fun bt387 => (some (bt387.1, bt387.2))) = some (r1, r2) := h
 clear h
 replace H := Option.bind_eq_some_iff.mp H
 obtain ⟨⟨t387, t388⟩, A30, H⟩ := H
 replace H : (some (t387, t388)) = some (r1, r2) := H
 have A3 := am A30
 clear A30
 simp only [Option.some.injEq, Prod.mk.injEq] at H
 obtain ⟨rfl, rfl⟩ := H
 obtain ⟨Ao4, co4, eo4⟩ := Kd.R_slice HO0_2.out
 subst eo4
 go_enter Tryd.func15, Tryd.ntmps15
 go_wp2_with (first | ((with_reducible refine gate_dst (N := 2) rfl ?_); refine box_event ?hg (N := 2) ?hd (cs := #[.int .i64 a0_0, .int .i64 a0_1, .slice Ao4 l0_2.length co4]) (t := 30) ?hr ?_; (case hd => rfl); (case hg => rfl); (case hr => first | (go_simp; done) | (go_simp; rfl)); intro gb386 hg w5 hbox hb; replace HO0_2 := am (Kd.R_below u14_9 hb); have BK386 := am (hbox); have GW386 := am ((by rw [hg]; exact (by first | exact HK.out.1 | exact (show Kept w _ (fun k_ => P0_2_ k_) from by repeat (first | (with_reducible first | exact HK.out | apply Kept.alloc | apply Kept.drewN | apply Kept.drew) | exact HK.out)).1) : w.heap.size ≤ gb386)); replace HK := am (Kept.below (S := (fun k_ => P0_2_ k_)) u14_1 hb); have GE386 := am ((by rw [hg]; exact (below_size q1) : w0.heap.size ≤ gb386)); replace HB := am (below_step q1 hb); clear hb hbox hg; obtain ⟨hcz6_0, hcz6_1, hcz6_2, hfz6_0, hfz6_1, hfz6_2⟩ := bc3f w5 BK386.out) | ((with_reducible refine gate_callee (f := 41) rfl ?_); refine goesL_ (some 8) rfl rfl Tryd.func41 kr rfl #[.slice Ao4 l0_2.length co4, .int .i64 a1] rfl q3 ?_; (with_reducible refine (laws_markSessionS.calls k (fun k_ => some k_ = (.slice Ao4 l0_2.length co4 : Value).ownBlock) (.slice Ao4 l0_2.length co4) l0_2 a1 t387 t388 w0 _ ?side1 ?side2 A3.out).mono ?_); (case side1 => exact q1); (case side2 => exact Kd.R_tight rfl HO0_2.out); rintro e w7 ⟨rfl, hy0, hb, hkp⟩; refine ⟨_, rfl, ?_⟩; replace BK386 := am (blk_kept (by (with_reducible repeat (first | refine blk_drewN ?_ _ | refine blk_drew ?_ | refine blk_alloc ?_ _)); exact BK386.out) hkp (fun hs_ => (fun e_ => (Kd.R_ne HO0_2.out BK386.out (by decide)) e_) hs_)); replace HK := am (Kept.then_ (S := (fun k_ => P0_2_ k_)) u14_7 hkp (fun k_ hs_ => (fun e_ => (HO0_2.out.1 k_ e_.symm)) hs_)); replace HO0_2 := am (Kd.R_reok rfl hy0 (fun k_ e_ => HO0_2.out.1 k_ e_)); replace HB := am (hb); (try clear hb); (try clear hkp); (try clear hy0)))
 go_ret
 exact ⟨er, u14_9, q1, u14_7⟩

/-! ### laws_markSessionCallS: function 16 -/
def laws_markSessionCallS.l0 : Nat → List (S50) → Int → Int → Option (Int × (List (S50)))
 | 0, _, _, _ => none
 | k + 1, x0, x1, x5 => if x5 < (x0.length : Int) then (if 0 ≤ x5 then ((some (x0.set (x5 : Int).toNat (⟨x1, (rd_T50 x0 x5).f1, (rd_T50 x0 x5).f2⟩ : S50) : List (S50))).bind fun y389 => ((some (y389.set (x5 : Int).toNat (⟨(rd_T50 y389 x5).f0, wrap64 (x1 + 1), (rd_T50 y389 x5).f2⟩ : S50) : List (S50))).bind fun y390 => ((laws_markText.f k (wrap64 ((wrap64 (x1 + 1)) + 1))).bind fun t391 => (laws_markSessionCallS.l0 k (y390.set (x5 : Int).toNat (⟨(rd_T50 y390 x5).f0, (rd_T50 y390 x5).f1, t391⟩ : S50)) (wrap64 ((wrap64 ((wrap64 (x1 + 1)) + 1)) + 1)) (wrap64 (x5 + 1)))))) else (none)) else (some (x1, x0))
def laws_markSessionCallS.f (k : Nat) (l0 : List (S50)) (a1 : Int) : Option (Int × (List (S50))) := laws_markSessionCallS.l0 k l0 a1 0
theorem laws_markSessionCallS.mono_l : ∀ k, (∀ y0 y1 y2, LeO (laws_markSessionCallS.l0 k y0 y1 y2) (laws_markSessionCallS.l0 (k + 1) y0 y1 y2))
 | 0 => fun _ _ _ r h => by simp [laws_markSessionCallS.l0] at h
 | k + 1 => by
   have ih0 := laws_markSessionCallS.mono_l k
   · intro y0 y1 y2
     unfold laws_markSessionCallS.l0
     repeat' first
     | (with_reducible exact ih0 _ _ _)
     | (with_reducible exact laws_markText.mono _ _)
     | (with_reducible exact LeO.refl _)
     | (with_reducible exact LeO.none _)
     | (with_reducible refine LeO.ite ?_ ?_)
     | (with_reducible refine LeO.bind ?_ (fun _ => ?_))
     | exact ih0 _ _ _
     | exact laws_markText.mono _ _
     | exact LeO.none _
     | refine LeO.ite ?_ ?_
     | refine LeO.bind ?_ (fun _ => ?_)
theorem laws_markSessionCallS.mono : ∀ a0 a1 k, LeO (laws_markSessionCallS.f k a0 a1) (laws_markSessionCallS.f (k + 1) a0 a1) := by
 intro a0 a1 k
 have ih0 := laws_markSessionCallS.mono_l k
 unfold laws_markSessionCallS.f
 repeat' first
     | (with_reducible exact ih0 _ _ _)
     | (with_reducible exact laws_markText.mono _ _)
     | (with_reducible exact LeO.refl _)
     | (with_reducible exact LeO.none _)
     | (with_reducible refine LeO.ite ?_ ?_)
     | (with_reducible refine LeO.bind ?_ (fun _ => ?_))
     | exact ih0 _ _ _
     | exact laws_markText.mono _ _
     | exact LeO.none _
     | refine LeO.ite ?_ ?_
     | refine LeO.bind ?_ (fun _ => ?_)
set_option maxHeartbeats 8000000 in
set_option maxRecDepth 100000 in
theorem laws_markSessionCallS.calls (k : Nat) (P0_ : Nat → Prop) (u9000_ : Value) (l0 : List (S50)) (a1 : Int) (r1 : Int) (r2 : List (S50)) (w0 w : World) (hB : Below w0.heap.size w0 w) (ho0 : Kd.R k50 50 w w0.heap.size P0_ u9000_ l0) (h : laws_markSessionCallS.f k l0 a1 = some (r1, r2)) :
   Calls Tryd.prog 16 #[u9000_, .int .i64 a1] w fun e w' => e = .returned (.int .i64 r1) ∧ Kd.R k50 50 w' w0.heap.size (fun k_ => (P0_ k_ ∨ w.heap.size ≤ k_)) u9000_ r2 ∧ Below w0.heap.size w0 w' ∧ Kept w w' (fun k_ => P0_ k_) := by
 have HO0 := am (show Kd.R k50 50 w w0.heap.size (fun k_ => (P0_ k_ ∨ w.heap.size ≤ k_)) u9000_ l0 from Kd.R_mono ho0 (fun k_ hk => (.inl hk)))
 have HK := am (Kept.refl w (fun k_ => P0_ k_))
 have HW0 := am hB.size
 have HB := am hB
 clear hB
 have H : (laws_markSessionCallS.l0 k l0 a1 0) = some (r1, r2) := h
 clear h
 have H' := am H
 clear H
 go_enter Tryd.func16, Tryd.ntmps16
 go_wp2
 go_loopg [1, 5] k (fun kq v1 v5 w' => ∃ (x0_1 : List (S50)) (x1_1 : Int) (x5_1 : Int), v1 = .int .i64 x1_1 ∧ v5 = .int .i64 x5_1 ∧ Aside0 (laws_markSessionCallS.l0 kq x0_1 x1_1 x5_1 = some (r1, r2)) ∧ Aside0 (kq ≤ k) ∧ Aside0 (Kd.R k50 50 w' w0.heap.size (fun k_ => (P0_ k_ ∨ w.heap.size ≤ k_)) u9000_ x0_1) ∧ Aside0 (Kept w w' (fun k_ => P0_ k_)) ∧ Aside0 (Below w0.heap.size w0 w'))
 case atStart => exact ⟨(l0), (a1), (0), q2, q2, H', ⟨Nat.le_refl _⟩, ⟨u14_6⟩, ⟨u14_1⟩, ⟨q1⟩⟩
 clear H'
 obtain ⟨x0_1, x1_1, x5_1, rfl, rfl, HA, HK1, HO_0, HK, HB⟩ := hrel
 cases gk with
 | zero => exact absurd HA.out (by simp [laws_markSessionCallS.l0])
 | succ k1 =>
   have H := HA.out
   clear HA
   simp only [laws_markSessionCallS.l0] at H
   by_cases c3 : x5_1 < (x0_1.length : Int)
   rotate_left
   · rw [if_neg c3] at H
     have c3b0 : decide (x5_1 < (x0_1.length : Int)) = false := decide_eq_false c3
     clear c3
     simp only [Option.some.injEq, Prod.mk.injEq] at H
     obtain ⟨rfl, rfl⟩ := H
     obtain ⟨Ao17, co17, eo17⟩ := Kd.R_slice HO_0.out
     subst eo17
     go_wp2
     go_ret
     exact ⟨er, u14_3, q1, u14_1⟩
   rw [if_pos c3] at H
   have c3b0 : decide (x5_1 < (x0_1.length : Int)) = true := decide_eq_true c3
   clear c3
   by_cases c4 : 0 ≤ x5_1
   rotate_left
   · rw [if_neg c4] at H
     exact absurd H (by simp)
   rw [if_pos c4] at H
   have c4b0 : decide (0 ≤ x5_1) = true := decide_eq_true c4
   clear c4
   obtain ⟨y389, hy389⟩ : ∃ y_ : List (S50), y_ = (x0_1.set (x5_1 : Int).toNat (⟨x1_1, (rd_T50 x0_1 x5_1).f1, (rd_T50 x0_1 x5_1).f2⟩ : S50)) := ⟨_, rfl⟩
   replace H : ((some (y389.set (x5_1 : Int).toNat (⟨(rd_T50 y389 x5_1).f0, wrap64 (x1_1 + 1), (rd_T50 y389 x5_1).f2⟩ : S50) : List (S50))).bind fun y390 => ((laws_markText.f k1 (wrap64 ((wrap64 (x1_1 + 1)) + 1))).bind fun t391 => (laws_markSessionCallS.l0 k1 (y390.set (x5_1 : Int).toNat (⟨(rd_T50 y390 x5_1).f0, (rd_T50 y390 x5_1).f1, t391⟩ : S50)) (wrap64 ((wrap64 ((wrap64 (x1_1 + 1)) + 1)) + 1)) (wrap64 (x5_1 + 1))))) = some (r1, r2) := by first | (rw [hy389]; with_reducible exact H) | (have H2_ := (Option.bind_some _ _).symm.trans H; rw [hy389]; with_reducible exact H2_) | (have H2_ := (Option.bind_some _ _).symm.trans H; with_reducible exact H2_) | with_reducible exact H | (rw [hy389]; exact H) | exact H
   have Ny389 := am hy389
   clear hy389
   obtain ⟨y390, hy390⟩ : ∃ y_ : List (S50), y_ = (y389.set (x5_1 : Int).toNat (⟨(rd_T50 y389 x5_1).f0, wrap64 (x1_1 + 1), (rd_T50 y389 x5_1).f2⟩ : S50)) := ⟨_, rfl⟩
   replace H : ((laws_markText.f k1 (wrap64 ((wrap64 (x1_1 + 1)) + 1))).bind fun t391 => (laws_markSessionCallS.l0 k1 (y390.set (x5_1 : Int).toNat (⟨(rd_T50 y390 x5_1).f0, (rd_T50 y390 x5_1).f1, t391⟩ : S50)) (wrap64 ((wrap64 ((wrap64 (x1_1 + 1)) + 1)) + 1)) (wrap64 (x5_1 + 1)))) = some (r1, r2) := by first | (rw [hy390]; with_reducible exact H) | (have H2_ := (Option.bind_some _ _).symm.trans H; rw [hy390]; with_reducible exact H2_) | (have H2_ := (Option.bind_some _ _).symm.trans H; with_reducible exact H2_) | with_reducible exact H | (rw [hy390]; exact H) | exact H
   have Ny390 := am hy390
   clear hy390
   replace H := Option.bind_eq_some_iff.mp H
   obtain ⟨t391, A70, H⟩ := H
   have A7 := am A70
   clear A70
   obtain ⟨y392, hy392⟩ : ∃ y_ : List (S50), y_ = (y390.set (x5_1 : Int).toNat (⟨(rd_T50 y390 x5_1).f0, (rd_T50 y390 x5_1).f1, t391⟩ : S50)) := ⟨_, rfl⟩
   replace H : (laws_markSessionCallS.l0 k1 y392 (wrap64 ((wrap64 ((wrap64 (x1_1 + 1)) + 1)) + 1)) (wrap64 (x5_1 + 1))) = some (r1, r2) := by first | (rw [hy392]; with_reducible exact H) | (have H2_ := (Option.bind_some _ _).symm.trans H; rw [hy392]; with_reducible exact H2_) | (have H2_ := (Option.bind_some _ _).symm.trans H; with_reducible exact H2_) | with_reducible exact H | (rw [hy392]; exact H) | exact H
   have Ny392 := am hy392
   clear hy392
   have H' := am H
   clear H
   obtain ⟨Ao9, co9, eo9⟩ := Kd.R_slice HO_0.out
   subst eo9
   have p5 : 0 ≤ (x5_1 : Int) := of_decide_eq_true q0
   have q5 : (x5_1 : Int) < ((x0_1.length : Int) : Int) := of_decide_eq_true q0
   obtain ⟨go5, co5, eo5, gb5, gl5, cl5, HG5⟩ := Kd.R_form HO_0.out (by omega)
   (first | cases eo5 | (injection eo5 with ea_ en_ ec_; (first | subst ea_ | (injection ea_ with ea_; subst ea_)); subst ec_; clear en_))
   have GB5 := am gb5
   have GG5 := am HG5
   clear gb5 gl5 HG5
   have HMgo5 := am (show (P0_ go5 ∨ w.heap.size ≤ go5) from (HO_0.out.1 _ rfl))
   obtain ⟨ce5, hcl5, hM5, hcc5, hfr5⟩ := Kd.R_elem HO_0.out z50 (x5_1 : Int) p5 q5
   obtain rfl := k50_openM hM5
   have hx5_0 : wr.cell? ⟨go5, (x5_1 : Int).toNat * 3, none⟩ = some (.int .i64 ((rd_T50 x0_1 x5_1).f0)) := hcc5 0 _ rfl
   have hx5_1 : wr.cell? ⟨go5, (x5_1 : Int).toNat * 3 + 1, none⟩ = some (.int .i64 ((rd_T50 x0_1 x5_1).f1)) := hcc5 1 _ rfl
   have hx5_2 : wr.cell? ⟨go5, (x5_1 : Int).toNat * 3 + 2, none⟩ = some (.string ((rd_T50 x0_1 x5_1).f2)) := hcc5 2 _ rfl
   have hf5_0 : wr.frozen? ⟨go5, (x5_1 : Int).toNat * 3, none⟩ = false := hfr5 0
   have hf5_1 : wr.frozen? ⟨go5, (x5_1 : Int).toNat * 3 + 1, none⟩ = false := hfr5 1
   have hf5_2 : wr.frozen? ⟨go5, (x5_1 : Int).toNat * 3 + 2, none⟩ = false := hfr5 2
   clear hcl5 hcc5 hfr5 hM5
   replace p5 := eq_true p5
   replace q5 := eq_true q5
   have HX10 := am (show Kd.R k50 50 wr w0.heap.size (fun k_ => (P0_ k_ ∨ w.heap.size ≤ k_)) (.slice (some ⟨go5, 0, none⟩) x0_1.length co9) x0_1 from u14_3)
   obtain ⟨ce10, hcl10, hM10, hcc10, hfr10⟩ := Kd.R_elem HX10.out z50 (x5_1 : Int) (of_decide_eq_true q0) (by have h_ : (x5_1 : Int) < ((x0_1.length : Int) : Int) := of_decide_eq_true q0; first | exact h_ | (have e_ := (Kd.R_reads' HO_0.out).1; omega) | simpa using h_)
   obtain rfl := k50_openM hM10
   have HP10 := Kd.R_seg HX10.out (x5_1 : Int) (of_decide_eq_true q0) (by have h_ : (x5_1 : Int) < ((x0_1.length : Int) : Int) := of_decide_eq_true q0; first | exact h_ | (have e_ := (Kd.R_reads' HO_0.out).1; omega) | simpa using h_) (seg := [.int .i64 x1_1]) (j := 0) hcl10 hcc10 (show 1 ≤ 3 from by decide) (x' := (⟨x1_1, (rd_T50 x0_1 x5_1).f1, (rd_T50 x0_1 x5_1).f2⟩ : S50)) (k50_mkM _ _ _ (⟨x1_1, (rd_T50 x0_1 x5_1).f1, (rd_T50 x0_1 x5_1).f2⟩ : S50) ) (fun _ hk => hk)
   have hx10_0 := hcc10 0 _ rfl
   (try simp only [show (k50).sz = 3 from rfl, Nat.mul_one, Nat.add_zero] at hx10_0)
   have hf10_0 := hfr10 0
   (try simp only [show (k50).sz = 3 from rfl, Nat.mul_one, Nat.add_zero] at hf10_0)
   clear hcl10 hcc10 hfr10 hM10
   go_wp2_with (first | ((with_reducible refine gate_store (t := 3) (p := 16) rfl ?_); refine store_event (t := 3) (p := 16) (v := ?vo_w11) (w1 := (wr.setCell ⟨go5, (x5_1 : Int).toNat * 3, none⟩ (.int .i64 x1_1))) ?hg ?ho ?hn ?hr ?_; (case ho => rfl); (case hg => rfl); (case hn => rfl); (case hr => first | (go_simp; done) | (go_simp; rfl)); intro w11 hw; have hg : wr.grownBy w11 (some go5) := (by rw [hw]; exact HP10.2); have hp_ : Kd.R k50 50 w11 w0.heap.size (fun k_ => (P0_ k_ ∨ w.heap.size ≤ k_)) (.slice (some ⟨go5, 0, none⟩) x0_1.length co9) y389 := (by rw [hw, Ny389.out]; exact HP10.1); clear HP10; replace HB := am ((by rw [hw]; exact below_set (HB.out) GB5.out : Below w0.heap.size w0 w11)); replace HK := am (Kept.of_grown (S := (fun k_ => P0_ k_)) hg u14_1 (fun k_ e_ => (HO_0.out.1 k_ e_))); replace HO_0 := am (hp_); clear hg hw hp_; have p6 : 0 ≤ (x5_1 : Int) := of_decide_eq_true q0; have q6 : (x5_1 : Int) < ((x0_1.length : Int) : Int) := of_decide_eq_true q0; obtain ⟨ce6, hcl6, hM6, hcc6, hfr6⟩ := Kd.R_elem HO_0.out z50 (x5_1 : Int) p6 q6; obtain rfl := k50_openM hM6; have hx6_0 : w11.cell? ⟨go5, (x5_1 : Int).toNat * 3, none⟩ = some (.int .i64 ((rd_T50 y389 x5_1).f0)) := hcc6 0 _ rfl; have hx6_1 : w11.cell? ⟨go5, (x5_1 : Int).toNat * 3 + 1, none⟩ = some (.int .i64 ((rd_T50 y389 x5_1).f1)) := hcc6 1 _ rfl; have hx6_2 : w11.cell? ⟨go5, (x5_1 : Int).toNat * 3 + 2, none⟩ = some (.string ((rd_T50 y389 x5_1).f2)) := hcc6 2 _ rfl; have hf6_0 : w11.frozen? ⟨go5, (x5_1 : Int).toNat * 3, none⟩ = false := hfr6 0; have hf6_1 : w11.frozen? ⟨go5, (x5_1 : Int).toNat * 3 + 1, none⟩ = false := hfr6 1; have hf6_2 : w11.frozen? ⟨go5, (x5_1 : Int).toNat * 3 + 2, none⟩ = false := hfr6 2; clear hcl6 hcc6 hfr6 hM6; replace p6 := eq_true p6; replace q6 := eq_true q6; have HX12 := am (show Kd.R k50 50 w11 w0.heap.size (fun k_ => (P0_ k_ ∨ w.heap.size ≤ k_)) (.slice (some ⟨go5, 0, none⟩) x0_1.length co9) y389 from u14_3); obtain ⟨ce12, hcl12, hM12, hcc12, hfr12⟩ := Kd.R_elem HX12.out z50 (x5_1 : Int) (of_decide_eq_true q0) (by have h_ : (x5_1 : Int) < ((x0_1.length : Int) : Int) := of_decide_eq_true q0; first | exact h_ | (have e_ := (Kd.R_reads' HO_0.out).1; omega) | simpa using h_); obtain rfl := k50_openM hM12; have HP12 := Kd.R_seg HX12.out (x5_1 : Int) (of_decide_eq_true q0) (by have h_ : (x5_1 : Int) < ((x0_1.length : Int) : Int) := of_decide_eq_true q0; first | exact h_ | (have e_ := (Kd.R_reads' HO_0.out).1; omega) | simpa using h_) (seg := [.int .i64 (wrap64 (x1_1 + 1))]) (j := 1) hcl12 hcc12 (show 2 ≤ 3 from by decide) (x' := (⟨(rd_T50 y389 x5_1).f0, wrap64 (x1_1 + 1), (rd_T50 y389 x5_1).f2⟩ : S50)) (k50_mkM _ _ _ (⟨(rd_T50 y389 x5_1).f0, wrap64 (x1_1 + 1), (rd_T50 y389 x5_1).f2⟩ : S50) ) (fun _ hk => hk); have hx12_1 := hcc12 1 _ rfl; (try simp only [show (k50).sz = 3 from rfl, Nat.mul_one, Nat.add_zero] at hx12_1); have hf12_1 := hfr12 1; (try simp only [show (k50).sz = 3 from rfl, Nat.mul_one, Nat.add_zero] at hf12_1); clear hcl12 hcc12 hfr12 hM12) | ((with_reducible refine gate_store (t := 3) (p := 23) rfl ?_); refine store_event (t := 3) (p := 23) (v := ?vo_w13) (w1 := (w11.setCell ⟨go5, (x5_1 : Int).toNat * 3 + 1, none⟩ (.int .i64 (wrap64 (x1_1 + 1))))) ?hg ?ho ?hn ?hr ?_; (case ho => rfl); (case hg => rfl); (case hn => rfl); (case hr => first | (go_simp; done) | (go_simp; rfl)); intro w13 hw; have hg : w11.grownBy w13 (some go5) := (by rw [hw]; exact HP12.2); have hp_ : Kd.R k50 50 w13 w0.heap.size (fun k_ => (P0_ k_ ∨ w.heap.size ≤ k_)) (.slice (some ⟨go5, 0, none⟩) x0_1.length co9) y390 := (by rw [hw, Ny390.out]; exact HP12.1); clear HP12; replace HB := am ((by rw [hw]; exact below_set (HB.out) GB5.out : Below w0.heap.size w0 w13)); replace HK := am (Kept.of_grown (S := (fun k_ => P0_ k_)) hg u14_1 (fun k_ e_ => (HO_0.out.1 k_ e_))); replace HO_0 := am (hp_); clear hg hw hp_) | ((with_reducible refine gate_callee (f := 42) rfl ?_); refine goesL_ (some 29) rfl rfl Tryd.func42 kr rfl #[.int .i64 (wrap64 ((wrap64 (x1_1 + 1)) + 1))] rfl q3 ?_; (with_reducible refine (laws_markText.calls k1 (wrap64 ((wrap64 (x1_1 + 1)) + 1)) t391 _ A7.out).mono ?_); rintro e w14 ⟨rfl, hb⟩; refine ⟨_, rfl, ?_⟩; replace HO_0 := am (Kd.R_below u14_3 hb); replace HK := am (Kept.below (S := (fun k_ => P0_ k_)) u14_1 hb); replace HB := am (below_step q1 hb); (try clear hb); (try clear hb2); (try clear hk); (try clear hi); have p8 : 0 ≤ (x5_1 : Int) := of_decide_eq_true q0; have q8 : (x5_1 : Int) < ((x0_1.length : Int) : Int) := of_decide_eq_true q0; obtain ⟨ce8, hcl8, hM8, hcc8, hfr8⟩ := Kd.R_elem HO_0.out z50 (x5_1 : Int) p8 q8; obtain rfl := k50_openM hM8; have hx8_0 : w14.cell? ⟨go5, (x5_1 : Int).toNat * 3, none⟩ = some (.int .i64 ((rd_T50 y390 x5_1).f0)) := hcc8 0 _ rfl; have hx8_1 : w14.cell? ⟨go5, (x5_1 : Int).toNat * 3 + 1, none⟩ = some (.int .i64 ((rd_T50 y390 x5_1).f1)) := hcc8 1 _ rfl; have hx8_2 : w14.cell? ⟨go5, (x5_1 : Int).toNat * 3 + 2, none⟩ = some (.string ((rd_T50 y390 x5_1).f2)) := hcc8 2 _ rfl; have hf8_0 : w14.frozen? ⟨go5, (x5_1 : Int).toNat * 3, none⟩ = false := hfr8 0; have hf8_1 : w14.frozen? ⟨go5, (x5_1 : Int).toNat * 3 + 1, none⟩ = false := hfr8 1; have hf8_2 : w14.frozen? ⟨go5, (x5_1 : Int).toNat * 3 + 2, none⟩ = false := hfr8 2; clear hcl8 hcc8 hfr8 hM8; replace p8 := eq_true p8; replace q8 := eq_true q8; have HX15 := am (show Kd.R k50 50 w14 w0.heap.size (fun k_ => (P0_ k_ ∨ w.heap.size ≤ k_)) (.slice (some ⟨go5, 0, none⟩) x0_1.length co9) y390 from u14_3); obtain ⟨ce15, hcl15, hM15, hcc15, hfr15⟩ := Kd.R_elem HX15.out z50 (x5_1 : Int) (of_decide_eq_true q0) (by have h_ : (x5_1 : Int) < ((x0_1.length : Int) : Int) := of_decide_eq_true q0; first | exact h_ | (have e_ := (Kd.R_reads' HO_0.out).1; omega) | simpa using h_); obtain rfl := k50_openM hM15; have HP15 := Kd.R_seg HX15.out (x5_1 : Int) (of_decide_eq_true q0) (by have h_ : (x5_1 : Int) < ((x0_1.length : Int) : Int) := of_decide_eq_true q0; first | exact h_ | (have e_ := (Kd.R_reads' HO_0.out).1; omega) | simpa using h_) (seg := [.string t391]) (j := 2) hcl15 hcc15 (show 3 ≤ 3 from by decide) (x' := (⟨(rd_T50 y390 x5_1).f0, (rd_T50 y390 x5_1).f1, t391⟩ : S50)) (k50_mkM _ _ _ (⟨(rd_T50 y390 x5_1).f0, (rd_T50 y390 x5_1).f1, t391⟩ : S50) ) (fun _ hk => hk); have hx15_2 := hcc15 2 _ rfl; (try simp only [show (k50).sz = 3 from rfl, Nat.mul_one, Nat.add_zero] at hx15_2); have hf15_2 := hfr15 2; (try simp only [show (k50).sz = 3 from rfl, Nat.mul_one, Nat.add_zero] at hf15_2); clear hcl15 hcc15 hfr15 hM15) | ((with_reducible refine gate_store (t := 9) (p := 31) rfl ?_); refine store_event (t := 9) (p := 31) (v := ?vo_w16) (w1 := (w14.setCell ⟨go5, (x5_1 : Int).toNat * 3 + 2, none⟩ (.string t391))) ?hg ?ho ?hn ?hr ?_; (case ho => rfl); (case hg => rfl); (case hn => rfl); (case hr => first | (go_simp; done) | (go_simp; rfl)); intro w16 hw; have hg : w14.grownBy w16 (some go5) := (by rw [hw]; exact HP15.2); have hp_ : Kd.R k50 50 w16 w0.heap.size (fun k_ => (P0_ k_ ∨ w.heap.size ≤ k_)) (.slice (some ⟨go5, 0, none⟩) x0_1.length co9) y392 := (by rw [hw, Ny392.out]; exact HP15.1); clear HP15; replace HB := am ((by rw [hw]; exact below_set (HB.out) GB5.out : Below w0.heap.size w0 w16)); replace HK := am (Kept.of_grown (S := (fun k_ => P0_ k_)) hg u14_1 (fun k_ e_ => (HO_0.out.1 k_ e_))); replace HO_0 := am (hp_); clear hg hw hp_))
   go_roundg k1
   case measure => have := HK1.out; omega
   case rel => exact ⟨(y392), (wrap64 ((wrap64 ((wrap64 (x1_1 + 1)) + 1)) + 1)), (wrap64 (x5_1 + 1)), q2, q2, H', ⟨by have := HK1.out; omega⟩, ⟨u14_3⟩, ⟨u14_1⟩, ⟨q1⟩⟩

/-! ### laws_markStringS: function 17 -/
def laws_markStringS.l0 : Nat → List ByteArray → Int → Int → Option (Int × List ByteArray)
 | 0, _, _, _ => none
 | k + 1, x0, x1, x5 => if x5 < (x0.length : Int) then ((laws_markText.f k x1).bind fun t393 => (if 0 ≤ x5 then (laws_markStringS.l0 k (x0.set (x5 : Int).toNat t393) (wrap64 (x1 + 1)) (wrap64 (x5 + 1))) else (none))) else (some (x1, x0))
def laws_markStringS.f (k : Nat) (l0 : List ByteArray) (a1 : Int) : Option (Int × List ByteArray) := laws_markStringS.l0 k l0 a1 0
theorem laws_markStringS.mono_l : ∀ k, (∀ y0 y1 y2, LeO (laws_markStringS.l0 k y0 y1 y2) (laws_markStringS.l0 (k + 1) y0 y1 y2))
 | 0 => fun _ _ _ r h => by simp [laws_markStringS.l0] at h
 | k + 1 => by
   have ih0 := laws_markStringS.mono_l k
   · intro y0 y1 y2
     unfold laws_markStringS.l0
     repeat' first
     | (with_reducible exact ih0 _ _ _)
     | (with_reducible exact laws_markText.mono _ _)
     | (with_reducible exact LeO.refl _)
     | (with_reducible exact LeO.none _)
     | (with_reducible refine LeO.ite ?_ ?_)
     | (with_reducible refine LeO.bind ?_ (fun _ => ?_))
     | exact ih0 _ _ _
     | exact laws_markText.mono _ _
     | exact LeO.none _
     | refine LeO.ite ?_ ?_
     | refine LeO.bind ?_ (fun _ => ?_)
theorem laws_markStringS.mono : ∀ a0 a1 k, LeO (laws_markStringS.f k a0 a1) (laws_markStringS.f (k + 1) a0 a1) := by
 intro a0 a1 k
 have ih0 := laws_markStringS.mono_l k
 unfold laws_markStringS.f
 repeat' first
     | (with_reducible exact ih0 _ _ _)
     | (with_reducible exact laws_markText.mono _ _)
     | (with_reducible exact LeO.refl _)
     | (with_reducible exact LeO.none _)
     | (with_reducible refine LeO.ite ?_ ?_)
     | (with_reducible refine LeO.bind ?_ (fun _ => ?_))
     | exact ih0 _ _ _
     | exact laws_markText.mono _ _
     | exact LeO.none _
     | refine LeO.ite ?_ ?_
     | refine LeO.bind ?_ (fun _ => ?_)
set_option maxHeartbeats 8000000 in
set_option maxRecDepth 100000 in
theorem laws_markStringS.calls (k : Nat) (P0_ : Nat → Prop) (u9000_ : Value) (l0 : List ByteArray) (a1 : Int) (r1 : Int) (r2 : List ByteArray) (w0 w : World) (hB : Below w0.heap.size w0 w) (ho0 : Kd.R Kd.string 9 w w0.heap.size P0_ u9000_ l0) (h : laws_markStringS.f k l0 a1 = some (r1, r2)) :
   Calls Tryd.prog 17 #[u9000_, .int .i64 a1] w fun e w' => e = .returned (.int .i64 r1) ∧ Kd.R Kd.string 9 w' w0.heap.size (fun k_ => (P0_ k_ ∨ w.heap.size ≤ k_)) u9000_ r2 ∧ Below w0.heap.size w0 w' ∧ Kept w w' (fun k_ => P0_ k_) := by
 have HO0 := am (show Kd.R Kd.string 9 w w0.heap.size (fun k_ => (P0_ k_ ∨ w.heap.size ≤ k_)) u9000_ l0 from Kd.R_mono ho0 (fun k_ hk => (.inl hk)))
 have HK := am (Kept.refl w (fun k_ => P0_ k_))
 have HW0 := am hB.size
 have HB := am hB
 clear hB
 have H : (laws_markStringS.l0 k l0 a1 0) = some (r1, r2) := h
 clear h
 have H' := am H
 clear H
 go_enter Tryd.func17, Tryd.ntmps17
 go_wp2
 go_loopg [1, 5] k (fun kq v1 v5 w' => ∃ (x0_1 : List ByteArray) (x1_1 : Int) (x5_1 : Int), v1 = .int .i64 x1_1 ∧ v5 = .int .i64 x5_1 ∧ Aside0 (laws_markStringS.l0 kq x0_1 x1_1 x5_1 = some (r1, r2)) ∧ Aside0 (kq ≤ k) ∧ Aside0 (Kd.R Kd.string 9 w' w0.heap.size (fun k_ => (P0_ k_ ∨ w.heap.size ≤ k_)) u9000_ x0_1) ∧ Aside0 (Kept w w' (fun k_ => P0_ k_)) ∧ Aside0 (Below w0.heap.size w0 w'))
 case atStart => exact ⟨(l0), (a1), (0), q2, q2, H', ⟨Nat.le_refl _⟩, ⟨u14_6⟩, ⟨u14_1⟩, ⟨q1⟩⟩
 clear H'
 obtain ⟨x0_1, x1_1, x5_1, rfl, rfl, HA, HK1, HO_0, HK, HB⟩ := hrel
 cases gk with
 | zero => exact absurd HA.out (by simp [laws_markStringS.l0])
 | succ k1 =>
   have H := HA.out
   clear HA
   simp only [laws_markStringS.l0] at H
   by_cases c3 : x5_1 < (x0_1.length : Int)
   rotate_left
   · rw [if_neg c3] at H
     have c3b0 : decide (x5_1 < (x0_1.length : Int)) = false := decide_eq_false c3
     clear c3
     simp only [Option.some.injEq, Prod.mk.injEq] at H
     obtain ⟨rfl, rfl⟩ := H
     obtain ⟨Ao11, co11, eo11⟩ := Kd.R_slice HO_0.out
     subst eo11
     go_wp2
     go_ret
     exact ⟨er, u14_3, q1, u14_1⟩
   rw [if_pos c3] at H
   have c3b0 : decide (x5_1 < (x0_1.length : Int)) = true := decide_eq_true c3
   clear c3
   replace H := Option.bind_eq_some_iff.mp H
   obtain ⟨t393, A40, H⟩ := H
   have A4 := am A40
   clear A40
   by_cases c5 : 0 ≤ x5_1
   rotate_left
   · rw [if_neg c5] at H
     exact absurd H (by simp)
   rw [if_pos c5] at H
   have c5b0 : decide (0 ≤ x5_1) = true := decide_eq_true c5
   clear c5
   obtain ⟨y394, hy394⟩ : ∃ y_ : List ByteArray, y_ = (x0_1.set (x5_1 : Int).toNat t393) := ⟨_, rfl⟩
   replace H : (laws_markStringS.l0 k1 y394 (wrap64 (x1_1 + 1)) (wrap64 (x5_1 + 1))) = some (r1, r2) := by first | (rw [hy394]; with_reducible exact H) | (have H2_ := (Option.bind_some _ _).symm.trans H; rw [hy394]; with_reducible exact H2_) | (have H2_ := (Option.bind_some _ _).symm.trans H; with_reducible exact H2_) | with_reducible exact H | (rw [hy394]; exact H) | exact H
   have Ny394 := am hy394
   clear hy394
   have H' := am H
   clear H
   obtain ⟨Ao7, co7, eo7⟩ := Kd.R_slice HO_0.out
   subst eo7
   go_wp2_with (first | ((with_reducible refine gate_callee (f := 42) rfl ?_); refine goesL_ (some 15) rfl rfl Tryd.func42 kr rfl #[.int .i64 x1_1] rfl q3 ?_; (with_reducible refine (laws_markText.calls k1 x1_1 t393 _ A4.out).mono ?_); rintro e w8 ⟨rfl, hb⟩; refine ⟨_, rfl, ?_⟩; replace HO_0 := am (Kd.R_below u14_3 hb); replace HK := am (Kept.below (S := (fun k_ => P0_ k_)) u14_1 hb); replace HB := am (below_step q1 hb); (try clear hb); (try clear hb2); (try clear hk); (try clear hi); have p6 : 0 ≤ (x5_1 : Int) := of_decide_eq_true q0; have q6 : (x5_1 : Int) < ((x0_1.length : Int) : Int) := of_decide_eq_true q0; obtain ⟨go6, co6, eo6, gb6, gl6, cl6, HG6⟩ := Kd.R_form HO_0.out (by omega); (first | cases eo6 | (injection eo6 with ea_ en_ ec_; (first | subst ea_ | (injection ea_ with ea_; subst ea_)); subst ec_; clear en_)); have GB6 := am gb6; have GG6 := am HG6; clear gb6 gl6 HG6; have HMgo6 := am (show (P0_ go6 ∨ w.heap.size ≤ go6) from (HO_0.out.1 _ rfl)); obtain ⟨hx6_0, hf6_0⟩ := Kd.R_celln (⟨#[]⟩ : ByteArray) HO_0.out (x5_1 : Int) p6 q6; replace p6 := eq_true p6; replace q6 := eq_true q6; obtain ⟨hy9_, hz9_⟩ := Kd.R_celln (⟨#[]⟩ : ByteArray) HO_0.out (x5_1 : Int) (of_decide_eq_true q0) (of_decide_eq_true q0); have HP9 := Kd.R_putg HO_0.out (x5_1 : Int) t393) | ((with_reducible refine gate_store (t := 9) (p := 16) rfl ?_); refine store_event (t := 9) (p := 16) (v := ?vo_w10) (w1 := (w8.setCell ⟨go6, (x5_1 : Int).toNat, none⟩ (.string t393))) ?hg ?ho ?hn ?hr ?_; (case ho => rfl); (case hg => rfl); (case hn => rfl); (case hr => first | (go_simp; done) | (go_simp; rfl)); intro w10 hw; have hg : w8.grownBy w10 (some go6) := (by rw [hw]; exact HP9.2); have hp_ : Kd.R Kd.string 9 w10 w0.heap.size (fun k_ => (P0_ k_ ∨ w.heap.size ≤ k_)) (.slice (some ⟨go6, 0, none⟩) x0_1.length co7) y394 := (by rw [hw, Ny394.out]; exact HP9.1); clear HP9; replace HB := am ((by rw [hw]; exact below_set (HB.out) GB6.out : Below w0.heap.size w0 w10)); replace HK := am (Kept.of_grown (S := (fun k_ => P0_ k_)) hg u14_1 (fun k_ e_ => (HO_0.out.1 k_ e_))); replace HO_0 := am (hp_); clear hg hw hp_))
   go_roundg k1
   case measure => have := HK1.out; omega
   case rel => exact ⟨(y394), (wrap64 (x1_1 + 1)), (wrap64 (x5_1 + 1)), q2, q2, H', ⟨by have := HK1.out; omega⟩, ⟨u14_3⟩, ⟨u14_1⟩, ⟨q1⟩⟩

end Go.Proofs.YtjdpifafijcpbaaDoor.QFnExactOnceEach
