import Derived.Test.YtkcadcoohmofcaaSqFnExactSettled
import Derived.Test.YtkcadcoohmofcaaQFnExactSettledx0
import Derived.Test.YtkcadcoohmofcaaQFnExactSettledx6
namespace Go.Proofs.Ytkcadcoohmofcaa.QFnExactSettled
open Go.RowKit Go.Proofs.YtkcadcoohmofcaaW.PrintWords Go.Proofs.YtkcadcoohmofcaaW.PrintLast Go.Proofs.YtkcadcoohmofcaaW.PrintMore Go.Proofs.Ytkcadcoohmofcaa.SqFnExactSettled
attribute [local go_sem] max2_int min2_int max_two min_two max_three min_three max_four min_four Go.Proofs.Ytkcadcoohmofcaa.Set.isSome_setCell
set_option linter.unusedVariables false
set_option linter.unusedSimpArgs false
theorem u7_3 {P : Prop} (h : P := by (with_reducible repeat (first | apply b1_ | apply b2_ | apply b3_)); exact BK255.out) : P := h
theorem u7_7 {P : Prop} (h : P := by (with_reducible repeat (first | apply b1_ | apply b2_ | apply b3_)); refine blk_far ?_ NB255_257.out _; (with_reducible repeat (first | apply b1_ | apply b2_ | apply b3_)); exact BK255.out) : P := h
theorem u7_8 {P : Prop} (h : P := by (with_reducible repeat (first | apply b1_ | apply b2_ | apply b3_)); refine blk_far ?_ NB256_257.out _; (with_reducible repeat (first | apply b1_ | apply b2_ | apply b3_)); exact BK256.out) : P := h
theorem u7_9 {P : Prop} (h : P := by (with_reducible repeat (first | apply b1_ | apply b2_ | apply b3_)); exact BK256.out) : P := h
def laws_toMsgS.l0 : Nat → List (S24) → List (S29) → Int → Option ((List (S29)))
 | 0, _, _, _ => none
 | k + 1, x0, x3, x4 => if x4 < (x0.length : Int) then (if 0 ≤ x4 then ((laws_toMsg.f k ((rd_T24 x0 x4).f0) ((rd_T24 x0 x4).f1) ((rd_T24 x0 x4).f2) ((rd_T24 x0 x4).f3) ((rd_T24 x0 x4).f4) ((rd_T24 x0 x4).f5) ((rd_T24 x0 x4).f6) ((rd_T24 x0 x4).f7) ((rd_T24 x0 x4).f8)).bind fun bt243 => (if x4 < (x3.length : Int) then (laws_toMsgS.l0 k x0 (x3.set (x4 : Int).toNat (⟨bt243.1, bt243.2.1, bt243.2.2.1, bt243.2.2.2.1, bt243.2.2.2.2.1, bt243.2.2.2.2.2.1, bt243.2.2.2.2.2.2.1, bt243.2.2.2.2.2.2.2.1, bt243.2.2.2.2.2.2.2.2⟩ : S29)) (wrap64 (x4 + 1))) else (none))) else (none)) else (some x3)
def laws_toMsgS.f (k : Nat) (l0 : List (S24)) : Option ((List (S29))) := if 0 ≤ (l0.length : Int) then (if ((l0.length : Int) : Int).toNat ≤ 3198579280802 then (laws_toMsgS.l0 k l0 (List.replicate ((l0.length : Int) : Int).toNat z29) 0) else (none)) else (none)
theorem laws_toMsgS.mono_l : ∀ k, (∀ y0 y1 y2, LeO (laws_toMsgS.l0 k y0 y1 y2) (laws_toMsgS.l0 (k + 1) y0 y1 y2))
 | 0 => fun _ _ _ r h => by simp [laws_toMsgS.l0] at h
 | k + 1 => by
   have ih0 := laws_toMsgS.mono_l k
   · intro y0 y1 y2
     unfold laws_toMsgS.l0
     repeat' first
     | (with_reducible exact ih0 _ _ _)
     | (with_reducible exact laws_toMsg.mono _ _ _ _ _ _ _ _ _ _)
     | (with_reducible exact LeO.refl _)
     | (with_reducible exact LeO.none _)
     | (with_reducible refine LeO.ite ?_ ?_)
     | (with_reducible refine LeO.bind ?_ (fun _ => ?_))
     | exact ih0 _ _ _
     | exact laws_toMsg.mono _ _ _ _ _ _ _ _ _ _
     | exact LeO.none _
     | refine LeO.ite ?_ ?_
     | refine LeO.bind ?_ (fun _ => ?_)
theorem laws_toMsgS.mono : ∀ a0 k, LeO (laws_toMsgS.f k a0) (laws_toMsgS.f (k + 1) a0) := by
 intro a0 k
 have ih0 := laws_toMsgS.mono_l k
 unfold laws_toMsgS.f
 repeat' first
     | (with_reducible exact ih0 _ _ _)
     | (with_reducible exact laws_toMsg.mono _ _ _ _ _ _ _ _ _ _)
     | (with_reducible exact LeO.refl _)
     | (with_reducible exact LeO.none _)
     | (with_reducible refine LeO.ite ?_ ?_)
     | (with_reducible refine LeO.bind ?_ (fun _ => ?_))
     | exact ih0 _ _ _
     | exact laws_toMsg.mono _ _ _ _ _ _ _ _ _ _
     | exact LeO.none _
     | refine LeO.ite ?_ ?_
     | refine LeO.bind ?_ (fun _ => ?_)
set_option maxHeartbeats 8000000 in
set_option maxRecDepth 100000 in
theorem laws_toMsgS.calls (k : Nat) (A0 : Option Addr) (c0 : Nat) (l0 : List (S24)) (r : List (S29)) (w : World) (hr0 : Kd.C k24 w A0 l0.length l0) (hc0 : l0.length ≤ c0) (h : laws_toMsgS.f k l0 = some r) :
   Calls Try.prog 97 #[.slice A0 l0.length c0] w fun e w' => ∃ v0_ : Value, e = .returned (v0_) ∧ Kd.S k29 29 w' w.heap.size (fun _ => True) v0_ r ∧ Below w.heap.size w w' := by
 have hu24 := Try.underlying24
 have hu29 := Try.underlying29
 have HR0 := am hr0
 have HC0 := am hc0
 clear hr0 hc0
 have HB := am (Below.refl w.heap.size w)
 have H : (if 0 ≤ (l0.length : Int) then (if ((l0.length : Int) : Int).toNat ≤ 3198579280802 then (laws_toMsgS.l0 k l0 (List.replicate ((l0.length : Int) : Int).toNat z29) 0) else (none)) else (none)) = some r := h
 clear h
 by_cases c2 : 0 ≤ (l0.length : Int)
 rotate_left
 · rw [if_neg c2] at H
   exact absurd H (by simp)
 rw [if_pos c2] at H
 have c2b0 := eq_true c2
 have c2b1 : decide (0 ≤ (l0.length : Int)) = true := decide_eq_true c2
 clear c2
 by_cases c3 : ((l0.length : Int) : Int).toNat ≤ 3198579280802
 rotate_left
 · rw [if_neg c3] at H
   exact absurd H (by simp)
 rw [if_pos c3] at H
 have c3b0 := eq_true c3
 have c3b1 : decide (((l0.length : Int) : Int).toNat ≤ 3198579280802) = true := decide_eq_true c3
 clear c3
 obtain ⟨y239, hy239⟩ : ∃ y_ : List (S29), y_ = (List.replicate ((l0.length : Int) : Int).toNat z29) := ⟨_, rfl⟩
 replace H : (laws_toMsgS.l0 k l0 y239 0) = some r := by first | (rw [hy239]; with_reducible exact H) | (have H2_ := (Option.bind_some _ _).symm.trans H; rw [hy239]; with_reducible exact H2_) | (have H2_ := (Option.bind_some _ _).symm.trans H; with_reducible exact H2_) | with_reducible exact H | (rw [hy239]; exact H) | exact H
 have Ny239 := am hy239
 clear hy239
 have H' := am H
 clear H
 go_enter Try.func97, Try.ntmps97
 go_wp2_with (first | ((with_reducible refine gate_dst (N := 7) rfl ?_); refine Kd.S_make k29 _ 29 rfl (N := 7) rfl 51 _ _ rfl (l0.length : Int) rfl rfl Try.underlying51 (.agg #[(.int .i64 0), (.int .i64 0), (.int .i64 0), (.int .i64 0), (.int .i64 0), (.int .i64 0), (.int .i64 0), (.bool false), (.slice none 0 0)]) 88 info29 rfl (by decide) (by omega) z29 (ok := fun _ => True) (okp := fun _ => True) (k29_mkM _ _ _ z29 (Kd.R_nil _ _ _ _ _)) (fun _ hk => hk) trivial (of_decide_eq_true Q1) (Nat.le_trans (Nat.mul_le_mul_right _ (of_decide_eq_true Q1 : (l0.length : Int).toNat ≤ 3198579280802)) (by omega)) (Below.refl _ _) (Nat.le_refl _) ?_; intro v240 w4 ho5 hb hg_ hnew_; clear hg_ hnew_; (first | rw [← Ny239.out] at ho5 | (simp only [Int.reduceToNat] at ho5; rw [← Ny239.out] at ho5)); have HO241 := am (Kd.S_lower ho5 (below_size Q2)); replace HB := am (below_step Q2 hb); clear hb ho5))
 go_loopg [4] k (fun kq v4 w' => ∃ (x3_1 : List (S29)) (x4_1 : Int), v4 = .int .i64 x4_1 ∧ Aside0 (laws_toMsgS.l0 kq l0 x3_1 x4_1 = some r) ∧ Aside0 (kq ≤ k) ∧ Aside0 (Kd.S k29 29 w' w.heap.size (fun _ => True) v240 x3_1) ∧ Aside0 (Below w.heap.size w w'))
 case atStart => exact ⟨(y239), (0), (by first | rfl | (simp; done) | (simp [*]; done)), H', ⟨Nat.le_refl _⟩, ⟨(by (with_reducible repeat (first | apply s1_ | apply s2_ | apply s3_)); exact HO241.out)⟩, ⟨Q2⟩⟩
 clear H'
 try clear c2
 try clear c2b0
 try clear c2b1
 try clear c3
 try clear c3b0
 try clear c3b1
 obtain ⟨x3_1, x4_1, rfl, HA, HK1, HO_3, HB⟩ := hrel
 cases gk with
 | zero => exact absurd HA.out (by simp [laws_toMsgS.l0])
 | succ k1 =>
   have H := HA.out
   clear HA
   simp only [laws_toMsgS.l0] at H
   by_cases c6 : x4_1 < (l0.length : Int)
   rotate_left
   · rw [if_neg c6] at H
     have c6b0 : decide (x4_1 < (l0.length : Int)) = false := decide_eq_false c6
     clear c6
     obtain rfl := sj H
     go_wp2
     go_ret
     exact ⟨_, er, Q9, Q2⟩
   rw [if_pos c6] at H
   have c6b0 : decide (x4_1 < (l0.length : Int)) = true := decide_eq_true c6
   clear c6
   by_cases c7 : 0 ≤ x4_1
   rotate_left
   · rw [if_neg c7] at H
     exact absurd H (by simp)
   rw [if_pos c7] at H
   have c7b0 : decide (0 ≤ x4_1) = true := decide_eq_true c7
   clear c7
   replace H := Option.bind_eq_some_iff.mp H
   obtain ⟨⟨t243, t244, t245, t246, t247, t248, t249, t250, t251⟩, A80, H⟩ := H
   (try dsimp only at H)
   have A8 := am A80
   clear A80
   by_cases c9 : x4_1 < (x3_1.length : Int)
   rotate_left
   · rw [if_neg c9] at H
     exact absurd H (by simp)
   rw [if_pos c9] at H
   have c9b0 : decide (x4_1 < (x3_1.length : Int)) = true := decide_eq_true c9
   clear c9
   obtain ⟨y254, hy254⟩ : ∃ y_ : List (S29), y_ = (x3_1.set (x4_1 : Int).toNat (⟨t243, t244, t245, t246, t247, t248, t249, t250, t251⟩ : S29)) := ⟨_, rfl⟩
   replace H : (laws_toMsgS.l0 k1 l0 y254 (wrap64 (x4_1 + 1))) = some r := by first | (rw [hy254]; with_reducible exact H) | (have H2_ := (Option.bind_some _ _).symm.trans H; rw [hy254]; with_reducible exact H2_) | (have H2_ := (Option.bind_some _ _).symm.trans H; with_reducible exact H2_) | with_reducible exact H | (rw [hy254]; exact H) | exact H
   have Ny254 := am hy254
   clear hy254
   have H' := am H
   clear H
   have p242 : 0 ≤ (x4_1 : Int) := of_decide_eq_true Q1
   have q242 : x4_1 < (l0.length : Int) := of_decide_eq_true Q1
   obtain ⟨ad242, A242_8, c242_8, e242, hx242_0, hx242_1, hx242_2, hx242_3, hx242_4, hx242_5, hx242_6, hx242_7, hx242_8, hl242_8, hi242_8⟩ := at_T24 HR0.out x4_1 p242 q242
   cases e242
   replace hx242_0 := cm HB.out hx242_0
   replace hx242_1 := cm HB.out hx242_1
   replace hx242_2 := cm HB.out hx242_2
   replace hx242_3 := cm HB.out hx242_3
   replace hx242_4 := cm HB.out hx242_4
   replace hx242_5 := cm HB.out hx242_5
   replace hx242_6 := cm HB.out hx242_6
   replace hx242_7 := cm HB.out hx242_7
   replace hx242_8 := cm HB.out hx242_8
   have HR242_8 := am hi242_8
   have HC242_8 := am hl242_8
   clear hi242_8 hl242_8
   replace p242 := eq_true p242
   replace q242 := eq_true q242
   go_wp2_with (first | ((with_reducible refine gate_callee (f := 17) rfl ?_); refine goesL_ (some 20) rfl rfl Try.func17 kr rfl #[.agg #[.int .i64 ((rd_T24 l0 x4_1).f0), .int .i64 ((rd_T24 l0 x4_1).f1), .int .i64 ((rd_T24 l0 x4_1).f2), .int .i64 ((rd_T24 l0 x4_1).f3), .int .i64 ((rd_T24 l0 x4_1).f4), .int .i64 ((rd_T24 l0 x4_1).f5), .int .i64 ((rd_T24 l0 x4_1).f6), .bool ((rd_T24 l0 x4_1).f7), .slice A242_8 ((rd_T24 l0 x4_1).f8).length c242_8]] rfl Q0 ?_; (with_reducible refine (laws_toMsg.calls k1 ((rd_T24 l0 x4_1).f0) ((rd_T24 l0 x4_1).f1) ((rd_T24 l0 x4_1).f2) ((rd_T24 l0 x4_1).f3) ((rd_T24 l0 x4_1).f4) ((rd_T24 l0 x4_1).f5) ((rd_T24 l0 x4_1).f6) ((rd_T24 l0 x4_1).f7) _ _ ((rd_T24 l0 x4_1).f8) t243 t244 t245 t246 t247 t248 t249 t250 t251 _ ?side1 ?side2 A8.out).mono ?_); (case side1 => exact (by repeat (first | exact (Kd.C_below HR242_8.out HB.out) | (with_reducible refine Kd.C_alloc ?_ _) | (with_reducible refine Kd.C_drewN ?_ _) | (with_reducible refine Kd.C_drew ?_)))); (case side2 => exact HC242_8.out); rintro e w11 ⟨v252, rfl, ho0, hb⟩; refine ⟨_, rfl, ?_⟩; replace HO_3 := am (Kd.S_elder' Q9 (Kd.R_base ho0) hb); have HO253 := am (Kd.R_lower ho0 (below_size Q2)); replace HB := am (below_step Q2 hb); (try clear hb); (try clear hb2); (try clear hk); (try clear hi); (try clear ho0); have p10 : 0 ≤ (x4_1 : Int) := of_decide_eq_true Q1; have q10 : (x4_1 : Int) < ((x3_1.length : Int) : Int) := of_decide_eq_true Q1; obtain ⟨go10, co10, eo10, gb10, gl10, cl10, HG10⟩ := Kd.S_form HO_3.out (by omega); (first | cases eo10 | (injection eo10 with ea_ en_ ec_; (first | subst ea_ | (injection ea_ with ea_; subst ea_)); subst ec_; clear en_)); have GB10 := am gb10; have GG10 := am HG10; clear gb10 gl10 HG10; obtain ⟨_, ce10, hcl10, hM10, hcc10, hfr10, _, _⟩ := Kd.S_elem HO_3.out z29 (x4_1 : Int) p10 q10; obtain ⟨ve10_8, rfl, ge10_8⟩ := k29_openM hM10; have hx10_0 : w11.cell? ⟨go10, (x4_1 : Int).toNat * 9, none⟩ = some (.int .i64 ((rd_T29 x3_1 x4_1).f0)) := hcc10 0 _ rfl; have hx10_1 : w11.cell? ⟨go10, (x4_1 : Int).toNat * 9 + 1, none⟩ = some (.int .i64 ((rd_T29 x3_1 x4_1).f1)) := hcc10 1 _ rfl; have hx10_2 : w11.cell? ⟨go10, (x4_1 : Int).toNat * 9 + 2, none⟩ = some (.int .i64 ((rd_T29 x3_1 x4_1).f2)) := hcc10 2 _ rfl; have hx10_3 : w11.cell? ⟨go10, (x4_1 : Int).toNat * 9 + 3, none⟩ = some (.int .i64 ((rd_T29 x3_1 x4_1).f3)) := hcc10 3 _ rfl; have hx10_4 : w11.cell? ⟨go10, (x4_1 : Int).toNat * 9 + 4, none⟩ = some (.int .i64 ((rd_T29 x3_1 x4_1).f4)) := hcc10 4 _ rfl; have hx10_5 : w11.cell? ⟨go10, (x4_1 : Int).toNat * 9 + 5, none⟩ = some (.int .i64 ((rd_T29 x3_1 x4_1).f5)) := hcc10 5 _ rfl; have hx10_6 : w11.cell? ⟨go10, (x4_1 : Int).toNat * 9 + 6, none⟩ = some (.int .i64 ((rd_T29 x3_1 x4_1).f6)) := hcc10 6 _ rfl; have hx10_7 : w11.cell? ⟨go10, (x4_1 : Int).toNat * 9 + 7, none⟩ = some (.bool ((rd_T29 x3_1 x4_1).f7)) := hcc10 7 _ rfl; have hx10_8 : w11.cell? ⟨go10, (x4_1 : Int).toNat * 9 + 8, none⟩ = some (ve10_8) := hcc10 8 _ rfl; have hf10_0 : w11.frozen? ⟨go10, (x4_1 : Int).toNat * 9, none⟩ = false := hfr10 0; have hf10_1 : w11.frozen? ⟨go10, (x4_1 : Int).toNat * 9 + 1, none⟩ = false := hfr10 1; have hf10_2 : w11.frozen? ⟨go10, (x4_1 : Int).toNat * 9 + 2, none⟩ = false := hfr10 2; have hf10_3 : w11.frozen? ⟨go10, (x4_1 : Int).toNat * 9 + 3, none⟩ = false := hfr10 3; have hf10_4 : w11.frozen? ⟨go10, (x4_1 : Int).toNat * 9 + 4, none⟩ = false := hfr10 4; have hf10_5 : w11.frozen? ⟨go10, (x4_1 : Int).toNat * 9 + 5, none⟩ = false := hfr10 5; have hf10_6 : w11.frozen? ⟨go10, (x4_1 : Int).toNat * 9 + 6, none⟩ = false := hfr10 6; have hf10_7 : w11.frozen? ⟨go10, (x4_1 : Int).toNat * 9 + 7, none⟩ = false := hfr10 7; have hf10_8 : w11.frozen? ⟨go10, (x4_1 : Int).toNat * 9 + 8, none⟩ = false := hfr10 8; clear hcl10 hcc10 hfr10 hM10; replace p10 := eq_true p10; replace q10 := eq_true q10; obtain ⟨Ao12, co12, eo12⟩ := Kd.R_slice HO253.out; subst eo12; have n_ := am (Kd.S_mono (ok' := (fun k_ => some k_ ≠ (.slice Ao12 t251.length co12 : Value).ownBlock)) HO_3.out (fun k_ hk => hk.2)); clear HO_3; have HO_3 := n_; clear n_; have HX13 := am (show Kd.S k29 29 w11 w.heap.size (fun k_ => ((fun _ => True)) k_ ∧ ¬ ((fun k_ => some k_ = (.slice Ao12 t251.length co12 : Value).ownBlock)) k_) (.slice (some ⟨go10, 0, none⟩) x3_1.length co10) x3_1 from (by (with_reducible repeat (first | apply s1_ | apply s2_ | apply s3_)); exact Kd.S_mono HO_3.out (fun k_ hk => ⟨trivial, fun e_ => hk e_⟩))); obtain ⟨oki13, ce13, hcl13, hM13, hcc13, hfr13, hoki13, hH13⟩ := Kd.S_elem HX13.out z29 (x4_1 : Int) (of_decide_eq_true Q1) (by have h_ : (x4_1 : Int) < ((x3_1.length : Int) : Int) := of_decide_eq_true Q1; first | exact h_ | (have e_ := (Kd.S_reads' HO_3.out).1; omega) | simpa using h_); obtain ⟨ve13_8, rfl, ge13_8⟩ := k29_openM hM13; have HP13 := Kd.S_seg hH13 (of_decide_eq_true Q1) (by have h_ : (x4_1 : Int) < ((x3_1.length : Int) : Int) := of_decide_eq_true Q1; first | exact h_ | (have e_ := (Kd.S_reads' HO_3.out).1; omega) | simpa using h_) (seg := [.int .i64 t243, .int .i64 t244, .int .i64 t245, .int .i64 t246, .int .i64 t247, .int .i64 t248, .int .i64 t249, .bool t250, .slice Ao12 t251.length co12]) (j := 0) (show 9 ≤ 9 from by decide) (x' := (⟨t243, t244, t245, t246, t247, t248, t249, t250, t251⟩ : S29)) (k29_mkM _ _ _ (⟨t243, t244, t245, t246, t247, t248, t249, t250, t251⟩ : S29) (Kd.R_mono (Kd.R_tight rfl (Kd.R_mono (ok' := fun k_ => ((fun _ => True)) k_ ∧ k_ ≠ go10) (Kd.R_apart' (HO253.out) (Kd.S_typed HO_3.out) (by decide)) (fun k_ hk => ⟨trivial, fun e_ => (hk.2) (by rw [e_]; rfl)⟩))) (fun _ h_ => Or.inr (h_)))) (fun _ hk => hk) (fun k_ hk_ => ((Kd.R_mono (ok' := fun k_ => ((fun _ => True)) k_ ∧ k_ ≠ go10) (Kd.R_apart' (HO253.out) (Kd.S_typed HO_3.out) (by decide)) (fun k_ hk => ⟨trivial, fun e_ => (hk.2) (by rw [e_]; rfl)⟩))).1 k_ hk_.symm); have hx13_0 := hcc13 0 _ rfl; (try simp only [show (k29).sz = 9 from rfl, Nat.mul_one, Nat.add_zero] at hx13_0); have hf13_0 := hfr13 0; (try simp only [show (k29).sz = 9 from rfl, Nat.mul_one, Nat.add_zero] at hf13_0); have hx13_1 := hcc13 1 _ rfl; (try simp only [show (k29).sz = 9 from rfl, Nat.mul_one, Nat.add_zero] at hx13_1); have hf13_1 := hfr13 1; (try simp only [show (k29).sz = 9 from rfl, Nat.mul_one, Nat.add_zero] at hf13_1); have hx13_2 := hcc13 2 _ rfl; (try simp only [show (k29).sz = 9 from rfl, Nat.mul_one, Nat.add_zero] at hx13_2); have hf13_2 := hfr13 2; (try simp only [show (k29).sz = 9 from rfl, Nat.mul_one, Nat.add_zero] at hf13_2); have hx13_3 := hcc13 3 _ rfl; (try simp only [show (k29).sz = 9 from rfl, Nat.mul_one, Nat.add_zero] at hx13_3); have hf13_3 := hfr13 3; (try simp only [show (k29).sz = 9 from rfl, Nat.mul_one, Nat.add_zero] at hf13_3); have hx13_4 := hcc13 4 _ rfl; (try simp only [show (k29).sz = 9 from rfl, Nat.mul_one, Nat.add_zero] at hx13_4); have hf13_4 := hfr13 4; (try simp only [show (k29).sz = 9 from rfl, Nat.mul_one, Nat.add_zero] at hf13_4); have hx13_5 := hcc13 5 _ rfl; (try simp only [show (k29).sz = 9 from rfl, Nat.mul_one, Nat.add_zero] at hx13_5); have hf13_5 := hfr13 5; (try simp only [show (k29).sz = 9 from rfl, Nat.mul_one, Nat.add_zero] at hf13_5); have hx13_6 := hcc13 6 _ rfl; (try simp only [show (k29).sz = 9 from rfl, Nat.mul_one, Nat.add_zero] at hx13_6); have hf13_6 := hfr13 6; (try simp only [show (k29).sz = 9 from rfl, Nat.mul_one, Nat.add_zero] at hf13_6); have hx13_7 := hcc13 7 _ rfl; (try simp only [show (k29).sz = 9 from rfl, Nat.mul_one, Nat.add_zero] at hx13_7); have hf13_7 := hfr13 7; (try simp only [show (k29).sz = 9 from rfl, Nat.mul_one, Nat.add_zero] at hf13_7); have hx13_8 := hcc13 8 _ rfl; (try simp only [show (k29).sz = 9 from rfl, Nat.mul_one, Nat.add_zero] at hx13_8); have hf13_8 := hfr13 8; (try simp only [show (k29).sz = 9 from rfl, Nat.mul_one, Nat.add_zero] at hf13_8); clear hcl13 hcc13 hfr13 hM13 hoki13 hH13) | ((with_reducible refine gate_store (t := 29) (p := 21) rfl ?_); refine store_event (t := 29) (p := 21) (v := ?vo_w14) (w1 := (((((((((w11.setCell ⟨go10, (x4_1 : Int).toNat * 9, none⟩ (.int .i64 t243)).setCell ⟨go10, (x4_1 : Int).toNat * 9 + 1, none⟩ (.int .i64 t244)).setCell ⟨go10, (x4_1 : Int).toNat * 9 + 2, none⟩ (.int .i64 t245)).setCell ⟨go10, (x4_1 : Int).toNat * 9 + 3, none⟩ (.int .i64 t246)).setCell ⟨go10, (x4_1 : Int).toNat * 9 + 4, none⟩ (.int .i64 t247)).setCell ⟨go10, (x4_1 : Int).toNat * 9 + 5, none⟩ (.int .i64 t248)).setCell ⟨go10, (x4_1 : Int).toNat * 9 + 6, none⟩ (.int .i64 t249)).setCell ⟨go10, (x4_1 : Int).toNat * 9 + 7, none⟩ (.bool t250)).setCell ⟨go10, (x4_1 : Int).toNat * 9 + 8, none⟩ (.slice Ao12 t251.length co12))) ?hg ?ho ?hn ?hr ?_; (case ho => rfl); (case hg => rfl); (case hn => rfl); (case hr => first | (go_simp; done) | (go_simp; rfl)); intro w14 hw; have hg : w11.grownBy w14 (some go10) := (by rw [hw]; exact HP13.2); have hp_ : Kd.S k29 29 w14 w.heap.size (fun _ => True) (.slice (some ⟨go10, 0, none⟩) x3_1.length co10) y254 := (by rw [hw, Ny254.out]; exact HP13.1); clear HP13; replace HO_3 := am (hp_); replace HB := am ((by rw [hw]; exact below_set (below_set (below_set (below_set (below_set (below_set (below_set (below_set (below_set (HB.out) GB10.out) GB10.out) GB10.out) GB10.out) GB10.out) GB10.out) GB10.out) GB10.out) GB10.out : Below w.heap.size w w14)); clear HO253; clear hg hw hp_))
   go_roundg k1
   case measure => have := HK1.out; omega
   case rel => exact ⟨(y254), (wrap64 (x4_1 + 1)), (by first | rfl | (simp; done) | (simp [*]; done)), H', ⟨by have := HK1.out; omega⟩, ⟨Q9⟩, ⟨Q2⟩⟩
def laws_toGroup.f (k : Nat) (a0_0 : Int) (l0_1 : List (S45)) (l0_2 : List (S24)) : Option (Int × (List (S37)) × (List (S29))) := (laws_toNodeS.f k l0_1).bind fun t258 => ((laws_toMsgS.f k l0_2).bind fun t261 => (some (a0_0, t258, t261)))
theorem laws_toGroup.mono : ∀ a0 a1 a2 k, LeO (laws_toGroup.f k a0 a1 a2) (laws_toGroup.f (k + 1) a0 a1 a2) := by
 intro a0 a1 a2 k
 unfold laws_toGroup.f
 repeat' first
     | (with_reducible exact laws_toMsgS.mono _ _)
     | (with_reducible exact laws_toNodeS.mono _ _)
     | (with_reducible exact LeO.refl _)
     | (with_reducible exact LeO.none _)
     | (with_reducible refine LeO.ite ?_ ?_)
     | (with_reducible refine LeO.bind ?_ (fun _ => ?_))
     | exact laws_toMsgS.mono _ _
     | exact laws_toNodeS.mono _ _
     | exact LeO.none _
     | refine LeO.ite ?_ ?_
     | refine LeO.bind ?_ (fun _ => ?_)
theorem split2_ {α β : Type} {d : Kd α} {d' : Kd β} {e e' base b0 : Nat} {W w1 : World} {okA okB : Nat → Prop} {u v : Value} {xs : List α} {ys : List β} (hA : Kd.S d e W base okA u xs) (hB : Kd.S d' e' w1 W.heap.size okB v ys) (hb : Below W.heap.size W w1) (hl : b0 ≤ W.heap.size) : ∃ N : Nat, Kd.S d e w1 base (fun k => okA k ∧ k < N) u xs ∧ Kd.S d' e' w1 b0 (fun k => okB k ∧ N ≤ k) v ys :=
 ⟨W.heap.size, Kd.S_old hA hb, Kd.S_lower (Kd.S_mono (Kd.S_bound hB) (fun k h => ⟨h.1, h.2.1⟩)) hl⟩
set_option maxHeartbeats 8000000 in
set_option maxRecDepth 100000 in
theorem laws_toGroup.callsQ (k : Nat) (a0_0 : Int) (A0_1 : Option Addr) (c0_1 : Nat) (l0_1 : List (S45)) (A0_2 : Option Addr) (c0_2 : Nat) (l0_2 : List (S24)) (r1 : Int) (r2 : List (S37)) (r3 : List (S29)) (w : World) (hr0_1 : Kd.C k45 w A0_1 l0_1.length l0_1) (hc0_1 : l0_1.length ≤ c0_1) (hr0_2 : Kd.C k24 w A0_2 l0_2.length l0_2) (hc0_2 : l0_2.length ≤ c0_2) (h : laws_toGroup.f k a0_0 l0_1 l0_2 = some (r1, r2, r3)) :
   Calls Try.prog 45 #[.agg #[.int .i64 a0_0, .slice A0_1 l0_1.length c0_1, .slice A0_2 l0_2.length c0_2]] w fun e w' => ∃ v1_ v2_ : Value, e = .returned (.agg #[.int .i64 r1, v1_, v2_]) ∧ Kd.S k37 37 w' w.heap.size (fun _ => True) v1_ r2 ∧ Kd.S k29 29 w' w.heap.size (fun _ => True) v2_ r3 ∧ Below w.heap.size w w' ∧ ∃ N_ : Nat, Kd.S k37 37 w' w.heap.size (fun k_ => k_ < N_) v1_ r2 ∧ Kd.S k29 29 w' w.heap.size (fun k_ => N_ ≤ k_) v2_ r3 := by
 have hu68 := Try.underlying68
 have hu53 := Try.underlying53
 have HR0_1 := am hr0_1
 have HC0_1 := am hc0_1
 clear hr0_1 hc0_1
 have HR0_2 := am hr0_2
 have HC0_2 := am hc0_2
 clear hr0_2 hc0_2
 have HB := am (Below.refl w.heap.size w)
 have H : ((laws_toNodeS.f k l0_1).bind fun t258 => ((laws_toMsgS.f k l0_2).bind fun t261 => (some (a0_0, t258, t261)))) = some (r1, r2, r3) := h
 clear h
 replace H := Option.bind_eq_some_iff.mp H
 obtain ⟨t258, A20, H⟩ := H
 replace H : ((laws_toMsgS.f k l0_2).bind fun t261 => (some (a0_0, t258, t261))) = some (r1, r2, r3) := H
 have A2 := am A20
 clear A20
 replace H := Option.bind_eq_some_iff.mp H
 obtain ⟨t261, A30, H⟩ := H
 replace H : (some (a0_0, t258, t261)) = some (r1, r2, r3) := H
 have A3 := am A30
 clear A30
 simp only [Option.some.injEq, Prod.mk.injEq] at H
 obtain ⟨rfl, rfl, rfl⟩ := H
 go_enter Try.func45, Try.ntmps45
 go_wp2_with (first | ((with_reducible refine gate_dst (N := 1) rfl ?_); refine box_event ?hg (N := 1) ?hd (cs := #[.int .i64 a0_0, .slice A0_1 l0_1.length c0_1, .slice A0_2 l0_2.length c0_2]) (t := 68) ?hr ?_; (case hd => rfl); (case hg => rfl); (case hr => first | (go_simp; done) | (go_simp; rfl)); intro gb255 hg w4 hbox hb; have BK255 := am (hbox); have GW255 := am ((by rw [hg]; exact (below_size Q2) : w.heap.size ≤ gb255)); have GE255 := am ((by rw [hg]; exact (below_size Q2) : w.heap.size ≤ gb255)); replace HB := am (below_step Q2 hb); clear hb hbox hg) | ((with_reducible refine gate_dst (N := 2) rfl ?_); refine box_event ?hg (N := 2) ?hd (cs := #[.int .i64 0, .slice none 0 0, .slice none 0 0]) (t := 53) ?hr ?_; (case hd => rfl); (case hg => rfl); (case hr => first | (go_simp; done) | (go_simp; rfl)); intro gb256 hg w5 hbox hb; have BK256 := am (hbox); have GW256 := am ((by rw [hg]; exact (below_size Q2) : w.heap.size ≤ gb256)); have GE256 := am ((by rw [hg]; exact (below_size Q2) : w.heap.size ≤ gb256)); replace HB := am (below_step Q2 hb); have NB255_256 := am ((by rw [hg]; exact Nat.ne_of_lt (blk_lt (g := gb255) (o := .cells #[.int .i64 a0_0, .slice A0_1 l0_1.length c0_1, .slice A0_2 l0_2.length c0_2] 68 (0, 0)) u7_3) : gb255 ≠ gb256)); have NB256_255 := am ((by rw [hg]; exact Nat.ne_of_gt (blk_lt (g := gb255) (o := .cells #[.int .i64 a0_0, .slice A0_1 l0_1.length c0_1, .slice A0_2 l0_2.length c0_2] 68 (0, 0)) u7_3) : gb256 ≠ gb255)); replace BK255 := am (bb_ BK255.out u7_3 hb); clear hb hbox hg) | ((with_reducible refine gate_dst (N := 3) rfl ?_); refine box_event ?hg (N := 3) ?hd (cs := #[.int .i64 0, .slice none 0 0, .slice none 0 0]) (t := 53) ?hr ?_; (case hd => rfl); (case hg => rfl); (case hr => first | (go_simp; done) | (go_simp; rfl)); intro gb257 hg w6 hbox hb; have BK257 := am (hbox); have GW257 := am ((by rw [hg]; exact (below_size Q2) : w.heap.size ≤ gb257)); have GE257 := am ((by rw [hg]; exact (below_size Q2) : w.heap.size ≤ gb257)); replace HB := am (below_step Q2 hb); have NB255_257 := am ((by rw [hg]; exact Nat.ne_of_lt (blk_lt (g := gb255) (o := .cells #[.int .i64 a0_0, .slice A0_1 l0_1.length c0_1, .slice A0_2 l0_2.length c0_2] 68 (0, 0)) u7_3) : gb255 ≠ gb257)); have NB257_255 := am ((by rw [hg]; exact Nat.ne_of_gt (blk_lt (g := gb255) (o := .cells #[.int .i64 a0_0, .slice A0_1 l0_1.length c0_1, .slice A0_2 l0_2.length c0_2] 68 (0, 0)) u7_3) : gb257 ≠ gb255)); replace BK255 := am (bb_ BK255.out u7_3 hb); have NB256_257 := am ((by rw [hg]; exact Nat.ne_of_lt (blk_lt (g := gb256) (o := .cells #[.int .i64 0, .slice none 0 0, .slice none 0 0] 53 (0, 0)) u7_9) : gb256 ≠ gb257)); have NB257_256 := am ((by rw [hg]; exact Nat.ne_of_gt (blk_lt (g := gb256) (o := .cells #[.int .i64 0, .slice none 0 0, .slice none 0 0] 53 (0, 0)) u7_9) : gb257 ≠ gb256)); replace BK256 := am (bb_ BK256.out u7_9 hb); clear hb hbox hg; have hnb7 := NB255_256.out; have hnc7 := NB256_255.out; have hnb8 := NB255_257.out; have hnc8 := NB257_255.out; obtain ⟨hcz9_0, hcz9_1, hcz9_2, hfz9_0, hfz9_1, hfz9_2⟩ := bc3f w6 BK255.out; have hnb10 := NB257_256.out; have hnc10 := NB256_257.out; obtain ⟨hcz11_0, hcz11_1, hcz11_2, hfz11_0, hfz11_1, hfz11_2⟩ := bc3f w6 BK257.out) | ((with_reducible refine gate_callee (f := 96) rfl ?_); refine goesL_ (some 9) rfl rfl Try.func96 kr rfl #[.slice A0_1 l0_1.length c0_1] rfl Q0 ?_; (with_reducible refine (laws_toNodeS.calls k _ _ l0_1 t258 _ ?side1 ?side2 A2.out).mono ?_); (case side1 => exact (by exact Kd.C_below HR0_1.out Q2)); (case side2 => exact HC0_1.out); rintro e w12 ⟨v259, rfl, ho0, hb⟩; refine ⟨_, rfl, ?_⟩; have HO260 := am (Kd.S_lower ho0 (below_size Q2)); replace BK255 := am (blk_below (g := gb255) (o := .cells #[.int .i64 a0_0, .slice A0_1 l0_1.length c0_1, .slice A0_2 l0_2.length c0_2] 68 (0, 0)) u7_7 hb); replace BK256 := am (blk_below (g := gb256) (o := .cells #[.int .i64 0, .slice none 0 0, .slice none 0 0] 53 (0, 0)) u7_8 hb); replace BK257 := am (blk_below (g := gb257) (o := .cells #[.int .i64 a0_0, .slice none 0 0, .slice none 0 0] 53 (0, 0)) (by (with_reducible repeat (first | apply b1_ | apply b2_ | apply b3_)); refine blk_put (cs := #[.int .i64 0, .slice none 0 0, .slice none 0 0]) ?_ 0 _ rfl; (with_reducible repeat (first | apply b1_ | apply b2_ | apply b3_)); exact BK257.out) hb); replace HB := am (below_step Q2 hb); (try clear hb); (try clear hb2); (try clear hk); (try clear hi); (try clear ho0); obtain ⟨Ao13, co13, eo13⟩ := Kd.S_slice HO260.out; subst eo13; obtain ⟨hcz14_0, hcz14_1, hcz14_2, hfz14_0, hfz14_1, hfz14_2⟩ := bc3f w12 BK257.out; obtain ⟨hcz15_0, hcz15_1, hcz15_2, hfz15_0, hfz15_1, hfz15_2⟩ := bc3f w12 BK255.out) | ((with_reducible refine gate_callee (f := 97) rfl ?_); refine goesL_ (some 13) rfl rfl Try.func97 kr rfl #[.slice A0_2 l0_2.length c0_2] rfl Q0 ?_; (with_reducible refine (laws_toMsgS.calls k _ _ l0_2 t261 _ ?side1 ?side2 A3.out).mono ?_); (case side1 => exact (by exact Kd.C_below HR0_2.out Q2)); (case side2 => exact HC0_2.out); rintro e w16 ⟨v262, rfl, ho0, hb⟩; refine ⟨_, rfl, ?_⟩; have n0_ := am (Kd.S_below (by (with_reducible repeat (first | apply s1_ | apply s2_ | apply s3_)); exact (Kd.S_mono (Kd.S_far (p := ⟨gb257, 1, none⟩) (Kd.S_types HO260.out BK257.out (by decide)) (fun _ hk => hk.2) (.slice Ao13 t258.length co13)) (fun _ h_ => h_.1))) hb); have n1_ := am (Kd.S_lower ho0 (below_size Q2)); have n2_ := am (blk_below (g := gb255) (o := .cells #[.int .i64 a0_0, .slice A0_1 l0_1.length c0_1, .slice A0_2 l0_2.length c0_2] 68 (0, 0)) u7_7 hb); have n3_ := am (blk_below (g := gb256) (o := .cells #[.int .i64 0, .slice none 0 0, .slice none 0 0] 53 (0, 0)) u7_8 hb); have n4_ := am (blk_below (g := gb257) (o := .cells #[.int .i64 a0_0, .slice Ao13 t258.length co13, .slice none 0 0] 53 (0, 0)) (by (with_reducible repeat (first | apply b1_ | apply b2_ | apply b3_)); refine blk_put (cs := #[.int .i64 a0_0, .slice none 0 0, .slice none 0 0]) ?_ 1 _ rfl; (with_reducible repeat (first | apply b1_ | apply b2_ | apply b3_)); exact BK257.out) hb); have n5_ := am (below_step Q2 hb); obtain ⟨N_, q0_, q1_⟩ := split2_ (by (with_reducible repeat (first | apply s1_ | apply s2_ | apply s3_)); exact (Kd.S_mono (Kd.S_far (p := ⟨gb257, 1, none⟩) (Kd.S_types HO260.out BK257.out (by decide)) (fun _ hk => hk.2) (.slice Ao13 t258.length co13)) (fun _ h_ => h_.1))) ho0 hb (below_size Q2); have HQ260 := am q0_; have HQ263 := am q1_; clear q0_ q1_; clear HO260; clear BK255; clear BK256; clear BK257; clear HB; have HO260 := n0_; have HO263 := n1_; have BK255 := n2_; have BK256 := n3_; have BK257 := n4_; have HB := n5_; clear n0_ n1_ n2_ n3_ n4_ n5_; (try clear hb); (try clear hb2); (try clear hk); (try clear hi); (try clear ho0); obtain ⟨Ao17, co17, eo17⟩ := Kd.S_slice HO263.out; subst eo17; obtain ⟨hcz18_0, hcz18_1, hcz18_2, hfz18_0, hfz18_1, hfz18_2⟩ := bc3f w16 BK257.out; obtain ⟨hcz19_0, hcz19_1, hcz19_2, hfz19_0, hfz19_1, hfz19_2⟩ := bc3f w16 BK256.out))
 refine bodyPost_ret (results_cell_row rfl _ _ gb256 53 #[.int .i64 a0_0, .slice Ao13 t258.length co13, .slice Ao17 t261.length co17] (0, 0) _ rfl (by (with_reducible repeat (first | apply b1_ | apply b2_ | apply b3_)); refine blk_put (cs := #[.int .i64 a0_0, .slice Ao13 t258.length co13, .slice none 0 0]) ?_ 2 _ rfl; (with_reducible repeat (first | apply b1_ | apply b2_ | apply b3_)); refine blk_put (cs := #[.int .i64 a0_0, .slice none 0 0, .slice none 0 0]) ?_ 1 _ rfl; (with_reducible repeat (first | apply b1_ | apply b2_ | apply b3_)); refine blk_put (cs := #[.int .i64 0, .slice none 0 0, .slice none 0 0]) ?_ 0 _ rfl; (with_reducible repeat (first | apply b1_ | apply b2_ | apply b3_)); refine blk_far ?_ NB256_257.out _; (with_reducible repeat (first | apply b1_ | apply b2_ | apply b3_)); exact BK256.out) Try.underlying53 rfl kr) rfl ?_
 exact ⟨_, _, er, (by (with_reducible repeat (first | apply s1_ | apply s2_ | apply s3_)); exact Kd.S_mono (Kd.S_far (p := ⟨gb256, 2, none⟩) (Kd.S_far (p := ⟨gb256, 1, none⟩) (Kd.S_far (p := ⟨gb256, 0, none⟩) (Kd.S_far (p := ⟨gb257, 2, none⟩) (Kd.S_types (Kd.S_types HO260.out BK257.out (by decide)) BK256.out (by decide)) (fun _ hk => hk.1.2) (.slice Ao17 t261.length co17)) (fun _ hk => hk.2) (.int .i64 a0_0)) (fun _ hk => hk.2) (.slice Ao13 t258.length co13)) (fun _ hk => hk.2) (.slice Ao17 t261.length co17)) (fun _ hk => trivial)), (by (with_reducible repeat (first | apply s1_ | apply s2_ | apply s3_)); exact Kd.S_mono (Kd.S_far (p := ⟨gb256, 2, none⟩) (Kd.S_far (p := ⟨gb256, 1, none⟩) (Kd.S_far (p := ⟨gb256, 0, none⟩) (Kd.S_far (p := ⟨gb257, 2, none⟩) (Kd.S_types (Kd.S_types HO263.out BK257.out (by decide)) BK256.out (by decide)) (fun _ hk => hk.1.2) (.slice Ao17 t261.length co17)) (fun _ hk => hk.2) (.int .i64 a0_0)) (fun _ hk => hk.2) (.slice Ao13 t258.length co13)) (fun _ hk => hk.2) (.slice Ao17 t261.length co17)) (fun _ hk => trivial)), Q2, N_, (by (with_reducible repeat (first | apply s1_ | apply s2_ | apply s3_)); exact Kd.S_mono (Kd.S_far (p := ⟨gb256, 2, none⟩) (Kd.S_far (p := ⟨gb256, 1, none⟩) (Kd.S_far (p := ⟨gb256, 0, none⟩) (Kd.S_far (p := ⟨gb257, 2, none⟩) (Kd.S_types (Kd.S_types HQ260.out BK257.out (by decide)) BK256.out (by decide)) (fun _ hk => hk.1.2) (.slice Ao17 t261.length co17)) (fun _ hk => hk.2) (.int .i64 a0_0)) (fun _ hk => hk.2) (.slice Ao13 t258.length co13)) (fun _ hk => hk.2) (.slice Ao17 t261.length co17)) (fun _ hk => hk.1.1.2)), (by (with_reducible repeat (first | apply s1_ | apply s2_ | apply s3_)); exact Kd.S_mono (Kd.S_far (p := ⟨gb256, 2, none⟩) (Kd.S_far (p := ⟨gb256, 1, none⟩) (Kd.S_far (p := ⟨gb256, 0, none⟩) (Kd.S_far (p := ⟨gb257, 2, none⟩) (Kd.S_types (Kd.S_types HQ263.out BK257.out (by decide)) BK256.out (by decide)) (fun _ hk => hk.1.2) (.slice Ao17 t261.length co17)) (fun _ hk => hk.2) (.int .i64 a0_0)) (fun _ hk => hk.2) (.slice Ao13 t258.length co13)) (fun _ hk => hk.2) (.slice Ao17 t261.length co17)) (fun _ hk => hk.1.1.2))⟩
theorem laws_toGroup.calls (k : Nat) (a0_0 : Int) (A0_1 : Option Addr) (c0_1 : Nat) (l0_1 : List (S45)) (A0_2 : Option Addr) (c0_2 : Nat) (l0_2 : List (S24)) (r1 : Int) (r2 : List (S37)) (r3 : List (S29)) (w : World) (hr0_1 : Kd.C k45 w A0_1 l0_1.length l0_1) (hc0_1 : l0_1.length ≤ c0_1) (hr0_2 : Kd.C k24 w A0_2 l0_2.length l0_2) (hc0_2 : l0_2.length ≤ c0_2) (h : laws_toGroup.f k a0_0 l0_1 l0_2 = some (r1, r2, r3)) :
   Calls Try.prog 45 #[.agg #[.int .i64 a0_0, .slice A0_1 l0_1.length c0_1, .slice A0_2 l0_2.length c0_2]] w fun e w' => ∃ v1_ v2_ : Value, e = .returned (.agg #[.int .i64 r1, v1_, v2_]) ∧ Kd.S k37 37 w' w.heap.size (fun _ => True) v1_ r2 ∧ Kd.S k29 29 w' w.heap.size (fun _ => True) v2_ r3 ∧ Below w.heap.size w w' :=
 (laws_toGroup.callsQ k a0_0 A0_1 c0_1 l0_1 A0_2 c0_2 l0_2 r1 r2 r3 w hr0_1 hc0_1 hr0_2 hc0_2 h).mono (fun _ _ ⟨v1_, v2_, h1_, h2_, h3_, h4_, _⟩ => ⟨v1_, v2_, h1_, h2_, h3_, h4_⟩)
def spec_l01In.f (a0 : Int) (a1 : Int) (a2 : Int) : Option (Bool) := if a1 ≤ a0 then (some (decide (a0 ≤ a2))) else (some false)
set_option maxHeartbeats 8000000 in
set_option maxRecDepth 100000 in
theorem spec_l01In.calls (a0 : Int) (a1 : Int) (a2 : Int) (r : Bool) (w : World) (h : spec_l01In.f a0 a1 a2 = some r) :
   Calls Try.prog 63 #[.int .i64 a0, .int .i64 a1, .int .i64 a2] w fun e w' => e = .returned (.bool r) ∧ Drawn0 w w' := by
 have H : (if a1 ≤ a0 then (some (decide (a0 ≤ a2))) else (some false)) = some r := h
 clear h
 by_cases c4 : a1 ≤ a0
 · rw [if_pos c4] at H
   have c4b0 : decide (a1 ≤ a0) = true := decide_eq_true c4
   clear c4
   obtain rfl := sj H
   go_enter Try.func63, Try.ntmps63
   go_wp2
   go_ret
   exact ⟨by first | rfl | (simp; done) | (simp [*]; done), Q4⟩
 rw [if_neg c4] at H
 have c4b0 : decide (a1 ≤ a0) = false := decide_eq_false c4
 clear c4
 obtain rfl := sj H
 go_enter Try.func63, Try.ntmps63
 go_wp2
 go_ret
 exact ⟨by first | rfl | (simp; done) | (simp [*]; done), Q4⟩
def spec_l07Size.f (a0 : Int) : Option (Bool) := (spec_l01In.f a0 1 5).bind fun t264 => (some t264)
set_option maxHeartbeats 8000000 in
set_option maxRecDepth 100000 in
theorem spec_l07Size.calls (a0 : Int) (r : Bool) (w : World) (h : spec_l07Size.f a0 = some r) :
   Calls Try.prog 62 #[.int .i64 a0] w fun e w' => e = .returned (.bool r) ∧ Drawn0 w w' := by
 have H : ((spec_l01In.f a0 1 5).bind fun t264 => (some t264)) = some r := h
 clear h
 replace H := Option.bind_eq_some_iff.mp H
 obtain ⟨t264, A20, H⟩ := H
 replace H : (some t264) = some r := H
 have A2 := am A20
 clear A20
 obtain rfl := sj H
 go_enter Try.func62, Try.ntmps62
 go_wp2_with (first | ((with_reducible refine gate_callee (f := 63) rfl ?_); refine goesL_ (some 4) rfl rfl Try.func63 kr rfl #[.int .i64 a0, .int .i64 1, .int .i64 5] rfl Q0 ?_; (with_reducible refine (spec_l01In.calls a0 1 5 t264 _ A2.out).mono ?_); rintro e w' ⟨rfl, ⟨nd, rfl⟩⟩; refine ⟨_, rfl, ?_⟩))
 go_ret
 exact ⟨by first | rfl | (simp; done) | (simp [*]; done), Q4⟩
def spec_l05Entry.f (a0_0 : Int) (a0_1 : ByteArray) : Option (Bool) := (spec_l01In.f a0_0 1 1000000).bind fun t266 => (if t266 = true then (some (decide ((a0_1.size : Int) ≤ 40))) else (some false))
set_option maxHeartbeats 8000000 in
set_option maxRecDepth 100000 in
theorem spec_l05Entry.calls (a0_0 : Int) (a0_1 : ByteArray) (r : Bool) (w : World) (h : spec_l05Entry.f a0_0 a0_1 = some r) :
   Calls Try.prog 64 #[.agg #[.int .i64 a0_0, .string a0_1]] w fun e w' => e = .returned (.bool r) ∧ Below w.heap.size w w' := by
 have hu85 := Try.underlying85
 have HB := am (Below.refl w.heap.size w)
 have H : ((spec_l01In.f a0_0 1 1000000).bind fun t266 => (if t266 = true then (some (decide ((a0_1.size : Int) ≤ 40))) else (some false))) = some r := h
 clear h
 replace H := Option.bind_eq_some_iff.mp H
 obtain ⟨t266, A20, H⟩ := H
 replace H : (if t266 = true then (some (decide ((a0_1.size : Int) ≤ 40))) else (some false)) = some r := H
 have A2 := am A20
 clear A20
 by_cases c3 : t266 = true
 · subst c3
   rw [if_pos rfl] at H
   obtain rfl := sj H
   go_enter Try.func64, Try.ntmps64
   go_wp2_with (first | ((with_reducible refine gate_dst (N := 1) rfl ?_); (try (refine gate_guard (by rfl) ?_; dsimp only)); refine box_event ?hg (N := 1) ?hd (cs := #[.int .i64 a0_0, .string a0_1]) (t := 85) ?hr ?_; (case hd => rfl); (case hg => rfl); (case hr => first | (go_simp; done) | (go_simp; rfl)); intro gb265 hg w4 hbox hb; have BK265 := am (hbox); have GW265 := am ((by rw [hg]; exact (below_size Q2) : w.heap.size ≤ gb265)); have GE265 := am ((by rw [hg]; exact (below_size Q2) : w.heap.size ≤ gb265)); replace HB := am (below_step Q2 hb); clear hb hbox hg; obtain ⟨hcz5_0, hcz5_1, hfz5_0, hfz5_1⟩ := bc2f w4 BK265.out) | ((with_reducible refine gate_callee (f := 63) rfl ?_); refine goesL_ (some 5) rfl rfl Try.func63 kr rfl #[.int .i64 a0_0, .int .i64 1, .int .i64 1000000] rfl Q0 ?_; (with_reducible refine (spec_l01In.calls a0_0 1 1000000 true _ A2.out).mono ?_); rintro e w' ⟨rfl, ⟨nd, rfl⟩⟩; refine ⟨_, rfl, ?_⟩))
   go_ret
   exact ⟨er, Q2⟩
 replace c3 := Bool.eq_false_iff.mpr c3
 subst c3
 rw [nf] at H
 obtain rfl := sj H
 go_enter Try.func64, Try.ntmps64
 go_wp2_with (first | ((with_reducible refine gate_dst (N := 1) rfl ?_); (try (refine gate_guard (by rfl) ?_; dsimp only)); refine box_event ?hg (N := 1) ?hd (cs := #[.int .i64 a0_0, .string a0_1]) (t := 85) ?hr ?_; (case hd => rfl); (case hg => rfl); (case hr => first | (go_simp; done) | (go_simp; rfl)); intro gb265 hg w6 hbox hb; have BK265 := am (hbox); have GW265 := am ((by rw [hg]; exact (below_size Q2) : w.heap.size ≤ gb265)); have GE265 := am ((by rw [hg]; exact (below_size Q2) : w.heap.size ≤ gb265)); replace HB := am (below_step Q2 hb); clear hb hbox hg; obtain ⟨hcz7_0, hcz7_1, hfz7_0, hfz7_1⟩ := bc2f w6 BK265.out) | ((with_reducible refine gate_callee (f := 63) rfl ?_); refine goesL_ (some 5) rfl rfl Try.func63 kr rfl #[.int .i64 a0_0, .int .i64 1, .int .i64 1000000] rfl Q0 ?_; (with_reducible refine (spec_l01In.calls a0_0 1 1000000 false _ A2.out).mono ?_); rintro e w' ⟨rfl, ⟨nd, rfl⟩⟩; refine ⟨_, rfl, ?_⟩))
 go_ret
 exact ⟨er, Q2⟩
end Go.Proofs.Ytkcadcoohmofcaa.QFnExactSettled
