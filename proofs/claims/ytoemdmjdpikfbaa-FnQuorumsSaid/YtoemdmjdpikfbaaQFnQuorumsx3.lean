-- Printed by the session's own program wip/prx.py.
import Derived.Test.YtoemdmjdpikfbaaSqFnQuorums
import Derived.Test.YtoemdmjdpikfbaaQFnQuorumsx0
import Derived.Test.YtoemdmjdpikfbaaQFnQuorumsx1
namespace Go.Proofs.Ytoemdmjdpikfbaa.QFnQuorums
open Go.RowKit Go.Proofs.YtoemdmjdpikfbaaW.PrintWords Go.Proofs.YtoemdmjdpikfbaaW.PrintLast Go.Proofs.YtoemdmjdpikfbaaW.PrintMore Go.Proofs.Ytoemdmjdpikfbaa.SqFnQuorums
attribute [local go_sem] max2_int min2_int max_two min_two max_three min_three max_four min_four Go.Proofs.Ytoemdmjdpikfbaa.Set.isSome_setCell
set_option linter.unusedVariables false
set_option linter.unusedSimpArgs false

-- squeezed
theorem u3_1 {P : Prop} (h : P := by (with_reducible repeat (first | apply Kd.R_alloc | apply Kd.R_drewN | apply Kd.R_drew)); exact HO_5.out) : P := h
/-! ### spec_l06Less: function 56 -/
def spec_l06Less.l0 : Nat → List Int → List Int → List Int → Int → Option (List Int)
 | 0, _, _, _, _ => none
 | k + 1, x0, x1, x5, x6 => if x6 < (x0.length : Int) then (if 0 ≤ x6 then ((spec_l01Has.f k x1 (rd x0 x6)).bind fun t143 => (if t143 = true then (spec_l06Less.l0 k x0 x1 x5 (wrap64 (x6 + 1))) else (if x5.length < 17592186044416 then (spec_l06Less.l0 k x0 x1 (x5 ++ [rd x0 x6]) (wrap64 (x6 + 1))) else (none)))) else (none)) else (some x5)
def spec_l06Less.f (k : Nat) (l0 : List Int) (l1 : List Int) : Option (List Int) := spec_l06Less.l0 k l0 l1 (([] : List Int)) 0
theorem spec_l06Less.mono_l : ∀ k, (∀ y0 y1 y2 y3, LeO (spec_l06Less.l0 k y0 y1 y2 y3) (spec_l06Less.l0 (k + 1) y0 y1 y2 y3))
 | 0 => fun _ _ _ _ r h => by simp [spec_l06Less.l0] at h
 | k + 1 => by
   have ih0 := spec_l06Less.mono_l k
   · intro y0 y1 y2 y3
     unfold spec_l06Less.l0
     repeat' first
     | (with_reducible exact ih0 _ _ _ _)
     | (with_reducible exact spec_l01Has.mono _ _ _)
     | (with_reducible exact LeO.refl _)
     | (with_reducible exact LeO.none _)
     | (with_reducible refine LeO.ite ?_ ?_)
     | (with_reducible refine LeO.bind ?_ (fun _ => ?_))
     | exact ih0 _ _ _ _
     | exact spec_l01Has.mono _ _ _
     | exact LeO.none _
     | refine LeO.ite ?_ ?_
     | refine LeO.bind ?_ (fun _ => ?_)
theorem spec_l06Less.mono : ∀ a0 a1 k, LeO (spec_l06Less.f k a0 a1) (spec_l06Less.f (k + 1) a0 a1) := by
 intro a0 a1 k
 have ih0 := spec_l06Less.mono_l k
 unfold spec_l06Less.f
 repeat' first
     | (with_reducible exact ih0 _ _ _ _)
     | (with_reducible exact spec_l01Has.mono _ _ _)
     | (with_reducible exact LeO.refl _)
     | (with_reducible exact LeO.none _)
     | (with_reducible refine LeO.ite ?_ ?_)
     | (with_reducible refine LeO.bind ?_ (fun _ => ?_))
     | exact ih0 _ _ _ _
     | exact spec_l01Has.mono _ _ _
     | exact LeO.none _
     | refine LeO.ite ?_ ?_
     | refine LeO.bind ?_ (fun _ => ?_)
set_option maxHeartbeats 8000000 in
set_option maxRecDepth 100000 in
theorem spec_l06Less.calls (k : Nat) (A0 : Option Addr) (c0 : Nat) (l0 : List Int) (A1 : Option Addr) (c1 : Nat) (l1 : List Int) (r : List Int) (w : World) (hr0 : Kd.C (Kd.int .i64) w A0 l0.length l0) (hc0 : l0.length ≤ c0) (hr1 : Kd.C (Kd.int .i64) w A1 l1.length l1) (hc1 : l1.length ≤ c1) (h : spec_l06Less.f k l0 l1 = some r) :
   Calls Try.prog 56 #[.slice A0 l0.length c0, .slice A1 l1.length c1] w fun e w' => ∃ v0_ : Value, e = .returned (v0_) ∧ Kd.R (Kd.int .i64) 3 w' w.heap.size (fun _ => True) v0_ r ∧ Below w.heap.size w w' := by
 have HR0 := am hr0
 have HC0 := am hc0
 clear hr0 hc0
 have HR1 := am hr1
 have HC1 := am hc1
 clear hr1 hc1
 have HB := am (Below.refl w.heap.size w)
 have H : (spec_l06Less.l0 k l0 l1 (([] : List Int)) 0) = some r := h
 clear h
 obtain ⟨y139, hy139⟩ : ∃ y_ : List Int, y_ = (([] : List Int)) := ⟨_, rfl⟩
 replace H : (spec_l06Less.l0 k l0 l1 y139 0) = some r := by first | (rw [hy139]; with_reducible exact H) | (have H2_ := (Option.bind_some _ _).symm.trans H; rw [hy139]; with_reducible exact H2_) | (have H2_ := (Option.bind_some _ _).symm.trans H; with_reducible exact H2_) | with_reducible exact H | (rw [hy139]; exact H) | exact H
 have Ny139 := am hy139
 clear hy139
 have H' := am H
 clear H
 go_enter Try.func56, Try.ntmps56
 go_wp2_with (first | ((with_reducible refine gate_dst (N := 7) rfl ?_); refine Kd.R_lit (Kd.int .i64) _ 3 ?hg (N := 7) ?hd (xs := ([] : List Int)) (inner := []) (ok := fun _ => True) (okp := fun _ => True) ?hr ?hp (fun _ hk => hk) trivial (Below.refl _ _) (Nat.le_refl _) (by simp) ?_; (case hd => rfl); (case hg => rfl); (case hr => first | (go_simp; done) | (go_simp; rfl)); (case hp => exact (Reps.none _ _)); intro v140 w3 ho4 hb hg_ hnew_; clear hg_ hnew_; (first | rw [← Ny139.out] at ho4 | (simp only [Int.reduceToNat] at ho4; rw [← Ny139.out] at ho4)); have HO141 := am (Kd.R_lower ho4 (below_size Q0)); replace HB := am (below_step Q0 hb); clear hb ho4))
 go_loopg [5, 6] k (fun kq v5 v6 w' => ∃ (x5_1 : List Int) (x6_1 : Int), v6 = .int .i64 x6_1 ∧ Aside0 (spec_l06Less.l0 kq l0 l1 x5_1 x6_1 = some r) ∧ Aside0 (kq ≤ k) ∧ Aside0 (Kd.R (Kd.int .i64) 3 w' w.heap.size (fun _ => True) v5 x5_1) ∧ Aside0 (Below w.heap.size w w'))
 case atStart => exact ⟨(y139), (0), Q1, H', ⟨Nat.le_refl _⟩, ⟨(by (with_reducible repeat (first | apply Kd.R_alloc | apply Kd.R_drewN | apply Kd.R_drew)); exact HO141.out)⟩, ⟨Q0⟩⟩
 clear H'
 try clear c1
 obtain ⟨x5_1, x6_1, rfl, HA, HK1, HO_5, HB⟩ := hrel
 cases gk with
 | zero => exact absurd HA.out (by simp [spec_l06Less.l0])
 | succ k1 =>
   have H := HA.out
   clear HA
   simp only [spec_l06Less.l0] at H
   by_cases c5 : x6_1 < (l0.length : Int)
   rotate_left
   · rw [if_neg c5] at H
     have c5b0 : decide (x6_1 < (l0.length : Int)) = false := decide_eq_false c5
     clear c5
     obtain rfl := sj H
     go_wp2
     go_ret
     exact ⟨_, er, u3_1, Q0⟩
   rw [if_pos c5] at H
   have c5b0 : decide (x6_1 < (l0.length : Int)) = true := decide_eq_true c5
   clear c5
   by_cases c6 : 0 ≤ x6_1
   rotate_left
   · rw [if_neg c6] at H
     exact absurd H (by simp)
   rw [if_pos c6] at H
   have c6b0 : decide (0 ≤ x6_1) = true := decide_eq_true c6
   clear c6
   replace H := Option.bind_eq_some_iff.mp H
   obtain ⟨t143, A70, H⟩ := H
   have A7 := am A70
   clear A70
   have H9 := am H
   clear H
   have p142 : 0 ≤ (x6_1 : Int) := of_decide_eq_true Q2
   have q142 : x6_1 < (l0.length : Int) := of_decide_eq_true Q2
   obtain ⟨ad142, e142, hx142_0⟩ := Kd.at_int HR0.out x6_1 p142 q142
   cases e142
   replace hx142_0 := cm HB.out hx142_0
   replace p142 := eq_true p142
   replace q142 := eq_true q142
   go_upto_if 20 with (first | ((with_reducible refine gate_callee (f := 54) rfl ?_); refine goesL_ (some 19) rfl rfl Try.func54 kr rfl #[.slice A1 l1.length c1, .int .i64 (rd l0 x6_1)] rfl (by (try simp only [List.map_toArray, List.map_cons, List.map_nil]); first | done | rfl | (simp only [List.length_drop, List.length_take]; rfl)) ?_; (with_reducible refine (spec_l01Has.calls k1 _ _ l1 (rd l0 x6_1) t143 _ ?side1 ?side2 A7.out).mono ?_); (case side1 => exact (by repeat (first | exact (Kd.C_below HR1.out HB.out) | (with_reducible refine Kd.C_alloc ?_ _) | (with_reducible refine Kd.C_drewN ?_ _) | (with_reducible refine Kd.C_drew ?_)))); (case side2 => exact HC1.out); rintro e w' ⟨rfl, ⟨nd, rfl⟩⟩; refine ⟨_, rfl, ?_⟩))
   have H := H9.out
   clear H9
   by_cases c8 : t143 = true
   · subst c8
     rw [if_pos rfl] at H
     have H' := am H
     clear H
     go_wp2
     go_roundg k1
     case measure => have := HK1.out; omega
     case rel => exact ⟨(x5_1), (wrap64 (x6_1 + 1)), Q1, H', ⟨by have := HK1.out; omega⟩, ⟨u3_1⟩, ⟨Q0⟩⟩
   replace c8 := Bool.eq_false_iff.mpr c8
   subst c8
   rw [nf] at H
   by_cases c9 : x5_1.length < 17592186044416
   rotate_left
   · rw [if_neg c9] at H
     exact absurd H (by simp)
   rw [if_pos c9] at H
   have LMc9 := am c9
   clear c9
   obtain ⟨y145, hy145⟩ : ∃ y_ : List Int, y_ = (x5_1 ++ [rd l0 x6_1]) := ⟨_, rfl⟩
   replace H : (spec_l06Less.l0 k1 l0 l1 y145 (wrap64 (x6_1 + 1))) = some r := by first | (rw [hy145]; with_reducible exact H) | (have H2_ := (Option.bind_some _ _).symm.trans H; rw [hy145]; with_reducible exact H2_) | (have H2_ := (Option.bind_some _ _).symm.trans H; with_reducible exact H2_) | with_reducible exact H | (rw [hy145]; exact H) | exact H
   have Ny145 := am hy145
   clear hy145
   have H' := am H
   clear H
   have p144 : 0 ≤ (x6_1 : Int) := of_decide_eq_true Q2
   have q144 : x6_1 < (l0.length : Int) := of_decide_eq_true Q2
   obtain ⟨ad144, e144, hx144_0⟩ := Kd.at_int HR0.out x6_1 p144 q144
   obtain rfl : ad142 = ad144 := (by injection e144)
   replace hx144_0 := cm HB.out hx144_0
   replace p144 := eq_true p144
   replace q144 := eq_true q144
   go_wp2_with (first | ((with_reducible refine gate_builtin (b := .append) (xs := #[.tmp 21, .tmp 26]) rfl ?_); at_builtin; refine Kd.R_append (Kd.int .i64) (w0 := w) w.heap.size rfl (.tmp 21) (.tmp 26) 24 3 (.int .i64 0) 8 rfl Try.underlying24 info3 rfl (by decide) (by omega) u5 x5_1 (rd l0 x6_1) [.int .i64 (rd l0 x6_1)] (fun _ => True) (fun _ => False) rfl rfl ?aP (fun _ hk => hk.elim) ?aF ?aO ?aB ?aS ?aL ?_; (case aP => exact rfl); (case aB => exact Q0); (case aF => exact (fun _ _ => trivial)); (case aO => exact u3_1); (case aS => exact (below_size Q0)); (case aL => have := LMc9.out; omega); intro v146 w10 ho hb hg hat; rw [← Ny145.out] at ho; replace HB := am (hb); have HO147 := am (ho); clear HO_5; clear ho hb hg hat))
   go_roundg k1
   case measure => have := HK1.out; omega
   case rel => exact ⟨(y145), (wrap64 (x6_1 + 1)), Q1, H', ⟨by have := HK1.out; omega⟩, ⟨(by (with_reducible repeat (first | apply Kd.R_alloc | apply Kd.R_drewN | apply Kd.R_drew)); exact HO147.out)⟩, ⟨Q0⟩⟩

end Go.Proofs.Ytoemdmjdpikfbaa.QFnQuorums
