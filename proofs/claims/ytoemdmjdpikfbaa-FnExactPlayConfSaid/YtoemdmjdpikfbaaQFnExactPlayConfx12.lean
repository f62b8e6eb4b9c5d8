import Derived.Test.YtoemdmjdpikfbaaSqFnExactPlayConf
import Derived.Test.YtoemdmjdpikfbaaQFnExactPlayConfx0
import Derived.Test.YtoemdmjdpikfbaaQFnExactPlayConfx11
namespace Go.Proofs.Ytoemdmjdpikfbaa.QFnExactPlayConf
open Go.RowKit Go.Proofs.YtoemdmjdpikfbaaW.PrintWords Go.Proofs.YtoemdmjdpikfbaaW.PrintLast Go.Proofs.YtoemdmjdpikfbaaW.PrintMore Go.Proofs.Ytoemdmjdpikfbaa.SqFnExactPlayConf
attribute [local go_sem] max2_int min2_int max_two min_two max_three min_three max_four min_four Go.Proofs.Ytoemdmjdpikfbaa.Set.isSome_setCell
set_option linter.unusedVariables false
set_option linter.unusedSimpArgs false
theorem u12_3 {P : Prop} (h : P := by simp [Act.eval, Act.put]) : P := h
theorem u12_4 {P : Prop} (h : P := by simp only [Nat.min_def]; split <;> omega) : P := h
theorem u12_5 {P : Prop} (h : P := by first | rfl | (simp; done) | (simp only [← hji4] <;> (first | rfl | simp)) | (simp [*]; done)) : P := h
theorem u12_6 {P : Prop} (h : P := by rw [List.length_take]; omega) : P := h
def slices_BinarySearch_int_int.l0 : Nat → List Int → Int → Int → Int → Int → Option (Int × Bool)
 | 0, _, _, _, _, _ => none
 | k + 1, x0, x1, x6, x7, x8 => if x7 < x8 then (if 0 ≤ (wrap64 ((IntKind.u64.wrap (wrap64 (x7 + x8))) / 2)) then (if (wrap64 ((IntKind.u64.wrap (wrap64 (x7 + x8))) / 2)) < (x0.length : Int) then ((cmp_Less_int.f (rd x0 (wrap64 ((IntKind.u64.wrap (wrap64 (x7 + x8))) / 2))) x1).bind fun t472 => (if t472 = true then (slices_BinarySearch_int_int.l0 k x0 x1 x6 (wrap64 ((wrap64 ((IntKind.u64.wrap (wrap64 (x7 + x8))) / 2)) + 1)) x8) else (slices_BinarySearch_int_int.l0 k x0 x1 x6 x7 (wrap64 ((IntKind.u64.wrap (wrap64 (x7 + x8))) / 2))))) else (none)) else (none)) else (if x7 < x6 then (if 0 ≤ x7 then (if x7 < (x0.length : Int) then (if (rd x0 x7) = x1 then (some (x7, true)) else ((slices_isNaN_int.f (rd x0 x7)).bind fun t475 => (if t475 = true then ((slices_isNaN_int.f x1).bind fun t476 => (some (x7, t476))) else (some (x7, false))))) else (none)) else (none)) else (some (x7, false)))
def slices_BinarySearch_int_int.f (k : Nat) (l0 : List Int) (a1 : Int) : Option (Int × Bool) := slices_BinarySearch_int_int.l0 k l0 a1 (l0.length : Int) 0 (l0.length : Int)
theorem slices_BinarySearch_int_int.mono_l : ∀ k, (∀ y0 y1 y2 y3 y4, LeO (slices_BinarySearch_int_int.l0 k y0 y1 y2 y3 y4) (slices_BinarySearch_int_int.l0 (k + 1) y0 y1 y2 y3 y4))
 | 0 => fun _ _ _ _ _ r h => by simp [slices_BinarySearch_int_int.l0] at h
 | k + 1 => by
   have ih0 := slices_BinarySearch_int_int.mono_l k
   · intro y0 y1 y2 y3 y4
     unfold slices_BinarySearch_int_int.l0
     repeat' first
     | (with_reducible exact ih0 _ _ _ _ _)
     | (with_reducible exact LeO.refl _)
     | (with_reducible exact LeO.none _)
     | (with_reducible refine LeO.ite ?_ ?_)
     | (with_reducible refine LeO.bind ?_ (fun _ => ?_))
     | exact ih0 _ _ _ _ _
     | exact LeO.none _
     | refine LeO.ite ?_ ?_
     | refine LeO.bind ?_ (fun _ => ?_)
theorem slices_BinarySearch_int_int.mono : ∀ a0 a1 k, LeO (slices_BinarySearch_int_int.f k a0 a1) (slices_BinarySearch_int_int.f (k + 1) a0 a1) := by
 intro a0 a1 k
 have ih0 := slices_BinarySearch_int_int.mono_l k
 unfold slices_BinarySearch_int_int.f
 repeat' first
     | (with_reducible exact ih0 _ _ _ _ _)
     | (with_reducible exact LeO.refl _)
     | (with_reducible exact LeO.none _)
     | (with_reducible refine LeO.ite ?_ ?_)
     | (with_reducible refine LeO.bind ?_ (fun _ => ?_))
     | exact ih0 _ _ _ _ _
     | exact LeO.none _
     | refine LeO.ite ?_ ?_
     | refine LeO.bind ?_ (fun _ => ?_)
set_option maxHeartbeats 8000000 in
set_option maxRecDepth 100000 in
theorem slices_BinarySearch_int_int.calls (k : Nat) (A0 : Option Addr) (c0 : Nat) (l0 : List Int) (a1 : Int) (r1 : Int) (r2 : Bool) (w : World) (hr0 : Kd.C (Kd.int .i64) w A0 l0.length l0) (hc0 : l0.length ≤ c0) (h : slices_BinarySearch_int_int.f k l0 a1 = some (r1, r2)) :
   Calls Try.prog 76 #[.slice A0 l0.length c0, .int .i64 a1] w fun e w' => e = .returned (.tuple #[.int .i64 r1, .bool r2]) ∧ Drawn0 w w' := by
 have HR0 := am hr0
 have HC0 := am hc0
 clear hr0 hc0
 have H : (slices_BinarySearch_int_int.l0 k l0 a1 (l0.length : Int) 0 (l0.length : Int)) = some (r1, r2) := h
 clear h
 have H' := am H
 clear H
 go_enter Try.func76, Try.ntmps76
 go_wp2
 go_loopg [7, 8] k (fun kq v7 v8 w' => ∃ (x7_1 : Int) (x8_1 : Int), v7 = .int .i64 x7_1 ∧ v8 = .int .i64 x8_1 ∧ Aside0 (slices_BinarySearch_int_int.l0 kq l0 a1 (l0.length : Int) x7_1 x8_1 = some (r1, r2)) ∧ Aside0 (kq ≤ k) ∧ Drawn0 w w')
 case atStart => exact ⟨(0), ((l0.length : Int)), Q9, Q9, H', ⟨Nat.le_refl _⟩, Q3⟩
 clear H'
 obtain ⟨x7_1, x8_1, rfl, rfl, HA, HK1, ⟨m1, rfl⟩⟩ := hrel
 cases gk with
 | zero => exact absurd HA.out (by simp [slices_BinarySearch_int_int.l0])
 | succ k1 =>
   have H := HA.out
   clear HA
   simp only [slices_BinarySearch_int_int.l0] at H
   by_cases c3 : x7_1 < x8_1
   · rw [if_pos c3] at H
     have c3b0 : decide (x7_1 < x8_1) = true := decide_eq_true c3
     clear c3
     obtain ⟨ji4, hji4⟩ : ∃ j_ : Int, (wrap64 ((IntKind.u64.wrap (wrap64 (x7_1 + x8_1))) / 2)) = j_ := ⟨_, rfl⟩
     replace H : (if 0 ≤ (ji4) then (if (ji4) < (l0.length : Int) then ((cmp_Less_int.f (rd l0 (ji4)) a1).bind fun t472 => (if t472 = true then (slices_BinarySearch_int_int.l0 k1 l0 a1 (l0.length : Int) (wrap64 ((ji4) + 1)) x8_1) else (slices_BinarySearch_int_int.l0 k1 l0 a1 (l0.length : Int) x7_1 ji4))) else (none)) else (none)) = some (r1, r2) := by first | (rw [hji4] at H; exact H) | (simp only [hji4] at H ⊢; exact H)
     have hji4w : (IntKind.i64.wrap ((IntKind.u64.wrap (wrap64 (x7_1 + x8_1))) / 2)) = ji4 := (i64_w _).trans hji4
     by_cases c5 : 0 ≤ (ji4)
     rotate_left
     · rw [if_neg c5] at H
       exact absurd H (by simp)
     rw [if_pos c5] at H
     have c5b0 : decide (0 ≤ (ji4)) = true := decide_eq_true c5
     clear c5
     by_cases c6 : (ji4) < (l0.length : Int)
     rotate_left
     · rw [if_neg c6] at H
       exact absurd H (by simp)
     rw [if_pos c6] at H
     have c6b0 : decide ((ji4) < (l0.length : Int)) = true := decide_eq_true c6
     clear c6
     replace H := Option.bind_eq_some_iff.mp H
     obtain ⟨t472, A70, H⟩ := H
     have A7 := am A70
     clear A70
     have H9 := am H
     clear H
     have p471 : 0 ≤ ((ji4) : Int) := of_decide_eq_true Q5
     have q471 : (ji4) < (l0.length : Int) := of_decide_eq_true Q5
     obtain ⟨ad471, e471, hx471_0⟩ := Kd.at_int HR0.out (ji4) p471 q471
     cases e471
     replace p471 := eq_true p471
     replace q471 := eq_true q471
     go_upto_if 27 with (first | ((with_reducible refine gate_callee (f := 90) rfl ?_); refine goesL_ (some 27) rfl rfl Try.func90 kr rfl #[.int .i64 (rd l0 (ji4)), .int .i64 a1] rfl (by (try simp only [List.map_toArray, List.map_cons, List.map_nil]); first | done | (simp only [hji4]; rfl) | rfl | (simp only [List.length_drop, List.length_take]; rfl)) ?_; (with_reducible refine (cmp_Less_int.calls (rd l0 (ji4)) a1 t472 _ A7.out).mono ?_); rintro e w' ⟨rfl, ⟨nd, rfl⟩⟩; refine ⟨_, rfl, ?_⟩))
     have H := H9.out
     clear H9
     by_cases c8 : t472 = true
     · subst c8
       rw [if_pos rfl] at H
       have H' := am H
       clear H
       go_wp2
       go_roundg k1
       case measure => have := HK1.out; omega
       case rel => exact ⟨(wrap64 ((ji4) + 1)), (x8_1), u12_5, Q9, H', ⟨by have := HK1.out; omega⟩, Q3⟩
     replace c8 := Bool.eq_false_iff.mpr c8
     subst c8
     rw [nf] at H
     have H' := am H
     clear H
     go_wp2
     go_roundg k1
     case measure => have := HK1.out; omega
     case rel => exact ⟨(x7_1), (ji4), Q9, u12_5, H', ⟨by have := HK1.out; omega⟩, Q3⟩
   rw [if_neg c3] at H
   have c3b0 : decide (x7_1 < x8_1) = false := decide_eq_false c3
   clear c3
   by_cases c9 : x7_1 < (l0.length : Int)
   rotate_left
   · rw [if_neg c9] at H
     have c9b0 : decide (x7_1 < (l0.length : Int)) = false := decide_eq_false c9
     clear c9
     simp only [Option.some.injEq, Prod.mk.injEq] at H
     obtain ⟨rfl, rfl⟩ := H
     go_wp2
     go_ret2
     exact ⟨by first | rfl | (simp; done) | (simp [*]; done), Q3⟩
   rw [if_pos c9] at H
   have c9b0 : decide (x7_1 < (l0.length : Int)) = true := decide_eq_true c9
   clear c9
   by_cases c10 : 0 ≤ x7_1
   rotate_left
   · rw [if_neg c10] at H
     exact absurd H (by simp)
   rw [if_pos c10] at H
   have c10b0 : decide (0 ≤ x7_1) = true := decide_eq_true c10
   clear c10
   by_cases c11 : x7_1 < (l0.length : Int)
   rotate_left
   · rw [if_neg c11] at H
     exact absurd H (by simp)
   rw [if_pos c11] at H
   have c11b0 : decide (x7_1 < (l0.length : Int)) = true := decide_eq_true c11
   clear c11
   by_cases c12 : (rd l0 x7_1) = a1
   · rw [if_pos c12] at H
     have c12b0 : ((rd l0 x7_1) == a1) = true := beq_iff_eq.mpr c12
     have c12b1 : ((rd l0 x7_1) != a1) = false := bne_eq_false_iff_eq.mpr c12
     clear c12
     simp only [Option.some.injEq, Prod.mk.injEq] at H
     obtain ⟨rfl, rfl⟩ := H
     have p473 : 0 ≤ (x7_1 : Int) := of_decide_eq_true Q5
     have q473 : x7_1 < (l0.length : Int) := of_decide_eq_true Q5
     obtain ⟨ad473, e473, hx473_0⟩ := Kd.at_int HR0.out x7_1 p473 q473
     cases e473
     replace p473 := eq_true p473
     replace q473 := eq_true q473
     go_wp2
     go_ret2
     exact ⟨by first | rfl | (simp; done) | (simp [*]; done), Q3⟩
   rw [if_neg c12] at H
   have c12b0 : ((rd l0 x7_1) == a1) = false := beq_eq_false_iff_ne.mpr c12
   have c12b1 : ((rd l0 x7_1) != a1) = true := bne_iff_ne.mpr c12
   replace H := Option.bind_eq_some_iff.mp H
   obtain ⟨t475, A130, H⟩ := H
   have A13 := am A130
   clear A130
   by_cases c14 : t475 = true
   rotate_left
   · replace c14 := Bool.eq_false_iff.mpr c14
     subst c14
     rw [nf] at H
     simp only [Option.some.injEq, Prod.mk.injEq] at H
     obtain ⟨rfl, rfl⟩ := H
     have p473 : 0 ≤ (x7_1 : Int) := of_decide_eq_true Q5
     have q473 : x7_1 < (l0.length : Int) := of_decide_eq_true Q5
     obtain ⟨ad473, e473, hx473_0⟩ := Kd.at_int HR0.out x7_1 p473 q473
     cases e473
     replace p473 := eq_true p473
     replace q473 := eq_true q473
     have p474 : 0 ≤ (x7_1 : Int) := of_decide_eq_true Q5
     have q474 : x7_1 < (l0.length : Int) := of_decide_eq_true Q5
     obtain ⟨ad474, e474, hx474_0⟩ := Kd.at_int HR0.out x7_1 p474 q474
     obtain rfl : ad473 = ad474 := (by injection e474)
     replace p474 := eq_true p474
     replace q474 := eq_true q474
     go_wp2_with (first | (go_at_call 91; (with_reducible refine (slices_isNaN_int.calls (rd l0 x7_1) false _ A13.out).mono ?_); rintro e w' ⟨rfl, ⟨nd, rfl⟩⟩))
     go_ret2
     exact ⟨by first | rfl | (simp; done) | (simp [*]; done), Q3⟩
   subst c14
   rw [if_pos rfl] at H
   replace H := Option.bind_eq_some_iff.mp H
   obtain ⟨t476, A150, H⟩ := H
   replace H : (some (x7_1, t476)) = some (r1, r2) := H
   have A15 := am A150
   clear A150
   simp only [Option.some.injEq, Prod.mk.injEq] at H
   obtain ⟨rfl, rfl⟩ := H
   have p473 : 0 ≤ (x7_1 : Int) := of_decide_eq_true Q5
   have q473 : x7_1 < (l0.length : Int) := of_decide_eq_true Q5
   obtain ⟨ad473, e473, hx473_0⟩ := Kd.at_int HR0.out x7_1 p473 q473
   cases e473
   replace p473 := eq_true p473
   replace q473 := eq_true q473
   have p474 : 0 ≤ (x7_1 : Int) := of_decide_eq_true Q5
   have q474 : x7_1 < (l0.length : Int) := of_decide_eq_true Q5
   obtain ⟨ad474, e474, hx474_0⟩ := Kd.at_int HR0.out x7_1 p474 q474
   obtain rfl : ad473 = ad474 := (by injection e474)
   replace p474 := eq_true p474
   replace q474 := eq_true q474
   go_wp2_with (first | (go_at_call 91; (with_reducible refine (slices_isNaN_int.calls (rd l0 x7_1) true _ A13.out).mono ?_); rintro e w' ⟨rfl, ⟨nd, rfl⟩⟩) | (go_at_call 91; (with_reducible refine (slices_isNaN_int.calls a1 t476 _ A15.out).mono ?_); rintro e w' ⟨rfl, ⟨nd, rfl⟩⟩))
   go_ret2
   exact ⟨by first | rfl | (simp; done) | (simp [*]; done), Q3⟩
def slices_Insert_int_int.enc (x : Int) : List Value := [.int .i64 x]
theorem slices_Insert_int_int.flat : Go.Proofs.Ytoemdmjdpikfbaa.Slc.Flat (Kd.int .i64) slices_Insert_int_int.enc := ⟨fun w base ok x => rfl, fun h => h⟩
def slices_Insert_int_int.f (l0 : List (Int)) (a1 : Int) (l2 : List (Int)) : Option (List (Int)) := if 0 ≤ a1 ∧ a1 ≤ (l0.length : Int) ∧ l2.length = 1 ∧ l0.length < 1000000 then some (l0.take a1.toNat ++ l2 ++ l0.drop a1.toNat) else none
theorem slices_Insert_int_int.info : (Try.prog.info? 3).map (fun i => (i.zero, i.size, i.bytes)) = some (some (.int .i64 0), 1, 8) := by kernel_rfl
theorem slices_Insert_int_int.size : (Try.prog.info? 3).map (·.size) = some 1 := by kernel_rfl
theorem slices_Insert_int_int.sizeOf (w : World) : (Go.sizeOf 3).run Try.prog w = .ok 1 w := by kernel_rfl
set_option maxHeartbeats 2000000 in
set_option maxRecDepth 100000 in
theorem slices_Insert_int_int.at_end (P0_ P2_ : Nat → Prop) (A0 : Option Addr) (n c0 : Nat) (l0 : List (Int)) (g2 : Nat) (c2 : Nat) (l2 : List (Int)) (w0 w : World) (hB : Below w0.heap.size w0 w) (ho0 : Kd.R (Kd.int .i64) 3 w w0.heap.size P0_ (.slice A0 n c0) l0) (hC2 : Kd.C (Kd.int .i64) w (some ⟨g2, 0, none⟩) 1 l2) (hn : l0.length = n) (hl2 : l2.length = 1) (hc2 : 1 ≤ c2) (hl : n < 1000000) (hnc : n ≤ c0) (hm : c0 ≤ maxLen) :
   Calls Try.prog 77 #[.slice A0 n c0, .int .i64 (n : Int), .slice (some ⟨g2, 0, none⟩) 1 c2] w fun e w' => ∃ v0_ : Value, e = .returned (v0_) ∧ Kd.R (Kd.int .i64) 3 w' w0.heap.size (fun k_ => ((P0_ k_ ∨ P2_ k_) ∨ w.heap.size ≤ k_)) v0_ (l0 ++ l2) ∧ Below w0.heap.size w0 w' ∧ Kept w w' (fun k_ => P0_ k_ ∨ P2_ k_) := by
 have hown := ho0.1
 have HO := am (Kd.R_mono ho0 (ok' := fun k_ => ((P0_ k_ ∨ P2_ k_) ∨ w.heap.size ≤ k_)) (fun k hk => .inl (.inl hk)))
 have HB := am hB
 have HC2 := am hC2
 have HW := am hown
 have HL := am hl
 have HN := am hn
 unfold maxLen at hm
 have hm63 : c0 ≤ 9223372036854775807 := by omega
 clear ho0 hB hC2 hown hm
 have p1 : (n : Int) ≤ (n : Int) := Int.le_refl _
 cases A0 with
 | none =>
   go_enter Try.func77, Try.ntmps77
   go_wp2_with (first | ((with_reducible refine gate_dst (N := 25) rfl ?_); refine Kd.R_append_rows (Kd.int .i64) (w0 := w0) w0.heap.size rfl (.tmp 23) (.tmp 24) 24 3 (.int .i64 0) 8 rfl Try.underlying24 slices_Insert_int_int.info rfl (by decide) (by omega) _ l0 l2 _ _ _ (fun k_ => ((P0_ k_ ∨ P2_ k_) ∨ w.heap.size ≤ k_)) (fun _ => False) rfl rfl HO.out HC2.out (fun _ _ h => h) (fun _ h => h.elim) (fun _ hk => .inr hk) HB.out HB.out.size (by have := HL.out; have := HN.out; omega) ?_; intro v1 w1 ho hb hg hat; have R0 := am ho; have R1 := am hb; have R2 := am hg; clear ho hb hg hat))
   go_ret
   exact ⟨_, rfl, R0.out, R1.out, Kept.of_grown (W := w) R2.out (Kept.refl w _) (fun k hk => .inl (.inl (HW.out k hk)))⟩
 | some a =>
   obtain ⟨g, o, sp⟩ := a
   have hsp : o = 0 ∧ sp = none := by
     obtain ⟨_, inner, ⟨_, ho⟩, _⟩ := HO.out
     rcases ho with ⟨he, _⟩ | ⟨g', cap', cur, he, _⟩
     · cases he
     · injection he with e1 e2 e3
       injection e1 with e1
       injection e1 with e1 e2 e3
       exact ⟨e2, e3⟩
   obtain ⟨rfl, rfl⟩ := hsp
   by_cases hce : c0 = n
   · subst hce
     go_enter Try.func77, Try.ntmps77
     go_wp2_with (first | ((with_reducible refine gate_dst (N := 25) rfl ?_); refine Kd.R_append_rows (Kd.int .i64) (w0 := w0) w0.heap.size rfl (.tmp 23) (.tmp 24) 24 3 (.int .i64 0) 8 rfl Try.underlying24 slices_Insert_int_int.info rfl (by decide) (by omega) _ l0 l2 _ _ _ (fun k_ => ((P0_ k_ ∨ P2_ k_) ∨ w.heap.size ≤ k_)) (fun _ => False) rfl rfl HO.out HC2.out (fun _ _ h => h) (fun _ h => h.elim) (fun _ hk => .inr hk) HB.out HB.out.size (by have := HL.out; have := HN.out; omega) ?_; intro v1 w1 ho hb hg hat; have R0 := am ho; have R1 := am hb; have R2 := am hg; clear ho hb hg hat))
     go_ret
     exact ⟨_, rfl, R0.out, R1.out, Kept.of_grown (W := w) R2.out (Kept.refl w _) (fun k hk => .inl (.inl (HW.out k hk)))⟩
   have hlt : n < c0 := by omega
   go_enter Try.func77, Try.ntmps77
   go_wp2_with (first | ((with_reducible refine gate_dst (N := 25) rfl ?_); refine Kd.R_append_rows (Kd.int .i64) (w0 := w0) w0.heap.size rfl (.tmp 23) (.tmp 24) 24 3 (.int .i64 0) 8 rfl Try.underlying24 slices_Insert_int_int.info rfl (by decide) (by omega) _ l0 l2 _ _ _ (fun k_ => ((P0_ k_ ∨ P2_ k_) ∨ w.heap.size ≤ k_)) (fun _ => False) rfl rfl HO.out HC2.out (fun _ _ h => h) (fun _ h => h.elim) (fun _ hk => .inr hk) HB.out HB.out.size (by have := HL.out; have := HN.out; omega) ?_; intro v1 w1 ho hb hg hat; have R0 := am ho; have R1 := am hb; have R2 := am hg; clear ho hb hg hat))
   go_ret
   exact ⟨_, rfl, R0.out, R1.out, Kept.of_grown (W := w) R2.out (Kept.refl w _) (fun k hk => .inl (.inl (HW.out k hk)))⟩
set_option maxHeartbeats 2000000 in
set_option maxRecDepth 100000 in
theorem slices_Insert_int_int.shift (P0_ P2_ : Nat → Prop) (g n c i : Nat) (l0 : List (Int)) (y : Int) (cur cur2 : Array Value) (g2 c2 : Nat) (w0 w : World) (hB : Below w0.heap.size w0 w) (hg : w0.heap.size ≤ g) (hP : P0_ g) (hb : w.heap[g]? = some (.cells cur 3 (0, 0))) (hs : cur.size = c * 1) (ht : cur.toList.take (n * 1) = Go.Proofs.Ytoemdmjdpikfbaa.Slc.cellsOf slices_Insert_int_int.enc l0)
   (hn : l0.length = n) (hi : i < n) (hr : n + 1 ≤ c) (hm : c ≤ maxLen) (hb2 : w.heap[g2]? = some (.cells cur2 3 (0, 0))) (ht2 : cur2.toList.take 1 = slices_Insert_int_int.enc y) (hne : g2 ≠ g) (hc2 : 1 ≤ c2) :
   Calls Try.prog 77 #[.slice (some ⟨g, 0, none⟩) n c, .int .i64 (i : Int), .slice (some ⟨g2, 0, none⟩) 1 c2] w fun e w' => ∃ v0_ : Value, e = .returned (v0_) ∧ Kd.R (Kd.int .i64) 3 w' w0.heap.size (fun k_ => ((P0_ k_ ∨ P2_ k_) ∨ w.heap.size ≤ k_)) v0_ (l0.take i ++ y :: l0.drop i) ∧ Below w0.heap.size w0 w' ∧ Kept w w' (fun k_ => P0_ k_ ∨ P2_ k_) := by
 have hsz3 : ((Kd.int .i64)).sz = 1 := rfl
 have hsize := slices_Insert_int_int.size
 have hcl : (Go.Proofs.Ytoemdmjdpikfbaa.Slc.cellsOf slices_Insert_int_int.enc l0).length = n * 1 := by rw [slices_Insert_int_int.flat.cells_len, hn]; rfl
 have hyl : (slices_Insert_int_int.enc y).length = 1 := slices_Insert_int_int.flat.len y
 have hdl : ((Go.Proofs.Ytoemdmjdpikfbaa.Slc.cellsOf slices_Insert_int_int.enc l0).drop (i * 1)).length = (n - i) * 1 := by rw [List.length_drop, hcl, Nat.sub_mul]
 have hc63 : c ≤ 9223372036854775807 := by unfold maxLen at hm; omega
 have hk2 : 1 ≤ cur2.size := by
   have := congrArg List.length ht2
   rw [List.length_take, hyl] at this
   simp at this
   omega
 have hcs : ∀ j v, (Go.Proofs.Ytoemdmjdpikfbaa.Slc.cellsOf slices_Insert_int_int.enc l0)[j]? = some v → cur[j]? = some v := fun j v hj => by
   have hlt := (List.getElem?_eq_some_iff.1 hj).1
   rw [← ht, List.getElem?_take_of_lt (by omega), Array.getElem?_toList] at hj
   exact hj
 have hvs : ∀ j v, (slices_Insert_int_int.enc y)[j]? = some v → cur2[j]? = some v := fun j v hj => by
   have hlt := (List.getElem?_eq_some_iff.1 hj).1
   rw [← ht2, List.getElem?_take_of_lt (by omega), Array.getElem?_toList] at hj
   exact hj
 have hov : ∀ lb cb, (callFunc 92 #[.slice (some ⟨g2, 0, none⟩) 1 c2, .slice (some ⟨g, (i + 1) * 1, none⟩) lb cb]).run Try.prog w = .ok (.value (.bool false)) w := fun lb cb => by
   rw [run_callFunc_extern Try.func92 kr kr kr (e := Extern.SlicesOverlaps.overlaps #[24, 24] #[4]) kr,
     Lib.run_overlaps_apart w 24 4 3 Try.underlying24 1 slices_Insert_int_int.sizeOf ⟨g2, 0, none⟩ ⟨g, (i + 1) * 1, none⟩ 1 c2 lb cb hne 3 3 cur2.size cur.size (by simp [World.shape?, hb2]) (by simp [World.shape?, hb]) (by omega) (blk_frozen hb2 0) (blk_frozen hb2 _)]
   rfl
 have hcp1 : ∀ ty dc sc, (Builtin.copy_ #[24, 24] ty #[.slice (some ⟨g, (i + 1) * 1, none⟩) (n - i) dc, .slice (some ⟨g, i * 1, none⟩) (n + 1 - i) sc]).run Try.prog w.drew = .ok (goInt (n - i : Nat)) (w.drew.setCells g ((i + 1) * 1) ((Go.Proofs.Ytoemdmjdpikfbaa.Slc.cellsOf slices_Insert_int_int.enc l0).drop (i * 1))) := fun ty dc sc =>
   Go.Proofs.Ytoemdmjdpikfbaa.Slc.run_copy_k w.drew _ _ ty 3 1 g ((i + 1) * 1) _ dc ⟨g, i * 1, none⟩ _ sc _ (n - i) Try.underlying24 hsize u12_4 hdl
     (fun j v hj => by
       rw [List.getElem?_drop] at hj
       rw [Addr.add_lit]
       exact (blk_cell (w := w.drew) hb _).trans (hcs _ v hj))
     (fun j hj => by
       rw [hdl, Nat.sub_mul] at hj
       have : i * 1 ≤ n * 1 := Nat.mul_le_mul_right _ (by omega)
       have : (n + 1) * 1 ≤ c * 1 := Nat.mul_le_mul_right _ hr
       have hlt : (i + 1) * 1 + j < cur.size := by rw [hs]; omega
       rw [blk_cell (w := w.drew) hb, Array.getElem?_eq_getElem hlt]; rfl)
     (fun j _ => blk_frozen (w := w.drew) hb _) (fun v hv => slices_Insert_int_int.flat.cells_one l0 v (List.mem_of_mem_drop hv))
 obtain ⟨W1, hW1⟩ : ∃ W1, W1 = w.drew.setCells g ((i + 1) * 1) ((Go.Proofs.Ytoemdmjdpikfbaa.Slc.cellsOf slices_Insert_int_int.enc l0).drop (i * 1)) := ⟨_, rfl⟩
 rw [← hW1] at hcp1
 obtain ⟨cur1, hb1, hs1, ho1, hi1⟩ := Go.Proofs.Ytoemdmjdpikfbaa.Slc.setCells_blk g 3 ((Go.Proofs.Ytoemdmjdpikfbaa.Slc.cellsOf slices_Insert_int_int.enc l0).drop (i * 1)) ((i + 1) * 1) w.drew cur hb
 rw [← hW1] at hb1
 have hb21 : W1.heap[g2]? = some (.cells cur2 3 (0, 0)) := by
   rw [hW1]; exact (Go.Proofs.Ytoemdmjdpikfbaa.Slc.setCells_other g _ _ w.drew g2 hne).trans hb2
 have hcp2 : ∀ ty dc, (Builtin.copy_ #[24, 24] ty #[.slice (some ⟨g, i * 1, none⟩) (n + 1 - i) dc, .slice (some ⟨g2, 0, none⟩) 1 c2]).run Try.prog W1 = .ok (goInt (1 : Nat)) (W1.setCells g (i * 1) (slices_Insert_int_int.enc y)) := fun ty dc =>
   Go.Proofs.Ytoemdmjdpikfbaa.Slc.run_copy_k W1 _ _ ty 3 1 g (i * 1) _ dc ⟨g2, 0, none⟩ 1 c2 _ 1 Try.underlying24 hsize u12_4 (by rw [hyl])
     (fun j v hj => by
       have := (blk_cell hb21 j).trans (hvs _ v hj)
       rw [Addr.add_lit, Nat.zero_add]
       exact this)
     (fun j hj => by
       rw [hyl] at hj
       have : (i + 1) * 1 ≤ c * 1 := Nat.mul_le_mul_right _ (by omega)
       have hlt : i * 1 + j < cur1.size := by rw [hs1, hs]; omega
       rw [blk_cell hb1, Array.getElem?_eq_getElem hlt]; rfl)
     (fun j _ => blk_frozen hb1 _) (slices_Insert_int_int.flat.one y)
 obtain ⟨W2, hW2⟩ : ∃ W2, W2 = W1.setCells g (i * 1) (slices_Insert_int_int.enc y) := ⟨_, rfl⟩
 rw [← hW2] at hcp2
 obtain ⟨cur3, hb3, hs3, ho3, hi3⟩ := Go.Proofs.Ytoemdmjdpikfbaa.Slc.setCells_blk g 3 (slices_Insert_int_int.enc y) (i * 1) W1 cur1 hb1
 rw [← hW2] at hb3
 have hR : Kd.R (Kd.int .i64) 3 W2 w0.heap.size (fun k_ => ((P0_ k_ ∨ P2_ k_) ∨ w.heap.size ≤ k_)) (.slice (some ⟨g, 0, none⟩) (n + 1) c) (l0.take i ++ y :: l0.drop i) := by
   refine slices_Insert_int_int.flat.row hb3 hg (.inl (.inl hP)) (by simp; omega) hr hm (hs3.trans (hs1.trans hs)) (slices_Insert_int_int.flat.ins_cells hn (by omega) (fun q hq => ?_) (fun j hj => ?_) (fun j hj => ?_))
   · rw [hsz3] at hq
     have : i * 1 ≤ n * 1 := Nat.mul_le_mul_right _ (by omega)
     rw [ho3 q (.inl hq), ho1 q (.inl (by omega)), ← ht, List.getElem?_take_of_lt (by omega), Array.getElem?_toList]
   · rw [hsz3] at hj ⊢
     have : (i + 1) * 1 ≤ c * 1 := Nat.mul_le_mul_right _ (by omega)
     exact hi3 j (by omega) (by rw [hs1, hs]; omega)
   · rw [hsz3] at hj ⊢
     have h1 : i * 1 ≤ n * 1 := Nat.mul_le_mul_right _ (by omega)
     have h2 : (n + 1) * 1 ≤ c * 1 := Nat.mul_le_mul_right _ hr
     rw [Nat.sub_mul] at hj
     rw [ho3 _ (.inr (by rw [hyl]; omega)), hi1 j (by rw [hdl, Nat.sub_mul]; omega) (by rw [hs]; omega), List.getElem?_drop]
 have hBel : Below w0.heap.size w0 W2 := by
   rw [hW2, hW1]
   exact Go.Proofs.Ytoemdmjdpikfbaa.Slc.below_setCells hg _ _ (Go.Proofs.Ytoemdmjdpikfbaa.Slc.below_setCells hg _ _ (below_drew hB))
 have hKp : Kept w W2 (fun k_ => P0_ k_ ∨ P2_ k_) := by
   rw [hW2, hW1]
   exact Go.Proofs.Ytoemdmjdpikfbaa.Slc.kept_setCells (.inl (.inl hP)) _ _ (Go.Proofs.Ytoemdmjdpikfbaa.Slc.kept_setCells (.inl (.inl hP)) _ _ (Kept.drew (Kept.refl w _)))
 have HR := am hR
 have HBe := am hBel
 have HKp := am hKp
 have hz2 : ¬ ((i : Int) = (n : Int)) := by omega
 have hw1 : IntKind.i64.wrap ((i : Int) + 1) = (i : Int) + 1 := by rw [IntKind.wrap_i64]; omega
 have hb1' : (0 : Int) ≤ (i : Int) + 1 := by omega
 have hin : i ≤ n := by omega
 have htn : ((i : Int) + 1).toNat = i + 1 := by omega
 have hb2' : ¬ (c = i + 1) := by omega
 have hb3' : (i : Int) ≤ (n : Int) + 1 := by omega
 have hb4 : ¬ (c = i) := by omega
 simp only [Nat.mul_one] at hov hcp1 hcp2
 clear hR hBel hKp hb hs ht hb2 ht2 hcs hvs hW1 hb1 hs1 ho1 hi1 hb21 hW2 hb3 hs3 ho3 hi3 hcl hyl hdl hB hg hP hm hk2 hsz3 hsize hn hne
 go_enter Try.func77, Try.ntmps77
 go_wp2_with (simp only [hov])
 go_region_law (refine Go.Proofs.Ytoemdmjdpikfbaa.Slc.step_copy rfl _ _ 24 24 rfl _ _ u12_3 u12_3 (hcp1 _ _ _) ?_)
 go_wp2_with (at_builtin; refine Go.Proofs.Ytoemdmjdpikfbaa.Slc.list_copy _ rfl _ _ 24 24 rfl _ _ rfl rfl (hcp2 _ _) ?_)
 go_ret
 exact ⟨_, rfl, HR.out, HBe.out, HKp.out⟩
theorem slices_Insert_int_int.parts : ∃ i0, Try.prog.info? 3 = some i0 ∧ i0.zero = some (.int .i64 0) ∧ i0.size = 1 ∧ i0.bytes = 8 := by
 obtain ⟨i0, h, h2⟩ := Option.map_eq_some_iff.1 slices_Insert_int_int.info
 simp only [Prod.mk.injEq] at h2
 exact ⟨i0, h, h2.1, h2.2.1, h2.2.2⟩
set_option maxHeartbeats 2000000 in
set_option maxRecDepth 100000 in
theorem slices_Insert_int_int.grow (P0_ P2_ : Nat → Prop) (g n i : Nat) (l0 : List (Int)) (y : Int) (cur cur2 : Array Value) (g2 c2 : Nat) (w0 w : World) (hB : Below w0.heap.size w0 w) (hb : w.heap[g]? = some (.cells cur 3 (0, 0))) (hs : cur.size = n * 1) (ht : cur.toList.take (n * 1) = Go.Proofs.Ytoemdmjdpikfbaa.Slc.cellsOf slices_Insert_int_int.enc l0)
   (hn : l0.length = n) (hi : i < n) (hl : n < 1000000) (hb2 : w.heap[g2]? = some (.cells cur2 3 (0, 0))) (ht2 : cur2.toList.take 1 = slices_Insert_int_int.enc y) (hc2 : 1 ≤ c2) :
   Calls Try.prog 77 #[.slice (some ⟨g, 0, none⟩) n n, .int .i64 (i : Int), .slice (some ⟨g2, 0, none⟩) 1 c2] w fun e w' => ∃ v0_ : Value, e = .returned (v0_) ∧ Kd.R (Kd.int .i64) 3 w' w0.heap.size (fun k_ => ((P0_ k_ ∨ P2_ k_) ∨ w.heap.size ≤ k_)) v0_ (l0.take i ++ y :: l0.drop i) ∧ Below w0.heap.size w0 w' ∧ Kept w w' (fun k_ => P0_ k_ ∨ P2_ k_) := by
 have hsz3 : ((Kd.int .i64)).sz = 1 := rfl
 have hsize := slices_Insert_int_int.size
 obtain ⟨i0, hi0, hz0, hzs, hzb⟩ := slices_Insert_int_int.parts
 have hcl : (Go.Proofs.Ytoemdmjdpikfbaa.Slc.cellsOf slices_Insert_int_int.enc l0).length = n * 1 := by rw [slices_Insert_int_int.flat.cells_len, hn]; rfl
 have hyl : (slices_Insert_int_int.enc y).length = 1 := slices_Insert_int_int.flat.len y
 have hdl : ((Go.Proofs.Ytoemdmjdpikfbaa.Slc.cellsOf slices_Insert_int_int.enc l0).drop (i * 1)).length = (n - i) * 1 := by rw [List.length_drop, hcl, Nat.sub_mul]
 have hin3 : i * 1 ≤ n * 1 := Nat.mul_le_mul_right _ (by omega)
 have htl : ((Go.Proofs.Ytoemdmjdpikfbaa.Slc.cellsOf slices_Insert_int_int.enc l0).take (i * 1)).length = i * 1 := by rw [List.length_take, hcl]; omega
 have hgw : g < w.heap.size := blk_lt hb
 have hg2w : g2 < w.heap.size := blk_lt hb2
 have hcs : ∀ j v, (Go.Proofs.Ytoemdmjdpikfbaa.Slc.cellsOf slices_Insert_int_int.enc l0)[j]? = some v → cur[j]? = some v := fun j v hj => by
   have hlt := (List.getElem?_eq_some_iff.1 hj).1
   rw [← ht, List.getElem?_take_of_lt (by omega), Array.getElem?_toList] at hj
   exact hj
 have hvs : ∀ j v, (slices_Insert_int_int.enc y)[j]? = some v → cur2[j]? = some v := fun j v hj => by
   have hlt := (List.getElem?_eq_some_iff.1 hj).1
   rw [← ht2, List.getElem?_take_of_lt (by omega), Array.getElem?_toList] at hj
   exact hj
 have hold : (Builtin.firstCells i0.size i (.slice (some ⟨g, 0, none⟩) i n)).run Try.prog w.drew = .ok ((Go.Proofs.Ytoemdmjdpikfbaa.Slc.cellsOf slices_Insert_int_int.enc l0).take (i * 1)).toArray w.drew := by
   rw [hzs]
   exact run_firstCells_some w.drew 1 i ⟨g, 0, none⟩ i n _ htl (fun j v hj => by
     have hj' : (Go.Proofs.Ytoemdmjdpikfbaa.Slc.cellsOf slices_Insert_int_int.enc l0)[j]? = some v := by
       rw [List.getElem?_take] at hj
       split at hj
       · exact hj
       · cases hj
     rw [Addr.add_lit, Nat.zero_add]
     exact (blk_cell (w := w.drew) hb j).trans (hcs j v hj'))
 have hik : i + (n + 1 - i) = n + 1 := by omega
 have hkk : (n : Int) + 1 - (i : Int) = ((n + 1 - i : Nat) : Int) := by omega
 obtain ⟨G, hG⟩ : ∃ G, G = grownCap w (n + 1) n 3 := ⟨_, rfl⟩
 obtain ⟨ROW, hROW⟩ : ∃ ROW : Array Value, ROW = ((Go.Proofs.Ytoemdmjdpikfbaa.Slc.cellsOf slices_Insert_int_int.enc l0).take (i * 1)).toArray ++ Builtin.zeroCells (.int .i64 0 : Value).cells (n + 1 - i) ++ Builtin.zeroCells (.int .i64 0 : Value).cells (G - (n + 1)) := ⟨_, rfl⟩
 have hrz : ∀ ty, (Builtin.append_ #[24, 3] ty #[.slice (some ⟨g, 0, none⟩) i n, .int .i64 ((n : Int) + 1 - (i : Int))]).run Try.prog w = .ok (.slice (some ⟨w.heap.size, 0, none⟩) (n + 1) G) (w.drew.alloc (.cells ROW 3)) := fun ty => by
   have h := Lib.run_append_grow_zeros (P := Try.prog) w 24 3 ty 3 i0 _ .i64 .i64 Try.underlying24 Try.underlying3 hi0 hz0 (some ⟨g, 0, none⟩) i n _ hold (n + 1 - i) (by omega) (by omega) (by omega) (by omega) (by rw [hzb]; omega) (by rw [hzb, hik]; exact growslice_fits (by omega) (by omega))
   rw [hik] at h
   rw [hkk, hROW, hG]
   exact h
 have hGn : n + 1 ≤ G := by rw [hG]; exact grownCap_ge w _ _ _
 have hGm : G ≤ maxLen := by rw [hG]; exact grownCap_le_maxLen w (n + 1) n 3 (by unfold maxLen; omega)
 have hRl : ROW.size = G * 1 := by
   have e1 : ∀ k, (Builtin.zeroCells (.int .i64 0 : Value).cells k).size = k * 1 := fun k => by simp [Builtin.zeroCells, Value.cells]; try omega
   rw [hROW, Array.size_append, Array.size_append, e1, e1]
   simp only [List.size_toArray, htl]
   rw [← Nat.add_mul, ← Nat.add_mul]
   congr 1; omega
 have hR0 : ∀ q, q < i * 1 → ROW[q]? = (Go.Proofs.Ytoemdmjdpikfbaa.Slc.cellsOf slices_Insert_int_int.enc l0)[q]? := fun q hq => by
   rw [hROW, Array.append_assoc, Array.getElem?_append_left (by simp only [List.size_toArray, htl]; exact hq), List.getElem?_toArray, List.getElem?_take_of_lt hq]
 obtain ⟨W1, hW1⟩ : ∃ W1, W1 = w.drew.alloc (.cells ROW 3) := ⟨_, rfl⟩
 rw [← hW1] at hrz
 have hbN : W1.heap[w.heap.size]? = some (.cells ROW 3 (0, 0)) := by rw [hW1]; exact Array.getElem?_push_size
 have hkeep : ∀ k, k < w.heap.size → W1.heap[k]? = w.heap[k]? := fun k hk => by rw [hW1]; show (w.heap.push _)[k]? = _; rw [Array.getElem?_push, if_neg (Nat.ne_of_lt hk)]
 have hb2N : W1.heap[g2]? = some (.cells cur2 3 (0, 0)) := (hkeep g2 hg2w).trans hb2
 have hB1 : Below w0.heap.size w0 W1 := by rw [hW1]; exact below_alloc (below_drew hB) _
 have hK1 : Kept w W1 (fun k_ => P0_ k_ ∨ P2_ k_) := by rw [hW1]; exact (Kept.drew (Kept.refl w _)).alloc _
 have hwN : w0.heap.size ≤ w.heap.size := hB.size
 obtain ⟨NB, hNB⟩ : ∃ NB, NB = w.heap.size := ⟨_, rfl⟩
 have hgN : g ≠ NB := by omega
 have hg2N : g2 ≠ NB := by omega
 have hcpA : ∀ ty dc, (Builtin.copy_ #[24, 24] ty #[.slice (some ⟨NB, i * 1, none⟩) (n + 1 - i) dc, .slice (some ⟨g2, 0, none⟩) 1 c2]).run Try.prog W1 = .ok (goInt (1 : Nat)) (W1.setCells NB (i * 1) (slices_Insert_int_int.enc y)) := fun ty dc =>
   Go.Proofs.Ytoemdmjdpikfbaa.Slc.run_copy_k W1 _ _ ty 3 1 NB (i * 1) _ dc ⟨g2, 0, none⟩ 1 c2 _ 1 Try.underlying24 hsize u12_4 (by rw [hyl])
     (fun j v hj => by
       rw [Addr.add_lit, Nat.zero_add]
       exact (blk_cell hb2N j).trans (hvs _ v hj))
     (fun j hj => by
       rw [hyl] at hj
       have : (i + 1) * 1 ≤ G * 1 := Nat.mul_le_mul_right _ (by omega)
       have hlt : i * 1 + j < ROW.size := by omega
       rw [hNB, blk_cell hbN, Array.getElem?_eq_getElem hlt]; rfl)
     (fun j _ => by rw [hNB]; exact blk_frozen hbN _) (slices_Insert_int_int.flat.one y)
 rw [← hNB] at hbN hrz
 obtain ⟨W2, hW2⟩ : ∃ W2, W2 = W1.setCells NB (i * 1) (slices_Insert_int_int.enc y) := ⟨_, rfl⟩
 rw [← hW2] at hcpA
 obtain ⟨cur3, hb3, hs3, ho3, hi3⟩ := Go.Proofs.Ytoemdmjdpikfbaa.Slc.setCells_blk NB 3 (slices_Insert_int_int.enc y) (i * 1) W1 ROW hbN
 rw [← hW2] at hb3
 have hb31 : W2.heap[g]? = some (.cells cur 3 (0, 0)) := by
   rw [hW2]; exact (Go.Proofs.Ytoemdmjdpikfbaa.Slc.setCells_other NB _ _ W1 g hgN).trans ((hkeep g hgw).trans hb)
 have hcpB : ∀ ty dc sc, (Builtin.copy_ #[24, 24] ty #[.slice (some ⟨NB, (i + 1) * 1, none⟩) (n - i) dc, .slice (some ⟨g, i * 1, none⟩) (n - i) sc]).run Try.prog W2.drew = .ok (goInt (n - i : Nat)) (W2.drew.setCells NB ((i + 1) * 1) ((Go.Proofs.Ytoemdmjdpikfbaa.Slc.cellsOf slices_Insert_int_int.enc l0).drop (i * 1))) := fun ty dc sc =>
   Go.Proofs.Ytoemdmjdpikfbaa.Slc.run_copy_k W2.drew _ _ ty 3 1 NB ((i + 1) * 1) _ dc ⟨g, i * 1, none⟩ _ sc _ (n - i) Try.underlying24 hsize u12_4 hdl
     (fun j v hj => by
       rw [List.getElem?_drop] at hj
       rw [Addr.add_lit]
       exact (blk_cell (w := W2.drew) hb31 _).trans (hcs _ v hj))
     (fun j hj => by
       rw [hdl, Nat.sub_mul] at hj
       have : (n + 1) * 1 ≤ G * 1 := Nat.mul_le_mul_right _ hGn
       have hlt : (i + 1) * 1 + j < cur3.size := by rw [hs3, hRl]; omega
       rw [blk_cell (w := W2.drew) hb3, Array.getElem?_eq_getElem hlt]; rfl)
     (fun j _ => blk_frozen (w := W2.drew) hb3 _) (fun v hv => slices_Insert_int_int.flat.cells_one l0 v (List.mem_of_mem_drop hv))
 obtain ⟨W3, hW3⟩ : ∃ W3, W3 = W2.drew.setCells NB ((i + 1) * 1) ((Go.Proofs.Ytoemdmjdpikfbaa.Slc.cellsOf slices_Insert_int_int.enc l0).drop (i * 1)) := ⟨_, rfl⟩
 rw [← hW3] at hcpB
 obtain ⟨cur4, hb4, hs4, ho4, hi4⟩ := Go.Proofs.Ytoemdmjdpikfbaa.Slc.setCells_blk NB 3 ((Go.Proofs.Ytoemdmjdpikfbaa.Slc.cellsOf slices_Insert_int_int.enc l0).drop (i * 1)) ((i + 1) * 1) W2.drew cur3 hb3
 rw [← hW3] at hb4
 have hR : Kd.R (Kd.int .i64) 3 W3 w0.heap.size (fun k_ => ((P0_ k_ ∨ P2_ k_) ∨ w.heap.size ≤ k_)) (.slice (some ⟨NB, 0, none⟩) (n + 1) G) (l0.take i ++ y :: l0.drop i) := by
   refine slices_Insert_int_int.flat.row hb4 (by omega) (.inr (by omega)) (by simp; omega) hGn hGm (hs4.trans (hs3.trans hRl)) (slices_Insert_int_int.flat.ins_cells hn (by omega) (fun q hq => ?_) (fun j hj => ?_) (fun j hj => ?_))
   · rw [hsz3] at hq
     rw [ho4 q (.inl (by omega)), ho3 q (.inl hq), hR0 q hq]
   · rw [hsz3] at hj ⊢
     have : (i + 1) * 1 ≤ G * 1 := Nat.mul_le_mul_right _ (by omega)
     rw [ho4 _ (.inl (by omega))]
     exact hi3 j (by omega) (by rw [hRl]; omega)
   · rw [hsz3] at hj ⊢
     have h2 : (n + 1) * 1 ≤ G * 1 := Nat.mul_le_mul_right _ hGn
     rw [Nat.sub_mul] at hj
     rw [hi4 j (by rw [hdl, Nat.sub_mul]; omega) (by rw [hs3, hRl]; omega), List.getElem?_drop]
 have hBel : Below w0.heap.size w0 W3 := by
   rw [hW3, hW2]
   exact Go.Proofs.Ytoemdmjdpikfbaa.Slc.below_setCells (by omega) _ _ (below_drew (Go.Proofs.Ytoemdmjdpikfbaa.Slc.below_setCells (by omega) _ _ hB1))
 have hKp : Kept w W3 (fun k_ => P0_ k_ ∨ P2_ k_) := by
   rw [hW3, hW2]
   exact Go.Proofs.Ytoemdmjdpikfbaa.Slc.kept_setCells (.inr (by omega)) _ _ (Kept.drew (Go.Proofs.Ytoemdmjdpikfbaa.Slc.kept_setCells (.inr (by omega)) _ _ hK1))
 have HR := am hR
 have HBe := am hBel
 have HKp := am hKp
 have hz2 : ¬ ((i : Int) = (n : Int)) := by omega
 have hz3 : (n : Int) < (n : Int) + 1 := by omega
 have hG63 : G ≤ 9223372036854775807 := by unfold maxLen at hGm; omega
 have hGi : ¬ (G = i) := by omega
 have hGim : ¬ (G = i + 1) := by omega
 have hci : ¬ (n = i) := by omega
 have hw1 : IntKind.i64.wrap ((i : Int) + 1) = (i : Int) + 1 := by rw [IntKind.wrap_i64]; omega
 have hb1 : (0 : Int) ≤ (i : Int) + 1 := by omega
 have hin : i ≤ n := by omega
 have htn : ((i : Int) + 1).toNat = i + 1 := by omega
 have hb3' : (i : Int) ≤ (n : Int) := by omega
 simp only [Nat.mul_one] at hrz hcpA hcpB
 clear hR hBel hKp hb hs ht hb2 ht2 hcs hvs hW1 hW2 hW3 hb3 hs3 ho3 hi3 hb4 hs4 ho4 hi4 hcl hyl hdl hB hsz3 hsize hi0 hz0 hzs hzb hold hROW hG hRl hR0 hbN hkeep hb2N hB1 hK1 hb31 hGm hkk hik hin3 htl hgw hg2w hgN hg2N hwN hNB hn
 go_enter Try.func77, Try.ntmps77
 go_wp2_with (first
   | (at_builtin; refine Lib.wpList_append_run _ rfl _ _ _ _ rfl _ _ rfl rfl _ _ (hrz _) ?_)
   | (at_builtin; refine Go.Proofs.Ytoemdmjdpikfbaa.Slc.list_copy _ rfl _ _ 24 24 rfl _ _ rfl rfl (hcpA _ _) ?_))
 go_region_law (refine Go.Proofs.Ytoemdmjdpikfbaa.Slc.step_copy rfl _ _ 24 24 rfl _ _ u12_3 u12_3 (hcpB _ _ _) ?_)
 go_wp2
 go_ret
 exact ⟨_, rfl, HR.out, HBe.out, HKp.out⟩
set_option maxHeartbeats 2000000 in
theorem slices_Insert_int_int.calls (P0_ : Nat → Prop) (u9000_ : Value) (l0 : List (Int)) (a1 : Int) (P2_ : Nat → Prop) (u9001_ : Value) (l2 : List (Int)) (r : List (Int)) (w0 w : World) (hB : Below w0.heap.size w0 w) (ho0 : Kd.R (Kd.int .i64) 3 w w0.heap.size P0_ u9000_ l0) (hp0_2 : ∀ k_, P0_ k_ → ¬ P2_ k_) (ho2 : Kd.R (Kd.int .i64) 3 w w0.heap.size P2_ u9001_ l2) (hp2_0 : ∀ k_, P2_ k_ → ¬ P0_ k_) (h : slices_Insert_int_int.f l0 a1 l2 = some r) :
   Calls Try.prog 77 #[u9000_, .int .i64 a1, u9001_] w fun e w' => ∃ v0_ : Value, e = .returned (v0_) ∧ Kd.R (Kd.int .i64) 3 w' w0.heap.size (fun k_ => ((P0_ k_ ∨ P2_ k_) ∨ w.heap.size ≤ k_)) v0_ r ∧ Below w0.heap.size w0 w' ∧ Kept w w' (fun k_ => P0_ k_ ∨ P2_ k_) := by
 unfold slices_Insert_int_int.f at h
 by_cases hc : 0 ≤ a1 ∧ a1 ≤ (l0.length : Int) ∧ l2.length = 1 ∧ l0.length < 1000000
 rotate_left
 · rw [if_neg hc] at h; cases h
 rw [if_pos hc] at h
 obtain rfl := Option.some.inj h
 clear h
 obtain ⟨h0, hle, hl2, hl⟩ := hc
 obtain ⟨i, rfl⟩ := Int.eq_ofNat_of_zero_le h0
 rw [Int.toNat_natCast]
 match l2, hl2, ho2 with
 | [y], hl2, ho2 =>
 obtain ⟨g2, c2, cur2, rfl, _, hP2, hb2, hc2, _, _, ht2⟩ := slices_Insert_int_int.flat.block ho2 (by simp)
 have ht2' : cur2.toList.take ((Kd.int .i64)).sz = slices_Insert_int_int.enc y := by simpa [Go.Proofs.Ytoemdmjdpikfbaa.Slc.cellsOf] using ht2
 by_cases hi : i < l0.length
 rotate_left
 · have hin : i = l0.length := by omega
   subst hin
   obtain ⟨A0, c0, rfl, hc0, _⟩ := Kd.R_reads ho0
   obtain ⟨hnl, hle2, hC2⟩ := Kd.R_reads' ho2
   have hm : c0 ≤ maxLen := by
     obtain ⟨_, inner, ⟨_, ho⟩, _⟩ := ho0
     rcases ho with ⟨he, _⟩ | ⟨g', cap', cur, he, _, _, _, hm, _⟩
     · injection he with e1 e2 e3; rw [e3]; exact Nat.zero_le _
     · injection he with e1 e2 e3; rw [e3]; exact hm
   exact (slices_Insert_int_int.at_end P0_ P2_ A0 l0.length c0 l0 g2 c2 [y] w0 w hB ho0 hC2 rfl rfl hc2 hl hc0 hm).mono fun e w' h => by simpa using h
 obtain ⟨g, c, cur, rfl, hg, hP, hb, hcap, hm, hs, ht⟩ := slices_Insert_int_int.flat.block ho0 (by omega)
 have hne : g2 ≠ g := fun e => hp0_2 g hP (e ▸ hP2)
 by_cases hr : l0.length + 1 ≤ c
 · exact (slices_Insert_int_int.shift P0_ P2_ g l0.length c i l0 y cur cur2 g2 c2 w0 w hB hg hP hb hs ht rfl hi hr hm hb2 ht2' hne hc2).mono fun e w' h => by simpa using h
 have hcn : c = l0.length := by omega
 subst hcn
 exact (slices_Insert_int_int.grow P0_ P2_ g l0.length i l0 y cur cur2 g2 c2 w0 w hB hb hs ht rfl hi hl hb2 ht2' hc2).mono fun e w' h => by simpa using h
def slices_Delete_int_int.enc (x : Int) : List Value := [.int .i64 x]
theorem slices_Delete_int_int.flat : Go.Proofs.Ytoemdmjdpikfbaa.Slc.Flat (Kd.int .i64) slices_Delete_int_int.enc := ⟨fun w base ok x => rfl, fun h => h⟩
def slices_Delete_int_int.f (l0 : List (Int)) (a1 : Int) (a2 : Int) : Option (List (Int)) := if 0 ≤ a1 ∧ a2 = a1 + 1 ∧ a1 < (l0.length : Int) then some (l0.eraseIdx a1.toNat) else none
theorem slices_Delete_int_int.size : (Try.prog.info? 3).map (·.size) = some 1 := by kernel_rfl
theorem slices_Delete_int_int.zero (w : World) : (zeroValue 3).run Try.prog w = .ok (.int .i64 0) w := by kernel_rfl
set_option maxHeartbeats 2000000 in
set_option maxRecDepth 100000 in
theorem slices_Delete_int_int.calls (P0_ : Nat → Prop) (u9000_ : Value) (l0 : List (Int)) (a1 : Int) (a2 : Int) (r : List (Int)) (w0 w : World) (hB : Below w0.heap.size w0 w) (ho0 : Kd.R (Kd.int .i64) 3 w w0.heap.size P0_ u9000_ l0) (h : slices_Delete_int_int.f l0 a1 a2 = some r) :
   Calls Try.prog 78 #[u9000_, .int .i64 a1, .int .i64 a2] w fun e w' => ∃ v0_ : Value, e = .returned (v0_) ∧ Kd.R (Kd.int .i64) 3 w' w0.heap.size (fun k_ => (P0_ k_ ∨ w.heap.size ≤ k_)) v0_ r ∧ Below w0.heap.size w0 w' ∧ Kept w w' (fun k_ => P0_ k_) := by
 unfold slices_Delete_int_int.f at h
 by_cases hc : 0 ≤ a1 ∧ a2 = a1 + 1 ∧ a1 < (l0.length : Int)
 rotate_left
 · rw [if_neg hc] at h; cases h
 rw [if_pos hc] at h
 obtain rfl := Option.some.inj h
 clear h
 obtain ⟨h0, rfl, hlt⟩ := hc
 obtain ⟨i, rfl⟩ := Int.eq_ofNat_of_zero_le h0
 have hi : i < l0.length := by omega
 obtain ⟨g, cap, cur, hv, hg, hP, hb, hcap, hm, hs, ht⟩ := slices_Delete_int_int.flat.block ho0 (by omega)
 subst hv
 obtain ⟨n, hn⟩ : ∃ n, n = l0.length := ⟨_, rfl⟩
 unfold maxLen at hm
 have hm63 := hm
 have HO := am (Kd.R_mono ho0 (ok' := fun k_ => P0_ k_ ∨ w.heap.size ≤ k_) (fun k hk => .inl hk))
 have HB := am hB
 have HG := am hg
 have HP := am hP
 have HN := am hn
 rw [← hn] at HO ⊢
 rw [← hn] at hi hcap
 clear ho0 hB hg hP hb hs ht hn h0 hlt
 have e1 : (i : Int) + 1 = ((i + 1 : Nat) : Int) := by omega
 rw [Int.toNat_natCast]
 have p1 : (i : Int) ≤ ((i + 1 : Nat) : Int) := by omega
 have p2 : ((i + 1 : Nat) : Int) ≤ (n : Int) := by omega
 have p3 : ¬ ((i : Int) = ((i + 1 : Nat) : Int)) := by omega
 rw [e1]
 clear e1
 have hsz := slices_Delete_int_int.size
 have hdr : Aside0 (Kd.R (Kd.int .i64) 3 w.drew w0.heap.size (fun k_ => P0_ k_ ∨ w.heap.size ≤ k_) (.slice (some ⟨g, 0, none⟩) n cap) l0) := ⟨HO.out⟩
 have hbd : Aside0 (Below w0.heap.size w0 w.drew) := ⟨below_drew HB.out⟩
 clear HO
 have hic : i ≤ cap := by omega
 have hjc : i + 1 ≤ cap := by omega
 have hq : (i : Int) ≤ (i : Int) + 1 := by omega
 have hr0 : (0 : Int) ≤ (i : Int) + 1 := by omega
 have hr1 : (i : Int) + 1 ≤ (n : Int) := by omega
 by_cases hce : cap = i + 1
 · subst hce
   clear hic hjc
   go_enter Try.func78, Try.ntmps78
   go_wp2_with (fail)
   go_region_law (refine Kd.R_delete_step (Kd.int .i64) (w0 := w0) w0.heap.size (by simp [Region.wanted]) (.tmp 22) (.tmp 25) 24 3 rfl Try.underlying24 hsz (g := g) (n := n) (c := i + 1) (k := i) (m := n - (i + 1)) (c2 := 0) (A := some ⟨g, 0, none⟩) u12_3 (by simp [Act.eval, Act.put]; omega) (by simp) rfl hdr.out hi hbd.out hbd.out.size ?_; intro w1 hr hb hgw)
   have hcn : ¬ ((i + 1) = n - 1) := by omega
   have hnn : n - 1 ≤ n := by omega
   have hk1 : ((n - 1 : Nat) : Int) ≤ (n : Int) := by omega
   obtain ⟨hl1, _, hok1, _, _, cur1, hb1, hs1, ht1⟩ := slices_Delete_int_int.flat.blockG hr
   have hsz3 : ((Kd.int .i64)).sz = 1 := rfl
   have hcl : ∀ ty, (Builtin.clear_ #[24] ty #[.slice (some ⟨g, (n - 1) * 1, none⟩) (n - (n - 1)) ((i + 1) - (n - 1))]).run Try.prog w1 = .ok (.tuple #[]) (w1.setCells g ((n - 1) * 1) (.int .i64 0 : Value).cells.toList) := fun ty => by
     rw [show n - (n - 1) = 1 by omega]
     refine Go.Proofs.Ytoemdmjdpikfbaa.Slc.run_clear_one w1 _ 3 ty _ Try.underlying24 slices_Delete_int_int.zero g _ _ (by decide) (fun j hj => ?_) (fun j hj => blk_frozen hb1 _)
     have hj' : j < 1 := hj
     rw [blk_cell hb1, Array.getElem?_eq_getElem (by rw [hs1, hsz3]; omega)]
     rfl
   obtain ⟨W2, hW2⟩ : ∃ W2, W2 = w1.setCells g ((n - 1) * 1) (.int .i64 0 : Value).cells.toList := ⟨_, rfl⟩
   rw [← hW2] at hcl
   simp only [Nat.mul_one] at hcl
   obtain ⟨cur2, hb2, hs2, hk2, _⟩ := Go.Proofs.Ytoemdmjdpikfbaa.Slc.setCells_blk g 3 (.int .i64 0 : Value).cells.toList ((n - 1) * 1) w1 cur1 hb1
   rw [← hW2] at hb2
   have hR : Kd.R (Kd.int .i64) 3 W2 w0.heap.size (fun k_ => (P0_ k_ ∨ w.heap.size ≤ k_)) (.slice (some ⟨g, 0, none⟩) (n - 1) (i + 1)) (l0.eraseIdx i) := by
     refine slices_Delete_int_int.flat.row hb2 HG.out hok1 hl1.symm (by omega) (by unfold maxLen; omega) (hs2.trans hs1) ?_
     rw [← ht1, ← hl1]
     apply List.ext_getElem?
     intro q
     by_cases hq : q < (n - 1) * ((Kd.int .i64)).sz
     · rw [List.getElem?_take_of_lt hq, List.getElem?_take_of_lt hq, Array.getElem?_toList, Array.getElem?_toList]
       exact hk2 q (.inl (by rw [hsz3] at hq; exact hq))
     · rw [List.getElem?_eq_none u12_6, List.getElem?_eq_none u12_6]
   have hBel : Below w0.heap.size w0 W2 := by rw [hW2]; exact Go.Proofs.Ytoemdmjdpikfbaa.Slc.below_setCells HG.out _ _ hb
   have hKp : Kept w W2 (fun k_ => P0_ k_) := by
     rw [hW2]
     exact Go.Proofs.Ytoemdmjdpikfbaa.Slc.kept_setCells (.inl HP.out) _ _ (Kept.of_grown (W := w.drew) hgw (Kept.drew (Kept.refl w _)) (fun k hk => .inl (by injection hk with hk; exact hk ▸ HP.out)))
   have HR := am hR
   have HBe := am hBel
   have HKp := am hKp
   clear hR hBel hKp hr hb hgw hb1 hs1 ht1 hb2 hs2 hk2 hW2 hl1 hok1 hsz3
   go_wp2
   go_ret
   exact ⟨_, rfl, HR.out, HBe.out, HKp.out⟩
 go_enter Try.func78, Try.ntmps78
 go_wp2_with (fail)
 go_region_law (refine Kd.R_delete_step (Kd.int .i64) (w0 := w0) w0.heap.size (by simp [Region.wanted]) (.tmp 22) (.tmp 25) 24 3 rfl Try.underlying24 hsz (g := g) (n := n) (c := cap) (k := i) (m := n - (i + 1)) (c2 := cap - (i + 1)) (A := some ⟨g, (i + 1) * 1, none⟩) u12_3 u12_3 (by rw [if_neg hce]; simp only [Option.map_some, add_plain]; first | done | rfl) rfl hdr.out hi hbd.out hbd.out.size ?_; intro w1 hr hb hgw)
 have hcn : ¬ (cap = n - 1) := by omega
 have hnn : n - 1 ≤ n := by omega
 have hk1 : ((n - 1 : Nat) : Int) ≤ (n : Int) := by omega
 obtain ⟨hl1, _, hok1, _, _, cur1, hb1, hs1, ht1⟩ := slices_Delete_int_int.flat.blockG hr
 have hsz3 : ((Kd.int .i64)).sz = 1 := rfl
 have hcl : ∀ ty, (Builtin.clear_ #[24] ty #[.slice (some ⟨g, (n - 1) * 1, none⟩) (n - (n - 1)) (cap - (n - 1))]).run Try.prog w1 = .ok (.tuple #[]) (w1.setCells g ((n - 1) * 1) (.int .i64 0 : Value).cells.toList) := fun ty => by
   rw [show n - (n - 1) = 1 by omega]
   refine Go.Proofs.Ytoemdmjdpikfbaa.Slc.run_clear_one w1 _ 3 ty _ Try.underlying24 slices_Delete_int_int.zero g _ _ (by decide) (fun j hj => ?_) (fun j hj => blk_frozen hb1 _)
   have hj' : j < 1 := hj
   rw [blk_cell hb1, Array.getElem?_eq_getElem (by rw [hs1, hsz3]; omega)]
   rfl
 obtain ⟨W2, hW2⟩ : ∃ W2, W2 = w1.setCells g ((n - 1) * 1) (.int .i64 0 : Value).cells.toList := ⟨_, rfl⟩
 rw [← hW2] at hcl
 simp only [Nat.mul_one] at hcl
 obtain ⟨cur2, hb2, hs2, hk2, _⟩ := Go.Proofs.Ytoemdmjdpikfbaa.Slc.setCells_blk g 3 (.int .i64 0 : Value).cells.toList ((n - 1) * 1) w1 cur1 hb1
 rw [← hW2] at hb2
 have hR : Kd.R (Kd.int .i64) 3 W2 w0.heap.size (fun k_ => (P0_ k_ ∨ w.heap.size ≤ k_)) (.slice (some ⟨g, 0, none⟩) (n - 1) cap) (l0.eraseIdx i) := by
   refine slices_Delete_int_int.flat.row hb2 HG.out hok1 hl1.symm (by omega) (by unfold maxLen; omega) (hs2.trans hs1) ?_
   rw [← ht1, ← hl1]
   apply List.ext_getElem?
   intro q
   by_cases hq : q < (n - 1) * ((Kd.int .i64)).sz
   · rw [List.getElem?_take_of_lt hq, List.getElem?_take_of_lt hq, Array.getElem?_toList, Array.getElem?_toList]
     exact hk2 q (.inl (by rw [hsz3] at hq; exact hq))
   · rw [List.getElem?_eq_none u12_6, List.getElem?_eq_none u12_6]
 have hBel : Below w0.heap.size w0 W2 := by rw [hW2]; exact Go.Proofs.Ytoemdmjdpikfbaa.Slc.below_setCells HG.out _ _ hb
 have hKp : Kept w W2 (fun k_ => P0_ k_) := by
   rw [hW2]
   exact Go.Proofs.Ytoemdmjdpikfbaa.Slc.kept_setCells (.inl HP.out) _ _ (Kept.of_grown (W := w.drew) hgw (Kept.drew (Kept.refl w _)) (fun k hk => .inl (by injection hk with hk; exact hk ▸ HP.out)))
 have HR := am hR
 have HBe := am hBel
 have HKp := am hKp
 clear hR hBel hKp hr hb hgw hb1 hs1 ht1 hb2 hs2 hk2 hW2 hl1 hok1 hsz3
 go_wp2
 go_ret
 exact ⟨_, rfl, HR.out, HBe.out, HKp.out⟩
end Go.Proofs.Ytoemdmjdpikfbaa.QFnExactPlayConf
