import Derived.Test.YtoemdmjdpikfbaaSqFnExactPlayConf
import Derived.Test.YtoemdmjdpikfbaaQFnExactPlayConfx0
import Derived.Test.YtoemdmjdpikfbaaQFnExactPlayConfx8
namespace Go.Proofs.Ytoemdmjdpikfbaa.QFnExactPlayConf
open Go.RowKit Go.Proofs.YtoemdmjdpikfbaaW.PrintWords Go.Proofs.YtoemdmjdpikfbaaW.PrintLast Go.Proofs.YtoemdmjdpikfbaaW.PrintMore Go.Proofs.Ytoemdmjdpikfbaa.SqFnExactPlayConf
attribute [local go_sem] max2_int min2_int max_two min_two max_three min_three max_four min_four Go.Proofs.Ytoemdmjdpikfbaa.Set.isSome_setCell
set_option linter.unusedVariables false
set_option linter.unusedSimpArgs false
theorem u9_4 {P : Prop} (h : P := by repeat (first | exact (Kd.C_below HR0_1.out Q6) | (with_reducible refine Kd.C_alloc ?_ _) | (with_reducible refine Kd.C_drewN ?_ _) | (with_reducible refine Kd.C_drew ?_))) : P := h
theorem u9_6 {P : Prop} (h : P := by repeat (first | exact (Kd.C_below HR0_0.out Q6) | (with_reducible refine Kd.C_alloc ?_ _) | (with_reducible refine Kd.C_drewN ?_ _) | (with_reducible refine Kd.C_drew ?_))) : P := h
theorem u9_7 {P : Prop} (h : P := by (with_reducible repeat (first | apply b1_ | apply b2_ | apply b3_)); exact BK397.out) : P := h
def impl_isConf.f (k : Nat) (l0_0 : List Int) (l0_1 : List Int) (l0_2 : List Int) : Option (Bool) := (impl_areIds.f k l0_0).bind fun t398 => (if t398 = true then (if (l0_0.length : Int) = 0 then (some false) else ((impl_areIds.f k l0_1).bind fun t399 => (if t399 = true then ((slices_Equal_int_int.f k l0_0 l0_1).bind fun t400 => (if t400 = true then (some false) else ((impl_areIds.f k l0_2).bind fun t401 => (if t401 = true then ((slices_ContainsFunc_int_int.f l0_2 l0_0 l0_1 l0_2).bind fun t402 => (some (!t402))) else (some false))))) else (some false)))) else (some false))
theorem impl_isConf.mono : ∀ a0 a1 a2 k, LeO (impl_isConf.f k a0 a1 a2) (impl_isConf.f (k + 1) a0 a1 a2) := by
 intro a0 a1 a2 k
 unfold impl_isConf.f
 repeat' first
     | (with_reducible exact impl_areIds.mono _ _)
     | (with_reducible exact slices_Equal_int_int.mono _ _ _)
     | (with_reducible exact LeO.refl _)
     | (with_reducible exact LeO.none _)
     | (with_reducible refine LeO.ite ?_ ?_)
     | (with_reducible refine LeO.bind ?_ (fun _ => ?_))
     | exact impl_areIds.mono _ _
     | exact slices_Equal_int_int.mono _ _ _
     | exact LeO.none _
     | refine LeO.ite ?_ ?_
     | refine LeO.bind ?_ (fun _ => ?_)
set_option maxHeartbeats 8000000 in
set_option maxRecDepth 100000 in
theorem impl_isConf.calls (k : Nat) (A0_0 : Option Addr) (c0_0 : Nat) (l0_0 : List Int) (A0_1 : Option Addr) (c0_1 : Nat) (l0_1 : List Int) (A0_2 : Option Addr) (c0_2 : Nat) (l0_2 : List Int) (r : Bool) (w : World) (hr0_0 : Kd.C (Kd.int .i64) w A0_0 l0_0.length l0_0) (hc0_0 : l0_0.length ≤ c0_0) (hr0_1 : Kd.C (Kd.int .i64) w A0_1 l0_1.length l0_1) (hc0_1 : l0_1.length ≤ c0_1) (hr0_2 : Kd.C (Kd.int .i64) w A0_2 l0_2.length l0_2) (hc0_2 : l0_2.length ≤ c0_2) (h : impl_isConf.f k l0_0 l0_1 l0_2 = some r) :
   Calls Try.prog 48 #[.agg #[.slice A0_0 l0_0.length c0_0, .slice A0_1 l0_1.length c0_1, .slice A0_2 l0_2.length c0_2]] w fun e w' => e = .returned (.bool r) ∧ Below w.heap.size w w' := by
 have hu26 := Try.underlying26
 have HR0_0 := am hr0_0
 have HC0_0 := am hc0_0
 clear hr0_0 hc0_0
 have HR0_1 := am hr0_1
 have HC0_1 := am hc0_1
 clear hr0_1 hc0_1
 have HR0_2 := am hr0_2
 have HC0_2 := am hc0_2
 clear hr0_2 hc0_2
 have HB := am (Below.refl w.heap.size w)
 have H : ((impl_areIds.f k l0_0).bind fun t398 => (if t398 = true then (if (l0_0.length : Int) = 0 then (some false) else ((impl_areIds.f k l0_1).bind fun t399 => (if t399 = true then ((slices_Equal_int_int.f k l0_0 l0_1).bind fun t400 => (if t400 = true then (some false) else ((impl_areIds.f k l0_2).bind fun t401 => (if t401 = true then ((slices_ContainsFunc_int_int.f l0_2 l0_0 l0_1 l0_2).bind fun t402 => (some (!t402))) else (some false))))) else (some false)))) else (some false))) = some r := h
 clear h
 replace H := Option.bind_eq_some_iff.mp H
 obtain ⟨t398, A20, H⟩ := H
 have A2 := am A20
 clear A20
 by_cases c3 : t398 = true
 rotate_left
 · replace c3 := Bool.eq_false_iff.mpr c3
   subst c3
   rw [nf] at H
   obtain rfl := sj H
   go_enter Try.func48, Try.ntmps48
   go_wp2_with (first | ((with_reducible refine gate_dst (N := 1) rfl ?_); (try (refine gate_guard (by rfl) ?_; dsimp only)); refine box_event ?hg (N := 1) ?hd (cs := #[.slice A0_0 l0_0.length c0_0, .slice A0_1 l0_1.length c0_1, .slice A0_2 l0_2.length c0_2]) (t := 26) ?hr ?_; (case hd => rfl); (case hg => rfl); (case hr => first | (go_simp; done) | (go_simp; rfl)); intro gb397 hg w22 hbox hb; have BK397 := am (hbox); have GW397 := am ((by rw [hg]; exact (below_size Q6) : w.heap.size ≤ gb397)); have GE397 := am ((by rw [hg]; exact (below_size Q6) : w.heap.size ≤ gb397)); replace HB := am (below_step Q6 hb); clear hb hbox hg; obtain ⟨hcz23_0, hcz23_1, hcz23_2⟩ := bc3 w22 BK397.out) | ((with_reducible refine gate_callee (f := 72) rfl ?_); refine goesL_ (some 5) rfl rfl Try.func72 kr rfl #[.slice A0_0 l0_0.length c0_0] rfl Q10 ?_; (with_reducible refine (impl_areIds.calls k _ _ l0_0 false _ ?side1 ?side2 A2.out).mono ?_); (case side1 => exact Q0); (case side2 => exact HC0_0.out); rintro e w' ⟨rfl, ⟨nd, rfl⟩⟩; refine ⟨_, rfl, ?_⟩))
   go_ret
   exact ⟨er, Q6⟩
 subst c3
 rw [if_pos rfl] at H
 by_cases c4 : (l0_0.length : Int) = 0
 · rw [if_pos c4] at H
   have c4b0 : ((l0_0.length : Int) == 0) = true := beq_iff_eq.mpr c4
   have c4b1 : ((l0_0.length : Int) != 0) = false := bne_eq_false_iff_eq.mpr c4
   clear c4
   obtain rfl := sj H
   go_enter Try.func48, Try.ntmps48
   go_wp2_with (first | ((with_reducible refine gate_dst (N := 1) rfl ?_); (try (refine gate_guard (by rfl) ?_; dsimp only)); refine box_event ?hg (N := 1) ?hd (cs := #[.slice A0_0 l0_0.length c0_0, .slice A0_1 l0_1.length c0_1, .slice A0_2 l0_2.length c0_2]) (t := 26) ?hr ?_; (case hd => rfl); (case hg => rfl); (case hr => first | (go_simp; done) | (go_simp; rfl)); intro gb397 hg w5 hbox hb; have BK397 := am (hbox); have GW397 := am ((by rw [hg]; exact (below_size Q6) : w.heap.size ≤ gb397)); have GE397 := am ((by rw [hg]; exact (below_size Q6) : w.heap.size ≤ gb397)); replace HB := am (below_step Q6 hb); clear hb hbox hg; obtain ⟨hcz6_0, hcz6_1, hcz6_2⟩ := bc3 w5 BK397.out) | ((with_reducible refine gate_callee (f := 72) rfl ?_); refine goesL_ (some 5) rfl rfl Try.func72 kr rfl #[.slice A0_0 l0_0.length c0_0] rfl Q10 ?_; (with_reducible refine (impl_areIds.calls k _ _ l0_0 true _ ?side1 ?side2 A2.out).mono ?_); (case side1 => exact Q0); (case side2 => exact HC0_0.out); rintro e w' ⟨rfl, ⟨nd, rfl⟩⟩; refine ⟨_, rfl, ?_⟩))
   go_ret
   exact ⟨er, Q6⟩
 rw [if_neg c4] at H
 have c4b0 : ((l0_0.length : Int) == 0) = false := beq_eq_false_iff_ne.mpr c4
 have c4b1 : ((l0_0.length : Int) != 0) = true := bne_iff_ne.mpr c4
 have c4b2 : ¬ (l0_0 = []) := fun h_ => c4 (by rw [h_]; rfl)
 replace H := Option.bind_eq_some_iff.mp H
 obtain ⟨t399, A70, H⟩ := H
 have A7 := am A70
 clear A70
 by_cases c8 : t399 = true
 rotate_left
 · replace c8 := Bool.eq_false_iff.mpr c8
   subst c8
   rw [nf] at H
   obtain rfl := sj H
   go_enter Try.func48, Try.ntmps48
   go_wp2_with (first | ((with_reducible refine gate_dst (N := 1) rfl ?_); (try (refine gate_guard (by rfl) ?_; dsimp only)); refine box_event ?hg (N := 1) ?hd (cs := #[.slice A0_0 l0_0.length c0_0, .slice A0_1 l0_1.length c0_1, .slice A0_2 l0_2.length c0_2]) (t := 26) ?hr ?_; (case hd => rfl); (case hg => rfl); (case hr => first | (go_simp; done) | (go_simp; rfl)); intro gb397 hg w20 hbox hb; have BK397 := am (hbox); have GW397 := am ((by rw [hg]; exact (below_size Q6) : w.heap.size ≤ gb397)); have GE397 := am ((by rw [hg]; exact (below_size Q6) : w.heap.size ≤ gb397)); replace HB := am (below_step Q6 hb); clear hb hbox hg; obtain ⟨hcz21_0, hcz21_1, hcz21_2⟩ := bc3 w20 BK397.out) | ((with_reducible refine gate_callee (f := 72) rfl ?_); refine goesL_ (some 5) rfl rfl Try.func72 kr rfl #[.slice A0_0 l0_0.length c0_0] rfl Q10 ?_; (with_reducible refine (impl_areIds.calls k _ _ l0_0 true _ ?side1 ?side2 A2.out).mono ?_); (case side1 => exact Q0); (case side2 => exact HC0_0.out); rintro e w' ⟨rfl, ⟨nd, rfl⟩⟩; refine ⟨_, rfl, ?_⟩) | (go_at_call 72; (with_reducible refine (impl_areIds.calls k _ _ l0_1 false _ ?side1 ?side2 A7.out).mono ?_); (case side1 => exact u9_4); (case side2 => exact HC0_1.out); rintro e w' ⟨rfl, ⟨nd, rfl⟩⟩))
   go_ret
   exact ⟨er, Q6⟩
 subst c8
 rw [if_pos rfl] at H
 replace H := Option.bind_eq_some_iff.mp H
 obtain ⟨t400, A90, H⟩ := H
 have A9 := am A90
 clear A90
 by_cases c10 : t400 = true
 · subst c10
   rw [if_pos rfl] at H
   obtain rfl := sj H
   go_enter Try.func48, Try.ntmps48
   go_wp2_with (first | ((with_reducible refine gate_dst (N := 1) rfl ?_); (try (refine gate_guard (by rfl) ?_; dsimp only)); refine box_event ?hg (N := 1) ?hd (cs := #[.slice A0_0 l0_0.length c0_0, .slice A0_1 l0_1.length c0_1, .slice A0_2 l0_2.length c0_2]) (t := 26) ?hr ?_; (case hd => rfl); (case hg => rfl); (case hr => first | (go_simp; done) | (go_simp; rfl)); intro gb397 hg w11 hbox hb; have BK397 := am (hbox); have GW397 := am ((by rw [hg]; exact (below_size Q6) : w.heap.size ≤ gb397)); have GE397 := am ((by rw [hg]; exact (below_size Q6) : w.heap.size ≤ gb397)); replace HB := am (below_step Q6 hb); clear hb hbox hg; obtain ⟨hcz12_0, hcz12_1, hcz12_2⟩ := bc3 w11 BK397.out) | ((with_reducible refine gate_callee (f := 72) rfl ?_); refine goesL_ (some 5) rfl rfl Try.func72 kr rfl #[.slice A0_0 l0_0.length c0_0] rfl Q10 ?_; (with_reducible refine (impl_areIds.calls k _ _ l0_0 true _ ?side1 ?side2 A2.out).mono ?_); (case side1 => exact Q0); (case side2 => exact HC0_0.out); rintro e w' ⟨rfl, ⟨nd, rfl⟩⟩; refine ⟨_, rfl, ?_⟩) | (go_at_call 72; (with_reducible refine (impl_areIds.calls k _ _ l0_1 true _ ?side1 ?side2 A7.out).mono ?_); (case side1 => exact u9_4); (case side2 => exact HC0_1.out); rintro e w' ⟨rfl, ⟨nd, rfl⟩⟩) | (go_at_call 73; (with_reducible refine (slices_Equal_int_int.calls k _ _ l0_0 _ _ l0_1 true _ ?side1 ?side2 ?side3 ?side4 A9.out).mono ?_); (case side1 => exact u9_6); (case side2 => exact HC0_0.out); (case side3 => exact u9_4); (case side4 => exact HC0_1.out); rintro e w' ⟨rfl, ⟨nd, rfl⟩⟩))
   go_ret
   exact ⟨er, Q6⟩
 replace c10 := Bool.eq_false_iff.mpr c10
 subst c10
 rw [nf] at H
 replace H := Option.bind_eq_some_iff.mp H
 obtain ⟨t401, A130, H⟩ := H
 have A13 := am A130
 clear A130
 have H9 := am H
 clear H
 go_enter Try.func48, Try.ntmps48
 go_upto_if 31 with (first | ((with_reducible refine gate_dst (N := 1) rfl ?_); (try (refine gate_guard (by rfl) ?_; dsimp only)); refine box_event ?hg (N := 1) ?hd (cs := #[.slice A0_0 l0_0.length c0_0, .slice A0_1 l0_1.length c0_1, .slice A0_2 l0_2.length c0_2]) (t := 26) ?hr ?_; (case hd => rfl); (case hg => rfl); (case hr => first | (go_simp; done) | (go_simp; rfl)); intro gb397 hg w14 hbox hb; have BK397 := am (hbox); have GW397 := am ((by rw [hg]; exact (below_size Q6) : w.heap.size ≤ gb397)); have GE397 := am ((by rw [hg]; exact (below_size Q6) : w.heap.size ≤ gb397)); replace HB := am (below_step Q6 hb); clear hb hbox hg; obtain ⟨hcz15_0, hcz15_1, hcz15_2⟩ := bc3 w14 BK397.out) | ((with_reducible refine gate_callee (f := 72) rfl ?_); refine goesL_ (some 5) rfl rfl Try.func72 kr rfl #[.slice A0_0 l0_0.length c0_0] rfl Q10 ?_; (with_reducible refine (impl_areIds.calls k _ _ l0_0 true _ ?side1 ?side2 A2.out).mono ?_); (case side1 => exact Q0); (case side2 => exact HC0_0.out); rintro e w' ⟨rfl, ⟨nd, rfl⟩⟩; refine ⟨_, rfl, ?_⟩) | (go_at_call 72; (with_reducible refine (impl_areIds.calls k _ _ l0_1 true _ ?side1 ?side2 A7.out).mono ?_); (case side1 => exact u9_4); (case side2 => exact HC0_1.out); rintro e w' ⟨rfl, ⟨nd, rfl⟩⟩) | (go_at_call 73; (with_reducible refine (slices_Equal_int_int.calls k _ _ l0_0 _ _ l0_1 false _ ?side1 ?side2 ?side3 ?side4 A9.out).mono ?_); (case side1 => exact u9_6); (case side2 => exact HC0_0.out); (case side3 => exact u9_4); (case side4 => exact HC0_1.out); rintro e w' ⟨rfl, ⟨nd, rfl⟩⟩) | (go_at_call 72; (with_reducible refine (impl_areIds.calls k _ _ l0_2 t401 _ ?side1 ?side2 A13.out).mono ?_); (case side1 => exact (by repeat (first | exact (Kd.C_below HR0_2.out Q6) | (with_reducible refine Kd.C_alloc ?_ _) | (with_reducible refine Kd.C_drewN ?_ _) | (with_reducible refine Kd.C_drew ?_)))); (case side2 => exact HC0_2.out); rintro e w' ⟨rfl, ⟨nd, rfl⟩⟩))
 have H := H9.out
 clear H9
 by_cases c16 : t401 = true
 rotate_left
 · replace c16 := Bool.eq_false_iff.mpr c16
   subst c16
   rw [nf] at H
   obtain rfl := sj H
   go_wp2
   go_ret
   exact ⟨er, Q6⟩
 subst c16
 rw [if_pos rfl] at H
 replace H := Option.bind_eq_some_iff.mp H
 obtain ⟨t402, A170, H⟩ := H
 replace H : (some (!t402)) = some r := H
 have A17 := am A170
 clear A170
 obtain rfl := sj H
 obtain ⟨hcz18_0, hcz18_1, hcz18_2⟩ := bc3 w14 BK397.out
 go_wp2_with (first | ((with_reducible refine gate_callee (f := 74) rfl ?_); refine goesL_ (some 35) rfl rfl Try.func74 kr rfl #[.slice A0_2 l0_2.length c0_2, .func (.func 75) #[] #[.pointer (some ⟨gb397, 0, none⟩)]] rfl Q10 ?_; (with_reducible refine (slices_ContainsFunc_int_int.calls _ _ l0_2 A0_0 c0_0 l0_0 A0_1 c0_1 l0_1 A0_2 c0_2 l0_2 t402 _ ?side1 ?side2 ?side3 ?side4 ?side5 ?side6 ?side7 ?side8 ?side9 A17.out).mono ?_); (case side1 => exact Q2); (case side2 => exact HC0_2.out); (case side3 => exact Q0); (case side4 => exact HC0_0.out); (case side5 => exact (by repeat (first | exact (Kd.C_below HR0_1.out HB.out) | (with_reducible refine Kd.C_alloc ?_ _) | (with_reducible refine Kd.C_drewN ?_ _) | (with_reducible refine Kd.C_drew ?_)))); (case side6 => exact HC0_1.out); (case side7 => exact Q2); (case side8 => exact HC0_2.out); (case side9 => exact (by exact u9_7)); rintro e w19 ⟨rfl, hb⟩; refine ⟨_, rfl, ?_⟩; replace BK397 := am (bb_ BK397.out u9_7 hb); replace HB := am (below_step Q6 hb); (try clear hb); (try clear hb2); (try clear hk); (try clear hi)))
 go_ret
 exact ⟨er, Q6⟩
end Go.Proofs.Ytoemdmjdpikfbaa.QFnExactPlayConf
