import Derived.Test.YtkcadcoohmofcaaSqFnExactSettled
import Derived.Test.YtkcadcoohmofcaaQFnExactSettledx0
import Derived.Test.YtkcadcoohmofcaaQFnExactSettledx7
import Derived.Test.YtkcadcoohmofcaaQFnExactSettledx8
import Derived.Test.YtkcadcoohmofcaaQFnExactSettledx11
namespace Go.Proofs.Ytkcadcoohmofcaa.QFnExactSettled
open Go.RowKit Go.Proofs.YtkcadcoohmofcaaW.PrintWords Go.Proofs.YtkcadcoohmofcaaW.PrintLast Go.Proofs.YtkcadcoohmofcaaW.PrintMore Go.Proofs.Ytkcadcoohmofcaa.SqFnExactSettled
attribute [local go_sem] max2_int min2_int max_two min_two max_three min_three max_four min_four Go.Proofs.Ytkcadcoohmofcaa.Set.isSome_setCell
set_option linter.unusedVariables false
set_option linter.unusedSimpArgs false
theorem u12_1 {P : Prop} (h : P := by (with_reducible repeat (first | apply b1_ | apply b2_ | apply b3_)); exact BK313.out) : P := h
mutual
def spec_GroupOk.j0 : Nat → Bool → Int → List (S37) → List (S29) → Option (Bool)
 | 0, _, _, _, _ => none
 | k + 1, x22, x314000, x314001, x314002 => if x22 = true then (some false) else (spec_GroupOk.l0 k 0 x314000 x314001 x314002)
def spec_GroupOk.l0 : Nat → Int → Int → List (S37) → List (S29) → Option (Bool)
 | 0, _, _, _, _ => none
 | k + 1, x3, x314000, x314001, x314002 => if x3 < x314000 then (if 0 ≤ x3 then (if x3 < (x314001.length : Int) then (if ((rd_T37 x314001 x3).f0) = x3 then ((spec_NodeOk.f k ((rd_T37 x314001 x3).f0) ((rd_T37 x314001 x3).f1) ((rd_T37 x314001 x3).f2) ((rd_T37 x314001 x3).f3) ((rd_T37 x314001 x3).f4) ((rd_T37 x314001 x3).f5.f0) ((rd_T37 x314001 x3).f5.f1) ((rd_T37 x314001 x3).f5.f2) ((rd_T37 x314001 x3).f6) ((rd_T37 x314001 x3).f7) x314000).bind fun t317 => (if t317 = true then (spec_GroupOk.l0 k (wrap64 (x3 + 1)) x314000 x314001 x314002) else (some false))) else (some false)) else (none)) else (none)) else (spec_GroupOk.l1 k 0 x314000 x314001 x314002)
def spec_GroupOk.l1 : Nat → Int → Int → List (S37) → List (S29) → Option (Bool)
 | 0, _, _, _, _ => none
 | k + 1, x4, x314000, x314001, x314002 => if x4 < (x314002.length : Int) then (if 0 ≤ x4 then ((spec_MsgOk.f k ((rd_T29 x314002 x4).f0) ((rd_T29 x314002 x4).f1) ((rd_T29 x314002 x4).f2) ((rd_T29 x314002 x4).f3) ((rd_T29 x314002 x4).f4) ((rd_T29 x314002 x4).f5) ((rd_T29 x314002 x4).f6) ((rd_T29 x314002 x4).f7) ((rd_T29 x314002 x4).f8) x314000).bind fun t319 => (if t319 = true then (spec_GroupOk.l1 k (wrap64 (x4 + 1)) x314000 x314001 x314002) else (some false))) else (none)) else (some true)
end
def spec_GroupOk.f (k : Nat) (a0_0 : Int) (l0_1 : List (S37)) (l0_2 : List (S29)) : Option (Bool) := (spec_l07Size.f a0_0).bind fun t314 => (if t314 = true then (if (l0_1.length : Int) = a0_0 then (spec_GroupOk.j0 k (decide ((l0_2.length : Int) > 60)) a0_0 l0_1 l0_2) else (spec_GroupOk.j0 k true a0_0 l0_1 l0_2)) else (spec_GroupOk.j0 k true a0_0 l0_1 l0_2))
theorem spec_GroupOk.mono_l : ∀ k, (∀ y0 y1 y2 y3, LeO (spec_GroupOk.j0 k y0 y1 y2 y3) (spec_GroupOk.j0 (k + 1) y0 y1 y2 y3)) ∧ (∀ y0 y1 y2 y3, LeO (spec_GroupOk.l0 k y0 y1 y2 y3) (spec_GroupOk.l0 (k + 1) y0 y1 y2 y3)) ∧ (∀ y0 y1 y2 y3, LeO (spec_GroupOk.l1 k y0 y1 y2 y3) (spec_GroupOk.l1 (k + 1) y0 y1 y2 y3))
 | 0 => ⟨fun _ _ _ _ r h => by simp [spec_GroupOk.j0] at h, fun _ _ _ _ r h => by simp [spec_GroupOk.l0] at h, fun _ _ _ _ r h => by simp [spec_GroupOk.l1] at h⟩
 | k + 1 => by
   obtain ⟨ih0, ih1, ih2⟩ := spec_GroupOk.mono_l k
   refine ⟨?_, ?_, ?_⟩ <;> intros <;> (first | unfold spec_GroupOk.j0 | unfold spec_GroupOk.l0 | unfold spec_GroupOk.l1) <;> repeat' first
   | (with_reducible exact ih0 _ _ _ _)
   | (with_reducible exact ih1 _ _ _ _)
   | (with_reducible exact ih2 _ _ _ _)
   | (with_reducible exact spec_MsgOk.mono _ _ _ _ _ _ _ _ _ _ _)
   | (with_reducible exact spec_NodeOk.mono _ _ _ _ _ _ _ _ _ _ _ _)
   | (with_reducible exact LeO.refl _)
   | (with_reducible exact LeO.none _)
   | (with_reducible refine LeO.ite ?_ ?_)
   | (with_reducible refine LeO.bind ?_ (fun _ => ?_))
   | exact ih0 _ _ _ _
   | exact ih1 _ _ _ _
   | exact ih2 _ _ _ _
   | exact spec_MsgOk.mono _ _ _ _ _ _ _ _ _ _ _
   | exact spec_NodeOk.mono _ _ _ _ _ _ _ _ _ _ _ _
   | exact LeO.none _
   | refine LeO.ite ?_ ?_
   | refine LeO.bind ?_ (fun _ => ?_)
theorem spec_GroupOk.mono : ∀ a0 a1 a2 k, LeO (spec_GroupOk.f k a0 a1 a2) (spec_GroupOk.f (k + 1) a0 a1 a2) := by
 intro a0 a1 a2 k
 obtain ⟨ih0, ih1, ih2⟩ := spec_GroupOk.mono_l k
 unfold spec_GroupOk.f
 repeat' first
     | (with_reducible exact ih0 _ _ _ _)
     | (with_reducible exact ih1 _ _ _ _)
     | (with_reducible exact ih2 _ _ _ _)
     | (with_reducible exact spec_MsgOk.mono _ _ _ _ _ _ _ _ _ _ _)
     | (with_reducible exact spec_NodeOk.mono _ _ _ _ _ _ _ _ _ _ _ _)
     | (with_reducible exact LeO.refl _)
     | (with_reducible exact LeO.none _)
     | (with_reducible refine LeO.ite ?_ ?_)
     | (with_reducible refine LeO.bind ?_ (fun _ => ?_))
     | exact ih0 _ _ _ _
     | exact ih1 _ _ _ _
     | exact ih2 _ _ _ _
     | exact spec_MsgOk.mono _ _ _ _ _ _ _ _ _ _ _
     | exact spec_NodeOk.mono _ _ _ _ _ _ _ _ _ _ _ _
     | exact LeO.none _
     | refine LeO.ite ?_ ?_
     | refine LeO.bind ?_ (fun _ => ?_)
def spec_GroupOk.T6 : Bool × List (List Nat × List Nat) := (true, [([], []), ([0], [0]), ([], []), ([1, 2], [1, 2]), ([3], [3]), ([4], [4]), ([], []), ([5, 6], [5, 6]), ([7], [7]), ([8], [8]), ([9, 8], [8, 9]), ([8], [8]), ([10, 11, 8], [8, 10, 11]), ([12, 8], [8, 12]), ([8], [8]), ([14, 8], [8, 14]), ([13, 15, 8, 8], [8, 13, 15]), ([16, 8], [8, 16]), ([8, 17], [8, 17])])
def spec_GroupOk.B6 : List Nat := [0, 1, 0, 7, 15, 31, 0, 127, 255, 511, 1023, 511, 4095, 8191, 511, 16895, 65535, 131071, 262143]
theorem spec_GroupOk.tab6 : rtab .any (opsOf Try.f44 6) = spec_GroupOk.T6 := by kernel_rfl
theorem spec_GroupOk.bits6 : waitsOk spec_GroupOk.T6.2 spec_GroupOk.B6 = true := by kernel_rfl
def spec_GroupOk.T11 : Bool × List (List Nat × List Nat) := (true, [([], []), ([0], [0]), ([], []), ([1, 2], [1, 2]), ([3], [3]), ([], []), ([5], [5]), ([4, 6], [4, 6]), ([7], [7])])
def spec_GroupOk.B11 : List Nat := [0, 1, 0, 7, 15, 0, 32, 127, 255]
theorem spec_GroupOk.tab11 : rtab .any (opsOf Try.f44 11) = spec_GroupOk.T11 := by kernel_rfl
theorem spec_GroupOk.bits11 : waitsOk spec_GroupOk.T11.2 spec_GroupOk.B11 = true := by kernel_rfl
set_option maxHeartbeats 8000000 in
set_option maxRecDepth 100000 in
theorem spec_GroupOk.calls (k : Nat) (a0_0 : Int) (A0_1 : Option Addr) (c0_1 : Nat) (l0_1 : List (S37)) (A0_2 : Option Addr) (c0_2 : Nat) (l0_2 : List (S29)) (r : Bool) (w : World) (hr0_1 : Kd.C k37 w A0_1 l0_1.length l0_1) (hc0_1 : l0_1.length ≤ c0_1) (hr0_2 : Kd.C k29 w A0_2 l0_2.length l0_2) (hc0_2 : l0_2.length ≤ c0_2) (h : spec_GroupOk.f k a0_0 l0_1 l0_2 = some r) :
   Calls Try.prog 44 #[.agg #[.int .i64 a0_0, .slice A0_1 l0_1.length c0_1, .slice A0_2 l0_2.length c0_2]] w fun e w' => e = .returned (.bool r) ∧ Below w.heap.size w w' := by
 have hu53 := Try.underlying53
 have hu37 := Try.underlying37
 have hu29 := Try.underlying29
 have HR0_1 := am hr0_1
 have HC0_1 := am hc0_1
 clear hr0_1 hc0_1
 have HR0_2 := am hr0_2
 have HC0_2 := am hc0_2
 clear hr0_2 hc0_2
 have HB := am (Below.refl w.heap.size w)
 have H : ((spec_l07Size.f a0_0).bind fun t314 => (if t314 = true then (if (l0_1.length : Int) = a0_0 then (spec_GroupOk.j0 k (decide ((l0_2.length : Int) > 60)) a0_0 l0_1 l0_2) else (spec_GroupOk.j0 k true a0_0 l0_1 l0_2)) else (spec_GroupOk.j0 k true a0_0 l0_1 l0_2))) = some r := h
 clear h
 have HC2 := am H
 clear H
 go_enter Try.func44, Try.ntmps44
 go_upto_region 1 with (first | ((with_reducible refine gate_dst (N := 1) rfl ?_); (try (refine gate_guard (by rfl) ?_; dsimp only)); refine box_event ?hg (N := 1) ?hd (cs := #[.int .i64 a0_0, .slice A0_1 l0_1.length c0_1, .slice A0_2 l0_2.length c0_2]) (t := 53) ?hr ?_; (case hd => rfl); (case hg => rfl); (case hr => first | (go_simp; done) | (go_simp; rfl)); intro gb313 hg w3 hbox hb; have BK313 := am (hbox); have GW313 := am ((by rw [hg]; exact (below_size Q2) : w.heap.size ≤ gb313)); have GE313 := am ((by rw [hg]; exact (below_size Q2) : w.heap.size ≤ gb313)); replace HB := am (below_step Q2 hb); clear hb hbox hg))
 (try simp only [Act.put, la, lb, lc])
 go_cut [22] (fun v22 wc => ∃ (kq : Nat) (x22_1 : Bool), v22 = .bool x22_1 ∧ Aside0 (spec_GroupOk.j0 kq x22_1 a0_0 l0_1 l0_2 = some r) ∧ Aside0 (kq ≤ k) ∧ Aside0 (wc.heap[gb313]? = some (.cells #[.int .i64 a0_0, (.slice A0_1 l0_1.length c0_1), (.slice A0_2 l0_2.length c0_2)] 53 (0, 0))) ∧ Aside0 (Below w.heap.size w wc))
 case first =>
   have H := HC2.out
   clear HC2
   replace H := Option.bind_eq_some_iff.mp H
   obtain ⟨t314, A40, H⟩ := H
   have A4 := am A40
   clear A40
   by_cases c5 : t314 = true
   rotate_left
   · replace c5 := Bool.eq_false_iff.mpr c5
     subst c5
     rw [nf] at H
     have H' := am H
     clear H
     obtain ⟨hcz9_0, hcz9_1, hcz9_2⟩ := bc3 w3 BK313.out
     go_wp2_with (first | ((with_reducible refine gate_callee (f := 62) rfl ?_); refine goesL_ (some 7) rfl rfl Try.func62 kr rfl #[.int .i64 a0_0] rfl Q0 ?_; (with_reducible refine (spec_l07Size.calls a0_0 false _ A4.out).mono ?_); rintro e w' ⟨rfl, ⟨nd, rfl⟩⟩; refine ⟨_, rfl, ?_⟩))
     go_meet
     case rel => exact ⟨_, (true), Q3, H', ⟨by first | omega | exact Nat.le_refl _⟩, ⟨u12_1⟩, ⟨Q2⟩⟩
   subst c5
   rw [if_pos rfl] at H
   by_cases c6 : (l0_1.length : Int) = a0_0
   rotate_left
   · rw [if_neg c6] at H
     have c6b0 : ((l0_1.length : Int) == a0_0) = false := beq_eq_false_iff_ne.mpr c6
     have c6b1 : ((l0_1.length : Int) != a0_0) = true := bne_iff_ne.mpr c6
     (first | rw [c6b0] | (simp only [i64_w, i32_w]; rw [c6b0]) | skip)
     have H' := am H
     clear H
     obtain ⟨hcz8_0, hcz8_1, hcz8_2⟩ := bc3 w3 BK313.out
     go_wp2_with (first | ((with_reducible refine gate_callee (f := 62) rfl ?_); refine goesL_ (some 7) rfl rfl Try.func62 kr rfl #[.int .i64 a0_0] rfl Q0 ?_; (with_reducible refine (spec_l07Size.calls a0_0 true _ A4.out).mono ?_); rintro e w' ⟨rfl, ⟨nd, rfl⟩⟩; refine ⟨_, rfl, ?_⟩))
     go_meet
     case rel => exact ⟨_, (true), Q3, H', ⟨by first | omega | exact Nat.le_refl _⟩, ⟨u12_1⟩, ⟨Q2⟩⟩
   rw [if_pos c6] at H
   have c6b0 : ((l0_1.length : Int) == a0_0) = true := beq_iff_eq.mpr c6
   have c6b1 : ((l0_1.length : Int) != a0_0) = false := bne_eq_false_iff_eq.mpr c6
   clear c6
   (first | rw [c6b0] | (simp only [i64_w, i32_w]; rw [c6b0]) | skip)
   have H' := am H
   clear H
   obtain ⟨hcz7_0, hcz7_1, hcz7_2⟩ := bc3 w3 BK313.out
   go_wp2_with (first | ((with_reducible refine gate_callee (f := 62) rfl ?_); refine goesL_ (some 7) rfl rfl Try.func62 kr rfl #[.int .i64 a0_0] rfl Q0 ?_; (with_reducible refine (spec_l07Size.calls a0_0 true _ A4.out).mono ?_); rintro e w' ⟨rfl, ⟨nd, rfl⟩⟩; refine ⟨_, rfl, ?_⟩))
   go_meet
   case rel => exact ⟨_, (decide ((l0_2.length : Int) > 60)), Q3, H', ⟨by first | omega | exact Nat.le_refl _⟩, ⟨u12_1⟩, ⟨Q2⟩⟩
 clear HC2
 obtain ⟨kq, x22_1, rfl, HA, HJ1, BK313, HB⟩ := hcut
 cases kq with
 | zero => exact absurd HA.out (by simp [spec_GroupOk.j0])
 | succ kj1 =>
   have H := HA.out
   clear HA
   simp only [spec_GroupOk.j0] at H
   by_cases c10 : x22_1 = true
   · subst c10
     rw [if_pos rfl] at H
     obtain rfl := sj H
     go_wp2
     go_ret
     exact ⟨er, Q2⟩
   replace c10 := Bool.eq_false_iff.mpr c10
   subst c10
   rw [nf] at H
   have H' := am H
   clear H
   go_wp2
   go_loopg [3] kj1 (fun kq v3 w' => ∃ (x3_2 : Int), v3 = .int .i64 x3_2 ∧ Aside0 (spec_GroupOk.l0 kq x3_2 a0_0 l0_1 l0_2 = some r) ∧ Aside0 (kq ≤ kj1) ∧ Aside0 (w'.heap[gb313]? = some (.cells #[.int .i64 a0_0, (.slice A0_1 l0_1.length c0_1), (.slice A0_2 l0_2.length c0_2)] 53 (0, 0))) ∧ Aside0 (Below w.heap.size w w'))
   case atStart => exact ⟨(0), Q3, H', ⟨Nat.le_refl _⟩, ⟨u12_1⟩, ⟨Q2⟩⟩
   clear H'
   try clear c10
   obtain ⟨x3_2, rfl, HA, HK2, BK313, HB⟩ := hrel
   cases gk with
   | zero => exact absurd HA.out (by simp [spec_GroupOk.l0])
   | succ k2 =>
     have H := HA.out
     clear HA
     simp only [spec_GroupOk.l0] at H
     by_cases c11 : x3_2 < a0_0
     rotate_left
     · rw [if_neg c11] at H
       have c11b0 : decide (x3_2 < a0_0) = false := decide_eq_false c11
       clear c11
       have H' := am H
       clear H
       obtain ⟨hcz22_0, hcz22_1, hcz22_2⟩ := bc3 wr BK313.out
       go_wp2
       go_loopg [4] k2 (fun kq v4 w' => ∃ (x4_3 : Int), v4 = .int .i64 x4_3 ∧ Aside0 (spec_GroupOk.l1 kq x4_3 a0_0 l0_1 l0_2 = some r) ∧ Aside0 (kq ≤ k2) ∧ Aside0 (w'.heap[gb313]? = some (.cells #[.int .i64 a0_0, (.slice A0_1 l0_1.length c0_1), (.slice A0_2 l0_2.length c0_2)] 53 (0, 0))) ∧ Aside0 (Below w.heap.size w w'))
       case atStart => exact ⟨(0), Q3, H', ⟨Nat.le_refl _⟩, ⟨u12_1⟩, ⟨Q2⟩⟩
       clear H'
       try clear c10
       try clear c11
       try clear c11b0
       try clear hcz22_0
       try clear hcz22_1
       try clear hcz22_2
       obtain ⟨x4_3, rfl, HA, HK3, BK313, HB⟩ := hrel
       cases gk with
       | zero => exact absurd HA.out (by simp [spec_GroupOk.l1])
       | succ k3 =>
         have H := HA.out
         clear HA
         simp only [spec_GroupOk.l1] at H
         by_cases c23 : x4_3 < (l0_2.length : Int)
         rotate_left
         · rw [if_neg c23] at H
           have c23b0 : decide (x4_3 < (l0_2.length : Int)) = false := decide_eq_false c23
           clear c23
           obtain rfl := sj H
           obtain ⟨hcz30_0, hcz30_1, hcz30_2⟩ := bc3 wr BK313.out
           go_wp2
           go_ret
           exact ⟨er, Q2⟩
         rw [if_pos c23] at H
         have c23b0 : decide (x4_3 < (l0_2.length : Int)) = true := decide_eq_true c23
         clear c23
         by_cases c24 : 0 ≤ x4_3
         rotate_left
         · rw [if_neg c24] at H
           exact absurd H (by simp)
         rw [if_pos c24] at H
         have c24b0 : decide (0 ≤ x4_3) = true := decide_eq_true c24
         clear c24
         replace H := Option.bind_eq_some_iff.mp H
         obtain ⟨t319, A250, H⟩ := H
         have A25 := am A250
         clear A250
         have H9 := am H
         clear H
         obtain ⟨hcz26_0, hcz26_1, hcz26_2⟩ := bc3 wr BK313.out
         try go_wp2
         replace BK313 := am (blk_drew BK313.out)
         replace HB := am (below_drew1 HB.out)
         have p318 : 0 ≤ (x4_3 : Int) := of_decide_eq_true Q1
         have q318 : x4_3 < (l0_2.length : Int) := of_decide_eq_true Q1
         obtain ⟨ad318, A318_8, c318_8, e318, hx318_0, hx318_1, hx318_2, hx318_3, hx318_4, hx318_5, hx318_6, hx318_7, hx318_8, hl318_8, hi318_8⟩ := at_T29 HR0_2.out x4_3 p318 q318
         have hw318_8 := hx318_8
         have hw318_7 := hx318_7
         have hw318_6 := hx318_6
         have hw318_5 := hx318_5
         have hw318_4 := hx318_4
         have hw318_3 := hx318_3
         have hw318_2 := hx318_2
         have hw318_1 := hx318_1
         have hw318_0 := hx318_0
         cases e318
         replace hx318_0 := cm HB.out hx318_0
         replace hx318_1 := cm HB.out hx318_1
         replace hx318_2 := cm HB.out hx318_2
         replace hx318_3 := cm HB.out hx318_3
         replace hx318_4 := cm HB.out hx318_4
         replace hx318_5 := cm HB.out hx318_5
         replace hx318_6 := cm HB.out hx318_6
         replace hx318_7 := cm HB.out hx318_7
         replace hx318_8 := cm HB.out hx318_8
         have HR318_8 := am hi318_8
         have HC318_8 := am hl318_8
         clear hi318_8 hl318_8
         replace p318 := eq_true p318
         replace q318 := eq_true q318
         refine start_ (n := 9) (S := fun w' => w'.cell? ⟨gb313, 0, none⟩ = some (.int .i64 a0_0) ∧ w'.cell? ⟨gb313, 1, none⟩ = some (.slice A0_1 l0_1.length c0_1) ∧ w'.cell? ⟨gb313, 2, none⟩ = some (.slice (some ad318) l0_2.length c0_2) ∧ w'.cell? (ad318.add ((x4_3).toNat * 9)) = some (.int .i64 ((rd_T29 l0_2 x4_3).f0)) ∧ w'.cell? ⟨(ad318.add ((x4_3).toNat * 9)).block, (ad318.add ((x4_3).toNat * 9)).off + 1, none⟩ = some (.int .i64 ((rd_T29 l0_2 x4_3).f1)) ∧ w'.cell? ⟨(ad318.add ((x4_3).toNat * 9)).block, (ad318.add ((x4_3).toNat * 9)).off + 2, none⟩ = some (.int .i64 ((rd_T29 l0_2 x4_3).f2)) ∧ w'.cell? ⟨(ad318.add ((x4_3).toNat * 9)).block, (ad318.add ((x4_3).toNat * 9)).off + 3, none⟩ = some (.int .i64 ((rd_T29 l0_2 x4_3).f3)) ∧ w'.cell? ⟨(ad318.add ((x4_3).toNat * 9)).block, (ad318.add ((x4_3).toNat * 9)).off + 4, none⟩ = some (.int .i64 ((rd_T29 l0_2 x4_3).f4)) ∧ w'.cell? ⟨(ad318.add ((x4_3).toNat * 9)).block, (ad318.add ((x4_3).toNat * 9)).off + 5, none⟩ = some (.int .i64 ((rd_T29 l0_2 x4_3).f5)) ∧ w'.cell? ⟨(ad318.add ((x4_3).toNat * 9)).block, (ad318.add ((x4_3).toNat * 9)).off + 6, none⟩ = some (.int .i64 ((rd_T29 l0_2 x4_3).f6)) ∧ w'.cell? ⟨(ad318.add ((x4_3).toNat * 9)).block, (ad318.add ((x4_3).toNat * 9)).off + 7, none⟩ = some (.bool ((rd_T29 l0_2 x4_3).f7)) ∧ w'.cell? ⟨(ad318.add ((x4_3).toNat * 9)).block, (ad318.add ((x4_3).toNat * 9)).off + 8, none⟩ = some (.slice A318_8 ((rd_T29 l0_2 x4_3).f8).length c318_8)) (ds := []) #[false, false, false, false, false, false, false, false, false] kr rfl rfl ⟨(blk_cell BK313.out 0).trans rfl, (blk_cell BK313.out 1).trans rfl, (blk_cell BK313.out 2).trans rfl, (cm HB.out hw318_0), (cm HB.out hw318_1), (cm HB.out hw318_2), (cm HB.out hw318_3), (cm HB.out hw318_4), (cm HB.out hw318_5), (cm HB.out hw318_6), (cm HB.out hw318_7), (cm HB.out hw318_8)⟩ (fun hHeld => ?_); refine with_tabW spec_GroupOk.tab11 spec_GroupOk.bits11 (fun HT_ HW_ => ?_)
         generalize wr.drew = w27 at BK313 HB HR318_8 hx318_0 hx318_1 hx318_2 hx318_3 hx318_4 hx318_5 hx318_6 hx318_7 hx318_8 hHeld ⊢
         refine pV 0 55 (bt 1 9) ?_
         refine pV 2 57 #[true, false, true, false, false, false, false, false, false] ?_
         refine pV 5 60 #[true, false, true, false, false, true, false, false, false] ?_
         refine tV 1 56 #[true, true, true, false, false, true, false, false, false] ?_
         refine pV 3 58 #[true, true, true, true, false, true, false, false, false] ?_
         refine tV 4 59 (bt 6 9) ?_
         refine tV 6 61 (bt 7 9) ?_
         refine one_ (i := 7) (N := some 62) #[true, true, true, true, true, true, true, true, false] rfl rfl (one_of HT_.out kr) (by decide) (fun K hK => ?_)
         refine goes_ Try.func16 kr rfl #[.agg #[.int .i64 ((rd_T29 l0_2 x4_3).f0), .int .i64 ((rd_T29 l0_2 x4_3).f1), .int .i64 ((rd_T29 l0_2 x4_3).f2), .int .i64 ((rd_T29 l0_2 x4_3).f3), .int .i64 ((rd_T29 l0_2 x4_3).f4), .int .i64 ((rd_T29 l0_2 x4_3).f5), .int .i64 ((rd_T29 l0_2 x4_3).f6), .bool ((rd_T29 l0_2 x4_3).f7), .slice A318_8 ((rd_T29 l0_2 x4_3).f8).length c318_8], .int .i64 a0_0] (by rfl) rfl rfl Q0 ?_
         with_reducible refine (spec_MsgOk.calls k3 ((rd_T29 l0_2 x4_3).f0) ((rd_T29 l0_2 x4_3).f1) ((rd_T29 l0_2 x4_3).f2) ((rd_T29 l0_2 x4_3).f3) ((rd_T29 l0_2 x4_3).f4) ((rd_T29 l0_2 x4_3).f5) ((rd_T29 l0_2 x4_3).f6) ((rd_T29 l0_2 x4_3).f7) _ _ ((rd_T29 l0_2 x4_3).f8) a0_0 t319 _ ?side1 ?side2 A25.out).mono ?_
         (case side1 => exact (by repeat (first | exact (Kd.C_below HR318_8.out HB.out) | (with_reducible refine Kd.C_alloc ?_ _) | (with_reducible refine Kd.C_drewN ?_ _) | (with_reducible refine Kd.C_drew ?_))))
         (case side2 => exact HC318_8.out)
         rintro e w28 ⟨rfl, hb⟩
         refine ⟨_, rfl, ?_⟩
         replace BK313 := am (bb_ BK313.out u12_1 hb)
         replace HB := am (below_step Q2 hb)
         (try clear hb)
         (try clear hb2)
         (try clear hk)
         (try clear hi)
         refine hK.out _ _ ⟨(blk_cell BK313.out 0).trans rfl, (blk_cell BK313.out 1).trans rfl, (blk_cell BK313.out 2).trans rfl, (cm HB.out hw318_0), (cm HB.out hw318_1), (cm HB.out hw318_2), (cm HB.out hw318_3), (cm HB.out hw318_4), (cm HB.out hw318_5), (cm HB.out hw318_6), (cm HB.out hw318_7), (cm HB.out hw318_8)⟩ (fun hHeld => ?_)
         clear hK K
         refine norm_ (a' := ?_) ?_ ?_
         rotate_left
         · show Act.put _ (some 62) _ = _
           simp only [Act.put, la, lb, lc, i64_w, i32_w]
           rfl
         refine pV 8 63 (bt 9 9) ?_
         refine done_ (done_of HT_.out kr) ?_
         go_upto_if 63 with (fail)
         have H := H9.out
         clear H9
         by_cases c29 : t319 = true
         rotate_left
         · replace c29 := Bool.eq_false_iff.mpr c29
           subst c29
           rw [nf] at H
           obtain rfl := sj H
           go_wp2
           go_ret
           exact ⟨er, Q2⟩
         subst c29
         rw [if_pos rfl] at H
         have H' := am H
         clear H
         go_wp2
         go_roundg k3
         case measure => have := HJ1.out; have := HK2.out; have := HK3.out; omega
         case rel => exact ⟨(wrap64 (x4_3 + 1)), Q3, H', ⟨(by have := HJ1.out; have := HK2.out; have := HK3.out; omega)⟩, ⟨u12_1⟩, ⟨Q2⟩⟩
     rw [if_pos c11] at H
     have c11b0 : decide (x3_2 < a0_0) = true := decide_eq_true c11
     clear c11
     by_cases c12 : 0 ≤ x3_2
     rotate_left
     · rw [if_neg c12] at H
       exact absurd H (by simp)
     rw [if_pos c12] at H
     have c12b0 : decide (0 ≤ x3_2) = true := decide_eq_true c12
     clear c12
     by_cases c13 : x3_2 < (l0_1.length : Int)
     rotate_left
     · rw [if_neg c13] at H
       exact absurd H (by simp)
     rw [if_pos c13] at H
     have c13b0 : decide (x3_2 < (l0_1.length : Int)) = true := decide_eq_true c13
     clear c13
     by_cases c14 : ((rd_T37 l0_1 x3_2).f0) = x3_2
     rotate_left
     · rw [if_neg c14] at H
       have c14b0 : (((rd_T37 l0_1 x3_2).f0) == x3_2) = false := beq_eq_false_iff_ne.mpr c14
       have c14b1 : (((rd_T37 l0_1 x3_2).f0) != x3_2) = true := bne_iff_ne.mpr c14
       obtain rfl := sj H
       obtain ⟨hcz20_0, hcz20_1, hcz20_2⟩ := bc3 wr BK313.out
       try go_wp2
       replace BK313 := am (blk_drew BK313.out)
       replace HB := am (below_drew1 HB.out)
       have p315 : 0 ≤ (x3_2 : Int) := of_decide_eq_true Q1
       have q315 : x3_2 < (l0_1.length : Int) := of_decide_eq_true Q1
       obtain ⟨ad315, A315_7, c315_7, A315_8, c315_8, A315_9, c315_9, e315, hx315_0, hx315_1, hx315_2, hx315_3, hx315_4, hx315_5, hx315_6, hx315_7, hx315_8, hx315_9, hl315_7, hi315_7, hl315_8, hi315_8, hl315_9, hi315_9⟩ := at_T37 HR0_1.out x3_2 p315 q315
       (try clear hx316_7 hx316_8 hx316_9)
       have hw315_9 := hx315_9
       have hw315_8 := hx315_8
       have hw315_7 := hx315_7
       have hw315_6 := hx315_6
       have hw315_5 := hx315_5
       have hw315_4 := hx315_4
       have hw315_3 := hx315_3
       have hw315_2 := hx315_2
       have hw315_1 := hx315_1
       have hw315_0 := hx315_0
       cases e315
       replace hx315_0 := cm HB.out hx315_0
       replace hx315_1 := cm HB.out hx315_1
       replace hx315_2 := cm HB.out hx315_2
       replace hx315_3 := cm HB.out hx315_3
       replace hx315_4 := cm HB.out hx315_4
       replace hx315_5 := cm HB.out hx315_5
       replace hx315_6 := cm HB.out hx315_6
       replace hx315_7 := cm HB.out hx315_7
       replace hx315_8 := cm HB.out hx315_8
       replace hx315_9 := cm HB.out hx315_9
       have HR315_7 := am hi315_7
       have HC315_7 := am hl315_7
       clear hi315_7 hl315_7
       have HR315_8 := am hi315_8
       have HC315_8 := am hl315_8
       clear hi315_8 hl315_8
       have HR315_9 := am hi315_9
       have HC315_9 := am hl315_9
       clear hi315_9 hl315_9
       replace p315 := eq_true p315
       replace q315 := eq_true q315
       refine start_ (n := 19) (S := fun w' => w'.cell? ⟨gb313, 0, none⟩ = some (.int .i64 a0_0) ∧ w'.cell? ⟨gb313, 1, none⟩ = some (.slice (some ad315) l0_1.length c0_1) ∧ w'.cell? ⟨gb313, 2, none⟩ = some (.slice A0_2 l0_2.length c0_2) ∧ w'.cell? (ad315.add ((x3_2).toNat * 10)) = some (.int .i64 ((rd_T37 l0_1 x3_2).f0)) ∧ w'.cell? ⟨(ad315.add ((x3_2).toNat * 10)).block, (ad315.add ((x3_2).toNat * 10)).off + 1, none⟩ = some (.int .i64 ((rd_T37 l0_1 x3_2).f1)) ∧ w'.cell? ⟨(ad315.add ((x3_2).toNat * 10)).block, (ad315.add ((x3_2).toNat * 10)).off + 2, none⟩ = some (.int .i64 ((rd_T37 l0_1 x3_2).f2)) ∧ w'.cell? ⟨(ad315.add ((x3_2).toNat * 10)).block, (ad315.add ((x3_2).toNat * 10)).off + 3, none⟩ = some (.int .i64 ((rd_T37 l0_1 x3_2).f3)) ∧ w'.cell? ⟨(ad315.add ((x3_2).toNat * 10)).block, (ad315.add ((x3_2).toNat * 10)).off + 4, none⟩ = some (.int .i64 ((rd_T37 l0_1 x3_2).f4)) ∧ w'.cell? ⟨(ad315.add ((x3_2).toNat * 10)).block, (ad315.add ((x3_2).toNat * 10)).off + 5, none⟩ = some (.int .i64 ((rd_T37 l0_1 x3_2).f5.f0)) ∧ w'.cell? ⟨(ad315.add ((x3_2).toNat * 10)).block, (ad315.add ((x3_2).toNat * 10)).off + 6, none⟩ = some (.int .i64 ((rd_T37 l0_1 x3_2).f5.f1)) ∧ w'.cell? ⟨(ad315.add ((x3_2).toNat * 10)).block, (ad315.add ((x3_2).toNat * 10)).off + 7, none⟩ = some (.slice A315_7 ((rd_T37 l0_1 x3_2).f5.f2).length c315_7) ∧ w'.cell? ⟨(ad315.add ((x3_2).toNat * 10)).block, (ad315.add ((x3_2).toNat * 10)).off + 8, none⟩ = some (.slice A315_8 ((rd_T37 l0_1 x3_2).f6).length c315_8) ∧ w'.cell? ⟨(ad315.add ((x3_2).toNat * 10)).block, (ad315.add ((x3_2).toNat * 10)).off + 9, none⟩ = some (.slice A315_9 ((rd_T37 l0_1 x3_2).f7).length c315_9)) (ds := []) #[false, false, false, false, false, false, false, false, false, false, false, false, false, false, false, false, false, false, false] kr rfl rfl ⟨(blk_cell BK313.out 0).trans rfl, (blk_cell BK313.out 1).trans rfl, (blk_cell BK313.out 2).trans rfl, (cm HB.out hw315_0), (cm HB.out hw315_1), (cm HB.out hw315_2), (cm HB.out hw315_3), (cm HB.out hw315_4), (cm HB.out hw315_5), (cm HB.out hw315_6), (cm HB.out hw315_7), (cm HB.out hw315_8), (cm HB.out hw315_9)⟩ (fun hHeld => ?_); refine with_tabW spec_GroupOk.tab6 spec_GroupOk.bits6 (fun HT_ HW_ => ?_)
       generalize wr.drew = w21 at BK313 HB HR315_7 HR315_8 HR315_9 hx315_0 hx315_1 hx315_2 hx315_3 hx315_4 hx315_5 hx315_6 hx315_7 hx315_8 hx315_9 hHeld ⊢
       refine pV 0 29 (bt 1 19) ?_
       refine pV 2 31 #[true, false, true, false, false, false, false, false, false, false, false, false, false, false, false, false, false, false, false] ?_
       refine pV 6 35 #[true, false, true, false, false, false, true, false, false, false, false, false, false, false, false, false, false, false, false] ?_
       refine tV 1 30 #[true, true, true, false, false, false, true, false, false, false, false, false, false, false, false, false, false, false, false] ?_
       refine pV 3 32 #[true, true, true, true, false, false, true, false, false, false, false, false, false, false, false, false, false, false, false] ?_
       refine pV 4 33 #[true, true, true, true, true, false, true, false, false, false, false, false, false, false, false, false, false, false, false] ?_
       refine tV 5 34 (bt 7 19) ?_
       refine pV 7 36 (bt 8 19) ?_
       refine pV 8 37 (bt 9 19) ?_
       refine pU 9 38 (bt 10 19) ?_
       refine pU 10 39 (bt 11 19) ?_
       refine pU 11 40 (bt 12 19) ?_
       refine pU 12 41 (bt 13 19) ?_
       refine pU 13 42 (bt 14 19) ?_
       refine pU 14 43 (bt 15 19) ?_
       refine pU 15 44 (bt 16 19) ?_
       refine pU 16 45 (bt 17 19) ?_
       refine pU 17 46 (bt 18 19) ?_
       refine pV 18 47 (bt 19 19) ?_
       refine done_ (done_of HT_.out kr) ?_
       try go_wp2
       go_ret
       exact ⟨er, Q2⟩
     rw [if_pos c14] at H
     have c14b0 : (((rd_T37 l0_1 x3_2).f0) == x3_2) = true := beq_iff_eq.mpr c14
     have c14b1 : (((rd_T37 l0_1 x3_2).f0) != x3_2) = false := bne_eq_false_iff_eq.mpr c14
     clear c14
     replace H := Option.bind_eq_some_iff.mp H
     obtain ⟨t317, A150, H⟩ := H
     have A15 := am A150
     clear A150
     have H9 := am H
     clear H
     obtain ⟨hcz16_0, hcz16_1, hcz16_2⟩ := bc3 wr BK313.out
     try go_wp2
     replace BK313 := am (blk_drew BK313.out)
     replace HB := am (below_drew1 HB.out)
     have p315 : 0 ≤ (x3_2 : Int) := of_decide_eq_true Q1
     have q315 : x3_2 < (l0_1.length : Int) := of_decide_eq_true Q1
     obtain ⟨ad315, A315_7, c315_7, A315_8, c315_8, A315_9, c315_9, e315, hx315_0, hx315_1, hx315_2, hx315_3, hx315_4, hx315_5, hx315_6, hx315_7, hx315_8, hx315_9, hl315_7, hi315_7, hl315_8, hi315_8, hl315_9, hi315_9⟩ := at_T37 HR0_1.out x3_2 p315 q315
     have hw315_9 := hx315_9
     have hw315_8 := hx315_8
     have hw315_7 := hx315_7
     have hw315_6 := hx315_6
     have hw315_5 := hx315_5
     have hw315_4 := hx315_4
     have hw315_3 := hx315_3
     have hw315_2 := hx315_2
     have hw315_1 := hx315_1
     have hw315_0 := hx315_0
     cases e315
     replace hx315_0 := cm HB.out hx315_0
     replace hx315_1 := cm HB.out hx315_1
     replace hx315_2 := cm HB.out hx315_2
     replace hx315_3 := cm HB.out hx315_3
     replace hx315_4 := cm HB.out hx315_4
     replace hx315_5 := cm HB.out hx315_5
     replace hx315_6 := cm HB.out hx315_6
     replace hx315_7 := cm HB.out hx315_7
     replace hx315_8 := cm HB.out hx315_8
     replace hx315_9 := cm HB.out hx315_9
     have HR315_7 := am hi315_7
     have HC315_7 := am hl315_7
     clear hi315_7 hl315_7
     have HR315_8 := am hi315_8
     have HC315_8 := am hl315_8
     clear hi315_8 hl315_8
     have HR315_9 := am hi315_9
     have HC315_9 := am hl315_9
     clear hi315_9 hl315_9
     replace p315 := eq_true p315
     replace q315 := eq_true q315
     have p316 : 0 ≤ (x3_2 : Int) := of_decide_eq_true Q1
     have q316 : x3_2 < (l0_1.length : Int) := of_decide_eq_true Q1
     obtain ⟨ad316, A316_7, c316_7, A316_8, c316_8, A316_9, c316_9, e316, hx316_0, hx316_1, hx316_2, hx316_3, hx316_4, hx316_5, hx316_6, hx316_7, hx316_8, hx316_9, hl316_7, hi316_7, hl316_8, hi316_8, hl316_9, hi316_9⟩ := at_T37 HR0_1.out x3_2 p316 q316
     have hw316_9 := hx316_9
     have hw316_8 := hx316_8
     have hw316_7 := hx316_7
     have hw316_6 := hx316_6
     have hw316_5 := hx316_5
     have hw316_4 := hx316_4
     have hw316_3 := hx316_3
     have hw316_2 := hx316_2
     have hw316_1 := hx316_1
     have hw316_0 := hx316_0
     obtain rfl : ad315 = ad316 := (by injection e316)
     replace hx316_0 := cm HB.out hx316_0
     replace hx316_1 := cm HB.out hx316_1
     replace hx316_2 := cm HB.out hx316_2
     replace hx316_3 := cm HB.out hx316_3
     replace hx316_4 := cm HB.out hx316_4
     replace hx316_5 := cm HB.out hx316_5
     replace hx316_6 := cm HB.out hx316_6
     replace hx316_7 := cm HB.out hx316_7
     replace hx316_8 := cm HB.out hx316_8
     replace hx316_9 := cm HB.out hx316_9
     have HR316_7 := am hi316_7
     have HC316_7 := am hl316_7
     clear hi316_7 hl316_7
     have HR316_8 := am hi316_8
     have HC316_8 := am hl316_8
     clear hi316_8 hl316_8
     have HR316_9 := am hi316_9
     have HC316_9 := am hl316_9
     clear hi316_9 hl316_9
     replace p316 := eq_true p316
     replace q316 := eq_true q316
     have ea_ := Option.some.inj (hx315_7.symm.trans hx316_7)
     injection ea_ with ea_ en_ ec_
     subst ea_
     subst ec_
     clear en_
     have ea_ := Option.some.inj (hx315_8.symm.trans hx316_8)
     injection ea_ with ea_ en_ ec_
     subst ea_
     subst ec_
     clear en_
     have ea_ := Option.some.inj (hx315_9.symm.trans hx316_9)
     injection ea_ with ea_ en_ ec_
     subst ea_
     subst ec_
     clear en_
     refine start_ (n := 19) (S := fun w' => w'.cell? ⟨gb313, 0, none⟩ = some (.int .i64 a0_0) ∧ w'.cell? ⟨gb313, 1, none⟩ = some (.slice (some ad315) l0_1.length c0_1) ∧ w'.cell? ⟨gb313, 2, none⟩ = some (.slice A0_2 l0_2.length c0_2) ∧ w'.cell? (ad315.add ((x3_2).toNat * 10)) = some (.int .i64 ((rd_T37 l0_1 x3_2).f0)) ∧ w'.cell? ⟨(ad315.add ((x3_2).toNat * 10)).block, (ad315.add ((x3_2).toNat * 10)).off + 1, none⟩ = some (.int .i64 ((rd_T37 l0_1 x3_2).f1)) ∧ w'.cell? ⟨(ad315.add ((x3_2).toNat * 10)).block, (ad315.add ((x3_2).toNat * 10)).off + 2, none⟩ = some (.int .i64 ((rd_T37 l0_1 x3_2).f2)) ∧ w'.cell? ⟨(ad315.add ((x3_2).toNat * 10)).block, (ad315.add ((x3_2).toNat * 10)).off + 3, none⟩ = some (.int .i64 ((rd_T37 l0_1 x3_2).f3)) ∧ w'.cell? ⟨(ad315.add ((x3_2).toNat * 10)).block, (ad315.add ((x3_2).toNat * 10)).off + 4, none⟩ = some (.int .i64 ((rd_T37 l0_1 x3_2).f4)) ∧ w'.cell? ⟨(ad315.add ((x3_2).toNat * 10)).block, (ad315.add ((x3_2).toNat * 10)).off + 5, none⟩ = some (.int .i64 ((rd_T37 l0_1 x3_2).f5.f0)) ∧ w'.cell? ⟨(ad315.add ((x3_2).toNat * 10)).block, (ad315.add ((x3_2).toNat * 10)).off + 6, none⟩ = some (.int .i64 ((rd_T37 l0_1 x3_2).f5.f1)) ∧ w'.cell? ⟨(ad315.add ((x3_2).toNat * 10)).block, (ad315.add ((x3_2).toNat * 10)).off + 7, none⟩ = some (.slice A315_7 ((rd_T37 l0_1 x3_2).f5.f2).length c315_7) ∧ w'.cell? ⟨(ad315.add ((x3_2).toNat * 10)).block, (ad315.add ((x3_2).toNat * 10)).off + 8, none⟩ = some (.slice A315_8 ((rd_T37 l0_1 x3_2).f6).length c315_8) ∧ w'.cell? ⟨(ad315.add ((x3_2).toNat * 10)).block, (ad315.add ((x3_2).toNat * 10)).off + 9, none⟩ = some (.slice A315_9 ((rd_T37 l0_1 x3_2).f7).length c315_9) ∧ w'.cell? (ad315.add ((x3_2).toNat * 10)) = some (.int .i64 ((rd_T37 l0_1 x3_2).f0)) ∧ w'.cell? ⟨(ad315.add ((x3_2).toNat * 10)).block, (ad315.add ((x3_2).toNat * 10)).off + 1, none⟩ = some (.int .i64 ((rd_T37 l0_1 x3_2).f1)) ∧ w'.cell? ⟨(ad315.add ((x3_2).toNat * 10)).block, (ad315.add ((x3_2).toNat * 10)).off + 2, none⟩ = some (.int .i64 ((rd_T37 l0_1 x3_2).f2)) ∧ w'.cell? ⟨(ad315.add ((x3_2).toNat * 10)).block, (ad315.add ((x3_2).toNat * 10)).off + 3, none⟩ = some (.int .i64 ((rd_T37 l0_1 x3_2).f3)) ∧ w'.cell? ⟨(ad315.add ((x3_2).toNat * 10)).block, (ad315.add ((x3_2).toNat * 10)).off + 4, none⟩ = some (.int .i64 ((rd_T37 l0_1 x3_2).f4)) ∧ w'.cell? ⟨(ad315.add ((x3_2).toNat * 10)).block, (ad315.add ((x3_2).toNat * 10)).off + 5, none⟩ = some (.int .i64 ((rd_T37 l0_1 x3_2).f5.f0)) ∧ w'.cell? ⟨(ad315.add ((x3_2).toNat * 10)).block, (ad315.add ((x3_2).toNat * 10)).off + 6, none⟩ = some (.int .i64 ((rd_T37 l0_1 x3_2).f5.f1)) ∧ w'.cell? ⟨(ad315.add ((x3_2).toNat * 10)).block, (ad315.add ((x3_2).toNat * 10)).off + 7, none⟩ = some (.slice A315_7 ((rd_T37 l0_1 x3_2).f5.f2).length c315_7) ∧ w'.cell? ⟨(ad315.add ((x3_2).toNat * 10)).block, (ad315.add ((x3_2).toNat * 10)).off + 8, none⟩ = some (.slice A315_8 ((rd_T37 l0_1 x3_2).f6).length c315_8) ∧ w'.cell? ⟨(ad315.add ((x3_2).toNat * 10)).block, (ad315.add ((x3_2).toNat * 10)).off + 9, none⟩ = some (.slice A315_9 ((rd_T37 l0_1 x3_2).f7).length c315_9)) (ds := []) #[false, false, false, false, false, false, false, false, false, false, false, false, false, false, false, false, false, false, false] kr rfl rfl ⟨(blk_cell BK313.out 0).trans rfl, (blk_cell BK313.out 1).trans rfl, (blk_cell BK313.out 2).trans rfl, (cm HB.out hw315_0), (cm HB.out hw315_1), (cm HB.out hw315_2), (cm HB.out hw315_3), (cm HB.out hw315_4), (cm HB.out hw315_5), (cm HB.out hw315_6), (cm HB.out hw315_7), (cm HB.out hw315_8), (cm HB.out hw315_9), (cm HB.out hw316_0), (cm HB.out hw316_1), (cm HB.out hw316_2), (cm HB.out hw316_3), (cm HB.out hw316_4), (cm HB.out hw316_5), (cm HB.out hw316_6), (cm HB.out hw316_7), (cm HB.out hw316_8), (cm HB.out hw316_9)⟩ (fun hHeld => ?_); refine with_tabW spec_GroupOk.tab6 spec_GroupOk.bits6 (fun HT_ HW_ => ?_)
     generalize wr.drew = w17 at BK313 HB HR315_7 HR315_8 HR315_9 HR316_7 HR316_8 HR316_9 hx315_0 hx315_1 hx315_2 hx315_3 hx315_4 hx315_5 hx315_6 hx315_7 hx315_8 hx315_9 hx316_0 hx316_1 hx316_2 hx316_3 hx316_4 hx316_5 hx316_6 hx316_7 hx316_8 hx316_9 hHeld ⊢
     refine pV 0 29 (bt 1 19) ?_
     refine pV 2 31 #[true, false, true, false, false, false, false, false, false, false, false, false, false, false, false, false, false, false, false] ?_
     refine pV 6 35 #[true, false, true, false, false, false, true, false, false, false, false, false, false, false, false, false, false, false, false] ?_
     refine tV 1 30 #[true, true, true, false, false, false, true, false, false, false, false, false, false, false, false, false, false, false, false] ?_
     refine pV 3 32 #[true, true, true, true, false, false, true, false, false, false, false, false, false, false, false, false, false, false, false] ?_
     refine pV 4 33 #[true, true, true, true, true, false, true, false, false, false, false, false, false, false, false, false, false, false, false] ?_
     refine tV 5 34 (bt 7 19) ?_
     refine pV 7 36 (bt 8 19) ?_
     refine pV 8 37 (bt 9 19) ?_
     refine pV 9 38 (bt 10 19) ?_
     refine pV 11 40 #[true, true, true, true, true, true, true, true, true, true, false, true, false, false, false, false, false, false, false] ?_
     refine pV 14 43 #[true, true, true, true, true, true, true, true, true, true, false, true, false, false, true, false, false, false, false] ?_
     refine tV 10 39 #[true, true, true, true, true, true, true, true, true, true, true, true, false, false, true, false, false, false, false] ?_
     refine pV 12 41 #[true, true, true, true, true, true, true, true, true, true, true, true, true, false, true, false, false, false, false] ?_
     refine tV 13 42 (bt 15 19) ?_
     refine tV 15 44 (bt 16 19) ?_
     refine one_ (i := 16) (N := some 45) #[true, true, true, true, true, true, true, true, true, true, true, true, true, true, true, true, true, false, false] rfl rfl (one_of HT_.out kr) (by decide) (fun K hK => ?_)
     refine goes_ Try.func26 kr rfl #[.agg #[.int .i64 ((rd_T37 l0_1 x3_2).f0), .int .i64 ((rd_T37 l0_1 x3_2).f1), .int .i64 ((rd_T37 l0_1 x3_2).f2), .int .i64 ((rd_T37 l0_1 x3_2).f3), .int .i64 ((rd_T37 l0_1 x3_2).f4), .int .i64 ((rd_T37 l0_1 x3_2).f5.f0), .int .i64 ((rd_T37 l0_1 x3_2).f5.f1), .slice A315_7 ((rd_T37 l0_1 x3_2).f5.f2).length c315_7, .slice A315_8 ((rd_T37 l0_1 x3_2).f6).length c315_8, .slice A315_9 ((rd_T37 l0_1 x3_2).f7).length c315_9], .int .i64 a0_0] (by rfl) rfl rfl Q0 ?_
     with_reducible refine (spec_NodeOk.calls k2 ((rd_T37 l0_1 x3_2).f0) ((rd_T37 l0_1 x3_2).f1) ((rd_T37 l0_1 x3_2).f2) ((rd_T37 l0_1 x3_2).f3) ((rd_T37 l0_1 x3_2).f4) ((rd_T37 l0_1 x3_2).f5.f0) ((rd_T37 l0_1 x3_2).f5.f1) _ _ ((rd_T37 l0_1 x3_2).f5.f2) _ _ ((rd_T37 l0_1 x3_2).f6) _ _ ((rd_T37 l0_1 x3_2).f7) a0_0 t317 _ ?side1 ?side2 ?side3 ?side4 ?side5 ?side6 A15.out).mono ?_
     (case side1 => exact (by repeat (first | exact (Kd.C_below HR316_7.out HB.out) | (with_reducible refine Kd.C_alloc ?_ _) | (with_reducible refine Kd.C_drewN ?_ _) | (with_reducible refine Kd.C_drew ?_))))
     (case side2 => exact HC316_7.out)
     (case side3 => exact (by repeat (first | exact (Kd.C_below HR316_8.out HB.out) | (with_reducible refine Kd.C_alloc ?_ _) | (with_reducible refine Kd.C_drewN ?_ _) | (with_reducible refine Kd.C_drew ?_))))
     (case side4 => exact HC316_8.out)
     (case side5 => exact (by repeat (first | exact (Kd.C_below HR316_9.out HB.out) | (with_reducible refine Kd.C_alloc ?_ _) | (with_reducible refine Kd.C_drewN ?_ _) | (with_reducible refine Kd.C_drew ?_))))
     (case side6 => exact HC316_9.out)
     rintro e w18 ⟨rfl, hb⟩
     refine ⟨_, rfl, ?_⟩
     replace BK313 := am (bb_ BK313.out u12_1 hb)
     replace HB := am (below_step Q2 hb)
     (try clear hb)
     (try clear hb2)
     (try clear hk)
     (try clear hi)
     refine hK.out _ _ ⟨(blk_cell BK313.out 0).trans rfl, (blk_cell BK313.out 1).trans rfl, (blk_cell BK313.out 2).trans rfl, (cm HB.out hw315_0), (cm HB.out hw315_1), (cm HB.out hw315_2), (cm HB.out hw315_3), (cm HB.out hw315_4), (cm HB.out hw315_5), (cm HB.out hw315_6), (cm HB.out hw315_7), (cm HB.out hw315_8), (cm HB.out hw315_9), (cm HB.out hw316_0), (cm HB.out hw316_1), (cm HB.out hw316_2), (cm HB.out hw316_3), (cm HB.out hw316_4), (cm HB.out hw316_5), (cm HB.out hw316_6), (cm HB.out hw316_7), (cm HB.out hw316_8), (cm HB.out hw316_9)⟩ (fun hHeld => ?_)
     clear hK K
     refine norm_ (a' := ?_) ?_ ?_
     rotate_left
     · show Act.put _ (some 45) _ = _
       simp only [Act.put, la, lb, lc, i64_w, i32_w]
       rfl
     refine pV 17 46 (bt 18 19) ?_
     refine pV 18 47 (bt 19 19) ?_
     refine done_ (done_of HT_.out kr) ?_
     go_upto_if 47 with (fail)
     have H := H9.out
     clear H9
     by_cases c19 : t317 = true
     rotate_left
     · replace c19 := Bool.eq_false_iff.mpr c19
       subst c19
       rw [nf] at H
       obtain rfl := sj H
       go_wp2
       go_ret
       exact ⟨er, Q2⟩
     subst c19
     rw [if_pos rfl] at H
     have H' := am H
     clear H
     go_wp2
     go_roundg k2
     case measure => have := HJ1.out; have := HK2.out; omega
     case rel => exact ⟨(wrap64 (x3_2 + 1)), Q3, H', ⟨(by have := HJ1.out; have := HK2.out; omega)⟩, ⟨u12_1⟩, ⟨Q2⟩⟩
end Go.Proofs.Ytkcadcoohmofcaa.QFnExactSettled
