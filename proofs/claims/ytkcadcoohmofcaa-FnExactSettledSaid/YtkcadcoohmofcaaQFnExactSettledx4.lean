import Derived.Test.YtkcadcoohmofcaaSqFnExactSettled
import Derived.Test.YtkcadcoohmofcaaQFnExactSettledx0
import Derived.Test.YtkcadcoohmofcaaQFnExactSettledx2
import Derived.Test.YtkcadcoohmofcaaQFnExactSettledx3
namespace Go.Proofs.Ytkcadcoohmofcaa.QFnExactSettled
open Go.RowKit Go.Proofs.YtkcadcoohmofcaaW.PrintWords Go.Proofs.YtkcadcoohmofcaaW.PrintLast Go.Proofs.YtkcadcoohmofcaaW.PrintMore Go.Proofs.Ytkcadcoohmofcaa.SqFnExactSettled
attribute [local go_sem] max2_int min2_int max_two min_two max_three min_three max_four min_four Go.Proofs.Ytkcadcoohmofcaa.Set.isSome_setCell
set_option linter.unusedVariables false
set_option linter.unusedSimpArgs false
theorem u4_6 {P : Prop} (h : P := by (with_reducible repeat (first | apply r1_ | apply r2_ | apply r3_)); exact HO_0.out) : P := h
theorem u4_7 {P : Prop} (h : P := by (with_reducible repeat (first | apply b1_ | apply b2_ | apply b3_)); exact BK125.out) : P := h
theorem u4_11 {P : Prop} (h : P := by first | exact Below.refl _ _ | (repeat (first | exact Below.refl _ _ | apply below_alloc | apply pw_below_drewN | apply below_drew1))) : P := h
theorem u4_12 {P : Prop} (h : P := by (with_reducible repeat (first | apply b1_ | apply b2_ | apply b3_)); exact BK126.out) : P := h
theorem u4_13 {P : Prop} (h : P := by (with_reducible repeat (first | apply r1_ | apply r2_ | apply r3_)); exact HO0.out) : P := h
theorem u4_14 {P : Prop} (h : P := by repeat (first | exact HB.out | apply below_alloc | apply pw_below_drewN | apply below_drew1)) : P := h
def laws_eqGroup.f (k : Nat) (a0_0 : Int) (l0_1 : List (S37)) (l0_2 : List (S29)) (a1_0 : Int) (l1_1 : List (S37)) (l1_2 : List (S29)) : Option (Bool) := if a0_0 = a1_0 then ((laws_eqNodeS.f k l0_1 l1_1).bind fun t127 => (if t127 = true then ((laws_eqMsgS.f k l0_2 l1_2).bind fun t128 => (if t128 = true then (some true) else (some false))) else (some false))) else (some false)
theorem laws_eqGroup.mono : ∀ a0 a1 a2 a3 a4 a5 k, LeO (laws_eqGroup.f k a0 a1 a2 a3 a4 a5) (laws_eqGroup.f (k + 1) a0 a1 a2 a3 a4 a5) := by
 intro a0 a1 a2 a3 a4 a5 k
 unfold laws_eqGroup.f
 repeat' first
     | (with_reducible exact laws_eqMsgS.mono _ _ _)
     | (with_reducible exact laws_eqNodeS.mono _ _ _)
     | (with_reducible exact LeO.refl _)
     | (with_reducible exact LeO.none _)
     | (with_reducible refine LeO.ite ?_ ?_)
     | (with_reducible refine LeO.bind ?_ (fun _ => ?_))
     | exact laws_eqMsgS.mono _ _ _
     | exact laws_eqNodeS.mono _ _ _
     | exact LeO.none _
     | refine LeO.ite ?_ ?_
     | refine LeO.bind ?_ (fun _ => ?_)
set_option maxHeartbeats 8000000 in
set_option maxRecDepth 100000 in
theorem laws_eqGroup.calls (k : Nat) (a0_0 : Int) (A0_1 : Option Addr) (c0_1 : Nat) (l0_1 : List (S37)) (A0_2 : Option Addr) (c0_2 : Nat) (l0_2 : List (S29)) (a1_0 : Int) (A1_1 : Option Addr) (c1_1 : Nat) (l1_1 : List (S37)) (A1_2 : Option Addr) (c1_2 : Nat) (l1_2 : List (S29)) (r : Bool) (w : World) (hr0_1 : Kd.C k37 w A0_1 l0_1.length l0_1) (hc0_1 : l0_1.length ≤ c0_1) (hr0_2 : Kd.C k29 w A0_2 l0_2.length l0_2) (hc0_2 : l0_2.length ≤ c0_2) (hr1_1 : Kd.C k37 w A1_1 l1_1.length l1_1) (hc1_1 : l1_1.length ≤ c1_1) (hr1_2 : Kd.C k29 w A1_2 l1_2.length l1_2) (hc1_2 : l1_2.length ≤ c1_2) (h : laws_eqGroup.f k a0_0 l0_1 l0_2 a1_0 l1_1 l1_2 = some r) :
   Calls Try.prog 31 #[.agg #[.int .i64 a0_0, .slice A0_1 l0_1.length c0_1, .slice A0_2 l0_2.length c0_2], .agg #[.int .i64 a1_0, .slice A1_1 l1_1.length c1_1, .slice A1_2 l1_2.length c1_2]] w fun e w' => e = .returned (.bool r) ∧ Below w.heap.size w w' := by
 have hu53 := Try.underlying53
 have HR0_1 := am hr0_1
 have HC0_1 := am hc0_1
 clear hr0_1 hc0_1
 have HR0_2 := am hr0_2
 have HC0_2 := am hc0_2
 clear hr0_2 hc0_2
 have HR1_1 := am hr1_1
 have HC1_1 := am hc1_1
 clear hr1_1 hc1_1
 have HR1_2 := am hr1_2
 have HC1_2 := am hc1_2
 clear hr1_2 hc1_2
 have HB := am (Below.refl w.heap.size w)
 have H : (if a0_0 = a1_0 then ((laws_eqNodeS.f k l0_1 l1_1).bind fun t127 => (if t127 = true then ((laws_eqMsgS.f k l0_2 l1_2).bind fun t128 => (if t128 = true then (some true) else (some false))) else (some false))) else (some false)) = some r := h
 clear h
 have H9 := am H
 clear H
 go_enter Try.func31, Try.ntmps31
 go_upto_if 9 with (first | ((with_reducible refine gate_dst (N := 2) rfl ?_); refine box_event ?hg (N := 2) ?hd (cs := #[.int .i64 a0_0, .slice A0_1 l0_1.length c0_1, .slice A0_2 l0_2.length c0_2]) (t := 53) ?hr ?_; (case hd => rfl); (case hg => rfl); (case hr => first | (go_simp; done) | (go_simp; rfl)); intro gb125 hg w3 hbox hb; have BK125 := am (hbox); have GW125 := am ((by rw [hg]; exact (below_size Q2) : w.heap.size ≤ gb125)); have GE125 := am ((by rw [hg]; exact (below_size Q2) : w.heap.size ≤ gb125)); replace HB := am (below_step Q2 hb); clear hb hbox hg) | ((with_reducible refine gate_dst (N := 3) rfl ?_); refine box_event ?hg (N := 3) ?hd (cs := #[.int .i64 a1_0, .slice A1_1 l1_1.length c1_1, .slice A1_2 l1_2.length c1_2]) (t := 53) ?hr ?_; (case hd => rfl); (case hg => rfl); (case hr => first | (go_simp; done) | (go_simp; rfl)); intro gb126 hg w4 hbox hb; have BK126 := am (hbox); have GW126 := am ((by rw [hg]; exact (below_size Q2) : w.heap.size ≤ gb126)); have GE126 := am ((by rw [hg]; exact (below_size Q2) : w.heap.size ≤ gb126)); replace HB := am (below_step Q2 hb); have NB125_126 := am ((by rw [hg]; exact Nat.ne_of_lt (blk_lt (g := gb125) (o := .cells #[.int .i64 a0_0, .slice A0_1 l0_1.length c0_1, .slice A0_2 l0_2.length c0_2] 53 (0, 0)) u4_7) : gb125 ≠ gb126)); have NB126_125 := am ((by rw [hg]; exact Nat.ne_of_gt (blk_lt (g := gb125) (o := .cells #[.int .i64 a0_0, .slice A0_1 l0_1.length c0_1, .slice A0_2 l0_2.length c0_2] 53 (0, 0)) u4_7) : gb126 ≠ gb125)); replace BK125 := am (bb_ BK125.out u4_7 hb); clear hb hbox hg; have hnb5 := NB125_126.out; have hnc5 := NB126_125.out; obtain ⟨hcz6_0, hcz6_1, hcz6_2⟩ := bc3 w4 BK125.out; obtain ⟨hcz7_0, hcz7_1, hcz7_2, hfz7_0, hfz7_1, hfz7_2⟩ := bc3f w4 BK126.out))
 have H := H9.out
 clear H9
 by_cases c8 : a0_0 = a1_0
 rotate_left
 · rw [if_neg c8] at H
   have c8b0 : (a0_0 == a1_0) = false := beq_eq_false_iff_ne.mpr c8
   have c8b1 : (a0_0 != a1_0) = true := bne_iff_ne.mpr c8
   (first | rw [c8b0] | (simp only [i64_w, i32_w]; rw [c8b0]) | skip)
   obtain rfl := sj H
   go_wp2
   go_ret
   exact ⟨er, Q2⟩
 rw [if_pos c8] at H
 have c8b0 : (a0_0 == a1_0) = true := beq_iff_eq.mpr c8
 have c8b1 : (a0_0 != a1_0) = false := bne_eq_false_iff_eq.mpr c8
 clear c8
 (first | rw [c8b0] | (simp only [i64_w, i32_w]; rw [c8b0]) | skip)
 replace H := Option.bind_eq_some_iff.mp H
 obtain ⟨t127, A90, H⟩ := H
 have A9 := am A90
 clear A90
 have H9 := am H
 clear H
 have hnb10 := NB125_126.out
 have hnc10 := NB126_125.out
 obtain ⟨hcz11_0, hcz11_1, hcz11_2⟩ := bc3 w4 BK125.out
 obtain ⟨hcz12_0, hcz12_1, hcz12_2, hfz12_0, hfz12_1, hfz12_2⟩ := bc3f w4 BK126.out
 go_upto_if 15 with (first | ((with_reducible refine gate_callee (f := 80) rfl ?_); refine goesL_ (some 14) rfl rfl Try.func80 kr rfl #[.slice A0_1 l0_1.length c0_1, .slice A1_1 l1_1.length c1_1] rfl Q0 ?_; (with_reducible refine (laws_eqNodeS.calls k _ _ l0_1 _ _ l1_1 t127 _ ?side1 ?side2 ?side3 ?side4 A9.out).mono ?_); (case side1 => exact (by repeat (first | exact (Kd.C_below HR0_1.out HB.out) | (with_reducible refine Kd.C_alloc ?_ _) | (with_reducible refine Kd.C_drewN ?_ _) | (with_reducible refine Kd.C_drew ?_)))); (case side2 => exact HC0_1.out); (case side3 => exact (by repeat (first | exact (Kd.C_below HR1_1.out HB.out) | (with_reducible refine Kd.C_alloc ?_ _) | (with_reducible refine Kd.C_drewN ?_ _) | (with_reducible refine Kd.C_drew ?_)))); (case side4 => exact HC1_1.out); rintro e w13 ⟨rfl, hb⟩; refine ⟨_, rfl, ?_⟩; replace BK125 := am (bb_ BK125.out u4_7 hb); replace BK126 := am (bb_ BK126.out u4_12 hb); replace HB := am (below_step Q2 hb); (try clear hb); (try clear hb2); (try clear hk); (try clear hi)))
 have H := H9.out
 clear H9
 by_cases c14 : t127 = true
 rotate_left
 · replace c14 := Bool.eq_false_iff.mpr c14
   subst c14
   rw [nf] at H
   obtain rfl := sj H
   go_wp2
   go_ret
   exact ⟨er, Q2⟩
 subst c14
 rw [if_pos rfl] at H
 replace H := Option.bind_eq_some_iff.mp H
 obtain ⟨t128, A150, H⟩ := H
 replace H : (if t128 = true then (some true) else (some false)) = some r := H
 have A15 := am A150
 clear A150
 have H9 := am H
 clear H
 have hnb16 := NB125_126.out
 have hnc16 := NB126_125.out
 obtain ⟨hcz17_0, hcz17_1, hcz17_2⟩ := bc3 w13 BK125.out
 obtain ⟨hcz18_0, hcz18_1, hcz18_2, hfz18_0, hfz18_1, hfz18_2⟩ := bc3f w13 BK126.out
 go_upto_if 21 with (first | ((with_reducible refine gate_callee (f := 40) rfl ?_); refine goesL_ (some 20) rfl rfl Try.func40 kr rfl #[.slice A0_2 l0_2.length c0_2, .slice A1_2 l1_2.length c1_2] rfl Q0 ?_; (with_reducible refine (laws_eqMsgS.calls k _ _ l0_2 _ _ l1_2 t128 _ ?side1 ?side2 ?side3 ?side4 A15.out).mono ?_); (case side1 => exact (by repeat (first | exact (Kd.C_below HR0_2.out HB.out) | (with_reducible refine Kd.C_alloc ?_ _) | (with_reducible refine Kd.C_drewN ?_ _) | (with_reducible refine Kd.C_drew ?_)))); (case side2 => exact HC0_2.out); (case side3 => exact (by repeat (first | exact (Kd.C_below HR1_2.out HB.out) | (with_reducible refine Kd.C_alloc ?_ _) | (with_reducible refine Kd.C_drewN ?_ _) | (with_reducible refine Kd.C_drew ?_)))); (case side4 => exact HC1_2.out); rintro e w19 ⟨rfl, hb⟩; refine ⟨_, rfl, ?_⟩; replace BK125 := am (bb_ BK125.out u4_7 hb); replace BK126 := am (bb_ BK126.out u4_12 hb); replace HB := am (below_step Q2 hb); (try clear hb); (try clear hb2); (try clear hk); (try clear hi)))
 have H := H9.out
 clear H9
 by_cases c20 : t128 = true
 · subst c20
   rw [if_pos rfl] at H
   obtain rfl := sj H
   go_wp2
   go_ret
   exact ⟨er, Q2⟩
 replace c20 := Bool.eq_false_iff.mpr c20
 subst c20
 rw [nf] at H
 obtain rfl := sj H
 go_wp2
 go_ret
 exact ⟨er, Q2⟩
def laws_markText.l0 : Nat → Int → ByteArray → Option (ByteArray)
 | 0, _, _ => none
 | k + 1, x0, x3 => if x0 > 0 then ((some (([(wrap64 (48 + (Int.tmod x0 10))) % 256] : List Int) : List Int)).bind fun y129 => (if (strOfNums y129).size + x3.size ≤ 9223372036854775807 then (laws_markText.l0 k (wrap64 (Int.tdiv x0 10)) ((strOfNums y129) ++ x3)) else (none))) else (if 1 + x3.size ≤ 9223372036854775807 then (some ((⟨#[109]⟩ : ByteArray) ++ x3)) else (none))
def laws_markText.f (k : Nat) (a0 : Int) : Option (ByteArray) := if a0 ≤ 0 then (some (⟨#[109, 48]⟩ : ByteArray)) else (laws_markText.l0 k a0 (⟨#[]⟩ : ByteArray))
theorem laws_markText.mono_l : ∀ k, (∀ y0 y1, LeO (laws_markText.l0 k y0 y1) (laws_markText.l0 (k + 1) y0 y1))
 | 0 => fun _ _ r h => by simp [laws_markText.l0] at h
 | k + 1 => by
   have ih0 := laws_markText.mono_l k
   · intro y0 y1
     unfold laws_markText.l0
     repeat' first
     | (with_reducible exact ih0 _ _)
     | (with_reducible exact LeO.refl _)
     | (with_reducible exact LeO.none _)
     | (with_reducible refine LeO.ite ?_ ?_)
     | (with_reducible refine LeO.bind ?_ (fun _ => ?_))
     | exact ih0 _ _
     | exact LeO.none _
     | refine LeO.ite ?_ ?_
     | refine LeO.bind ?_ (fun _ => ?_)
theorem laws_markText.mono : ∀ a0 k, LeO (laws_markText.f k a0) (laws_markText.f (k + 1) a0) := by
 intro a0 k
 have ih0 := laws_markText.mono_l k
 unfold laws_markText.f
 repeat' first
     | (with_reducible exact ih0 _ _)
     | (with_reducible exact LeO.refl _)
     | (with_reducible exact LeO.none _)
     | (with_reducible refine LeO.ite ?_ ?_)
     | (with_reducible refine LeO.bind ?_ (fun _ => ?_))
     | exact ih0 _ _
     | exact LeO.none _
     | refine LeO.ite ?_ ?_
     | refine LeO.bind ?_ (fun _ => ?_)
set_option maxHeartbeats 8000000 in
set_option maxRecDepth 100000 in
theorem laws_markText.calls (k : Nat) (a0 : Int) (r : ByteArray) (w : World) (h : laws_markText.f k a0 = some r) :
   Calls Try.prog 106 #[.int .i64 a0] w fun e w' => e = .returned (.string r) ∧ Below w.heap.size w w' := by
 have HB := am (Below.refl w.heap.size w)
 have H : (if a0 ≤ 0 then (some (⟨#[109, 48]⟩ : ByteArray)) else (laws_markText.l0 k a0 (⟨#[]⟩ : ByteArray))) = some r := h
 clear h
 by_cases c2 : a0 ≤ 0
 · rw [if_pos c2] at H
   have c2b0 : decide (a0 ≤ 0) = true := decide_eq_true c2
   clear c2
   obtain rfl := sj H
   go_enter Try.func106, Try.ntmps106
   go_wp2
   go_ret
   exact ⟨er, Q2⟩
 rw [if_neg c2] at H
 have c2b0 : decide (a0 ≤ 0) = false := decide_eq_false c2
 clear c2
 have H' := am H
 clear H
 go_enter Try.func106, Try.ntmps106
 go_wp2
 go_loopg [0, 3] k (fun kq v0 v3 w' => ∃ (x0_1 : Int) (x3_1 : ByteArray), v0 = .int .i64 x0_1 ∧ v3 = .string x3_1 ∧ Aside0 (laws_markText.l0 kq x0_1 x3_1 = some r) ∧ Aside0 (kq ≤ k) ∧ Aside0 (Below w.heap.size w w'))
 case atStart => exact ⟨(a0), ((⟨#[]⟩ : ByteArray)), Q3, Q3, H', ⟨Nat.le_refl _⟩, ⟨Q2⟩⟩
 clear H'
 try clear c2
 try clear c2b0
 obtain ⟨x0_1, x3_1, rfl, rfl, HA, HK1, HB⟩ := hrel
 cases gk with
 | zero => exact absurd HA.out (by simp [laws_markText.l0])
 | succ k1 =>
   have H := HA.out
   clear HA
   simp only [laws_markText.l0] at H
   by_cases c3 : x0_1 > 0
   rotate_left
   · rw [if_neg c3] at H
     have c3b0 : decide (0 < x0_1) = false := decide_eq_false c3
     clear c3
     by_cases c8 : 1 + x3_1.size ≤ 9223372036854775807
     rotate_left
     · rw [if_neg c8] at H
       exact absurd H (by simp)
     rw [if_pos c8] at H
     have c8b0 := eq_true c8
     have c8b1 : decide (1 + x3_1.size ≤ 9223372036854775807) = true := decide_eq_true c8
     try have c8b2 : (9223372036854775807 < 1 + x3_1.size) = False := eq_false (Nat.not_lt.2 c8)
     obtain rfl := sj H
     go_wp2
     go_ret
     exact ⟨er, Q2⟩
   rw [if_pos c3] at H
   have c3b0 : decide (0 < x0_1) = true := decide_eq_true c3
   clear c3
   obtain ⟨y129, hy129⟩ : ∃ y_ : List Int, y_ = (([(wrap64 (48 + (Int.tmod x0_1 10))) % 256] : List Int)) := ⟨_, rfl⟩
   replace H : (if (strOfNums y129).size + x3_1.size ≤ 9223372036854775807 then (laws_markText.l0 k1 (wrap64 (Int.tdiv x0_1 10)) ((strOfNums y129) ++ x3_1)) else (none)) = some r := by first | (rw [hy129]; with_reducible exact H) | (have H2_ := (Option.bind_some _ _).symm.trans H; rw [hy129]; with_reducible exact H2_) | (have H2_ := (Option.bind_some _ _).symm.trans H; with_reducible exact H2_) | with_reducible exact H | (rw [hy129]; exact H) | exact H
   have Ny129 := am hy129
   clear hy129
   by_cases c4 : (strOfNums y129).size + x3_1.size ≤ 9223372036854775807
   rotate_left
   · rw [if_neg c4] at H
     exact absurd H (by simp)
   rw [if_pos c4] at H
   have c4b0 := eq_true c4
   have c4b1 : decide ((strOfNums y129).size + x3_1.size ≤ 9223372036854775807) = true := decide_eq_true c4
   try have c4b2 : (9223372036854775807 < (strOfNums y129).size + x3_1.size) = False := eq_false (Nat.not_lt.2 c4)
   have H' := am H
   clear H
   go_wp2_with (first | ((with_reducible refine gate_dst (N := 12) rfl ?_); refine Kd.R_lit (Kd.int .u8) _ 5 ?hg (N := 12) ?hd (xs := ([(wrap64 (48 + (Int.tmod x0_1 10))) % 256] : List Int)) (inner := [.int .u8 ((wrap64 (48 + (Int.tmod x0_1 10))) % 256)]) (ok := fun _ => True) (okp := fun _ => True) ?hr ?hp (fun _ hk => hk) trivial (Below.refl _ _) (Nat.le_refl _) (by simp) ?_; (case hd => rfl); (case hg => rfl); (case hr => first | (go_simp; done) | (go_simp; rfl)); (case hp => exact (Reps.one (show Kd.M (Kd.int .u8) _ _ _ ((wrap64 (48 + (Int.tmod x0_1 10))) % 256) [.int .u8 ((wrap64 (48 + (Int.tmod x0_1 10))) % 256)] from rfl) (Reps.none _ _))); intro v130 w5 ho6 hb hg_ hnew_; clear hg_ hnew_; (first | rw [← Ny129.out] at ho6 | (simp only [Int.reduceToNat] at ho6; rw [← Ny129.out] at ho6)); have HO131 := am (Kd.R_lower ho6 (below_size Q2)); replace HB := am (below_step Q2 hb); clear hb ho6; have hcv7 := own_string (P := Try.prog) Try.underlying120 Try.underlying5 Try.underlying9 (Kd.own_of_R HO131.out)))
   go_roundg k1
   case measure => have := HK1.out; omega
   case rel => exact ⟨(wrap64 (Int.tdiv x0_1 10)), ((strOfNums y129) ++ x3_1), Q3, Q3, H', ⟨by have := HK1.out; omega⟩, ⟨Q2⟩⟩
def laws_markEntryS.l0 : Nat → List (S85) → Int → Int → Option (Int × (List (S85)))
 | 0, _, _, _ => none
 | k + 1, x0, x1, x5 => if x5 < (x0.length : Int) then (if 0 ≤ x5 then ((some (x0.set (x5 : Int).toNat (⟨x1, (rd_T85 x0 x5).f1⟩ : S85) : List (S85))).bind fun y132 => ((laws_markText.f k (wrap64 (x1 + 1))).bind fun t133 => (laws_markEntryS.l0 k (y132.set (x5 : Int).toNat (⟨(rd_T85 y132 x5).f0, t133⟩ : S85)) (wrap64 ((wrap64 (x1 + 1)) + 1)) (wrap64 (x5 + 1))))) else (none)) else (some (x1, x0))
def laws_markEntryS.f (k : Nat) (l0 : List (S85)) (a1 : Int) : Option (Int × (List (S85))) := laws_markEntryS.l0 k l0 a1 0
theorem laws_markEntryS.mono_l : ∀ k, (∀ y0 y1 y2, LeO (laws_markEntryS.l0 k y0 y1 y2) (laws_markEntryS.l0 (k + 1) y0 y1 y2))
 | 0 => fun _ _ _ r h => by simp [laws_markEntryS.l0] at h
 | k + 1 => by
   have ih0 := laws_markEntryS.mono_l k
   · intro y0 y1 y2
     unfold laws_markEntryS.l0
     repeat' first
     | (with_reducible exact ih0 _ _ _)
     | (with_reducible exact laws_markText.mono _ _)
     | (with_reducible exact LeO.refl _)
     | (with_reducible exact LeO.none _)
     | (with_reducible refine LeO.ite ?_ ?_)
     | (with_reducible refine LeO.bind ?_ (fun _ => ?_))
     | exact ih0 _ _ _
     | exact laws_markText.mono _ _
     | exact LeO.none _
     | refine LeO.ite ?_ ?_
     | refine LeO.bind ?_ (fun _ => ?_)
theorem laws_markEntryS.mono : ∀ a0 a1 k, LeO (laws_markEntryS.f k a0 a1) (laws_markEntryS.f (k + 1) a0 a1) := by
 intro a0 a1 k
 have ih0 := laws_markEntryS.mono_l k
 unfold laws_markEntryS.f
 repeat' first
     | (with_reducible exact ih0 _ _ _)
     | (with_reducible exact laws_markText.mono _ _)
     | (with_reducible exact LeO.refl _)
     | (with_reducible exact LeO.none _)
     | (with_reducible refine LeO.ite ?_ ?_)
     | (with_reducible refine LeO.bind ?_ (fun _ => ?_))
     | exact ih0 _ _ _
     | exact laws_markText.mono _ _
     | exact LeO.none _
     | refine LeO.ite ?_ ?_
     | refine LeO.bind ?_ (fun _ => ?_)
set_option maxHeartbeats 8000000 in
set_option maxRecDepth 100000 in
theorem laws_markEntryS.calls (k : Nat) (P0_ : Nat → Prop) (u9000_ : Value) (l0 : List (S85)) (a1 : Int) (r1 : Int) (r2 : List (S85)) (w0 w : World) (hB : Below w0.heap.size w0 w) (ho0 : Kd.R k85 85 w w0.heap.size P0_ u9000_ l0) (h : laws_markEntryS.f k l0 a1 = some (r1, r2)) :
   Calls Try.prog 59 #[u9000_, .int .i64 a1] w fun e w' => e = .returned (.int .i64 r1) ∧ Kd.R k85 85 w' w0.heap.size (fun k_ => (P0_ k_ ∨ w.heap.size ≤ k_)) u9000_ r2 ∧ Below w0.heap.size w0 w' ∧ Kept w w' (fun k_ => P0_ k_) := by
 have HO0 := am (show Kd.R k85 85 w w0.heap.size (fun k_ => (P0_ k_ ∨ w.heap.size ≤ k_)) u9000_ l0 from Kd.R_mono ho0 (fun k_ hk => (.inl hk)))
 have HK := am (Kept.refl w (fun k_ => P0_ k_))
 have HW0 := am hB.size
 have HB := am hB
 clear hB
 have H : (laws_markEntryS.l0 k l0 a1 0) = some (r1, r2) := h
 clear h
 have H' := am H
 clear H
 go_enter Try.func59, Try.ntmps59
 go_wp2
 go_loopg [1, 5] k (fun kq v1 v5 w' => ∃ (x0_1 : List (S85)) (x1_1 : Int) (x5_1 : Int), v1 = .int .i64 x1_1 ∧ v5 = .int .i64 x5_1 ∧ Aside0 (laws_markEntryS.l0 kq x0_1 x1_1 x5_1 = some (r1, r2)) ∧ Aside0 (kq ≤ k) ∧ Aside0 (Kd.R k85 85 w' w0.heap.size (fun k_ => (P0_ k_ ∨ w.heap.size ≤ k_)) u9000_ x0_1) ∧ Aside0 (Kept w w' (fun k_ => P0_ k_)) ∧ Aside0 (Below w0.heap.size w0 w'))
 case atStart => exact ⟨(l0), (a1), (0), Q3, Q3, H', ⟨Nat.le_refl _⟩, ⟨u4_13⟩, ⟨Q7⟩, ⟨Q2⟩⟩
 clear H'
 obtain ⟨x0_1, x1_1, x5_1, rfl, rfl, HA, HK1, HO_0, HK, HB⟩ := hrel
 cases gk with
 | zero => exact absurd HA.out (by simp [laws_markEntryS.l0])
 | succ k1 =>
   have H := HA.out
   clear HA
   simp only [laws_markEntryS.l0] at H
   by_cases c3 : x5_1 < (x0_1.length : Int)
   rotate_left
   · rw [if_neg c3] at H
     have c3b0 : decide (x5_1 < (x0_1.length : Int)) = false := decide_eq_false c3
     clear c3
     simp only [Option.some.injEq, Prod.mk.injEq] at H
     obtain ⟨rfl, rfl⟩ := H
     obtain ⟨Ao14, co14, eo14⟩ := Kd.R_slice HO_0.out
     subst eo14
     go_wp2
     go_ret
     exact ⟨er, u4_6, Q2, Q7⟩
   rw [if_pos c3] at H
   have c3b0 : decide (x5_1 < (x0_1.length : Int)) = true := decide_eq_true c3
   clear c3
   by_cases c4 : 0 ≤ x5_1
   rotate_left
   · rw [if_neg c4] at H
     exact absurd H (by simp)
   rw [if_pos c4] at H
   have c4b0 : decide (0 ≤ x5_1) = true := decide_eq_true c4
   clear c4
   obtain ⟨y132, hy132⟩ : ∃ y_ : List (S85), y_ = (x0_1.set (x5_1 : Int).toNat (⟨x1_1, (rd_T85 x0_1 x5_1).f1⟩ : S85)) := ⟨_, rfl⟩
   replace H : ((laws_markText.f k1 (wrap64 (x1_1 + 1))).bind fun t133 => (laws_markEntryS.l0 k1 (y132.set (x5_1 : Int).toNat (⟨(rd_T85 y132 x5_1).f0, t133⟩ : S85)) (wrap64 ((wrap64 (x1_1 + 1)) + 1)) (wrap64 (x5_1 + 1)))) = some (r1, r2) := by first | (rw [hy132]; with_reducible exact H) | (have H2_ := (Option.bind_some _ _).symm.trans H; rw [hy132]; with_reducible exact H2_) | (have H2_ := (Option.bind_some _ _).symm.trans H; with_reducible exact H2_) | with_reducible exact H | (rw [hy132]; exact H) | exact H
   have Ny132 := am hy132
   clear hy132
   replace H := Option.bind_eq_some_iff.mp H
   obtain ⟨t133, A60, H⟩ := H
   have A6 := am A60
   clear A60
   obtain ⟨y134, hy134⟩ : ∃ y_ : List (S85), y_ = (y132.set (x5_1 : Int).toNat (⟨(rd_T85 y132 x5_1).f0, t133⟩ : S85)) := ⟨_, rfl⟩
   replace H : (laws_markEntryS.l0 k1 y134 (wrap64 ((wrap64 (x1_1 + 1)) + 1)) (wrap64 (x5_1 + 1))) = some (r1, r2) := by first | (rw [hy134]; with_reducible exact H) | (have H2_ := (Option.bind_some _ _).symm.trans H; rw [hy134]; with_reducible exact H2_) | (have H2_ := (Option.bind_some _ _).symm.trans H; with_reducible exact H2_) | with_reducible exact H | (rw [hy134]; exact H) | exact H
   have Ny134 := am hy134
   clear hy134
   have H' := am H
   clear H
   obtain ⟨Ao8, co8, eo8⟩ := Kd.R_slice HO_0.out
   subst eo8
   have p5 : 0 ≤ (x5_1 : Int) := of_decide_eq_true Q1
   have q5 : (x5_1 : Int) < ((x0_1.length : Int) : Int) := of_decide_eq_true Q1
   obtain ⟨go5, co5, eo5, gb5, gl5, cl5, HG5⟩ := Kd.R_form HO_0.out (by omega)
   (first | cases eo5 | (injection eo5 with ea_ en_ ec_; (first | subst ea_ | (injection ea_ with ea_; subst ea_)); subst ec_; clear en_))
   have GB5 := am gb5
   have GG5 := am HG5
   clear gb5 gl5 HG5
   have HMgo5 := am (show (P0_ go5 ∨ w.heap.size ≤ go5) from (HO_0.out.1 _ rfl))
   obtain ⟨ce5, hcl5, hM5, hcc5, hfr5⟩ := Kd.R_elem HO_0.out z85 (x5_1 : Int) p5 q5
   obtain rfl := k85_openM hM5
   have hx5_0 : wr.cell? ⟨go5, (x5_1 : Int).toNat * 2, none⟩ = some (.int .i64 ((rd_T85 x0_1 x5_1).f0)) := hcc5 0 _ rfl
   have hx5_1 : wr.cell? ⟨go5, (x5_1 : Int).toNat * 2 + 1, none⟩ = some (.string ((rd_T85 x0_1 x5_1).f1)) := hcc5 1 _ rfl
   have hf5_0 : wr.frozen? ⟨go5, (x5_1 : Int).toNat * 2, none⟩ = false := hfr5 0
   have hf5_1 : wr.frozen? ⟨go5, (x5_1 : Int).toNat * 2 + 1, none⟩ = false := hfr5 1
   clear hcl5 hcc5 hfr5 hM5
   replace p5 := eq_true p5
   replace q5 := eq_true q5
   have HX9 := am (show Kd.R k85 85 wr w0.heap.size (fun k_ => (P0_ k_ ∨ w.heap.size ≤ k_)) (.slice (some ⟨go5, 0, none⟩) x0_1.length co8) x0_1 from u4_6)
   obtain ⟨ce9, hcl9, hM9, hcc9, hfr9⟩ := Kd.R_elem HX9.out z85 (x5_1 : Int) (of_decide_eq_true Q1) (by have h_ : (x5_1 : Int) < ((x0_1.length : Int) : Int) := of_decide_eq_true Q1; first | exact h_ | (have e_ := (Kd.R_reads' HO_0.out).1; omega) | simpa using h_)
   obtain rfl := k85_openM hM9
   have HP9 := Kd.R_seg HX9.out (x5_1 : Int) (of_decide_eq_true Q1) (by have h_ : (x5_1 : Int) < ((x0_1.length : Int) : Int) := of_decide_eq_true Q1; first | exact h_ | (have e_ := (Kd.R_reads' HO_0.out).1; omega) | simpa using h_) (seg := [.int .i64 x1_1]) (j := 0) hcl9 hcc9 (show 1 ≤ 2 from by decide) (x' := (⟨x1_1, (rd_T85 x0_1 x5_1).f1⟩ : S85)) (k85_mkM _ _ _ (⟨x1_1, (rd_T85 x0_1 x5_1).f1⟩ : S85) ) (fun _ hk => hk)
   have hx9_0 := hcc9 0 _ rfl
   (try simp only [show (k85).sz = 2 from rfl, Nat.mul_one, Nat.add_zero] at hx9_0)
   have hf9_0 := hfr9 0
   (try simp only [show (k85).sz = 2 from rfl, Nat.mul_one, Nat.add_zero] at hf9_0)
   clear hcl9 hcc9 hfr9 hM9
   go_wp2_with (first | ((with_reducible refine gate_store (t := 3) (p := 16) rfl ?_); refine store_event (t := 3) (p := 16) (v := ?vo_w10) (w1 := (wr.setCell ⟨go5, (x5_1 : Int).toNat * 2, none⟩ (.int .i64 x1_1))) ?hg ?ho ?hn ?hr ?_; (case ho => rfl); (case hg => rfl); (case hn => rfl); (case hr => first | (go_simp; done) | (go_simp; rfl)); intro w10 hw; have hg : wr.grownBy w10 (some go5) := (by rw [hw]; exact HP9.2); have hp_ : Kd.R k85 85 w10 w0.heap.size (fun k_ => (P0_ k_ ∨ w.heap.size ≤ k_)) (.slice (some ⟨go5, 0, none⟩) x0_1.length co8) y132 := (by rw [hw, Ny132.out]; exact HP9.1); clear HP9; replace HB := am ((by rw [hw]; exact below_set (HB.out) GB5.out : Below w0.heap.size w0 w10)); replace HK := am (Kept.of_grown (S := (fun k_ => P0_ k_)) hg Q7 (fun k_ e_ => (HO_0.out.1 k_ e_))); replace HO_0 := am (hp_); clear hg hw hp_) | ((with_reducible refine gate_callee (f := 106) rfl ?_); refine goesL_ (some 22) rfl rfl Try.func106 kr rfl #[.int .i64 (wrap64 (x1_1 + 1))] rfl Q0 ?_; (with_reducible refine (laws_markText.calls k1 (wrap64 (x1_1 + 1)) t133 _ A6.out).mono ?_); rintro e w11 ⟨rfl, hb⟩; refine ⟨_, rfl, ?_⟩; replace HO_0 := am (Kd.R_below u4_6 hb); replace HK := am (Kept.below (S := (fun k_ => P0_ k_)) Q7 hb); replace HB := am (below_step Q2 hb); (try clear hb); (try clear hb2); (try clear hk); (try clear hi); have p7 : 0 ≤ (x5_1 : Int) := of_decide_eq_true Q1; have q7 : (x5_1 : Int) < ((x0_1.length : Int) : Int) := of_decide_eq_true Q1; obtain ⟨ce7, hcl7, hM7, hcc7, hfr7⟩ := Kd.R_elem HO_0.out z85 (x5_1 : Int) p7 q7; obtain rfl := k85_openM hM7; have hx7_0 : w11.cell? ⟨go5, (x5_1 : Int).toNat * 2, none⟩ = some (.int .i64 ((rd_T85 y132 x5_1).f0)) := hcc7 0 _ rfl; have hx7_1 : w11.cell? ⟨go5, (x5_1 : Int).toNat * 2 + 1, none⟩ = some (.string ((rd_T85 y132 x5_1).f1)) := hcc7 1 _ rfl; have hf7_0 : w11.frozen? ⟨go5, (x5_1 : Int).toNat * 2, none⟩ = false := hfr7 0; have hf7_1 : w11.frozen? ⟨go5, (x5_1 : Int).toNat * 2 + 1, none⟩ = false := hfr7 1; clear hcl7 hcc7 hfr7 hM7; replace p7 := eq_true p7; replace q7 := eq_true q7; have HX12 := am (show Kd.R k85 85 w11 w0.heap.size (fun k_ => (P0_ k_ ∨ w.heap.size ≤ k_)) (.slice (some ⟨go5, 0, none⟩) x0_1.length co8) y132 from u4_6); obtain ⟨ce12, hcl12, hM12, hcc12, hfr12⟩ := Kd.R_elem HX12.out z85 (x5_1 : Int) (of_decide_eq_true Q1) (by have h_ : (x5_1 : Int) < ((x0_1.length : Int) : Int) := of_decide_eq_true Q1; first | exact h_ | (have e_ := (Kd.R_reads' HO_0.out).1; omega) | simpa using h_); obtain rfl := k85_openM hM12; have HP12 := Kd.R_seg HX12.out (x5_1 : Int) (of_decide_eq_true Q1) (by have h_ : (x5_1 : Int) < ((x0_1.length : Int) : Int) := of_decide_eq_true Q1; first | exact h_ | (have e_ := (Kd.R_reads' HO_0.out).1; omega) | simpa using h_) (seg := [.string t133]) (j := 1) hcl12 hcc12 (show 2 ≤ 2 from by decide) (x' := (⟨(rd_T85 y132 x5_1).f0, t133⟩ : S85)) (k85_mkM _ _ _ (⟨(rd_T85 y132 x5_1).f0, t133⟩ : S85) ) (fun _ hk => hk); have hx12_1 := hcc12 1 _ rfl; (try simp only [show (k85).sz = 2 from rfl, Nat.mul_one, Nat.add_zero] at hx12_1); have hf12_1 := hfr12 1; (try simp only [show (k85).sz = 2 from rfl, Nat.mul_one, Nat.add_zero] at hf12_1); clear hcl12 hcc12 hfr12 hM12) | ((with_reducible refine gate_store (t := 9) (p := 24) rfl ?_); refine store_event (t := 9) (p := 24) (v := ?vo_w13) (w1 := (w11.setCell ⟨go5, (x5_1 : Int).toNat * 2 + 1, none⟩ (.string t133))) ?hg ?ho ?hn ?hr ?_; (case ho => rfl); (case hg => rfl); (case hn => rfl); (case hr => first | (go_simp; done) | (go_simp; rfl)); intro w13 hw; have hg : w11.grownBy w13 (some go5) := (by rw [hw]; exact HP12.2); have hp_ : Kd.R k85 85 w13 w0.heap.size (fun k_ => (P0_ k_ ∨ w.heap.size ≤ k_)) (.slice (some ⟨go5, 0, none⟩) x0_1.length co8) y134 := (by rw [hw, Ny134.out]; exact HP12.1); clear HP12; replace HB := am ((by rw [hw]; exact below_set (HB.out) GB5.out : Below w0.heap.size w0 w13)); replace HK := am (Kept.of_grown (S := (fun k_ => P0_ k_)) hg Q7 (fun k_ e_ => (HO_0.out.1 k_ e_))); replace HO_0 := am (hp_); clear hg hw hp_))
   go_roundg k1
   case measure => have := HK1.out; omega
   case rel => exact ⟨(y134), (wrap64 ((wrap64 (x1_1 + 1)) + 1)), (wrap64 (x5_1 + 1)), Q3, Q3, H', ⟨by have := HK1.out; omega⟩, ⟨u4_6⟩, ⟨Q7⟩, ⟨Q2⟩⟩
def laws_markEntry0.f (l0 : List S85) (a1 : Int) : Option Int := if l0.length = 0 then some a1 else none
set_option maxHeartbeats 400000 in
theorem laws_markEntry0.calls (A0 : Option Addr) (c0 : Nat) (l0 : List S85) (a1 : Int) (r : Int) (w : World) (hr0 : Kd.C k85 w A0 l0.length l0) (hc0 : l0.length ≤ c0) (h : laws_markEntry0.f l0 a1 = some r) :
   Calls Try.prog 59 #[.slice A0 l0.length c0, .int .i64 a1] w fun e w' => e = .returned (.int .i64 r) ∧ Below w.heap.size w w' := by
 have hn : l0.length = 0 ∧ a1 = r := by
   unfold laws_markEntry0.f at h
   by_cases e : l0.length = 0
   · rw [if_pos e] at h; exact ⟨e, Option.some.inj h⟩
   · rw [if_neg e] at h; exact absurd h (by simp)
 obtain ⟨hl, rfl⟩ := hn
 have HL := am hl
 clear h hl hr0 hc0
 go_enter Try.func59, Try.ntmps59
 go_wp2
 go_loopg [1, 5] 1 (fun kq v1 v5 w' => ∃ x5 : Int, v1 = .int .i64 a1 ∧ v5 = .int .i64 x5 ∧ Aside0 (x5 = 0) ∧ Aside0 (Below w.heap.size w w'))
 case atStart => exact ⟨0, rfl, rfl, ⟨rfl⟩, ⟨u4_11⟩⟩
 obtain ⟨x5, rfl, rfl, X5, HB⟩ := hrel
 have c3 : decide (x5 < (l0.length : Int)) = false := decide_eq_false (by have := HL.out; have := X5.out; omega)
 go_wp2
 go_ret
 exact ⟨rfl, u4_14⟩
section
open Classical in
theorem S_lent_ {α : Type} {d : Kd α} {e g n cap base : Nat} {w W : World} {ok S2 : Nat → Prop} {xs : List α} {x' : α} (h : Kd.S d e w base ok (.slice (some ⟨g, 0, none⟩) n cap) xs) (z : α) (i : Int) (h0 : 0 ≤ i) (h1 : i < n) (hk : Kept w W S2)
   (back : ∀ (okq : Nat → Prop) (c : List Value), c.length = d.sz → d.M w base okq (xs.getD i.toNat z) c → (∀ j u, c[j]? = some u → w.cell? ⟨g, i.toNat * d.sz + j, none⟩ = some u) → (∀ k, S2 k → okq k) ∧ ∃ okp, d.M W base okp x' c ∧ ∀ k, okp k → okq k) :
   Kd.S d e W base ok (.slice (some ⟨g, 0, none⟩) n cap) (xs.set i.toNat x') := by
 obtain ⟨okq, c, hcl, hM, hcc, hokq, hH⟩ := Kd.S_lend h z i h0 h1
 obtain ⟨b1, okp, b2, b3⟩ := back okq c hcl hM hcc
 obtain ⟨hoo, f, hR⟩ := hH
 exact Kd.H_back ⟨hoo, f, Kd.R_kept hR hk (fun k q1 q2 => q1.2 (b1 k q2))⟩ b2 b3
end
def laws_markMsgS.l0 : Nat → List (S29) → Int → Int → Option (Int × (List (S29)))
 | 0, _, _, _ => none
 | k + 1, x0, x1, x5 => if x5 < (x0.length : Int) then (if 0 ≤ x5 then ((some (x0.set (x5 : Int).toNat (⟨x1, (rd_T29 x0 x5).f1, (rd_T29 x0 x5).f2, (rd_T29 x0 x5).f3, (rd_T29 x0 x5).f4, (rd_T29 x0 x5).f5, (rd_T29 x0 x5).f6, (rd_T29 x0 x5).f7, (rd_T29 x0 x5).f8⟩ : S29) : List (S29))).bind fun y135 => ((some (y135.set (x5 : Int).toNat (⟨(rd_T29 y135 x5).f0, wrap64 (x1 + 1), (rd_T29 y135 x5).f2, (rd_T29 y135 x5).f3, (rd_T29 y135 x5).f4, (rd_T29 y135 x5).f5, (rd_T29 y135 x5).f6, (rd_T29 y135 x5).f7, (rd_T29 y135 x5).f8⟩ : S29) : List (S29))).bind fun y136 => ((some (y136.set (x5 : Int).toNat (⟨(rd_T29 y136 x5).f0, (rd_T29 y136 x5).f1, wrap64 ((wrap64 (x1 + 1)) + 1), (rd_T29 y136 x5).f3, (rd_T29 y136 x5).f4, (rd_T29 y136 x5).f5, (rd_T29 y136 x5).f6, (rd_T29 y136 x5).f7, (rd_T29 y136 x5).f8⟩ : S29) : List (S29))).bind fun y137 => ((some (y137.set (x5 : Int).toNat (⟨(rd_T29 y137 x5).f0, (rd_T29 y137 x5).f1, (rd_T29 y137 x5).f2, wrap64 ((wrap64 ((wrap64 (x1 + 1)) + 1)) + 1), (rd_T29 y137 x5).f4, (rd_T29 y137 x5).f5, (rd_T29 y137 x5).f6, (rd_T29 y137 x5).f7, (rd_T29 y137 x5).f8⟩ : S29) : List (S29))).bind fun y138 => ((some (y138.set (x5 : Int).toNat (⟨(rd_T29 y138 x5).f0, (rd_T29 y138 x5).f1, (rd_T29 y138 x5).f2, (rd_T29 y138 x5).f3, wrap64 ((wrap64 ((wrap64 ((wrap64 (x1 + 1)) + 1)) + 1)) + 1), (rd_T29 y138 x5).f5, (rd_T29 y138 x5).f6, (rd_T29 y138 x5).f7, (rd_T29 y138 x5).f8⟩ : S29) : List (S29))).bind fun y139 => ((some (y139.set (x5 : Int).toNat (⟨(rd_T29 y139 x5).f0, (rd_T29 y139 x5).f1, (rd_T29 y139 x5).f2, (rd_T29 y139 x5).f3, (rd_T29 y139 x5).f4, wrap64 ((wrap64 ((wrap64 ((wrap64 ((wrap64 (x1 + 1)) + 1)) + 1)) + 1)) + 1), (rd_T29 y139 x5).f6, (rd_T29 y139 x5).f7, (rd_T29 y139 x5).f8⟩ : S29) : List (S29))).bind fun y140 => ((some (y140.set (x5 : Int).toNat (⟨(rd_T29 y140 x5).f0, (rd_T29 y140 x5).f1, (rd_T29 y140 x5).f2, (rd_T29 y140 x5).f3, (rd_T29 y140 x5).f4, (rd_T29 y140 x5).f5, wrap64 ((wrap64 ((wrap64 ((wrap64 ((wrap64 ((wrap64 (x1 + 1)) + 1)) + 1)) + 1)) + 1)) + 1), (rd_T29 y140 x5).f7, (rd_T29 y140 x5).f8⟩ : S29) : List (S29))).bind fun y141 => ((some (y141.set (x5 : Int).toNat (⟨(rd_T29 y141 x5).f0, (rd_T29 y141 x5).f1, (rd_T29 y141 x5).f2, (rd_T29 y141 x5).f3, (rd_T29 y141 x5).f4, (rd_T29 y141 x5).f5, (rd_T29 y141 x5).f6, ((Int.tmod (wrap64 ((wrap64 ((wrap64 ((wrap64 ((wrap64 ((wrap64 ((wrap64 (x1 + 1)) + 1)) + 1)) + 1)) + 1)) + 1)) + 1)) 3) == 0), (rd_T29 y141 x5).f8⟩ : S29) : List (S29))).bind fun y142 => ((laws_markEntryS.f k ((rd_T29 y142 x5).f8) (wrap64 ((wrap64 ((wrap64 ((wrap64 ((wrap64 ((wrap64 ((wrap64 ((wrap64 (x1 + 1)) + 1)) + 1)) + 1)) + 1)) + 1)) + 1)) + 1))).bind fun bt144 => (laws_markMsgS.l0 k (y142.set (x5 : Int).toNat (⟨(rd_T29 y142 x5).f0, (rd_T29 y142 x5).f1, (rd_T29 y142 x5).f2, (rd_T29 y142 x5).f3, (rd_T29 y142 x5).f4, (rd_T29 y142 x5).f5, (rd_T29 y142 x5).f6, (rd_T29 y142 x5).f7, bt144.2⟩ : S29)) bt144.1 (wrap64 (x5 + 1)))))))))))) else (none)) else (some (x1, x0))
def laws_markMsgS.f (k : Nat) (l0 : List (S29)) (a1 : Int) : Option (Int × (List (S29))) := laws_markMsgS.l0 k l0 a1 0
theorem laws_markMsgS.mono_l : ∀ k, (∀ y0 y1 y2, LeO (laws_markMsgS.l0 k y0 y1 y2) (laws_markMsgS.l0 (k + 1) y0 y1 y2))
 | 0 => fun _ _ _ r h => by simp [laws_markMsgS.l0] at h
 | k + 1 => by
   have ih0 := laws_markMsgS.mono_l k
   · intro y0 y1 y2
     unfold laws_markMsgS.l0
     repeat' first
     | (with_reducible exact ih0 _ _ _)
     | (with_reducible exact laws_markEntryS.mono _ _ _)
     | (with_reducible exact LeO.refl _)
     | (with_reducible exact LeO.none _)
     | (with_reducible refine LeO.ite ?_ ?_)
     | (with_reducible refine LeO.bind ?_ (fun _ => ?_))
     | exact ih0 _ _ _
     | exact LeO.none _
     | refine LeO.ite ?_ ?_
     | refine LeO.bind ?_ (fun _ => ?_)
theorem laws_markMsgS.mono : ∀ a0 a1 k, LeO (laws_markMsgS.f k a0 a1) (laws_markMsgS.f (k + 1) a0 a1) := by
 intro a0 a1 k
 have ih0 := laws_markMsgS.mono_l k
 unfold laws_markMsgS.f
 repeat' first
     | (with_reducible exact ih0 _ _ _)
     | (with_reducible exact laws_markEntryS.mono _ _ _)
     | (with_reducible exact LeO.refl _)
     | (with_reducible exact LeO.none _)
     | (with_reducible refine LeO.ite ?_ ?_)
     | (with_reducible refine LeO.bind ?_ (fun _ => ?_))
     | exact ih0 _ _ _
     | exact LeO.none _
     | refine LeO.ite ?_ ?_
     | refine LeO.bind ?_ (fun _ => ?_)
set_option maxHeartbeats 8000000 in
set_option maxRecDepth 100000 in
theorem laws_markMsgS.calls0 (PK_ : Nat → Prop) (k : Nat) (P0_ : Nat → Prop) (u9000_ : Value) (l0 : List (S29)) (a1 : Int) (r1 : Int) (r2 : List (S29)) (w0 w : World) (hB : Below w0.heap.size w0 w) (ho0 : Kd.S k29 29 w w0.heap.size P0_ u9000_ l0) (hpk_ : ∀ k, (u9000_ : Value).ownBlock = some k → PK_ k) (hpi_ : ∀ k, P0_ k → PK_ k) (h : laws_markMsgS.f k l0 a1 = some (r1, r2)) :
   Calls Try.prog 41 #[u9000_, .int .i64 a1] w fun e w' => e = .returned (.int .i64 r1) ∧ Kd.S k29 29 w' w0.heap.size (fun k_ => P0_ k_) u9000_ r2 ∧ Below w0.heap.size w0 w' ∧ Kept w w' (fun k_ => PK_ k_) := by
 have HO0 := am ho0
 have HPK := am hpk_
 clear hpk_
 have HPI := am hpi_
 clear hpi_
 have HK := am (Kept.refl w (fun k_ => PK_ k_))
 have HW0 := am hB.size
 have HB := am hB
 clear hB
 have H : (laws_markMsgS.l0 k l0 a1 0) = some (r1, r2) := h
 clear h
 have H' := am H
 clear H
 go_enter Try.func41, Try.ntmps41
 go_wp2
 go_loopg [1, 5] k (fun kq v1 v5 w' => ∃ (x0_1 : List (S29)) (x1_1 : Int) (x5_1 : Int), v1 = .int .i64 x1_1 ∧ v5 = .int .i64 x5_1 ∧ Aside0 (laws_markMsgS.l0 kq x0_1 x1_1 x5_1 = some (r1, r2)) ∧ Aside0 (kq ≤ k) ∧ Aside0 (Kd.S k29 29 w' w0.heap.size (fun k_ => P0_ k_) u9000_ x0_1) ∧ Aside0 (Kept w w' (fun k_ => PK_ k_)) ∧ Aside0 (Below w0.heap.size w0 w'))
 case atStart => exact ⟨(l0), (a1), (0), Q3, Q3, H', ⟨Nat.le_refl _⟩, ⟨(by (with_reducible repeat (first | apply s1_ | apply s2_ | apply s3_)); exact HO0.out)⟩, ⟨Q7⟩, ⟨Q2⟩⟩
 clear H'
 obtain ⟨x0_1, x1_1, x5_1, rfl, rfl, HA, HK1, HO_0, HK, HB⟩ := hrel
 cases gk with
 | zero => exact absurd HA.out (by simp [laws_markMsgS.l0])
 | succ k1 =>
   have H := HA.out
   clear HA
   simp only [laws_markMsgS.l0] at H
   by_cases c3 : x5_1 < (x0_1.length : Int)
   rotate_left
   · rw [if_neg c3] at H
     have c3b0 : decide (x5_1 < (x0_1.length : Int)) = false := decide_eq_false c3
     clear c3
     simp only [Option.some.injEq, Prod.mk.injEq] at H
     obtain ⟨rfl, rfl⟩ := H
     obtain ⟨Ao32, co32, eo32⟩ := Kd.S_slice HO_0.out
     subst eo32
     go_wp2
     go_ret
     exact ⟨er, Q6, Q2, Q7⟩
   rw [if_pos c3] at H
   have c3b0 : decide (x5_1 < (x0_1.length : Int)) = true := decide_eq_true c3
   clear c3
   by_cases c4 : 0 ≤ x5_1
   rotate_left
   · rw [if_neg c4] at H
     exact absurd H (by simp)
   rw [if_pos c4] at H
   have c4b0 : decide (0 ≤ x5_1) = true := decide_eq_true c4
   clear c4
   obtain ⟨y135, hy135⟩ : ∃ y_ : List (S29), y_ = (x0_1.set (x5_1 : Int).toNat (⟨x1_1, (rd_T29 x0_1 x5_1).f1, (rd_T29 x0_1 x5_1).f2, (rd_T29 x0_1 x5_1).f3, (rd_T29 x0_1 x5_1).f4, (rd_T29 x0_1 x5_1).f5, (rd_T29 x0_1 x5_1).f6, (rd_T29 x0_1 x5_1).f7, (rd_T29 x0_1 x5_1).f8⟩ : S29)) := ⟨_, rfl⟩
   replace H : ((some (y135.set (x5_1 : Int).toNat (⟨(rd_T29 y135 x5_1).f0, wrap64 (x1_1 + 1), (rd_T29 y135 x5_1).f2, (rd_T29 y135 x5_1).f3, (rd_T29 y135 x5_1).f4, (rd_T29 y135 x5_1).f5, (rd_T29 y135 x5_1).f6, (rd_T29 y135 x5_1).f7, (rd_T29 y135 x5_1).f8⟩ : S29) : List (S29))).bind fun y136 => ((some (y136.set (x5_1 : Int).toNat (⟨(rd_T29 y136 x5_1).f0, (rd_T29 y136 x5_1).f1, wrap64 ((wrap64 (x1_1 + 1)) + 1), (rd_T29 y136 x5_1).f3, (rd_T29 y136 x5_1).f4, (rd_T29 y136 x5_1).f5, (rd_T29 y136 x5_1).f6, (rd_T29 y136 x5_1).f7, (rd_T29 y136 x5_1).f8⟩ : S29) : List (S29))).bind fun y137 => ((some (y137.set (x5_1 : Int).toNat (⟨(rd_T29 y137 x5_1).f0, (rd_T29 y137 x5_1).f1, (rd_T29 y137 x5_1).f2, wrap64 ((wrap64 ((wrap64 (x1_1 + 1)) + 1)) + 1), (rd_T29 y137 x5_1).f4, (rd_T29 y137 x5_1).f5, (rd_T29 y137 x5_1).f6, (rd_T29 y137 x5_1).f7, (rd_T29 y137 x5_1).f8⟩ : S29) : List (S29))).bind fun y138 => ((some (y138.set (x5_1 : Int).toNat (⟨(rd_T29 y138 x5_1).f0, (rd_T29 y138 x5_1).f1, (rd_T29 y138 x5_1).f2, (rd_T29 y138 x5_1).f3, wrap64 ((wrap64 ((wrap64 ((wrap64 (x1_1 + 1)) + 1)) + 1)) + 1), (rd_T29 y138 x5_1).f5, (rd_T29 y138 x5_1).f6, (rd_T29 y138 x5_1).f7, (rd_T29 y138 x5_1).f8⟩ : S29) : List (S29))).bind fun y139 => ((some (y139.set (x5_1 : Int).toNat (⟨(rd_T29 y139 x5_1).f0, (rd_T29 y139 x5_1).f1, (rd_T29 y139 x5_1).f2, (rd_T29 y139 x5_1).f3, (rd_T29 y139 x5_1).f4, wrap64 ((wrap64 ((wrap64 ((wrap64 ((wrap64 (x1_1 + 1)) + 1)) + 1)) + 1)) + 1), (rd_T29 y139 x5_1).f6, (rd_T29 y139 x5_1).f7, (rd_T29 y139 x5_1).f8⟩ : S29) : List (S29))).bind fun y140 => ((some (y140.set (x5_1 : Int).toNat (⟨(rd_T29 y140 x5_1).f0, (rd_T29 y140 x5_1).f1, (rd_T29 y140 x5_1).f2, (rd_T29 y140 x5_1).f3, (rd_T29 y140 x5_1).f4, (rd_T29 y140 x5_1).f5, wrap64 ((wrap64 ((wrap64 ((wrap64 ((wrap64 ((wrap64 (x1_1 + 1)) + 1)) + 1)) + 1)) + 1)) + 1), (rd_T29 y140 x5_1).f7, (rd_T29 y140 x5_1).f8⟩ : S29) : List (S29))).bind fun y141 => ((some (y141.set (x5_1 : Int).toNat (⟨(rd_T29 y141 x5_1).f0, (rd_T29 y141 x5_1).f1, (rd_T29 y141 x5_1).f2, (rd_T29 y141 x5_1).f3, (rd_T29 y141 x5_1).f4, (rd_T29 y141 x5_1).f5, (rd_T29 y141 x5_1).f6, ((Int.tmod (wrap64 ((wrap64 ((wrap64 ((wrap64 ((wrap64 ((wrap64 ((wrap64 (x1_1 + 1)) + 1)) + 1)) + 1)) + 1)) + 1)) + 1)) 3) == 0), (rd_T29 y141 x5_1).f8⟩ : S29) : List (S29))).bind fun y142 => ((laws_markEntryS.f k1 ((rd_T29 y142 x5_1).f8) (wrap64 ((wrap64 ((wrap64 ((wrap64 ((wrap64 ((wrap64 ((wrap64 ((wrap64 (x1_1 + 1)) + 1)) + 1)) + 1)) + 1)) + 1)) + 1)) + 1))).bind fun bt144 => (laws_markMsgS.l0 k1 (y142.set (x5_1 : Int).toNat (⟨(rd_T29 y142 x5_1).f0, (rd_T29 y142 x5_1).f1, (rd_T29 y142 x5_1).f2, (rd_T29 y142 x5_1).f3, (rd_T29 y142 x5_1).f4, (rd_T29 y142 x5_1).f5, (rd_T29 y142 x5_1).f6, (rd_T29 y142 x5_1).f7, bt144.2⟩ : S29)) bt144.1 (wrap64 (x5_1 + 1))))))))))) = some (r1, r2) := by first | (rw [hy135]; with_reducible exact H) | (have H2_ := (Option.bind_some _ _).symm.trans H; rw [hy135]; with_reducible exact H2_) | (have H2_ := (Option.bind_some _ _).symm.trans H; with_reducible exact H2_) | with_reducible exact H | (rw [hy135]; exact H) | exact H
   have Ny135 := am hy135
   clear hy135
   obtain ⟨y136, hy136⟩ : ∃ y_ : List (S29), y_ = (y135.set (x5_1 : Int).toNat (⟨(rd_T29 y135 x5_1).f0, wrap64 (x1_1 + 1), (rd_T29 y135 x5_1).f2, (rd_T29 y135 x5_1).f3, (rd_T29 y135 x5_1).f4, (rd_T29 y135 x5_1).f5, (rd_T29 y135 x5_1).f6, (rd_T29 y135 x5_1).f7, (rd_T29 y135 x5_1).f8⟩ : S29)) := ⟨_, rfl⟩
   replace H : ((some (y136.set (x5_1 : Int).toNat (⟨(rd_T29 y136 x5_1).f0, (rd_T29 y136 x5_1).f1, wrap64 ((wrap64 (x1_1 + 1)) + 1), (rd_T29 y136 x5_1).f3, (rd_T29 y136 x5_1).f4, (rd_T29 y136 x5_1).f5, (rd_T29 y136 x5_1).f6, (rd_T29 y136 x5_1).f7, (rd_T29 y136 x5_1).f8⟩ : S29) : List (S29))).bind fun y137 => ((some (y137.set (x5_1 : Int).toNat (⟨(rd_T29 y137 x5_1).f0, (rd_T29 y137 x5_1).f1, (rd_T29 y137 x5_1).f2, wrap64 ((wrap64 ((wrap64 (x1_1 + 1)) + 1)) + 1), (rd_T29 y137 x5_1).f4, (rd_T29 y137 x5_1).f5, (rd_T29 y137 x5_1).f6, (rd_T29 y137 x5_1).f7, (rd_T29 y137 x5_1).f8⟩ : S29) : List (S29))).bind fun y138 => ((some (y138.set (x5_1 : Int).toNat (⟨(rd_T29 y138 x5_1).f0, (rd_T29 y138 x5_1).f1, (rd_T29 y138 x5_1).f2, (rd_T29 y138 x5_1).f3, wrap64 ((wrap64 ((wrap64 ((wrap64 (x1_1 + 1)) + 1)) + 1)) + 1), (rd_T29 y138 x5_1).f5, (rd_T29 y138 x5_1).f6, (rd_T29 y138 x5_1).f7, (rd_T29 y138 x5_1).f8⟩ : S29) : List (S29))).bind fun y139 => ((some (y139.set (x5_1 : Int).toNat (⟨(rd_T29 y139 x5_1).f0, (rd_T29 y139 x5_1).f1, (rd_T29 y139 x5_1).f2, (rd_T29 y139 x5_1).f3, (rd_T29 y139 x5_1).f4, wrap64 ((wrap64 ((wrap64 ((wrap64 ((wrap64 (x1_1 + 1)) + 1)) + 1)) + 1)) + 1), (rd_T29 y139 x5_1).f6, (rd_T29 y139 x5_1).f7, (rd_T29 y139 x5_1).f8⟩ : S29) : List (S29))).bind fun y140 => ((some (y140.set (x5_1 : Int).toNat (⟨(rd_T29 y140 x5_1).f0, (rd_T29 y140 x5_1).f1, (rd_T29 y140 x5_1).f2, (rd_T29 y140 x5_1).f3, (rd_T29 y140 x5_1).f4, (rd_T29 y140 x5_1).f5, wrap64 ((wrap64 ((wrap64 ((wrap64 ((wrap64 ((wrap64 (x1_1 + 1)) + 1)) + 1)) + 1)) + 1)) + 1), (rd_T29 y140 x5_1).f7, (rd_T29 y140 x5_1).f8⟩ : S29) : List (S29))).bind fun y141 => ((some (y141.set (x5_1 : Int).toNat (⟨(rd_T29 y141 x5_1).f0, (rd_T29 y141 x5_1).f1, (rd_T29 y141 x5_1).f2, (rd_T29 y141 x5_1).f3, (rd_T29 y141 x5_1).f4, (rd_T29 y141 x5_1).f5, (rd_T29 y141 x5_1).f6, ((Int.tmod (wrap64 ((wrap64 ((wrap64 ((wrap64 ((wrap64 ((wrap64 ((wrap64 (x1_1 + 1)) + 1)) + 1)) + 1)) + 1)) + 1)) + 1)) 3) == 0), (rd_T29 y141 x5_1).f8⟩ : S29) : List (S29))).bind fun y142 => ((laws_markEntryS.f k1 ((rd_T29 y142 x5_1).f8) (wrap64 ((wrap64 ((wrap64 ((wrap64 ((wrap64 ((wrap64 ((wrap64 ((wrap64 (x1_1 + 1)) + 1)) + 1)) + 1)) + 1)) + 1)) + 1)) + 1))).bind fun bt144 => (laws_markMsgS.l0 k1 (y142.set (x5_1 : Int).toNat (⟨(rd_T29 y142 x5_1).f0, (rd_T29 y142 x5_1).f1, (rd_T29 y142 x5_1).f2, (rd_T29 y142 x5_1).f3, (rd_T29 y142 x5_1).f4, (rd_T29 y142 x5_1).f5, (rd_T29 y142 x5_1).f6, (rd_T29 y142 x5_1).f7, bt144.2⟩ : S29)) bt144.1 (wrap64 (x5_1 + 1)))))))))) = some (r1, r2) := by first | (rw [hy136]; with_reducible exact H) | (have H2_ := (Option.bind_some _ _).symm.trans H; rw [hy136]; with_reducible exact H2_) | (have H2_ := (Option.bind_some _ _).symm.trans H; with_reducible exact H2_) | with_reducible exact H | (rw [hy136]; exact H) | exact H
   have Ny136 := am hy136
   clear hy136
   obtain ⟨y137, hy137⟩ : ∃ y_ : List (S29), y_ = (y136.set (x5_1 : Int).toNat (⟨(rd_T29 y136 x5_1).f0, (rd_T29 y136 x5_1).f1, wrap64 ((wrap64 (x1_1 + 1)) + 1), (rd_T29 y136 x5_1).f3, (rd_T29 y136 x5_1).f4, (rd_T29 y136 x5_1).f5, (rd_T29 y136 x5_1).f6, (rd_T29 y136 x5_1).f7, (rd_T29 y136 x5_1).f8⟩ : S29)) := ⟨_, rfl⟩
   replace H : ((some (y137.set (x5_1 : Int).toNat (⟨(rd_T29 y137 x5_1).f0, (rd_T29 y137 x5_1).f1, (rd_T29 y137 x5_1).f2, wrap64 ((wrap64 ((wrap64 (x1_1 + 1)) + 1)) + 1), (rd_T29 y137 x5_1).f4, (rd_T29 y137 x5_1).f5, (rd_T29 y137 x5_1).f6, (rd_T29 y137 x5_1).f7, (rd_T29 y137 x5_1).f8⟩ : S29) : List (S29))).bind fun y138 => ((some (y138.set (x5_1 : Int).toNat (⟨(rd_T29 y138 x5_1).f0, (rd_T29 y138 x5_1).f1, (rd_T29 y138 x5_1).f2, (rd_T29 y138 x5_1).f3, wrap64 ((wrap64 ((wrap64 ((wrap64 (x1_1 + 1)) + 1)) + 1)) + 1), (rd_T29 y138 x5_1).f5, (rd_T29 y138 x5_1).f6, (rd_T29 y138 x5_1).f7, (rd_T29 y138 x5_1).f8⟩ : S29) : List (S29))).bind fun y139 => ((some (y139.set (x5_1 : Int).toNat (⟨(rd_T29 y139 x5_1).f0, (rd_T29 y139 x5_1).f1, (rd_T29 y139 x5_1).f2, (rd_T29 y139 x5_1).f3, (rd_T29 y139 x5_1).f4, wrap64 ((wrap64 ((wrap64 ((wrap64 ((wrap64 (x1_1 + 1)) + 1)) + 1)) + 1)) + 1), (rd_T29 y139 x5_1).f6, (rd_T29 y139 x5_1).f7, (rd_T29 y139 x5_1).f8⟩ : S29) : List (S29))).bind fun y140 => ((some (y140.set (x5_1 : Int).toNat (⟨(rd_T29 y140 x5_1).f0, (rd_T29 y140 x5_1).f1, (rd_T29 y140 x5_1).f2, (rd_T29 y140 x5_1).f3, (rd_T29 y140 x5_1).f4, (rd_T29 y140 x5_1).f5, wrap64 ((wrap64 ((wrap64 ((wrap64 ((wrap64 ((wrap64 (x1_1 + 1)) + 1)) + 1)) + 1)) + 1)) + 1), (rd_T29 y140 x5_1).f7, (rd_T29 y140 x5_1).f8⟩ : S29) : List (S29))).bind fun y141 => ((some (y141.set (x5_1 : Int).toNat (⟨(rd_T29 y141 x5_1).f0, (rd_T29 y141 x5_1).f1, (rd_T29 y141 x5_1).f2, (rd_T29 y141 x5_1).f3, (rd_T29 y141 x5_1).f4, (rd_T29 y141 x5_1).f5, (rd_T29 y141 x5_1).f6, ((Int.tmod (wrap64 ((wrap64 ((wrap64 ((wrap64 ((wrap64 ((wrap64 ((wrap64 (x1_1 + 1)) + 1)) + 1)) + 1)) + 1)) + 1)) + 1)) 3) == 0), (rd_T29 y141 x5_1).f8⟩ : S29) : List (S29))).bind fun y142 => ((laws_markEntryS.f k1 ((rd_T29 y142 x5_1).f8) (wrap64 ((wrap64 ((wrap64 ((wrap64 ((wrap64 ((wrap64 ((wrap64 ((wrap64 (x1_1 + 1)) + 1)) + 1)) + 1)) + 1)) + 1)) + 1)) + 1))).bind fun bt144 => (laws_markMsgS.l0 k1 (y142.set (x5_1 : Int).toNat (⟨(rd_T29 y142 x5_1).f0, (rd_T29 y142 x5_1).f1, (rd_T29 y142 x5_1).f2, (rd_T29 y142 x5_1).f3, (rd_T29 y142 x5_1).f4, (rd_T29 y142 x5_1).f5, (rd_T29 y142 x5_1).f6, (rd_T29 y142 x5_1).f7, bt144.2⟩ : S29)) bt144.1 (wrap64 (x5_1 + 1))))))))) = some (r1, r2) := by first | (rw [hy137]; with_reducible exact H) | (have H2_ := (Option.bind_some _ _).symm.trans H; rw [hy137]; with_reducible exact H2_) | (have H2_ := (Option.bind_some _ _).symm.trans H; with_reducible exact H2_) | with_reducible exact H | (rw [hy137]; exact H) | exact H
   have Ny137 := am hy137
   clear hy137
   obtain ⟨y138, hy138⟩ : ∃ y_ : List (S29), y_ = (y137.set (x5_1 : Int).toNat (⟨(rd_T29 y137 x5_1).f0, (rd_T29 y137 x5_1).f1, (rd_T29 y137 x5_1).f2, wrap64 ((wrap64 ((wrap64 (x1_1 + 1)) + 1)) + 1), (rd_T29 y137 x5_1).f4, (rd_T29 y137 x5_1).f5, (rd_T29 y137 x5_1).f6, (rd_T29 y137 x5_1).f7, (rd_T29 y137 x5_1).f8⟩ : S29)) := ⟨_, rfl⟩
   replace H : ((some (y138.set (x5_1 : Int).toNat (⟨(rd_T29 y138 x5_1).f0, (rd_T29 y138 x5_1).f1, (rd_T29 y138 x5_1).f2, (rd_T29 y138 x5_1).f3, wrap64 ((wrap64 ((wrap64 ((wrap64 (x1_1 + 1)) + 1)) + 1)) + 1), (rd_T29 y138 x5_1).f5, (rd_T29 y138 x5_1).f6, (rd_T29 y138 x5_1).f7, (rd_T29 y138 x5_1).f8⟩ : S29) : List (S29))).bind fun y139 => ((some (y139.set (x5_1 : Int).toNat (⟨(rd_T29 y139 x5_1).f0, (rd_T29 y139 x5_1).f1, (rd_T29 y139 x5_1).f2, (rd_T29 y139 x5_1).f3, (rd_T29 y139 x5_1).f4, wrap64 ((wrap64 ((wrap64 ((wrap64 ((wrap64 (x1_1 + 1)) + 1)) + 1)) + 1)) + 1), (rd_T29 y139 x5_1).f6, (rd_T29 y139 x5_1).f7, (rd_T29 y139 x5_1).f8⟩ : S29) : List (S29))).bind fun y140 => ((some (y140.set (x5_1 : Int).toNat (⟨(rd_T29 y140 x5_1).f0, (rd_T29 y140 x5_1).f1, (rd_T29 y140 x5_1).f2, (rd_T29 y140 x5_1).f3, (rd_T29 y140 x5_1).f4, (rd_T29 y140 x5_1).f5, wrap64 ((wrap64 ((wrap64 ((wrap64 ((wrap64 ((wrap64 (x1_1 + 1)) + 1)) + 1)) + 1)) + 1)) + 1), (rd_T29 y140 x5_1).f7, (rd_T29 y140 x5_1).f8⟩ : S29) : List (S29))).bind fun y141 => ((some (y141.set (x5_1 : Int).toNat (⟨(rd_T29 y141 x5_1).f0, (rd_T29 y141 x5_1).f1, (rd_T29 y141 x5_1).f2, (rd_T29 y141 x5_1).f3, (rd_T29 y141 x5_1).f4, (rd_T29 y141 x5_1).f5, (rd_T29 y141 x5_1).f6, ((Int.tmod (wrap64 ((wrap64 ((wrap64 ((wrap64 ((wrap64 ((wrap64 ((wrap64 (x1_1 + 1)) + 1)) + 1)) + 1)) + 1)) + 1)) + 1)) 3) == 0), (rd_T29 y141 x5_1).f8⟩ : S29) : List (S29))).bind fun y142 => ((laws_markEntryS.f k1 ((rd_T29 y142 x5_1).f8) (wrap64 ((wrap64 ((wrap64 ((wrap64 ((wrap64 ((wrap64 ((wrap64 ((wrap64 (x1_1 + 1)) + 1)) + 1)) + 1)) + 1)) + 1)) + 1)) + 1))).bind fun bt144 => (laws_markMsgS.l0 k1 (y142.set (x5_1 : Int).toNat (⟨(rd_T29 y142 x5_1).f0, (rd_T29 y142 x5_1).f1, (rd_T29 y142 x5_1).f2, (rd_T29 y142 x5_1).f3, (rd_T29 y142 x5_1).f4, (rd_T29 y142 x5_1).f5, (rd_T29 y142 x5_1).f6, (rd_T29 y142 x5_1).f7, bt144.2⟩ : S29)) bt144.1 (wrap64 (x5_1 + 1)))))))) = some (r1, r2) := by first | (rw [hy138]; with_reducible exact H) | (have H2_ := (Option.bind_some _ _).symm.trans H; rw [hy138]; with_reducible exact H2_) | (have H2_ := (Option.bind_some _ _).symm.trans H; with_reducible exact H2_) | with_reducible exact H | (rw [hy138]; exact H) | exact H
   have Ny138 := am hy138
   clear hy138
   obtain ⟨y139, hy139⟩ : ∃ y_ : List (S29), y_ = (y138.set (x5_1 : Int).toNat (⟨(rd_T29 y138 x5_1).f0, (rd_T29 y138 x5_1).f1, (rd_T29 y138 x5_1).f2, (rd_T29 y138 x5_1).f3, wrap64 ((wrap64 ((wrap64 ((wrap64 (x1_1 + 1)) + 1)) + 1)) + 1), (rd_T29 y138 x5_1).f5, (rd_T29 y138 x5_1).f6, (rd_T29 y138 x5_1).f7, (rd_T29 y138 x5_1).f8⟩ : S29)) := ⟨_, rfl⟩
   replace H : ((some (y139.set (x5_1 : Int).toNat (⟨(rd_T29 y139 x5_1).f0, (rd_T29 y139 x5_1).f1, (rd_T29 y139 x5_1).f2, (rd_T29 y139 x5_1).f3, (rd_T29 y139 x5_1).f4, wrap64 ((wrap64 ((wrap64 ((wrap64 ((wrap64 (x1_1 + 1)) + 1)) + 1)) + 1)) + 1), (rd_T29 y139 x5_1).f6, (rd_T29 y139 x5_1).f7, (rd_T29 y139 x5_1).f8⟩ : S29) : List (S29))).bind fun y140 => ((some (y140.set (x5_1 : Int).toNat (⟨(rd_T29 y140 x5_1).f0, (rd_T29 y140 x5_1).f1, (rd_T29 y140 x5_1).f2, (rd_T29 y140 x5_1).f3, (rd_T29 y140 x5_1).f4, (rd_T29 y140 x5_1).f5, wrap64 ((wrap64 ((wrap64 ((wrap64 ((wrap64 ((wrap64 (x1_1 + 1)) + 1)) + 1)) + 1)) + 1)) + 1), (rd_T29 y140 x5_1).f7, (rd_T29 y140 x5_1).f8⟩ : S29) : List (S29))).bind fun y141 => ((some (y141.set (x5_1 : Int).toNat (⟨(rd_T29 y141 x5_1).f0, (rd_T29 y141 x5_1).f1, (rd_T29 y141 x5_1).f2, (rd_T29 y141 x5_1).f3, (rd_T29 y141 x5_1).f4, (rd_T29 y141 x5_1).f5, (rd_T29 y141 x5_1).f6, ((Int.tmod (wrap64 ((wrap64 ((wrap64 ((wrap64 ((wrap64 ((wrap64 ((wrap64 (x1_1 + 1)) + 1)) + 1)) + 1)) + 1)) + 1)) + 1)) 3) == 0), (rd_T29 y141 x5_1).f8⟩ : S29) : List (S29))).bind fun y142 => ((laws_markEntryS.f k1 ((rd_T29 y142 x5_1).f8) (wrap64 ((wrap64 ((wrap64 ((wrap64 ((wrap64 ((wrap64 ((wrap64 ((wrap64 (x1_1 + 1)) + 1)) + 1)) + 1)) + 1)) + 1)) + 1)) + 1))).bind fun bt144 => (laws_markMsgS.l0 k1 (y142.set (x5_1 : Int).toNat (⟨(rd_T29 y142 x5_1).f0, (rd_T29 y142 x5_1).f1, (rd_T29 y142 x5_1).f2, (rd_T29 y142 x5_1).f3, (rd_T29 y142 x5_1).f4, (rd_T29 y142 x5_1).f5, (rd_T29 y142 x5_1).f6, (rd_T29 y142 x5_1).f7, bt144.2⟩ : S29)) bt144.1 (wrap64 (x5_1 + 1))))))) = some (r1, r2) := by first | (rw [hy139]; with_reducible exact H) | (have H2_ := (Option.bind_some _ _).symm.trans H; rw [hy139]; with_reducible exact H2_) | (have H2_ := (Option.bind_some _ _).symm.trans H; with_reducible exact H2_) | with_reducible exact H | (rw [hy139]; exact H) | exact H
   have Ny139 := am hy139
   clear hy139
   obtain ⟨y140, hy140⟩ : ∃ y_ : List (S29), y_ = (y139.set (x5_1 : Int).toNat (⟨(rd_T29 y139 x5_1).f0, (rd_T29 y139 x5_1).f1, (rd_T29 y139 x5_1).f2, (rd_T29 y139 x5_1).f3, (rd_T29 y139 x5_1).f4, wrap64 ((wrap64 ((wrap64 ((wrap64 ((wrap64 (x1_1 + 1)) + 1)) + 1)) + 1)) + 1), (rd_T29 y139 x5_1).f6, (rd_T29 y139 x5_1).f7, (rd_T29 y139 x5_1).f8⟩ : S29)) := ⟨_, rfl⟩
   replace H : ((some (y140.set (x5_1 : Int).toNat (⟨(rd_T29 y140 x5_1).f0, (rd_T29 y140 x5_1).f1, (rd_T29 y140 x5_1).f2, (rd_T29 y140 x5_1).f3, (rd_T29 y140 x5_1).f4, (rd_T29 y140 x5_1).f5, wrap64 ((wrap64 ((wrap64 ((wrap64 ((wrap64 ((wrap64 (x1_1 + 1)) + 1)) + 1)) + 1)) + 1)) + 1), (rd_T29 y140 x5_1).f7, (rd_T29 y140 x5_1).f8⟩ : S29) : List (S29))).bind fun y141 => ((some (y141.set (x5_1 : Int).toNat (⟨(rd_T29 y141 x5_1).f0, (rd_T29 y141 x5_1).f1, (rd_T29 y141 x5_1).f2, (rd_T29 y141 x5_1).f3, (rd_T29 y141 x5_1).f4, (rd_T29 y141 x5_1).f5, (rd_T29 y141 x5_1).f6, ((Int.tmod (wrap64 ((wrap64 ((wrap64 ((wrap64 ((wrap64 ((wrap64 ((wrap64 (x1_1 + 1)) + 1)) + 1)) + 1)) + 1)) + 1)) + 1)) 3) == 0), (rd_T29 y141 x5_1).f8⟩ : S29) : List (S29))).bind fun y142 => ((laws_markEntryS.f k1 ((rd_T29 y142 x5_1).f8) (wrap64 ((wrap64 ((wrap64 ((wrap64 ((wrap64 ((wrap64 ((wrap64 ((wrap64 (x1_1 + 1)) + 1)) + 1)) + 1)) + 1)) + 1)) + 1)) + 1))).bind fun bt144 => (laws_markMsgS.l0 k1 (y142.set (x5_1 : Int).toNat (⟨(rd_T29 y142 x5_1).f0, (rd_T29 y142 x5_1).f1, (rd_T29 y142 x5_1).f2, (rd_T29 y142 x5_1).f3, (rd_T29 y142 x5_1).f4, (rd_T29 y142 x5_1).f5, (rd_T29 y142 x5_1).f6, (rd_T29 y142 x5_1).f7, bt144.2⟩ : S29)) bt144.1 (wrap64 (x5_1 + 1)))))) = some (r1, r2) := by first | (rw [hy140]; with_reducible exact H) | (have H2_ := (Option.bind_some _ _).symm.trans H; rw [hy140]; with_reducible exact H2_) | (have H2_ := (Option.bind_some _ _).symm.trans H; with_reducible exact H2_) | with_reducible exact H | (rw [hy140]; exact H) | exact H
   have Ny140 := am hy140
   clear hy140
   obtain ⟨y141, hy141⟩ : ∃ y_ : List (S29), y_ = (y140.set (x5_1 : Int).toNat (⟨(rd_T29 y140 x5_1).f0, (rd_T29 y140 x5_1).f1, (rd_T29 y140 x5_1).f2, (rd_T29 y140 x5_1).f3, (rd_T29 y140 x5_1).f4, (rd_T29 y140 x5_1).f5, wrap64 ((wrap64 ((wrap64 ((wrap64 ((wrap64 ((wrap64 (x1_1 + 1)) + 1)) + 1)) + 1)) + 1)) + 1), (rd_T29 y140 x5_1).f7, (rd_T29 y140 x5_1).f8⟩ : S29)) := ⟨_, rfl⟩
   replace H : ((some (y141.set (x5_1 : Int).toNat (⟨(rd_T29 y141 x5_1).f0, (rd_T29 y141 x5_1).f1, (rd_T29 y141 x5_1).f2, (rd_T29 y141 x5_1).f3, (rd_T29 y141 x5_1).f4, (rd_T29 y141 x5_1).f5, (rd_T29 y141 x5_1).f6, ((Int.tmod (wrap64 ((wrap64 ((wrap64 ((wrap64 ((wrap64 ((wrap64 ((wrap64 (x1_1 + 1)) + 1)) + 1)) + 1)) + 1)) + 1)) + 1)) 3) == 0), (rd_T29 y141 x5_1).f8⟩ : S29) : List (S29))).bind fun y142 => ((laws_markEntryS.f k1 ((rd_T29 y142 x5_1).f8) (wrap64 ((wrap64 ((wrap64 ((wrap64 ((wrap64 ((wrap64 ((wrap64 ((wrap64 (x1_1 + 1)) + 1)) + 1)) + 1)) + 1)) + 1)) + 1)) + 1))).bind fun bt144 => (laws_markMsgS.l0 k1 (y142.set (x5_1 : Int).toNat (⟨(rd_T29 y142 x5_1).f0, (rd_T29 y142 x5_1).f1, (rd_T29 y142 x5_1).f2, (rd_T29 y142 x5_1).f3, (rd_T29 y142 x5_1).f4, (rd_T29 y142 x5_1).f5, (rd_T29 y142 x5_1).f6, (rd_T29 y142 x5_1).f7, bt144.2⟩ : S29)) bt144.1 (wrap64 (x5_1 + 1))))) = some (r1, r2) := by first | (rw [hy141]; with_reducible exact H) | (have H2_ := (Option.bind_some _ _).symm.trans H; rw [hy141]; with_reducible exact H2_) | (have H2_ := (Option.bind_some _ _).symm.trans H; with_reducible exact H2_) | with_reducible exact H | (rw [hy141]; exact H) | exact H
   have Ny141 := am hy141
   clear hy141
   obtain ⟨y142, hy142⟩ : ∃ y_ : List (S29), y_ = (y141.set (x5_1 : Int).toNat (⟨(rd_T29 y141 x5_1).f0, (rd_T29 y141 x5_1).f1, (rd_T29 y141 x5_1).f2, (rd_T29 y141 x5_1).f3, (rd_T29 y141 x5_1).f4, (rd_T29 y141 x5_1).f5, (rd_T29 y141 x5_1).f6, ((Int.tmod (wrap64 ((wrap64 ((wrap64 ((wrap64 ((wrap64 ((wrap64 ((wrap64 (x1_1 + 1)) + 1)) + 1)) + 1)) + 1)) + 1)) + 1)) 3) == 0), (rd_T29 y141 x5_1).f8⟩ : S29)) := ⟨_, rfl⟩
   replace H : ((laws_markEntryS.f k1 ((rd_T29 y142 x5_1).f8) (wrap64 ((wrap64 ((wrap64 ((wrap64 ((wrap64 ((wrap64 ((wrap64 ((wrap64 (x1_1 + 1)) + 1)) + 1)) + 1)) + 1)) + 1)) + 1)) + 1))).bind fun bt144 => (laws_markMsgS.l0 k1 (y142.set (x5_1 : Int).toNat (⟨(rd_T29 y142 x5_1).f0, (rd_T29 y142 x5_1).f1, (rd_T29 y142 x5_1).f2, (rd_T29 y142 x5_1).f3, (rd_T29 y142 x5_1).f4, (rd_T29 y142 x5_1).f5, (rd_T29 y142 x5_1).f6, (rd_T29 y142 x5_1).f7, bt144.2⟩ : S29)) bt144.1 (wrap64 (x5_1 + 1)))) = some (r1, r2) := by first | (rw [hy142]; with_reducible exact H) | (have H2_ := (Option.bind_some _ _).symm.trans H; rw [hy142]; with_reducible exact H2_) | (have H2_ := (Option.bind_some _ _).symm.trans H; with_reducible exact H2_) | with_reducible exact H | (rw [hy142]; exact H) | exact H
   have Ny142 := am hy142
   clear hy142
   replace H := Option.bind_eq_some_iff.mp H
   obtain ⟨⟨t144, t144b⟩, A130, H⟩ := H
   (try dsimp only at H)
   have A13 := am A130
   clear A130
   have H' := am H
   clear H
   obtain ⟨Ao14, co14, eo14⟩ := Kd.S_slice HO_0.out
   subst eo14
   have p5 : 0 ≤ (x5_1 : Int) := of_decide_eq_true Q1
   have q5 : (x5_1 : Int) < ((x0_1.length : Int) : Int) := of_decide_eq_true Q1
   obtain ⟨go5, co5, eo5, gb5, gl5, cl5, HG5⟩ := Kd.S_form HO_0.out (by omega)
   (first | cases eo5 | (injection eo5 with ea_ en_ ec_; (first | subst ea_ | (injection ea_ with ea_; subst ea_)); subst ec_; clear en_))
   have GB5 := am gb5
   have GG5 := am HG5
   clear gb5 gl5 HG5
   have HMgo5 := am (show P0_ go5 from ((Kd.S_R HO_0.out).1 _ rfl))
   obtain ⟨_, ce5, hcl5, hM5, hcc5, hfr5, _, _⟩ := Kd.S_elem HO_0.out z29 (x5_1 : Int) p5 q5
   obtain ⟨ve5_8, rfl, ge5_8⟩ := k29_openM hM5
   have hx5_0 : wr.cell? ⟨go5, (x5_1 : Int).toNat * 9, none⟩ = some (.int .i64 ((rd_T29 x0_1 x5_1).f0)) := hcc5 0 _ rfl
   have hx5_1 : wr.cell? ⟨go5, (x5_1 : Int).toNat * 9 + 1, none⟩ = some (.int .i64 ((rd_T29 x0_1 x5_1).f1)) := hcc5 1 _ rfl
   have hx5_2 : wr.cell? ⟨go5, (x5_1 : Int).toNat * 9 + 2, none⟩ = some (.int .i64 ((rd_T29 x0_1 x5_1).f2)) := hcc5 2 _ rfl
   have hx5_3 : wr.cell? ⟨go5, (x5_1 : Int).toNat * 9 + 3, none⟩ = some (.int .i64 ((rd_T29 x0_1 x5_1).f3)) := hcc5 3 _ rfl
   have hx5_4 : wr.cell? ⟨go5, (x5_1 : Int).toNat * 9 + 4, none⟩ = some (.int .i64 ((rd_T29 x0_1 x5_1).f4)) := hcc5 4 _ rfl
   have hx5_5 : wr.cell? ⟨go5, (x5_1 : Int).toNat * 9 + 5, none⟩ = some (.int .i64 ((rd_T29 x0_1 x5_1).f5)) := hcc5 5 _ rfl
   have hx5_6 : wr.cell? ⟨go5, (x5_1 : Int).toNat * 9 + 6, none⟩ = some (.int .i64 ((rd_T29 x0_1 x5_1).f6)) := hcc5 6 _ rfl
   have hx5_7 : wr.cell? ⟨go5, (x5_1 : Int).toNat * 9 + 7, none⟩ = some (.bool ((rd_T29 x0_1 x5_1).f7)) := hcc5 7 _ rfl
   have hx5_8 : wr.cell? ⟨go5, (x5_1 : Int).toNat * 9 + 8, none⟩ = some (ve5_8) := hcc5 8 _ rfl
   have hf5_0 : wr.frozen? ⟨go5, (x5_1 : Int).toNat * 9, none⟩ = false := hfr5 0
   have hf5_1 : wr.frozen? ⟨go5, (x5_1 : Int).toNat * 9 + 1, none⟩ = false := hfr5 1
   have hf5_2 : wr.frozen? ⟨go5, (x5_1 : Int).toNat * 9 + 2, none⟩ = false := hfr5 2
   have hf5_3 : wr.frozen? ⟨go5, (x5_1 : Int).toNat * 9 + 3, none⟩ = false := hfr5 3
   have hf5_4 : wr.frozen? ⟨go5, (x5_1 : Int).toNat * 9 + 4, none⟩ = false := hfr5 4
   have hf5_5 : wr.frozen? ⟨go5, (x5_1 : Int).toNat * 9 + 5, none⟩ = false := hfr5 5
   have hf5_6 : wr.frozen? ⟨go5, (x5_1 : Int).toNat * 9 + 6, none⟩ = false := hfr5 6
   have hf5_7 : wr.frozen? ⟨go5, (x5_1 : Int).toNat * 9 + 7, none⟩ = false := hfr5 7
   have hf5_8 : wr.frozen? ⟨go5, (x5_1 : Int).toNat * 9 + 8, none⟩ = false := hfr5 8
   clear hcl5 hcc5 hfr5 hM5
   replace p5 := eq_true p5
   replace q5 := eq_true q5
   have HX15 := am (show Kd.S k29 29 wr w0.heap.size (fun k_ => ((fun k_ => P0_ k_)) k_ ∧ ¬ ((fun _ => False)) k_) (.slice (some ⟨go5, 0, none⟩) x0_1.length co14) x0_1 from Q5)
   obtain ⟨oki15, ce15, hcl15, hM15, hcc15, hfr15, hoki15, hH15⟩ := Kd.S_elem HX15.out z29 (x5_1 : Int) (of_decide_eq_true Q1) (by have h_ : (x5_1 : Int) < ((x0_1.length : Int) : Int) := of_decide_eq_true Q1; first | exact h_ | (have e_ := (Kd.S_reads' HO_0.out).1; omega) | simpa using h_)
   obtain ⟨ve15_8, rfl, ge15_8⟩ := k29_openM hM15
   have HP15 := Kd.S_seg hH15 (of_decide_eq_true Q1) (by have h_ : (x5_1 : Int) < ((x0_1.length : Int) : Int) := of_decide_eq_true Q1; first | exact h_ | (have e_ := (Kd.S_reads' HO_0.out).1; omega) | simpa using h_) (seg := [.int .i64 x1_1]) (j := 0) (show 1 ≤ 9 from by decide) (x' := (⟨x1_1, (rd_T29 x0_1 x5_1).f1, (rd_T29 x0_1 x5_1).f2, (rd_T29 x0_1 x5_1).f3, (rd_T29 x0_1 x5_1).f4, (rd_T29 x0_1 x5_1).f5, (rd_T29 x0_1 x5_1).f6, (rd_T29 x0_1 x5_1).f7, (rd_T29 x0_1 x5_1).f8⟩ : S29)) (k29_mkM _ _ _ (⟨x1_1, (rd_T29 x0_1 x5_1).f1, (rd_T29 x0_1 x5_1).f2, (rd_T29 x0_1 x5_1).f3, (rd_T29 x0_1 x5_1).f4, (rd_T29 x0_1 x5_1).f5, (rd_T29 x0_1 x5_1).f6, (rd_T29 x0_1 x5_1).f7, (rd_T29 x0_1 x5_1).f8⟩ : S29) (Kd.R_mono ge15_8 (fun _ h_ => Or.inl h_))) (fun _ hk => hk) (fun k_ hk_ => hk_.elim)
   have hx15_0 := hcc15 0 _ rfl
   (try simp only [show (k29).sz = 9 from rfl, Nat.mul_one, Nat.add_zero] at hx15_0)
   have hf15_0 := hfr15 0
   (try simp only [show (k29).sz = 9 from rfl, Nat.mul_one, Nat.add_zero] at hf15_0)
   clear hcl15 hcc15 hfr15 hM15 hoki15 hH15
   go_wp2_with (first | ((with_reducible refine gate_store (t := 3) (p := 16) rfl ?_); refine store_event (t := 3) (p := 16) (v := ?vo_w16) (w1 := (wr.setCell ⟨go5, (x5_1 : Int).toNat * 9, none⟩ (.int .i64 x1_1))) ?hg ?ho ?hn ?hr ?_; (case ho => rfl); (case hg => rfl); (case hn => rfl); (case hr => first | (go_simp; done) | (go_simp; rfl)); intro w16 hw; have hg : wr.grownBy w16 (some go5) := (by rw [hw]; exact HP15.2); have hp_ : Kd.S k29 29 w16 w0.heap.size (fun k_ => P0_ k_) (.slice (some ⟨go5, 0, none⟩) x0_1.length co14) y135 := (by rw [hw, Ny135.out]; exact HP15.1); clear HP15; replace HO_0 := am (hp_); replace HB := am ((by rw [hw]; exact below_set (HB.out) GB5.out : Below w0.heap.size w0 w16)); replace HK := am (Kept.of_grown (S := (fun k_ => PK_ k_)) hg Q7 (fun k_ e_ => .inl (HPK.out k_ e_))); clear hg hw hp_; have p6 : 0 ≤ (x5_1 : Int) := of_decide_eq_true Q1; have q6 : (x5_1 : Int) < ((x0_1.length : Int) : Int) := of_decide_eq_true Q1; obtain ⟨_, ce6, hcl6, hM6, hcc6, hfr6, _, _⟩ := Kd.S_elem HO_0.out z29 (x5_1 : Int) p6 q6; obtain ⟨ve6_8, rfl, ge6_8⟩ := k29_openM hM6; have hx6_0 : w16.cell? ⟨go5, (x5_1 : Int).toNat * 9, none⟩ = some (.int .i64 ((rd_T29 y135 x5_1).f0)) := hcc6 0 _ rfl; have hx6_1 : w16.cell? ⟨go5, (x5_1 : Int).toNat * 9 + 1, none⟩ = some (.int .i64 ((rd_T29 y135 x5_1).f1)) := hcc6 1 _ rfl; have hx6_2 : w16.cell? ⟨go5, (x5_1 : Int).toNat * 9 + 2, none⟩ = some (.int .i64 ((rd_T29 y135 x5_1).f2)) := hcc6 2 _ rfl; have hx6_3 : w16.cell? ⟨go5, (x5_1 : Int).toNat * 9 + 3, none⟩ = some (.int .i64 ((rd_T29 y135 x5_1).f3)) := hcc6 3 _ rfl; have hx6_4 : w16.cell? ⟨go5, (x5_1 : Int).toNat * 9 + 4, none⟩ = some (.int .i64 ((rd_T29 y135 x5_1).f4)) := hcc6 4 _ rfl; have hx6_5 : w16.cell? ⟨go5, (x5_1 : Int).toNat * 9 + 5, none⟩ = some (.int .i64 ((rd_T29 y135 x5_1).f5)) := hcc6 5 _ rfl; have hx6_6 : w16.cell? ⟨go5, (x5_1 : Int).toNat * 9 + 6, none⟩ = some (.int .i64 ((rd_T29 y135 x5_1).f6)) := hcc6 6 _ rfl; have hx6_7 : w16.cell? ⟨go5, (x5_1 : Int).toNat * 9 + 7, none⟩ = some (.bool ((rd_T29 y135 x5_1).f7)) := hcc6 7 _ rfl; have hx6_8 : w16.cell? ⟨go5, (x5_1 : Int).toNat * 9 + 8, none⟩ = some (ve6_8) := hcc6 8 _ rfl; have hf6_0 : w16.frozen? ⟨go5, (x5_1 : Int).toNat * 9, none⟩ = false := hfr6 0; have hf6_1 : w16.frozen? ⟨go5, (x5_1 : Int).toNat * 9 + 1, none⟩ = false := hfr6 1; have hf6_2 : w16.frozen? ⟨go5, (x5_1 : Int).toNat * 9 + 2, none⟩ = false := hfr6 2; have hf6_3 : w16.frozen? ⟨go5, (x5_1 : Int).toNat * 9 + 3, none⟩ = false := hfr6 3; have hf6_4 : w16.frozen? ⟨go5, (x5_1 : Int).toNat * 9 + 4, none⟩ = false := hfr6 4; have hf6_5 : w16.frozen? ⟨go5, (x5_1 : Int).toNat * 9 + 5, none⟩ = false := hfr6 5; have hf6_6 : w16.frozen? ⟨go5, (x5_1 : Int).toNat * 9 + 6, none⟩ = false := hfr6 6; have hf6_7 : w16.frozen? ⟨go5, (x5_1 : Int).toNat * 9 + 7, none⟩ = false := hfr6 7; have hf6_8 : w16.frozen? ⟨go5, (x5_1 : Int).toNat * 9 + 8, none⟩ = false := hfr6 8; clear hcl6 hcc6 hfr6 hM6; replace p6 := eq_true p6; replace q6 := eq_true q6; have HX17 := am (show Kd.S k29 29 w16 w0.heap.size (fun k_ => ((fun k_ => P0_ k_)) k_ ∧ ¬ ((fun _ => False)) k_) (.slice (some ⟨go5, 0, none⟩) x0_1.length co14) y135 from Q5); obtain ⟨oki17, ce17, hcl17, hM17, hcc17, hfr17, hoki17, hH17⟩ := Kd.S_elem HX17.out z29 (x5_1 : Int) (of_decide_eq_true Q1) (by have h_ : (x5_1 : Int) < ((x0_1.length : Int) : Int) := of_decide_eq_true Q1; first | exact h_ | (have e_ := (Kd.S_reads' HO_0.out).1; omega) | simpa using h_); obtain ⟨ve17_8, rfl, ge17_8⟩ := k29_openM hM17; have HP17 := Kd.S_seg hH17 (of_decide_eq_true Q1) (by have h_ : (x5_1 : Int) < ((x0_1.length : Int) : Int) := of_decide_eq_true Q1; first | exact h_ | (have e_ := (Kd.S_reads' HO_0.out).1; omega) | simpa using h_) (seg := [.int .i64 (wrap64 (x1_1 + 1))]) (j := 1) (show 2 ≤ 9 from by decide) (x' := (⟨(rd_T29 y135 x5_1).f0, wrap64 (x1_1 + 1), (rd_T29 y135 x5_1).f2, (rd_T29 y135 x5_1).f3, (rd_T29 y135 x5_1).f4, (rd_T29 y135 x5_1).f5, (rd_T29 y135 x5_1).f6, (rd_T29 y135 x5_1).f7, (rd_T29 y135 x5_1).f8⟩ : S29)) (k29_mkM _ _ _ (⟨(rd_T29 y135 x5_1).f0, wrap64 (x1_1 + 1), (rd_T29 y135 x5_1).f2, (rd_T29 y135 x5_1).f3, (rd_T29 y135 x5_1).f4, (rd_T29 y135 x5_1).f5, (rd_T29 y135 x5_1).f6, (rd_T29 y135 x5_1).f7, (rd_T29 y135 x5_1).f8⟩ : S29) (Kd.R_mono ge17_8 (fun _ h_ => Or.inl h_))) (fun _ hk => hk) (fun k_ hk_ => hk_.elim); have hx17_1 := hcc17 1 _ rfl; (try simp only [show (k29).sz = 9 from rfl, Nat.mul_one, Nat.add_zero] at hx17_1); have hf17_1 := hfr17 1; (try simp only [show (k29).sz = 9 from rfl, Nat.mul_one, Nat.add_zero] at hf17_1); clear hcl17 hcc17 hfr17 hM17 hoki17 hH17) | ((with_reducible refine gate_store (t := 3) (p := 23) rfl ?_); refine store_event (t := 3) (p := 23) (v := ?vo_w18) (w1 := (w16.setCell ⟨go5, (x5_1 : Int).toNat * 9 + 1, none⟩ (.int .i64 (wrap64 (x1_1 + 1))))) ?hg ?ho ?hn ?hr ?_; (case ho => rfl); (case hg => rfl); (case hn => rfl); (case hr => first | (go_simp; done) | (go_simp; rfl)); intro w18 hw; have hg : w16.grownBy w18 (some go5) := (by rw [hw]; exact HP17.2); have hp_ : Kd.S k29 29 w18 w0.heap.size (fun k_ => P0_ k_) (.slice (some ⟨go5, 0, none⟩) x0_1.length co14) y136 := (by rw [hw, Ny136.out]; exact HP17.1); clear HP17; replace HO_0 := am (hp_); replace HB := am ((by rw [hw]; exact below_set (HB.out) GB5.out : Below w0.heap.size w0 w18)); replace HK := am (Kept.of_grown (S := (fun k_ => PK_ k_)) hg Q7 (fun k_ e_ => .inl (HPK.out k_ e_))); clear hg hw hp_; have p7 : 0 ≤ (x5_1 : Int) := of_decide_eq_true Q1; have q7 : (x5_1 : Int) < ((x0_1.length : Int) : Int) := of_decide_eq_true Q1; obtain ⟨_, ce7, hcl7, hM7, hcc7, hfr7, _, _⟩ := Kd.S_elem HO_0.out z29 (x5_1 : Int) p7 q7; obtain ⟨ve7_8, rfl, ge7_8⟩ := k29_openM hM7; have hx7_0 : w18.cell? ⟨go5, (x5_1 : Int).toNat * 9, none⟩ = some (.int .i64 ((rd_T29 y136 x5_1).f0)) := hcc7 0 _ rfl; have hx7_1 : w18.cell? ⟨go5, (x5_1 : Int).toNat * 9 + 1, none⟩ = some (.int .i64 ((rd_T29 y136 x5_1).f1)) := hcc7 1 _ rfl; have hx7_2 : w18.cell? ⟨go5, (x5_1 : Int).toNat * 9 + 2, none⟩ = some (.int .i64 ((rd_T29 y136 x5_1).f2)) := hcc7 2 _ rfl; have hx7_3 : w18.cell? ⟨go5, (x5_1 : Int).toNat * 9 + 3, none⟩ = some (.int .i64 ((rd_T29 y136 x5_1).f3)) := hcc7 3 _ rfl; have hx7_4 : w18.cell? ⟨go5, (x5_1 : Int).toNat * 9 + 4, none⟩ = some (.int .i64 ((rd_T29 y136 x5_1).f4)) := hcc7 4 _ rfl; have hx7_5 : w18.cell? ⟨go5, (x5_1 : Int).toNat * 9 + 5, none⟩ = some (.int .i64 ((rd_T29 y136 x5_1).f5)) := hcc7 5 _ rfl; have hx7_6 : w18.cell? ⟨go5, (x5_1 : Int).toNat * 9 + 6, none⟩ = some (.int .i64 ((rd_T29 y136 x5_1).f6)) := hcc7 6 _ rfl; have hx7_7 : w18.cell? ⟨go5, (x5_1 : Int).toNat * 9 + 7, none⟩ = some (.bool ((rd_T29 y136 x5_1).f7)) := hcc7 7 _ rfl; have hx7_8 : w18.cell? ⟨go5, (x5_1 : Int).toNat * 9 + 8, none⟩ = some (ve7_8) := hcc7 8 _ rfl; have hf7_0 : w18.frozen? ⟨go5, (x5_1 : Int).toNat * 9, none⟩ = false := hfr7 0; have hf7_1 : w18.frozen? ⟨go5, (x5_1 : Int).toNat * 9 + 1, none⟩ = false := hfr7 1; have hf7_2 : w18.frozen? ⟨go5, (x5_1 : Int).toNat * 9 + 2, none⟩ = false := hfr7 2; have hf7_3 : w18.frozen? ⟨go5, (x5_1 : Int).toNat * 9 + 3, none⟩ = false := hfr7 3; have hf7_4 : w18.frozen? ⟨go5, (x5_1 : Int).toNat * 9 + 4, none⟩ = false := hfr7 4; have hf7_5 : w18.frozen? ⟨go5, (x5_1 : Int).toNat * 9 + 5, none⟩ = false := hfr7 5; have hf7_6 : w18.frozen? ⟨go5, (x5_1 : Int).toNat * 9 + 6, none⟩ = false := hfr7 6; have hf7_7 : w18.frozen? ⟨go5, (x5_1 : Int).toNat * 9 + 7, none⟩ = false := hfr7 7; have hf7_8 : w18.frozen? ⟨go5, (x5_1 : Int).toNat * 9 + 8, none⟩ = false := hfr7 8; clear hcl7 hcc7 hfr7 hM7; replace p7 := eq_true p7; replace q7 := eq_true q7; have HX19 := am (show Kd.S k29 29 w18 w0.heap.size (fun k_ => ((fun k_ => P0_ k_)) k_ ∧ ¬ ((fun _ => False)) k_) (.slice (some ⟨go5, 0, none⟩) x0_1.length co14) y136 from Q5); obtain ⟨oki19, ce19, hcl19, hM19, hcc19, hfr19, hoki19, hH19⟩ := Kd.S_elem HX19.out z29 (x5_1 : Int) (of_decide_eq_true Q1) (by have h_ : (x5_1 : Int) < ((x0_1.length : Int) : Int) := of_decide_eq_true Q1; first | exact h_ | (have e_ := (Kd.S_reads' HO_0.out).1; omega) | simpa using h_); obtain ⟨ve19_8, rfl, ge19_8⟩ := k29_openM hM19; have HP19 := Kd.S_seg hH19 (of_decide_eq_true Q1) (by have h_ : (x5_1 : Int) < ((x0_1.length : Int) : Int) := of_decide_eq_true Q1; first | exact h_ | (have e_ := (Kd.S_reads' HO_0.out).1; omega) | simpa using h_) (seg := [.int .i64 (wrap64 ((wrap64 (x1_1 + 1)) + 1))]) (j := 2) (show 3 ≤ 9 from by decide) (x' := (⟨(rd_T29 y136 x5_1).f0, (rd_T29 y136 x5_1).f1, wrap64 ((wrap64 (x1_1 + 1)) + 1), (rd_T29 y136 x5_1).f3, (rd_T29 y136 x5_1).f4, (rd_T29 y136 x5_1).f5, (rd_T29 y136 x5_1).f6, (rd_T29 y136 x5_1).f7, (rd_T29 y136 x5_1).f8⟩ : S29)) (k29_mkM _ _ _ (⟨(rd_T29 y136 x5_1).f0, (rd_T29 y136 x5_1).f1, wrap64 ((wrap64 (x1_1 + 1)) + 1), (rd_T29 y136 x5_1).f3, (rd_T29 y136 x5_1).f4, (rd_T29 y136 x5_1).f5, (rd_T29 y136 x5_1).f6, (rd_T29 y136 x5_1).f7, (rd_T29 y136 x5_1).f8⟩ : S29) (Kd.R_mono ge19_8 (fun _ h_ => Or.inl h_))) (fun _ hk => hk) (fun k_ hk_ => hk_.elim); have hx19_2 := hcc19 2 _ rfl; (try simp only [show (k29).sz = 9 from rfl, Nat.mul_one, Nat.add_zero] at hx19_2); have hf19_2 := hfr19 2; (try simp only [show (k29).sz = 9 from rfl, Nat.mul_one, Nat.add_zero] at hf19_2); clear hcl19 hcc19 hfr19 hM19 hoki19 hH19) | ((with_reducible refine gate_store (t := 3) (p := 30) rfl ?_); refine store_event (t := 3) (p := 30) (v := ?vo_w20) (w1 := (w18.setCell ⟨go5, (x5_1 : Int).toNat * 9 + 2, none⟩ (.int .i64 (wrap64 ((wrap64 (x1_1 + 1)) + 1))))) ?hg ?ho ?hn ?hr ?_; (case ho => rfl); (case hg => rfl); (case hn => rfl); (case hr => first | (go_simp; done) | (go_simp; rfl)); intro w20 hw; have hg : w18.grownBy w20 (some go5) := (by rw [hw]; exact HP19.2); have hp_ : Kd.S k29 29 w20 w0.heap.size (fun k_ => P0_ k_) (.slice (some ⟨go5, 0, none⟩) x0_1.length co14) y137 := (by rw [hw, Ny137.out]; exact HP19.1); clear HP19; replace HO_0 := am (hp_); replace HB := am ((by rw [hw]; exact below_set (HB.out) GB5.out : Below w0.heap.size w0 w20)); replace HK := am (Kept.of_grown (S := (fun k_ => PK_ k_)) hg Q7 (fun k_ e_ => .inl (HPK.out k_ e_))); clear hg hw hp_; have p8 : 0 ≤ (x5_1 : Int) := of_decide_eq_true Q1; have q8 : (x5_1 : Int) < ((x0_1.length : Int) : Int) := of_decide_eq_true Q1; obtain ⟨_, ce8, hcl8, hM8, hcc8, hfr8, _, _⟩ := Kd.S_elem HO_0.out z29 (x5_1 : Int) p8 q8; obtain ⟨ve8_8, rfl, ge8_8⟩ := k29_openM hM8; have hx8_0 : w20.cell? ⟨go5, (x5_1 : Int).toNat * 9, none⟩ = some (.int .i64 ((rd_T29 y137 x5_1).f0)) := hcc8 0 _ rfl; have hx8_1 : w20.cell? ⟨go5, (x5_1 : Int).toNat * 9 + 1, none⟩ = some (.int .i64 ((rd_T29 y137 x5_1).f1)) := hcc8 1 _ rfl; have hx8_2 : w20.cell? ⟨go5, (x5_1 : Int).toNat * 9 + 2, none⟩ = some (.int .i64 ((rd_T29 y137 x5_1).f2)) := hcc8 2 _ rfl; have hx8_3 : w20.cell? ⟨go5, (x5_1 : Int).toNat * 9 + 3, none⟩ = some (.int .i64 ((rd_T29 y137 x5_1).f3)) := hcc8 3 _ rfl; have hx8_4 : w20.cell? ⟨go5, (x5_1 : Int).toNat * 9 + 4, none⟩ = some (.int .i64 ((rd_T29 y137 x5_1).f4)) := hcc8 4 _ rfl; have hx8_5 : w20.cell? ⟨go5, (x5_1 : Int).toNat * 9 + 5, none⟩ = some (.int .i64 ((rd_T29 y137 x5_1).f5)) := hcc8 5 _ rfl; have hx8_6 : w20.cell? ⟨go5, (x5_1 : Int).toNat * 9 + 6, none⟩ = some (.int .i64 ((rd_T29 y137 x5_1).f6)) := hcc8 6 _ rfl; have hx8_7 : w20.cell? ⟨go5, (x5_1 : Int).toNat * 9 + 7, none⟩ = some (.bool ((rd_T29 y137 x5_1).f7)) := hcc8 7 _ rfl; have hx8_8 : w20.cell? ⟨go5, (x5_1 : Int).toNat * 9 + 8, none⟩ = some (ve8_8) := hcc8 8 _ rfl; have hf8_0 : w20.frozen? ⟨go5, (x5_1 : Int).toNat * 9, none⟩ = false := hfr8 0; have hf8_1 : w20.frozen? ⟨go5, (x5_1 : Int).toNat * 9 + 1, none⟩ = false := hfr8 1; have hf8_2 : w20.frozen? ⟨go5, (x5_1 : Int).toNat * 9 + 2, none⟩ = false := hfr8 2; have hf8_3 : w20.frozen? ⟨go5, (x5_1 : Int).toNat * 9 + 3, none⟩ = false := hfr8 3; have hf8_4 : w20.frozen? ⟨go5, (x5_1 : Int).toNat * 9 + 4, none⟩ = false := hfr8 4; have hf8_5 : w20.frozen? ⟨go5, (x5_1 : Int).toNat * 9 + 5, none⟩ = false := hfr8 5; have hf8_6 : w20.frozen? ⟨go5, (x5_1 : Int).toNat * 9 + 6, none⟩ = false := hfr8 6; have hf8_7 : w20.frozen? ⟨go5, (x5_1 : Int).toNat * 9 + 7, none⟩ = false := hfr8 7; have hf8_8 : w20.frozen? ⟨go5, (x5_1 : Int).toNat * 9 + 8, none⟩ = false := hfr8 8; clear hcl8 hcc8 hfr8 hM8; replace p8 := eq_true p8; replace q8 := eq_true q8; have HX21 := am (show Kd.S k29 29 w20 w0.heap.size (fun k_ => ((fun k_ => P0_ k_)) k_ ∧ ¬ ((fun _ => False)) k_) (.slice (some ⟨go5, 0, none⟩) x0_1.length co14) y137 from Q5); obtain ⟨oki21, ce21, hcl21, hM21, hcc21, hfr21, hoki21, hH21⟩ := Kd.S_elem HX21.out z29 (x5_1 : Int) (of_decide_eq_true Q1) (by have h_ : (x5_1 : Int) < ((x0_1.length : Int) : Int) := of_decide_eq_true Q1; first | exact h_ | (have e_ := (Kd.S_reads' HO_0.out).1; omega) | simpa using h_); obtain ⟨ve21_8, rfl, ge21_8⟩ := k29_openM hM21; have HP21 := Kd.S_seg hH21 (of_decide_eq_true Q1) (by have h_ : (x5_1 : Int) < ((x0_1.length : Int) : Int) := of_decide_eq_true Q1; first | exact h_ | (have e_ := (Kd.S_reads' HO_0.out).1; omega) | simpa using h_) (seg := [.int .i64 (wrap64 ((wrap64 ((wrap64 (x1_1 + 1)) + 1)) + 1))]) (j := 3) (show 4 ≤ 9 from by decide) (x' := (⟨(rd_T29 y137 x5_1).f0, (rd_T29 y137 x5_1).f1, (rd_T29 y137 x5_1).f2, wrap64 ((wrap64 ((wrap64 (x1_1 + 1)) + 1)) + 1), (rd_T29 y137 x5_1).f4, (rd_T29 y137 x5_1).f5, (rd_T29 y137 x5_1).f6, (rd_T29 y137 x5_1).f7, (rd_T29 y137 x5_1).f8⟩ : S29)) (k29_mkM _ _ _ (⟨(rd_T29 y137 x5_1).f0, (rd_T29 y137 x5_1).f1, (rd_T29 y137 x5_1).f2, wrap64 ((wrap64 ((wrap64 (x1_1 + 1)) + 1)) + 1), (rd_T29 y137 x5_1).f4, (rd_T29 y137 x5_1).f5, (rd_T29 y137 x5_1).f6, (rd_T29 y137 x5_1).f7, (rd_T29 y137 x5_1).f8⟩ : S29) (Kd.R_mono ge21_8 (fun _ h_ => Or.inl h_))) (fun _ hk => hk) (fun k_ hk_ => hk_.elim); have hx21_3 := hcc21 3 _ rfl; (try simp only [show (k29).sz = 9 from rfl, Nat.mul_one, Nat.add_zero] at hx21_3); have hf21_3 := hfr21 3; (try simp only [show (k29).sz = 9 from rfl, Nat.mul_one, Nat.add_zero] at hf21_3); clear hcl21 hcc21 hfr21 hM21 hoki21 hH21) | ((with_reducible refine gate_store (t := 3) (p := 37) rfl ?_); refine store_event (t := 3) (p := 37) (v := ?vo_w22) (w1 := (w20.setCell ⟨go5, (x5_1 : Int).toNat * 9 + 3, none⟩ (.int .i64 (wrap64 ((wrap64 ((wrap64 (x1_1 + 1)) + 1)) + 1))))) ?hg ?ho ?hn ?hr ?_; (case ho => rfl); (case hg => rfl); (case hn => rfl); (case hr => first | (go_simp; done) | (go_simp; rfl)); intro w22 hw; have hg : w20.grownBy w22 (some go5) := (by rw [hw]; exact HP21.2); have hp_ : Kd.S k29 29 w22 w0.heap.size (fun k_ => P0_ k_) (.slice (some ⟨go5, 0, none⟩) x0_1.length co14) y138 := (by rw [hw, Ny138.out]; exact HP21.1); clear HP21; replace HO_0 := am (hp_); replace HB := am ((by rw [hw]; exact below_set (HB.out) GB5.out : Below w0.heap.size w0 w22)); replace HK := am (Kept.of_grown (S := (fun k_ => PK_ k_)) hg Q7 (fun k_ e_ => .inl (HPK.out k_ e_))); clear hg hw hp_; have p9 : 0 ≤ (x5_1 : Int) := of_decide_eq_true Q1; have q9 : (x5_1 : Int) < ((x0_1.length : Int) : Int) := of_decide_eq_true Q1; obtain ⟨_, ce9, hcl9, hM9, hcc9, hfr9, _, _⟩ := Kd.S_elem HO_0.out z29 (x5_1 : Int) p9 q9; obtain ⟨ve9_8, rfl, ge9_8⟩ := k29_openM hM9; have hx9_0 : w22.cell? ⟨go5, (x5_1 : Int).toNat * 9, none⟩ = some (.int .i64 ((rd_T29 y138 x5_1).f0)) := hcc9 0 _ rfl; have hx9_1 : w22.cell? ⟨go5, (x5_1 : Int).toNat * 9 + 1, none⟩ = some (.int .i64 ((rd_T29 y138 x5_1).f1)) := hcc9 1 _ rfl; have hx9_2 : w22.cell? ⟨go5, (x5_1 : Int).toNat * 9 + 2, none⟩ = some (.int .i64 ((rd_T29 y138 x5_1).f2)) := hcc9 2 _ rfl; have hx9_3 : w22.cell? ⟨go5, (x5_1 : Int).toNat * 9 + 3, none⟩ = some (.int .i64 ((rd_T29 y138 x5_1).f3)) := hcc9 3 _ rfl; have hx9_4 : w22.cell? ⟨go5, (x5_1 : Int).toNat * 9 + 4, none⟩ = some (.int .i64 ((rd_T29 y138 x5_1).f4)) := hcc9 4 _ rfl; have hx9_5 : w22.cell? ⟨go5, (x5_1 : Int).toNat * 9 + 5, none⟩ = some (.int .i64 ((rd_T29 y138 x5_1).f5)) := hcc9 5 _ rfl; have hx9_6 : w22.cell? ⟨go5, (x5_1 : Int).toNat * 9 + 6, none⟩ = some (.int .i64 ((rd_T29 y138 x5_1).f6)) := hcc9 6 _ rfl; have hx9_7 : w22.cell? ⟨go5, (x5_1 : Int).toNat * 9 + 7, none⟩ = some (.bool ((rd_T29 y138 x5_1).f7)) := hcc9 7 _ rfl; have hx9_8 : w22.cell? ⟨go5, (x5_1 : Int).toNat * 9 + 8, none⟩ = some (ve9_8) := hcc9 8 _ rfl; have hf9_0 : w22.frozen? ⟨go5, (x5_1 : Int).toNat * 9, none⟩ = false := hfr9 0; have hf9_1 : w22.frozen? ⟨go5, (x5_1 : Int).toNat * 9 + 1, none⟩ = false := hfr9 1; have hf9_2 : w22.frozen? ⟨go5, (x5_1 : Int).toNat * 9 + 2, none⟩ = false := hfr9 2; have hf9_3 : w22.frozen? ⟨go5, (x5_1 : Int).toNat * 9 + 3, none⟩ = false := hfr9 3; have hf9_4 : w22.frozen? ⟨go5, (x5_1 : Int).toNat * 9 + 4, none⟩ = false := hfr9 4; have hf9_5 : w22.frozen? ⟨go5, (x5_1 : Int).toNat * 9 + 5, none⟩ = false := hfr9 5; have hf9_6 : w22.frozen? ⟨go5, (x5_1 : Int).toNat * 9 + 6, none⟩ = false := hfr9 6; have hf9_7 : w22.frozen? ⟨go5, (x5_1 : Int).toNat * 9 + 7, none⟩ = false := hfr9 7; have hf9_8 : w22.frozen? ⟨go5, (x5_1 : Int).toNat * 9 + 8, none⟩ = false := hfr9 8; clear hcl9 hcc9 hfr9 hM9; replace p9 := eq_true p9; replace q9 := eq_true q9; have HX23 := am (show Kd.S k29 29 w22 w0.heap.size (fun k_ => ((fun k_ => P0_ k_)) k_ ∧ ¬ ((fun _ => False)) k_) (.slice (some ⟨go5, 0, none⟩) x0_1.length co14) y138 from Q5); obtain ⟨oki23, ce23, hcl23, hM23, hcc23, hfr23, hoki23, hH23⟩ := Kd.S_elem HX23.out z29 (x5_1 : Int) (of_decide_eq_true Q1) (by have h_ : (x5_1 : Int) < ((x0_1.length : Int) : Int) := of_decide_eq_true Q1; first | exact h_ | (have e_ := (Kd.S_reads' HO_0.out).1; omega) | simpa using h_); obtain ⟨ve23_8, rfl, ge23_8⟩ := k29_openM hM23; have HP23 := Kd.S_seg hH23 (of_decide_eq_true Q1) (by have h_ : (x5_1 : Int) < ((x0_1.length : Int) : Int) := of_decide_eq_true Q1; first | exact h_ | (have e_ := (Kd.S_reads' HO_0.out).1; omega) | simpa using h_) (seg := [.int .i64 (wrap64 ((wrap64 ((wrap64 ((wrap64 (x1_1 + 1)) + 1)) + 1)) + 1))]) (j := 4) (show 5 ≤ 9 from by decide) (x' := (⟨(rd_T29 y138 x5_1).f0, (rd_T29 y138 x5_1).f1, (rd_T29 y138 x5_1).f2, (rd_T29 y138 x5_1).f3, wrap64 ((wrap64 ((wrap64 ((wrap64 (x1_1 + 1)) + 1)) + 1)) + 1), (rd_T29 y138 x5_1).f5, (rd_T29 y138 x5_1).f6, (rd_T29 y138 x5_1).f7, (rd_T29 y138 x5_1).f8⟩ : S29)) (k29_mkM _ _ _ (⟨(rd_T29 y138 x5_1).f0, (rd_T29 y138 x5_1).f1, (rd_T29 y138 x5_1).f2, (rd_T29 y138 x5_1).f3, wrap64 ((wrap64 ((wrap64 ((wrap64 (x1_1 + 1)) + 1)) + 1)) + 1), (rd_T29 y138 x5_1).f5, (rd_T29 y138 x5_1).f6, (rd_T29 y138 x5_1).f7, (rd_T29 y138 x5_1).f8⟩ : S29) (Kd.R_mono ge23_8 (fun _ h_ => Or.inl h_))) (fun _ hk => hk) (fun k_ hk_ => hk_.elim); have hx23_4 := hcc23 4 _ rfl; (try simp only [show (k29).sz = 9 from rfl, Nat.mul_one, Nat.add_zero] at hx23_4); have hf23_4 := hfr23 4; (try simp only [show (k29).sz = 9 from rfl, Nat.mul_one, Nat.add_zero] at hf23_4); clear hcl23 hcc23 hfr23 hM23 hoki23 hH23) | ((with_reducible refine gate_store (t := 3) (p := 44) rfl ?_); refine store_event (t := 3) (p := 44) (v := ?vo_w24) (w1 := (w22.setCell ⟨go5, (x5_1 : Int).toNat * 9 + 4, none⟩ (.int .i64 (wrap64 ((wrap64 ((wrap64 ((wrap64 (x1_1 + 1)) + 1)) + 1)) + 1))))) ?hg ?ho ?hn ?hr ?_; (case ho => rfl); (case hg => rfl); (case hn => rfl); (case hr => first | (go_simp; done) | (go_simp; rfl)); intro w24 hw; have hg : w22.grownBy w24 (some go5) := (by rw [hw]; exact HP23.2); have hp_ : Kd.S k29 29 w24 w0.heap.size (fun k_ => P0_ k_) (.slice (some ⟨go5, 0, none⟩) x0_1.length co14) y139 := (by rw [hw, Ny139.out]; exact HP23.1); clear HP23; replace HO_0 := am (hp_); replace HB := am ((by rw [hw]; exact below_set (HB.out) GB5.out : Below w0.heap.size w0 w24)); replace HK := am (Kept.of_grown (S := (fun k_ => PK_ k_)) hg Q7 (fun k_ e_ => .inl (HPK.out k_ e_))); clear hg hw hp_; have p10 : 0 ≤ (x5_1 : Int) := of_decide_eq_true Q1; have q10 : (x5_1 : Int) < ((x0_1.length : Int) : Int) := of_decide_eq_true Q1; obtain ⟨_, ce10, hcl10, hM10, hcc10, hfr10, _, _⟩ := Kd.S_elem HO_0.out z29 (x5_1 : Int) p10 q10; obtain ⟨ve10_8, rfl, ge10_8⟩ := k29_openM hM10; have hx10_0 : w24.cell? ⟨go5, (x5_1 : Int).toNat * 9, none⟩ = some (.int .i64 ((rd_T29 y139 x5_1).f0)) := hcc10 0 _ rfl; have hx10_1 : w24.cell? ⟨go5, (x5_1 : Int).toNat * 9 + 1, none⟩ = some (.int .i64 ((rd_T29 y139 x5_1).f1)) := hcc10 1 _ rfl; have hx10_2 : w24.cell? ⟨go5, (x5_1 : Int).toNat * 9 + 2, none⟩ = some (.int .i64 ((rd_T29 y139 x5_1).f2)) := hcc10 2 _ rfl; have hx10_3 : w24.cell? ⟨go5, (x5_1 : Int).toNat * 9 + 3, none⟩ = some (.int .i64 ((rd_T29 y139 x5_1).f3)) := hcc10 3 _ rfl; have hx10_4 : w24.cell? ⟨go5, (x5_1 : Int).toNat * 9 + 4, none⟩ = some (.int .i64 ((rd_T29 y139 x5_1).f4)) := hcc10 4 _ rfl; have hx10_5 : w24.cell? ⟨go5, (x5_1 : Int).toNat * 9 + 5, none⟩ = some (.int .i64 ((rd_T29 y139 x5_1).f5)) := hcc10 5 _ rfl; have hx10_6 : w24.cell? ⟨go5, (x5_1 : Int).toNat * 9 + 6, none⟩ = some (.int .i64 ((rd_T29 y139 x5_1).f6)) := hcc10 6 _ rfl; have hx10_7 : w24.cell? ⟨go5, (x5_1 : Int).toNat * 9 + 7, none⟩ = some (.bool ((rd_T29 y139 x5_1).f7)) := hcc10 7 _ rfl; have hx10_8 : w24.cell? ⟨go5, (x5_1 : Int).toNat * 9 + 8, none⟩ = some (ve10_8) := hcc10 8 _ rfl; have hf10_0 : w24.frozen? ⟨go5, (x5_1 : Int).toNat * 9, none⟩ = false := hfr10 0; have hf10_1 : w24.frozen? ⟨go5, (x5_1 : Int).toNat * 9 + 1, none⟩ = false := hfr10 1; have hf10_2 : w24.frozen? ⟨go5, (x5_1 : Int).toNat * 9 + 2, none⟩ = false := hfr10 2; have hf10_3 : w24.frozen? ⟨go5, (x5_1 : Int).toNat * 9 + 3, none⟩ = false := hfr10 3; have hf10_4 : w24.frozen? ⟨go5, (x5_1 : Int).toNat * 9 + 4, none⟩ = false := hfr10 4; have hf10_5 : w24.frozen? ⟨go5, (x5_1 : Int).toNat * 9 + 5, none⟩ = false := hfr10 5; have hf10_6 : w24.frozen? ⟨go5, (x5_1 : Int).toNat * 9 + 6, none⟩ = false := hfr10 6; have hf10_7 : w24.frozen? ⟨go5, (x5_1 : Int).toNat * 9 + 7, none⟩ = false := hfr10 7; have hf10_8 : w24.frozen? ⟨go5, (x5_1 : Int).toNat * 9 + 8, none⟩ = false := hfr10 8; clear hcl10 hcc10 hfr10 hM10; replace p10 := eq_true p10; replace q10 := eq_true q10; have HX25 := am (show Kd.S k29 29 w24 w0.heap.size (fun k_ => ((fun k_ => P0_ k_)) k_ ∧ ¬ ((fun _ => False)) k_) (.slice (some ⟨go5, 0, none⟩) x0_1.length co14) y139 from Q5); obtain ⟨oki25, ce25, hcl25, hM25, hcc25, hfr25, hoki25, hH25⟩ := Kd.S_elem HX25.out z29 (x5_1 : Int) (of_decide_eq_true Q1) (by have h_ : (x5_1 : Int) < ((x0_1.length : Int) : Int) := of_decide_eq_true Q1; first | exact h_ | (have e_ := (Kd.S_reads' HO_0.out).1; omega) | simpa using h_); obtain ⟨ve25_8, rfl, ge25_8⟩ := k29_openM hM25; have HP25 := Kd.S_seg hH25 (of_decide_eq_true Q1) (by have h_ : (x5_1 : Int) < ((x0_1.length : Int) : Int) := of_decide_eq_true Q1; first | exact h_ | (have e_ := (Kd.S_reads' HO_0.out).1; omega) | simpa using h_) (seg := [.int .i64 (wrap64 ((wrap64 ((wrap64 ((wrap64 ((wrap64 (x1_1 + 1)) + 1)) + 1)) + 1)) + 1))]) (j := 5) (show 6 ≤ 9 from by decide) (x' := (⟨(rd_T29 y139 x5_1).f0, (rd_T29 y139 x5_1).f1, (rd_T29 y139 x5_1).f2, (rd_T29 y139 x5_1).f3, (rd_T29 y139 x5_1).f4, wrap64 ((wrap64 ((wrap64 ((wrap64 ((wrap64 (x1_1 + 1)) + 1)) + 1)) + 1)) + 1), (rd_T29 y139 x5_1).f6, (rd_T29 y139 x5_1).f7, (rd_T29 y139 x5_1).f8⟩ : S29)) (k29_mkM _ _ _ (⟨(rd_T29 y139 x5_1).f0, (rd_T29 y139 x5_1).f1, (rd_T29 y139 x5_1).f2, (rd_T29 y139 x5_1).f3, (rd_T29 y139 x5_1).f4, wrap64 ((wrap64 ((wrap64 ((wrap64 ((wrap64 (x1_1 + 1)) + 1)) + 1)) + 1)) + 1), (rd_T29 y139 x5_1).f6, (rd_T29 y139 x5_1).f7, (rd_T29 y139 x5_1).f8⟩ : S29) (Kd.R_mono ge25_8 (fun _ h_ => Or.inl h_))) (fun _ hk => hk) (fun k_ hk_ => hk_.elim); have hx25_5 := hcc25 5 _ rfl; (try simp only [show (k29).sz = 9 from rfl, Nat.mul_one, Nat.add_zero] at hx25_5); have hf25_5 := hfr25 5; (try simp only [show (k29).sz = 9 from rfl, Nat.mul_one, Nat.add_zero] at hf25_5); clear hcl25 hcc25 hfr25 hM25 hoki25 hH25) | ((with_reducible refine gate_store (t := 3) (p := 51) rfl ?_); refine store_event (t := 3) (p := 51) (v := ?vo_w26) (w1 := (w24.setCell ⟨go5, (x5_1 : Int).toNat * 9 + 5, none⟩ (.int .i64 (wrap64 ((wrap64 ((wrap64 ((wrap64 ((wrap64 (x1_1 + 1)) + 1)) + 1)) + 1)) + 1))))) ?hg ?ho ?hn ?hr ?_; (case ho => rfl); (case hg => rfl); (case hn => rfl); (case hr => first | (go_simp; done) | (go_simp; rfl)); intro w26 hw; have hg : w24.grownBy w26 (some go5) := (by rw [hw]; exact HP25.2); have hp_ : Kd.S k29 29 w26 w0.heap.size (fun k_ => P0_ k_) (.slice (some ⟨go5, 0, none⟩) x0_1.length co14) y140 := (by rw [hw, Ny140.out]; exact HP25.1); clear HP25; replace HO_0 := am (hp_); replace HB := am ((by rw [hw]; exact below_set (HB.out) GB5.out : Below w0.heap.size w0 w26)); replace HK := am (Kept.of_grown (S := (fun k_ => PK_ k_)) hg Q7 (fun k_ e_ => .inl (HPK.out k_ e_))); clear hg hw hp_; have p11 : 0 ≤ (x5_1 : Int) := of_decide_eq_true Q1; have q11 : (x5_1 : Int) < ((x0_1.length : Int) : Int) := of_decide_eq_true Q1; obtain ⟨_, ce11, hcl11, hM11, hcc11, hfr11, _, _⟩ := Kd.S_elem HO_0.out z29 (x5_1 : Int) p11 q11; obtain ⟨ve11_8, rfl, ge11_8⟩ := k29_openM hM11; have hx11_0 : w26.cell? ⟨go5, (x5_1 : Int).toNat * 9, none⟩ = some (.int .i64 ((rd_T29 y140 x5_1).f0)) := hcc11 0 _ rfl; have hx11_1 : w26.cell? ⟨go5, (x5_1 : Int).toNat * 9 + 1, none⟩ = some (.int .i64 ((rd_T29 y140 x5_1).f1)) := hcc11 1 _ rfl; have hx11_2 : w26.cell? ⟨go5, (x5_1 : Int).toNat * 9 + 2, none⟩ = some (.int .i64 ((rd_T29 y140 x5_1).f2)) := hcc11 2 _ rfl; have hx11_3 : w26.cell? ⟨go5, (x5_1 : Int).toNat * 9 + 3, none⟩ = some (.int .i64 ((rd_T29 y140 x5_1).f3)) := hcc11 3 _ rfl; have hx11_4 : w26.cell? ⟨go5, (x5_1 : Int).toNat * 9 + 4, none⟩ = some (.int .i64 ((rd_T29 y140 x5_1).f4)) := hcc11 4 _ rfl; have hx11_5 : w26.cell? ⟨go5, (x5_1 : Int).toNat * 9 + 5, none⟩ = some (.int .i64 ((rd_T29 y140 x5_1).f5)) := hcc11 5 _ rfl; have hx11_6 : w26.cell? ⟨go5, (x5_1 : Int).toNat * 9 + 6, none⟩ = some (.int .i64 ((rd_T29 y140 x5_1).f6)) := hcc11 6 _ rfl; have hx11_7 : w26.cell? ⟨go5, (x5_1 : Int).toNat * 9 + 7, none⟩ = some (.bool ((rd_T29 y140 x5_1).f7)) := hcc11 7 _ rfl; have hx11_8 : w26.cell? ⟨go5, (x5_1 : Int).toNat * 9 + 8, none⟩ = some (ve11_8) := hcc11 8 _ rfl; have hf11_0 : w26.frozen? ⟨go5, (x5_1 : Int).toNat * 9, none⟩ = false := hfr11 0; have hf11_1 : w26.frozen? ⟨go5, (x5_1 : Int).toNat * 9 + 1, none⟩ = false := hfr11 1; have hf11_2 : w26.frozen? ⟨go5, (x5_1 : Int).toNat * 9 + 2, none⟩ = false := hfr11 2; have hf11_3 : w26.frozen? ⟨go5, (x5_1 : Int).toNat * 9 + 3, none⟩ = false := hfr11 3; have hf11_4 : w26.frozen? ⟨go5, (x5_1 : Int).toNat * 9 + 4, none⟩ = false := hfr11 4; have hf11_5 : w26.frozen? ⟨go5, (x5_1 : Int).toNat * 9 + 5, none⟩ = false := hfr11 5; have hf11_6 : w26.frozen? ⟨go5, (x5_1 : Int).toNat * 9 + 6, none⟩ = false := hfr11 6; have hf11_7 : w26.frozen? ⟨go5, (x5_1 : Int).toNat * 9 + 7, none⟩ = false := hfr11 7; have hf11_8 : w26.frozen? ⟨go5, (x5_1 : Int).toNat * 9 + 8, none⟩ = false := hfr11 8; clear hcl11 hcc11 hfr11 hM11; replace p11 := eq_true p11; replace q11 := eq_true q11; have HX27 := am (show Kd.S k29 29 w26 w0.heap.size (fun k_ => ((fun k_ => P0_ k_)) k_ ∧ ¬ ((fun _ => False)) k_) (.slice (some ⟨go5, 0, none⟩) x0_1.length co14) y140 from Q5); obtain ⟨oki27, ce27, hcl27, hM27, hcc27, hfr27, hoki27, hH27⟩ := Kd.S_elem HX27.out z29 (x5_1 : Int) (of_decide_eq_true Q1) (by have h_ : (x5_1 : Int) < ((x0_1.length : Int) : Int) := of_decide_eq_true Q1; first | exact h_ | (have e_ := (Kd.S_reads' HO_0.out).1; omega) | simpa using h_); obtain ⟨ve27_8, rfl, ge27_8⟩ := k29_openM hM27; have HP27 := Kd.S_seg hH27 (of_decide_eq_true Q1) (by have h_ : (x5_1 : Int) < ((x0_1.length : Int) : Int) := of_decide_eq_true Q1; first | exact h_ | (have e_ := (Kd.S_reads' HO_0.out).1; omega) | simpa using h_) (seg := [.int .i64 (wrap64 ((wrap64 ((wrap64 ((wrap64 ((wrap64 ((wrap64 (x1_1 + 1)) + 1)) + 1)) + 1)) + 1)) + 1))]) (j := 6) (show 7 ≤ 9 from by decide) (x' := (⟨(rd_T29 y140 x5_1).f0, (rd_T29 y140 x5_1).f1, (rd_T29 y140 x5_1).f2, (rd_T29 y140 x5_1).f3, (rd_T29 y140 x5_1).f4, (rd_T29 y140 x5_1).f5, wrap64 ((wrap64 ((wrap64 ((wrap64 ((wrap64 ((wrap64 (x1_1 + 1)) + 1)) + 1)) + 1)) + 1)) + 1), (rd_T29 y140 x5_1).f7, (rd_T29 y140 x5_1).f8⟩ : S29)) (k29_mkM _ _ _ (⟨(rd_T29 y140 x5_1).f0, (rd_T29 y140 x5_1).f1, (rd_T29 y140 x5_1).f2, (rd_T29 y140 x5_1).f3, (rd_T29 y140 x5_1).f4, (rd_T29 y140 x5_1).f5, wrap64 ((wrap64 ((wrap64 ((wrap64 ((wrap64 ((wrap64 (x1_1 + 1)) + 1)) + 1)) + 1)) + 1)) + 1), (rd_T29 y140 x5_1).f7, (rd_T29 y140 x5_1).f8⟩ : S29) (Kd.R_mono ge27_8 (fun _ h_ => Or.inl h_))) (fun _ hk => hk) (fun k_ hk_ => hk_.elim); have hx27_6 := hcc27 6 _ rfl; (try simp only [show (k29).sz = 9 from rfl, Nat.mul_one, Nat.add_zero] at hx27_6); have hf27_6 := hfr27 6; (try simp only [show (k29).sz = 9 from rfl, Nat.mul_one, Nat.add_zero] at hf27_6); clear hcl27 hcc27 hfr27 hM27 hoki27 hH27) | ((with_reducible refine gate_store (t := 3) (p := 58) rfl ?_); refine store_event (t := 3) (p := 58) (v := ?vo_w28) (w1 := (w26.setCell ⟨go5, (x5_1 : Int).toNat * 9 + 6, none⟩ (.int .i64 (wrap64 ((wrap64 ((wrap64 ((wrap64 ((wrap64 ((wrap64 (x1_1 + 1)) + 1)) + 1)) + 1)) + 1)) + 1))))) ?hg ?ho ?hn ?hr ?_; (case ho => rfl); (case hg => rfl); (case hn => rfl); (case hr => first | (go_simp; done) | (go_simp; rfl)); intro w28 hw; have hg : w26.grownBy w28 (some go5) := (by rw [hw]; exact HP27.2); have hp_ : Kd.S k29 29 w28 w0.heap.size (fun k_ => P0_ k_) (.slice (some ⟨go5, 0, none⟩) x0_1.length co14) y141 := (by rw [hw, Ny141.out]; exact HP27.1); clear HP27; replace HO_0 := am (hp_); replace HB := am ((by rw [hw]; exact below_set (HB.out) GB5.out : Below w0.heap.size w0 w28)); replace HK := am (Kept.of_grown (S := (fun k_ => PK_ k_)) hg Q7 (fun k_ e_ => .inl (HPK.out k_ e_))); clear hg hw hp_; have p12 : 0 ≤ (x5_1 : Int) := of_decide_eq_true Q1; have q12 : (x5_1 : Int) < ((x0_1.length : Int) : Int) := of_decide_eq_true Q1; obtain ⟨_, ce12, hcl12, hM12, hcc12, hfr12, _, _⟩ := Kd.S_elem HO_0.out z29 (x5_1 : Int) p12 q12; obtain ⟨ve12_8, rfl, ge12_8⟩ := k29_openM hM12; have hx12_0 : w28.cell? ⟨go5, (x5_1 : Int).toNat * 9, none⟩ = some (.int .i64 ((rd_T29 y141 x5_1).f0)) := hcc12 0 _ rfl; have hx12_1 : w28.cell? ⟨go5, (x5_1 : Int).toNat * 9 + 1, none⟩ = some (.int .i64 ((rd_T29 y141 x5_1).f1)) := hcc12 1 _ rfl; have hx12_2 : w28.cell? ⟨go5, (x5_1 : Int).toNat * 9 + 2, none⟩ = some (.int .i64 ((rd_T29 y141 x5_1).f2)) := hcc12 2 _ rfl; have hx12_3 : w28.cell? ⟨go5, (x5_1 : Int).toNat * 9 + 3, none⟩ = some (.int .i64 ((rd_T29 y141 x5_1).f3)) := hcc12 3 _ rfl; have hx12_4 : w28.cell? ⟨go5, (x5_1 : Int).toNat * 9 + 4, none⟩ = some (.int .i64 ((rd_T29 y141 x5_1).f4)) := hcc12 4 _ rfl; have hx12_5 : w28.cell? ⟨go5, (x5_1 : Int).toNat * 9 + 5, none⟩ = some (.int .i64 ((rd_T29 y141 x5_1).f5)) := hcc12 5 _ rfl; have hx12_6 : w28.cell? ⟨go5, (x5_1 : Int).toNat * 9 + 6, none⟩ = some (.int .i64 ((rd_T29 y141 x5_1).f6)) := hcc12 6 _ rfl; have hx12_7 : w28.cell? ⟨go5, (x5_1 : Int).toNat * 9 + 7, none⟩ = some (.bool ((rd_T29 y141 x5_1).f7)) := hcc12 7 _ rfl; have hx12_8 : w28.cell? ⟨go5, (x5_1 : Int).toNat * 9 + 8, none⟩ = some (ve12_8) := hcc12 8 _ rfl; have hf12_0 : w28.frozen? ⟨go5, (x5_1 : Int).toNat * 9, none⟩ = false := hfr12 0; have hf12_1 : w28.frozen? ⟨go5, (x5_1 : Int).toNat * 9 + 1, none⟩ = false := hfr12 1; have hf12_2 : w28.frozen? ⟨go5, (x5_1 : Int).toNat * 9 + 2, none⟩ = false := hfr12 2; have hf12_3 : w28.frozen? ⟨go5, (x5_1 : Int).toNat * 9 + 3, none⟩ = false := hfr12 3; have hf12_4 : w28.frozen? ⟨go5, (x5_1 : Int).toNat * 9 + 4, none⟩ = false := hfr12 4; have hf12_5 : w28.frozen? ⟨go5, (x5_1 : Int).toNat * 9 + 5, none⟩ = false := hfr12 5; have hf12_6 : w28.frozen? ⟨go5, (x5_1 : Int).toNat * 9 + 6, none⟩ = false := hfr12 6; have hf12_7 : w28.frozen? ⟨go5, (x5_1 : Int).toNat * 9 + 7, none⟩ = false := hfr12 7; have hf12_8 : w28.frozen? ⟨go5, (x5_1 : Int).toNat * 9 + 8, none⟩ = false := hfr12 8; clear hcl12 hcc12 hfr12 hM12; replace p12 := eq_true p12; replace q12 := eq_true q12; have HX29 := am (show Kd.S k29 29 w28 w0.heap.size (fun k_ => ((fun k_ => P0_ k_)) k_ ∧ ¬ ((fun _ => False)) k_) (.slice (some ⟨go5, 0, none⟩) x0_1.length co14) y141 from Q5); obtain ⟨oki29, ce29, hcl29, hM29, hcc29, hfr29, hoki29, hH29⟩ := Kd.S_elem HX29.out z29 (x5_1 : Int) (of_decide_eq_true Q1) (by have h_ : (x5_1 : Int) < ((x0_1.length : Int) : Int) := of_decide_eq_true Q1; first | exact h_ | (have e_ := (Kd.S_reads' HO_0.out).1; omega) | simpa using h_); obtain ⟨ve29_8, rfl, ge29_8⟩ := k29_openM hM29; have HP29 := Kd.S_seg hH29 (of_decide_eq_true Q1) (by have h_ : (x5_1 : Int) < ((x0_1.length : Int) : Int) := of_decide_eq_true Q1; first | exact h_ | (have e_ := (Kd.S_reads' HO_0.out).1; omega) | simpa using h_) (seg := [.bool ((Int.tmod (wrap64 ((wrap64 ((wrap64 ((wrap64 ((wrap64 ((wrap64 ((wrap64 (x1_1 + 1)) + 1)) + 1)) + 1)) + 1)) + 1)) + 1)) 3) == 0)]) (j := 7) (show 8 ≤ 9 from by decide) (x' := (⟨(rd_T29 y141 x5_1).f0, (rd_T29 y141 x5_1).f1, (rd_T29 y141 x5_1).f2, (rd_T29 y141 x5_1).f3, (rd_T29 y141 x5_1).f4, (rd_T29 y141 x5_1).f5, (rd_T29 y141 x5_1).f6, ((Int.tmod (wrap64 ((wrap64 ((wrap64 ((wrap64 ((wrap64 ((wrap64 ((wrap64 (x1_1 + 1)) + 1)) + 1)) + 1)) + 1)) + 1)) + 1)) 3) == 0), (rd_T29 y141 x5_1).f8⟩ : S29)) (k29_mkM _ _ _ (⟨(rd_T29 y141 x5_1).f0, (rd_T29 y141 x5_1).f1, (rd_T29 y141 x5_1).f2, (rd_T29 y141 x5_1).f3, (rd_T29 y141 x5_1).f4, (rd_T29 y141 x5_1).f5, (rd_T29 y141 x5_1).f6, ((Int.tmod (wrap64 ((wrap64 ((wrap64 ((wrap64 ((wrap64 ((wrap64 ((wrap64 (x1_1 + 1)) + 1)) + 1)) + 1)) + 1)) + 1)) + 1)) 3) == 0), (rd_T29 y141 x5_1).f8⟩ : S29) (Kd.R_mono ge29_8 (fun _ h_ => Or.inl h_))) (fun _ hk => hk) (fun k_ hk_ => hk_.elim); have hx29_7 := hcc29 7 _ rfl; (try simp only [show (k29).sz = 9 from rfl, Nat.mul_one, Nat.add_zero] at hx29_7); have hf29_7 := hfr29 7; (try simp only [show (k29).sz = 9 from rfl, Nat.mul_one, Nat.add_zero] at hf29_7); clear hcl29 hcc29 hfr29 hM29 hoki29 hH29) | ((with_reducible refine gate_store (t := 4) (p := 67) rfl ?_); refine store_event (t := 4) (p := 67) (v := ?vo_w30) (w1 := (w28.setCell ⟨go5, (x5_1 : Int).toNat * 9 + 7, none⟩ (.bool ((Int.tmod (wrap64 ((wrap64 ((wrap64 ((wrap64 ((wrap64 ((wrap64 ((wrap64 (x1_1 + 1)) + 1)) + 1)) + 1)) + 1)) + 1)) + 1)) 3) == 0)))) ?hg ?ho ?hn ?hr ?_; (case ho => rfl); (case hg => rfl); (case hn => rfl); (case hr => first | (go_simp; done) | (go_simp; rfl)); intro w30 hw; have hg : w28.grownBy w30 (some go5) := (by rw [hw]; exact HP29.2); have hp_ : Kd.S k29 29 w30 w0.heap.size (fun k_ => P0_ k_) (.slice (some ⟨go5, 0, none⟩) x0_1.length co14) y142 := (by rw [hw, Ny142.out]; exact HP29.1); clear HP29; replace HO_0 := am (hp_); replace HB := am ((by rw [hw]; exact below_set (HB.out) GB5.out : Below w0.heap.size w0 w30)); replace HK := am (Kept.of_grown (S := (fun k_ => PK_ k_)) hg Q7 (fun k_ e_ => .inl (HPK.out k_ e_))); clear hg hw hp_; have p143 : 0 ≤ (x5_1 : Int) := of_decide_eq_true Q1; have q143 : x5_1 < (y142.length : Int) := (by have h_ : (x5_1 : Int) < ((x0_1.length : Int) : Int) := of_decide_eq_true Q1; first | (have e_ := (Kd.S_reads' HO_0.out).1; omega) | simpa only [Ny135.out, Ny136.out, Ny137.out, Ny138.out, Ny139.out, Ny140.out, Ny141.out, Ny142.out, List.length_set] using h_); have ql143 : ((x5_1 : Int) < ((x0_1.length : Int) : Int)) = True := eq_true (of_decide_eq_true Q1); obtain ⟨ad143, A143_8, c143_8, e143, hx143_0, hx143_1, hx143_2, hx143_3, hx143_4, hx143_5, hx143_6, hx143_7, hx143_8, hl143_8, hi143_8⟩ := at_T29 (Kd.S_reads' HO_0.out).2.2 x5_1 p143 q143; obtain rfl : (⟨go5, 0, none⟩ : Addr) = ad143 := (by injection e143); obtain ⟨ce143, hce143, hMe143, hcc143⟩ := Kd.S_get HO_0.out z29 x5_1 p143 (by first | exact q143 | exact of_decide_eq_true Q1 | (have e_ := (Kd.S_reads' HO_0.out).1; omega)); obtain ⟨ve143_8, rfl, ge143_8⟩ := k29_openM hMe143; have hv143_8 := hcc143 8 _ rfl; rw [add_field _ _ 8 (by omega)] at hv143_8; replace hv143_8 := Option.some.inj (hv143_8.symm.trans hx143_8); rw [hv143_8] at ge143_8; have HL143_8 := am (show Kd.R k85 85 _ _ _ _ ((rd_T29 y142 x5_1).f8) from ge143_8); clear hv143_8 ge143_8; clear hcc143 hce143; (first | simp only [add_plain] at hx143_0 | simp only [add_at] at hx143_0 | simp only [Addr.add, Nat.zero_add] at hx143_0 | skip); (first | simp only [add_plain] at hx143_1 | simp only [add_at] at hx143_1 | simp only [Addr.add, Nat.zero_add] at hx143_1 | skip); (first | simp only [add_plain] at hx143_2 | simp only [add_at] at hx143_2 | simp only [Addr.add, Nat.zero_add] at hx143_2 | skip); (first | simp only [add_plain] at hx143_3 | simp only [add_at] at hx143_3 | simp only [Addr.add, Nat.zero_add] at hx143_3 | skip); (first | simp only [add_plain] at hx143_4 | simp only [add_at] at hx143_4 | simp only [Addr.add, Nat.zero_add] at hx143_4 | skip); (first | simp only [add_plain] at hx143_5 | simp only [add_at] at hx143_5 | simp only [Addr.add, Nat.zero_add] at hx143_5 | skip); (first | simp only [add_plain] at hx143_6 | simp only [add_at] at hx143_6 | simp only [Addr.add, Nat.zero_add] at hx143_6 | skip); (first | simp only [add_plain] at hx143_7 | simp only [add_at] at hx143_7 | simp only [Addr.add, Nat.zero_add] at hx143_7 | skip); (first | simp only [add_plain] at hx143_8 | simp only [add_at] at hx143_8 | simp only [Addr.add, Nat.zero_add] at hx143_8 | skip); have HR143_8 := am hi143_8; have HC143_8 := am hl143_8; clear hi143_8 hl143_8; replace p143 := eq_true p143; replace q143 := eq_true q143) | ((with_reducible refine gate_callee (f := 59) rfl ?_); refine goesL_ (some 76) rfl rfl Try.func59 kr rfl #[.slice A143_8 ((rd_T29 y142 x5_1).f8).length c143_8, .int .i64 (wrap64 ((wrap64 ((wrap64 ((wrap64 ((wrap64 ((wrap64 ((wrap64 ((wrap64 (x1_1 + 1)) + 1)) + 1)) + 1)) + 1)) + 1)) + 1)) + 1))] rfl Q0 ?_; (with_reducible refine (laws_markEntryS.calls k1 (fun k_ => some k_ = ((.slice A143_8 ((rd_T29 y142 x5_1).f8).length c143_8) : Value).ownBlock) (.slice A143_8 ((rd_T29 y142 x5_1).f8).length c143_8) ((rd_T29 y142 x5_1).f8) (wrap64 ((wrap64 ((wrap64 ((wrap64 ((wrap64 ((wrap64 ((wrap64 ((wrap64 (x1_1 + 1)) + 1)) + 1)) + 1)) + 1)) + 1)) + 1)) + 1)) t144 t144b w0 _ ?side1 ?side2 A13.out).mono ?_); (case side1 => exact Q2); (case side2 => exact (by exact Kd.R_tight rfl (by (with_reducible repeat (first | apply r1_ | apply r2_ | apply r3_)); exact HL143_8.out))); rintro e w31 ⟨rfl, hy_, hb, hkp_⟩; refine ⟨_, rfl, ?_⟩; have hp_ : 0 ≤ (x5_1 : Int) := of_eq_true p143; have hq_ := of_eq_true q143; have n0_ := am (S_lent_ (x' := (⟨(rd_T29 y142 x5_1).f0, (rd_T29 y142 x5_1).f1, (rd_T29 y142 x5_1).f2, (rd_T29 y142 x5_1).f3, (rd_T29 y142 x5_1).f4, (rd_T29 y142 x5_1).f5, (rd_T29 y142 x5_1).f6, (rd_T29 y142 x5_1).f7, t144b⟩ : S29)) Q6 z29 (x5_1 : Int) hp_ (by first | exact hq_ | exact of_decide_eq_true Q1 | (have e_ := (Kd.S_reads' HO_0.out).1; omega)) hkp_ (fun okq_ cq_ hcl_ hM_ hcc_ => by obtain ⟨vq_, rfl, gq_⟩ := k29_openM hM_; have hv_ := hcc_ 8 _ rfl; (try simp only [show (k29).sz = 9 from rfl] at hv_); obtain rfl : vq_ = (.slice A143_8 ((rd_T29 y142 x5_1).f8).length c143_8) := Option.some.inj (hv_.symm.trans (by first | exact hx143_8 | (simpa using hx143_8))); exact ⟨fun k_ e_ => gq_.1 k_ e_.symm, _, k29_mkM _ _ _ (⟨(rd_T29 y142 x5_1).f0, (rd_T29 y142 x5_1).f1, (rd_T29 y142 x5_1).f2, (rd_T29 y142 x5_1).f3, (rd_T29 y142 x5_1).f4, (rd_T29 y142 x5_1).f5, (rd_T29 y142 x5_1).f6, (rd_T29 y142 x5_1).f7, t144b⟩ : S29) (Kd.R_tight rfl hy_), fun k_ e_ => gq_.1 k_ e_.symm⟩)); have n3_ := am (Kept.then_ (S := (fun k_ => PK_ k_)) Q7 hkp_ (fun k_ e_ => .inl (HPI.out k_ ((Kd.R_mono (ok' := P0_) HL143_8.out (fun k_ h_ => h_.1)).1 k_ e_.symm)))); have n4_ := am (hb); clear HO_0; clear HL143_8; clear HR143_8; clear HK; clear HB; have HO_0 := n0_; have HK := n3_; have HB := n4_; clear n0_ n3_ n4_; (try clear hb); (try clear hb2); (try clear hkp_); (try clear hy_)))
   go_roundg k1
   case measure => have := HK1.out; omega
   case rel => exact ⟨(y142.set (x5_1 : Int).toNat (⟨(rd_T29 y142 x5_1).f0, (rd_T29 y142 x5_1).f1, (rd_T29 y142 x5_1).f2, (rd_T29 y142 x5_1).f3, (rd_T29 y142 x5_1).f4, (rd_T29 y142 x5_1).f5, (rd_T29 y142 x5_1).f6, (rd_T29 y142 x5_1).f7, t144b⟩ : S29)), (t144), (wrap64 (x5_1 + 1)), Q3, Q3, H', ⟨by have := HK1.out; omega⟩, ⟨Q6⟩, ⟨Q7⟩, ⟨Q2⟩⟩
theorem laws_markMsgS.calls (k : Nat) (P0_ : Nat → Prop) (u9000_ : Value) (l0 : List (S29)) (a1 : Int) (r1 : Int) (r2 : List (S29)) (w0 w : World) (hB : Below w0.heap.size w0 w) (ho0 : Kd.S k29 29 w w0.heap.size P0_ u9000_ l0) (h : laws_markMsgS.f k l0 a1 = some (r1, r2)) :
   Calls Try.prog 41 #[u9000_, .int .i64 a1] w fun e w' => e = .returned (.int .i64 r1) ∧ Kd.S k29 29 w' w0.heap.size (fun k_ => P0_ k_) u9000_ r2 ∧ Below w0.heap.size w0 w' ∧ Kept w w' (fun k_ => P0_ k_) :=
 laws_markMsgS.calls0 (fun k_ => P0_ k_) k P0_ u9000_ l0 a1 r1 r2 w0 w hB ho0 (fun k_ e_ => (Kd.S_R ho0).1 k_ e_) (fun k_ e_ => e_) h
def laws_markIntS.l0 : Nat → List Int → Int → Int → Option (Int × List Int)
 | 0, _, _, _ => none
 | k + 1, x0, x1, x5 => if x5 < (x0.length : Int) then (if 0 ≤ x5 then (laws_markIntS.l0 k (x0.set (x5 : Int).toNat x1) (wrap64 (x1 + 1)) (wrap64 (x5 + 1))) else (none)) else (some (x1, x0))
def laws_markIntS.f (k : Nat) (l0 : List Int) (a1 : Int) : Option (Int × List Int) := laws_markIntS.l0 k l0 a1 0
theorem laws_markIntS.mono_l : ∀ k, (∀ y0 y1 y2, LeO (laws_markIntS.l0 k y0 y1 y2) (laws_markIntS.l0 (k + 1) y0 y1 y2))
 | 0 => fun _ _ _ r h => by simp [laws_markIntS.l0] at h
 | k + 1 => by
   have ih0 := laws_markIntS.mono_l k
   · intro y0 y1 y2
     unfold laws_markIntS.l0
     repeat' first
     | (with_reducible exact ih0 _ _ _)
     | (with_reducible exact LeO.refl _)
     | (with_reducible exact LeO.none _)
     | (with_reducible refine LeO.ite ?_ ?_)
     | (with_reducible refine LeO.bind ?_ (fun _ => ?_))
     | exact ih0 _ _ _
     | exact LeO.none _
     | refine LeO.ite ?_ ?_
     | refine LeO.bind ?_ (fun _ => ?_)
theorem laws_markIntS.mono : ∀ a0 a1 k, LeO (laws_markIntS.f k a0 a1) (laws_markIntS.f (k + 1) a0 a1) := by
 intro a0 a1 k
 have ih0 := laws_markIntS.mono_l k
 unfold laws_markIntS.f
 repeat' first
     | (with_reducible exact ih0 _ _ _)
     | (with_reducible exact LeO.refl _)
     | (with_reducible exact LeO.none _)
     | (with_reducible refine LeO.ite ?_ ?_)
     | (with_reducible refine LeO.bind ?_ (fun _ => ?_))
     | exact ih0 _ _ _
     | exact LeO.none _
     | refine LeO.ite ?_ ?_
     | refine LeO.bind ?_ (fun _ => ?_)
set_option maxHeartbeats 8000000 in
set_option maxRecDepth 100000 in
theorem laws_markIntS.calls (k : Nat) (P0_ : Nat → Prop) (u9000_ : Value) (l0 : List Int) (a1 : Int) (r1 : Int) (r2 : List Int) (w0 w : World) (hB : Below w0.heap.size w0 w) (ho0 : Kd.R (Kd.int .i64) 3 w w0.heap.size P0_ u9000_ l0) (h : laws_markIntS.f k l0 a1 = some (r1, r2)) :
   Calls Try.prog 54 #[u9000_, .int .i64 a1] w fun e w' => e = .returned (.int .i64 r1) ∧ Kd.R (Kd.int .i64) 3 w' w0.heap.size (fun k_ => (P0_ k_ ∨ w.heap.size ≤ k_)) u9000_ r2 ∧ Below w0.heap.size w0 w' ∧ Kept w w' (fun k_ => P0_ k_) := by
 have HO0 := am (show Kd.R (Kd.int .i64) 3 w w0.heap.size (fun k_ => (P0_ k_ ∨ w.heap.size ≤ k_)) u9000_ l0 from Kd.R_mono ho0 (fun k_ hk => (.inl hk)))
 have HK := am (Kept.refl w (fun k_ => P0_ k_))
 have HW0 := am hB.size
 have HB := am hB
 clear hB
 have H : (laws_markIntS.l0 k l0 a1 0) = some (r1, r2) := h
 clear h
 have H' := am H
 clear H
 go_enter Try.func54, Try.ntmps54
 go_wp2
 go_loopg [1, 5] k (fun kq v1 v5 w' => ∃ (x0_1 : List Int) (x1_1 : Int) (x5_1 : Int), v1 = .int .i64 x1_1 ∧ v5 = .int .i64 x5_1 ∧ Aside0 (laws_markIntS.l0 kq x0_1 x1_1 x5_1 = some (r1, r2)) ∧ Aside0 (kq ≤ k) ∧ Aside0 (Kd.R (Kd.int .i64) 3 w' w0.heap.size (fun k_ => (P0_ k_ ∨ w.heap.size ≤ k_)) u9000_ x0_1) ∧ Aside0 (Kept w w' (fun k_ => P0_ k_)) ∧ Aside0 (Below w0.heap.size w0 w'))
 case atStart => exact ⟨(l0), (a1), (0), Q3, Q3, H', ⟨Nat.le_refl _⟩, ⟨u4_13⟩, ⟨Q7⟩, ⟨Q2⟩⟩
 clear H'
 obtain ⟨x0_1, x1_1, x5_1, rfl, rfl, HA, HK1, HO_0, HK, HB⟩ := hrel
 cases gk with
 | zero => exact absurd HA.out (by simp [laws_markIntS.l0])
 | succ k1 =>
   have H := HA.out
   clear HA
   simp only [laws_markIntS.l0] at H
   by_cases c3 : x5_1 < (x0_1.length : Int)
   rotate_left
   · rw [if_neg c3] at H
     have c3b0 : decide (x5_1 < (x0_1.length : Int)) = false := decide_eq_false c3
     clear c3
     simp only [Option.some.injEq, Prod.mk.injEq] at H
     obtain ⟨rfl, rfl⟩ := H
     obtain ⟨Ao9, co9, eo9⟩ := Kd.R_slice HO_0.out
     subst eo9
     go_wp2
     go_ret
     exact ⟨er, u4_6, Q2, Q7⟩
   rw [if_pos c3] at H
   have c3b0 : decide (x5_1 < (x0_1.length : Int)) = true := decide_eq_true c3
   clear c3
   by_cases c4 : 0 ≤ x5_1
   rotate_left
   · rw [if_neg c4] at H
     exact absurd H (by simp)
   rw [if_pos c4] at H
   have c4b0 : decide (0 ≤ x5_1) = true := decide_eq_true c4
   clear c4
   obtain ⟨y145, hy145⟩ : ∃ y_ : List Int, y_ = (x0_1.set (x5_1 : Int).toNat x1_1) := ⟨_, rfl⟩
   replace H : (laws_markIntS.l0 k1 y145 (wrap64 (x1_1 + 1)) (wrap64 (x5_1 + 1))) = some (r1, r2) := by first | (rw [hy145]; with_reducible exact H) | (have H2_ := (Option.bind_some _ _).symm.trans H; rw [hy145]; with_reducible exact H2_) | (have H2_ := (Option.bind_some _ _).symm.trans H; with_reducible exact H2_) | with_reducible exact H | (rw [hy145]; exact H) | exact H
   have Ny145 := am hy145
   clear hy145
   have H' := am H
   clear H
   obtain ⟨Ao6, co6, eo6⟩ := Kd.R_slice HO_0.out
   subst eo6
   have p5 : 0 ≤ (x5_1 : Int) := of_decide_eq_true Q1
   have q5 : (x5_1 : Int) < ((x0_1.length : Int) : Int) := of_decide_eq_true Q1
   obtain ⟨go5, co5, eo5, gb5, gl5, cl5, HG5⟩ := Kd.R_form HO_0.out (by omega)
   (first | cases eo5 | (injection eo5 with ea_ en_ ec_; (first | subst ea_ | (injection ea_ with ea_; subst ea_)); subst ec_; clear en_))
   have GB5 := am gb5
   have GG5 := am HG5
   clear gb5 gl5 HG5
   have HMgo5 := am (show (P0_ go5 ∨ w.heap.size ≤ go5) from (HO_0.out.1 _ rfl))
   obtain ⟨hx5_0, hf5_0⟩ := Kd.R_celln 0 HO_0.out (x5_1 : Int) p5 q5
   replace p5 := eq_true p5
   replace q5 := eq_true q5
   have HP7 := Kd.R_putg HO_0.out (x5_1 : Int) x1_1
   go_wp2_with (first | ((with_reducible refine gate_store (t := 3) (p := 15) rfl ?_); refine store_event (t := 3) (p := 15) (v := ?vo_w8) (w1 := (wr.setCell ⟨go5, (x5_1 : Int).toNat, none⟩ (.int .i64 x1_1))) ?hg ?ho ?hn ?hr ?_; (case ho => rfl); (case hg => rfl); (case hn => rfl); (case hr => first | (go_simp; done) | (go_simp; rfl)); intro w8 hw; have hg : wr.grownBy w8 (some go5) := (by rw [hw]; exact HP7.2); have hp_ : Kd.R (Kd.int .i64) 3 w8 w0.heap.size (fun k_ => (P0_ k_ ∨ w.heap.size ≤ k_)) (.slice (some ⟨go5, 0, none⟩) x0_1.length co6) y145 := (by rw [hw, Ny145.out]; exact HP7.1); clear HP7; replace HB := am ((by rw [hw]; exact below_set (HB.out) GB5.out : Below w0.heap.size w0 w8)); replace HK := am (Kept.of_grown (S := (fun k_ => P0_ k_)) hg Q7 (fun k_ e_ => (HO_0.out.1 k_ e_))); replace HO_0 := am (hp_); clear hg hw hp_))
   go_roundg k1
   case measure => have := HK1.out; omega
   case rel => exact ⟨(y145), (wrap64 (x1_1 + 1)), (wrap64 (x5_1 + 1)), Q3, Q3, H', ⟨by have := HK1.out; omega⟩, ⟨u4_6⟩, ⟨Q7⟩, ⟨Q2⟩⟩
def laws_markInt0.f (l0 : List Int) (a1 : Int) : Option Int := if l0.length = 0 then some a1 else none
set_option maxHeartbeats 400000 in
theorem laws_markInt0.calls (A0 : Option Addr) (c0 : Nat) (l0 : List Int) (a1 : Int) (r : Int) (w : World) (hr0 : Kd.C (Kd.int .i64) w A0 l0.length l0) (hc0 : l0.length ≤ c0) (h : laws_markInt0.f l0 a1 = some r) :
   Calls Try.prog 54 #[.slice A0 l0.length c0, .int .i64 a1] w fun e w' => e = .returned (.int .i64 r) ∧ Below w.heap.size w w' := by
 have hn : l0.length = 0 ∧ a1 = r := by
   unfold laws_markInt0.f at h
   by_cases e : l0.length = 0
   · rw [if_pos e] at h; exact ⟨e, Option.some.inj h⟩
   · rw [if_neg e] at h; exact absurd h (by simp)
 obtain ⟨hl, rfl⟩ := hn
 have HL := am hl
 clear h hl hr0 hc0
 go_enter Try.func54, Try.ntmps54
 go_wp2
 go_loopg [1, 5] 1 (fun kq v1 v5 w' => ∃ x5 : Int, v1 = .int .i64 a1 ∧ v5 = .int .i64 x5 ∧ Aside0 (x5 = 0) ∧ Aside0 (Below w.heap.size w w'))
 case atStart => exact ⟨0, rfl, rfl, ⟨rfl⟩, ⟨u4_11⟩⟩
 obtain ⟨x5, rfl, rfl, X5, HB⟩ := hrel
 have c3 : decide (x5 < (l0.length : Int)) = false := decide_eq_false (by have := HL.out; have := X5.out; omega)
 go_wp2
 go_ret
 exact ⟨rfl, u4_14⟩
end Go.Proofs.Ytkcadcoohmofcaa.QFnExactSettled
