import Derived.Test.YtoemdmjdpikfbaaSqFnExactPlayConf
import Derived.Test.YtoemdmjdpikfbaaQFnExactPlayConfx0
import Derived.Test.YtoemdmjdpikfbaaQFnExactPlayConfx1
namespace Go.Proofs.Ytoemdmjdpikfbaa.QFnExactPlayConf
open Go.RowKit Go.Proofs.YtoemdmjdpikfbaaW.PrintWords Go.Proofs.YtoemdmjdpikfbaaW.PrintLast Go.Proofs.YtoemdmjdpikfbaaW.PrintMore Go.Proofs.Ytoemdmjdpikfbaa.SqFnExactPlayConf
attribute [local go_sem] max2_int min2_int max_two min_two max_three min_three max_four min_four Go.Proofs.Ytoemdmjdpikfbaa.Set.isSome_setCell
set_option linter.unusedVariables false
set_option linter.unusedSimpArgs false
theorem u8_4 {P : Prop} (h : P := by (with_reducible repeat (first | apply b1_ | apply b2_ | apply b3_)); exact BK375.out) : P := h
theorem u8_9 {P : Prop} (h : P := by (with_reducible repeat (first | apply b1_ | apply b2_ | apply b3_)); exact BK376.out) : P := h
theorem u8_10 {P : Prop} (h : P := by (with_reducible repeat (first | apply s1_ | apply s2_ | apply s3_)); exact HO_3.out) : P := h
theorem u8_11 {P : Prop} (h : P := by repeat (first | exact Below.refl _ _ | apply below_drewN | apply pw_below_drewN | apply below_drew1)) : P := h
def laws_toConfOp.f (k : Nat) (a0_0 : Int) (a0_1 : Int) (l0_2 : List Int) : Option (Int × Int × List Int) := (laws_toIntS.f k l0_2).bind fun t378 => (some (a0_0, a0_1, t378))
theorem laws_toConfOp.mono : ∀ a0 a1 a2 k, LeO (laws_toConfOp.f k a0 a1 a2) (laws_toConfOp.f (k + 1) a0 a1 a2) := by
 intro a0 a1 a2 k
 unfold laws_toConfOp.f
 repeat' first
     | (with_reducible exact laws_toIntS.mono _ _)
     | (with_reducible exact LeO.refl _)
     | (with_reducible exact LeO.none _)
     | (with_reducible refine LeO.ite ?_ ?_)
     | (with_reducible refine LeO.bind ?_ (fun _ => ?_))
     | exact laws_toIntS.mono _ _
     | exact LeO.none _
     | refine LeO.ite ?_ ?_
     | refine LeO.bind ?_ (fun _ => ?_)
set_option maxHeartbeats 8000000 in
set_option maxRecDepth 100000 in
theorem laws_toConfOp.calls (k : Nat) (a0_0 : Int) (a0_1 : Int) (A0_2 : Option Addr) (c0_2 : Nat) (l0_2 : List Int) (r1 : Int) (r2 : Int) (r3 : List Int) (w : World) (hr0_2 : Kd.C (Kd.int .i64) w A0_2 l0_2.length l0_2) (hc0_2 : l0_2.length ≤ c0_2) (h : laws_toConfOp.f k a0_0 a0_1 l0_2 = some (r1, r2, r3)) :
   Calls Try.prog 62 #[.agg #[.int .i64 a0_0, .int .i64 a0_1, .slice A0_2 l0_2.length c0_2]] w fun e w' => ∃ v2_ : Value, e = .returned (.agg #[.int .i64 r1, .int .i64 r2, v2_]) ∧ Kd.R (Kd.int .i64) 3 w' w.heap.size (fun _ => True) v2_ r3 ∧ Below w.heap.size w w' := by
 have hu76 := Try.underlying76
 have hu77 := Try.underlying77
 have HR0_2 := am hr0_2
 have HC0_2 := am hc0_2
 clear hr0_2 hc0_2
 have HB := am (Below.refl w.heap.size w)
 have H : ((laws_toIntS.f k l0_2).bind fun t378 => (some (a0_0, a0_1, t378))) = some (r1, r2, r3) := h
 clear h
 replace H := Option.bind_eq_some_iff.mp H
 obtain ⟨t378, A20, H⟩ := H
 replace H : (some (a0_0, a0_1, t378)) = some (r1, r2, r3) := H
 have A2 := am A20
 clear A20
 simp only [Option.some.injEq, Prod.mk.injEq] at H
 obtain ⟨rfl, rfl, rfl⟩ := H
 go_enter Try.func62, Try.ntmps62
 go_wp2_with (first | ((with_reducible refine gate_dst (N := 1) rfl ?_); refine box_event ?hg (N := 1) ?hd (cs := #[.int .i64 a0_0, .int .i64 a0_1, .slice A0_2 l0_2.length c0_2]) (t := 76) ?hr ?_; (case hd => rfl); (case hg => rfl); (case hr => first | (go_simp; done) | (go_simp; rfl)); intro gb375 hg w3 hbox hb; have BK375 := am (hbox); have GW375 := am ((by rw [hg]; exact (below_size Q6) : w.heap.size ≤ gb375)); have GE375 := am ((by rw [hg]; exact (below_size Q6) : w.heap.size ≤ gb375)); replace HB := am (below_step Q6 hb); clear hb hbox hg) | ((with_reducible refine gate_dst (N := 2) rfl ?_); refine box_event ?hg (N := 2) ?hd (cs := #[.int .i64 0, .int .i64 0, .slice none 0 0]) (t := 77) ?hr ?_; (case hd => rfl); (case hg => rfl); (case hr => first | (go_simp; done) | (go_simp; rfl)); intro gb376 hg w4 hbox hb; have BK376 := am (hbox); have GW376 := am ((by rw [hg]; exact (below_size Q6) : w.heap.size ≤ gb376)); have GE376 := am ((by rw [hg]; exact (below_size Q6) : w.heap.size ≤ gb376)); replace HB := am (below_step Q6 hb); have NB375_376 := am ((by rw [hg]; exact Nat.ne_of_lt (blk_lt (g := gb375) (o := .cells #[.int .i64 a0_0, .int .i64 a0_1, .slice A0_2 l0_2.length c0_2] 76 (0, 0)) u8_4) : gb375 ≠ gb376)); have NB376_375 := am ((by rw [hg]; exact Nat.ne_of_gt (blk_lt (g := gb375) (o := .cells #[.int .i64 a0_0, .int .i64 a0_1, .slice A0_2 l0_2.length c0_2] 76 (0, 0)) u8_4) : gb376 ≠ gb375)); replace BK375 := am (bb_ BK375.out u8_4 hb); clear hb hbox hg) | ((with_reducible refine gate_dst (N := 3) rfl ?_); refine box_event ?hg (N := 3) ?hd (cs := #[.int .i64 0, .int .i64 0, .slice none 0 0]) (t := 77) ?hr ?_; (case hd => rfl); (case hg => rfl); (case hr => first | (go_simp; done) | (go_simp; rfl)); intro gb377 hg w5 hbox hb; have BK377 := am (hbox); have GW377 := am ((by rw [hg]; exact (below_size Q6) : w.heap.size ≤ gb377)); have GE377 := am ((by rw [hg]; exact (below_size Q6) : w.heap.size ≤ gb377)); replace HB := am (below_step Q6 hb); have NB375_377 := am ((by rw [hg]; exact Nat.ne_of_lt (blk_lt (g := gb375) (o := .cells #[.int .i64 a0_0, .int .i64 a0_1, .slice A0_2 l0_2.length c0_2] 76 (0, 0)) u8_4) : gb375 ≠ gb377)); have NB377_375 := am ((by rw [hg]; exact Nat.ne_of_gt (blk_lt (g := gb375) (o := .cells #[.int .i64 a0_0, .int .i64 a0_1, .slice A0_2 l0_2.length c0_2] 76 (0, 0)) u8_4) : gb377 ≠ gb375)); replace BK375 := am (bb_ BK375.out u8_4 hb); have NB376_377 := am ((by rw [hg]; exact Nat.ne_of_lt (blk_lt (g := gb376) (o := .cells #[.int .i64 0, .int .i64 0, .slice none 0 0] 77 (0, 0)) u8_9) : gb376 ≠ gb377)); have NB377_376 := am ((by rw [hg]; exact Nat.ne_of_gt (blk_lt (g := gb376) (o := .cells #[.int .i64 0, .int .i64 0, .slice none 0 0] 77 (0, 0)) u8_9) : gb377 ≠ gb376)); replace BK376 := am (bb_ BK376.out u8_9 hb); clear hb hbox hg; have hnb6 := NB375_376.out; have hnc6 := NB376_375.out; have hnb7 := NB375_377.out; have hnc7 := NB377_375.out; obtain ⟨hcz8_0, hcz8_1, hcz8_2, hfz8_0, hfz8_1, hfz8_2⟩ := bc3f w5 BK375.out; have hnb9 := NB377_376.out; have hnc9 := NB376_377.out; obtain ⟨hcz10_0, hcz10_1, hcz10_2, hfz10_0, hfz10_1, hfz10_2⟩ := bc3f w5 BK377.out) | ((with_reducible refine gate_callee (f := 58) rfl ?_); refine goesL_ (some 12) rfl rfl Try.func58 kr rfl #[.slice A0_2 l0_2.length c0_2] rfl Q10 ?_; (with_reducible refine (laws_toIntS.calls k _ _ l0_2 t378 _ ?side1 ?side2 A2.out).mono ?_); (case side1 => exact (by exact Kd.C_below HR0_2.out Q6)); (case side2 => exact HC0_2.out); rintro e w11 ⟨v379, rfl, ho0, hb⟩; refine ⟨_, rfl, ?_⟩; have HO380 := am (Kd.R_lower ho0 (below_size Q6)); replace BK375 := am (blk_below (g := gb375) (o := .cells #[.int .i64 a0_0, .int .i64 a0_1, .slice A0_2 l0_2.length c0_2] 76 (0, 0)) (by (with_reducible repeat (first | apply b1_ | apply b2_ | apply b3_)); refine blk_far ?_ NB375_377.out _; (with_reducible repeat (first | apply b1_ | apply b2_ | apply b3_)); refine blk_far ?_ NB375_377.out _; (with_reducible repeat (first | apply b1_ | apply b2_ | apply b3_)); exact BK375.out) hb); replace BK376 := am (blk_below (g := gb376) (o := .cells #[.int .i64 0, .int .i64 0, .slice none 0 0] 77 (0, 0)) (by (with_reducible repeat (first | apply b1_ | apply b2_ | apply b3_)); refine blk_far ?_ NB376_377.out _; (with_reducible repeat (first | apply b1_ | apply b2_ | apply b3_)); refine blk_far ?_ NB376_377.out _; (with_reducible repeat (first | apply b1_ | apply b2_ | apply b3_)); exact BK376.out) hb); replace BK377 := am (blk_below (g := gb377) (o := .cells #[.int .i64 a0_0, .int .i64 a0_1, .slice none 0 0] 77 (0, 0)) (by (with_reducible repeat (first | apply b1_ | apply b2_ | apply b3_)); refine blk_put (cs := #[.int .i64 a0_0, .int .i64 0, .slice none 0 0]) ?_ 1 _ rfl; (with_reducible repeat (first | apply b1_ | apply b2_ | apply b3_)); refine blk_put (cs := #[.int .i64 0, .int .i64 0, .slice none 0 0]) ?_ 0 _ rfl; (with_reducible repeat (first | apply b1_ | apply b2_ | apply b3_)); exact BK377.out) hb); replace HB := am (below_step Q6 hb); (try clear hb); (try clear hb2); (try clear hk); (try clear hi); (try clear ho0); obtain ⟨Ao12, co12, eo12⟩ := Kd.R_slice HO380.out; subst eo12; obtain ⟨hcz13_0, hcz13_1, hcz13_2, hfz13_0, hfz13_1, hfz13_2⟩ := bc3f w11 BK377.out; obtain ⟨hcz14_0, hcz14_1, hcz14_2, hfz14_0, hfz14_1, hfz14_2⟩ := bc3f w11 BK376.out))
 refine bodyPost_ret (results_cell_row rfl _ _ gb376 77 #[.int .i64 a0_0, .int .i64 a0_1, .slice Ao12 t378.length co12] (0, 0) _ rfl (by (with_reducible repeat (first | apply b1_ | apply b2_ | apply b3_)); refine blk_put (cs := #[.int .i64 a0_0, .int .i64 a0_1, .slice none 0 0]) ?_ 2 _ rfl; (with_reducible repeat (first | apply b1_ | apply b2_ | apply b3_)); refine blk_put (cs := #[.int .i64 a0_0, .int .i64 0, .slice none 0 0]) ?_ 1 _ rfl; (with_reducible repeat (first | apply b1_ | apply b2_ | apply b3_)); refine blk_put (cs := #[.int .i64 0, .int .i64 0, .slice none 0 0]) ?_ 0 _ rfl; (with_reducible repeat (first | apply b1_ | apply b2_ | apply b3_)); refine blk_far ?_ NB376_377.out _; (with_reducible repeat (first | apply b1_ | apply b2_ | apply b3_)); exact BK376.out) Try.underlying77 rfl kr) rfl ?_
 exact ⟨_, er, (by (with_reducible repeat (first | apply r1_ | apply r2_ | apply r3_)); exact Kd.R_mono (Kd.R_far (p := ⟨gb376, 2, none⟩) (Kd.R_far (p := ⟨gb376, 1, none⟩) (Kd.R_far (p := ⟨gb376, 0, none⟩) (Kd.R_far (p := ⟨gb377, 2, none⟩) (Kd.R_types (Kd.R_types HO380.out BK377.out (by decide)) BK376.out (by decide)) (fun _ hk => hk.1.2) (.slice Ao12 t378.length co12)) (fun _ hk => hk.2) (.int .i64 a0_0)) (fun _ hk => hk.2) (.int .i64 a0_1)) (fun _ hk => hk.2) (.slice Ao12 t378.length co12)) (fun _ hk => trivial)), Q6⟩
def laws_toConfOpS.l0 : Nat → List (S76) → List (S77) → Int → Option ((List (S77)))
 | 0, _, _, _ => none
 | k + 1, x0, x3, x4 => if x4 < (x0.length : Int) then (if 0 ≤ x4 then ((laws_toConfOp.f k ((rd_T76 x0 x4).f0) ((rd_T76 x0 x4).f1) ((rd_T76 x0 x4).f2)).bind fun bt385 => (if x4 < (x3.length : Int) then (laws_toConfOpS.l0 k x0 (x3.set (x4 : Int).toNat (⟨bt385.1, bt385.2.1, bt385.2.2⟩ : S77)) (wrap64 (x4 + 1))) else (none))) else (none)) else (some x3)
def laws_toConfOpS.f (k : Nat) (l0 : List (S76)) : Option ((List (S77))) := if 0 ≤ (l0.length : Int) then (if ((l0.length : Int) : Int).toNat ≤ 7036874417766 then (laws_toConfOpS.l0 k l0 (List.replicate ((l0.length : Int) : Int).toNat z77) 0) else (none)) else (none)
theorem laws_toConfOpS.mono_l : ∀ k, (∀ y0 y1 y2, LeO (laws_toConfOpS.l0 k y0 y1 y2) (laws_toConfOpS.l0 (k + 1) y0 y1 y2))
 | 0 => fun _ _ _ r h => by simp [laws_toConfOpS.l0] at h
 | k + 1 => by
   have ih0 := laws_toConfOpS.mono_l k
   · intro y0 y1 y2
     unfold laws_toConfOpS.l0
     repeat' first
     | (with_reducible exact ih0 _ _ _)
     | (with_reducible exact laws_toConfOp.mono _ _ _ _)
     | (with_reducible exact LeO.refl _)
     | (with_reducible exact LeO.none _)
     | (with_reducible refine LeO.ite ?_ ?_)
     | (with_reducible refine LeO.bind ?_ (fun _ => ?_))
     | exact ih0 _ _ _
     | exact laws_toConfOp.mono _ _ _ _
     | exact LeO.none _
     | refine LeO.ite ?_ ?_
     | refine LeO.bind ?_ (fun _ => ?_)
theorem laws_toConfOpS.mono : ∀ a0 k, LeO (laws_toConfOpS.f k a0) (laws_toConfOpS.f (k + 1) a0) := by
 intro a0 k
 have ih0 := laws_toConfOpS.mono_l k
 unfold laws_toConfOpS.f
 repeat' first
     | (with_reducible exact ih0 _ _ _)
     | (with_reducible exact laws_toConfOp.mono _ _ _ _)
     | (with_reducible exact LeO.refl _)
     | (with_reducible exact LeO.none _)
     | (with_reducible refine LeO.ite ?_ ?_)
     | (with_reducible refine LeO.bind ?_ (fun _ => ?_))
     | exact ih0 _ _ _
     | exact laws_toConfOp.mono _ _ _ _
     | exact LeO.none _
     | refine LeO.ite ?_ ?_
     | refine LeO.bind ?_ (fun _ => ?_)
set_option maxHeartbeats 8000000 in
set_option maxRecDepth 100000 in
theorem laws_toConfOpS.calls (k : Nat) (A0 : Option Addr) (c0 : Nat) (l0 : List (S76)) (r : List (S77)) (w : World) (hr0 : Kd.C k76 w A0 l0.length l0) (hc0 : l0.length ≤ c0) (h : laws_toConfOpS.f k l0 = some r) :
   Calls Try.prog 32 #[.slice A0 l0.length c0] w fun e w' => ∃ v0_ : Value, e = .returned (v0_) ∧ Kd.S k77 77 w' w.heap.size (fun _ => True) v0_ r ∧ Below w.heap.size w w' := by
 have hu76 := Try.underlying76
 have hu77 := Try.underlying77
 have HR0 := am hr0
 have HC0 := am hc0
 clear hr0 hc0
 have HB := am (Below.refl w.heap.size w)
 have H : (if 0 ≤ (l0.length : Int) then (if ((l0.length : Int) : Int).toNat ≤ 7036874417766 then (laws_toConfOpS.l0 k l0 (List.replicate ((l0.length : Int) : Int).toNat z77) 0) else (none)) else (none)) = some r := h
 clear h
 by_cases c2 : 0 ≤ (l0.length : Int)
 rotate_left
 · rw [if_neg c2] at H
   exact absurd H (by simp)
 rw [if_pos c2] at H
 have c2b0 := eq_true c2
 have c2b1 : decide (0 ≤ (l0.length : Int)) = true := decide_eq_true c2
 clear c2
 by_cases c3 : ((l0.length : Int) : Int).toNat ≤ 7036874417766
 rotate_left
 · rw [if_neg c3] at H
   exact absurd H (by simp)
 rw [if_pos c3] at H
 have c3b0 := eq_true c3
 have c3b1 : decide (((l0.length : Int) : Int).toNat ≤ 7036874417766) = true := decide_eq_true c3
 clear c3
 obtain ⟨y381, hy381⟩ : ∃ y_ : List (S77), y_ = (List.replicate ((l0.length : Int) : Int).toNat z77) := ⟨_, rfl⟩
 replace H : (laws_toConfOpS.l0 k l0 y381 0) = some r := by first | (rw [hy381]; with_reducible exact H) | (have H2_ := (Option.bind_some _ _).symm.trans H; rw [hy381]; with_reducible exact H2_) | (have H2_ := (Option.bind_some _ _).symm.trans H; with_reducible exact H2_) | with_reducible exact H | (rw [hy381]; exact H) | exact H
 have Ny381 := am hy381
 clear hy381
 have H' := am H
 clear H
 go_enter Try.func32, Try.ntmps32
 go_wp2_with (first | ((with_reducible refine gate_dst (N := 7) rfl ?_); refine Kd.S_make k77 _ 77 rfl (N := 7) rfl 51 _ _ rfl (l0.length : Int) rfl rfl Try.underlying51 (.agg #[(.int .i64 0), (.int .i64 0), (.slice none 0 0)]) 40 info77 rfl (by decide) (by omega) z77 (ok := fun _ => True) (okp := fun _ => True) (k77_mkM _ _ _ z77 (Kd.R_nil _ _ _ _ _)) (fun _ hk => hk) trivial (of_decide_eq_true Q5) (Nat.le_trans (Nat.mul_le_mul_right _ (of_decide_eq_true Q5 : (l0.length : Int).toNat ≤ 7036874417766)) (by omega)) (Below.refl _ _) (Nat.le_refl _) ?_; intro v382 w4 ho5 hb hg_ hnew_; clear hg_ hnew_; (first | rw [← Ny381.out] at ho5 | (simp only [Int.reduceToNat] at ho5; rw [← Ny381.out] at ho5)); have HO383 := am (Kd.S_lower ho5 (below_size Q6)); replace HB := am (below_step Q6 hb); clear hb ho5))
 go_loopg [4] k (fun kq v4 w' => ∃ (x3_1 : List (S77)) (x4_1 : Int), v4 = .int .i64 x4_1 ∧ Aside0 (laws_toConfOpS.l0 kq l0 x3_1 x4_1 = some r) ∧ Aside0 (kq ≤ k) ∧ Aside0 (Kd.S k77 77 w' w.heap.size (fun _ => True) v382 x3_1) ∧ Aside0 (Below w.heap.size w w'))
 case atStart => exact ⟨(y381), (0), Q9, H', ⟨Nat.le_refl _⟩, ⟨(by (with_reducible repeat (first | apply s1_ | apply s2_ | apply s3_)); exact HO383.out)⟩, ⟨Q6⟩⟩
 clear H'
 try clear c2
 try clear c2b0
 try clear c2b1
 try clear c3
 try clear c3b0
 try clear c3b1
 obtain ⟨x3_1, x4_1, rfl, HA, HK1, HO_3, HB⟩ := hrel
 cases gk with
 | zero => exact absurd HA.out (by simp [laws_toConfOpS.l0])
 | succ k1 =>
   have H := HA.out
   clear HA
   simp only [laws_toConfOpS.l0] at H
   by_cases c6 : x4_1 < (l0.length : Int)
   rotate_left
   · rw [if_neg c6] at H
     have c6b0 : decide (x4_1 < (l0.length : Int)) = false := decide_eq_false c6
     clear c6
     obtain rfl := sj H
     go_wp2
     go_ret
     exact ⟨_, er, u8_10, Q6⟩
   rw [if_pos c6] at H
   have c6b0 : decide (x4_1 < (l0.length : Int)) = true := decide_eq_true c6
   clear c6
   by_cases c7 : 0 ≤ x4_1
   rotate_left
   · rw [if_neg c7] at H
     exact absurd H (by simp)
   rw [if_pos c7] at H
   have c7b0 : decide (0 ≤ x4_1) = true := decide_eq_true c7
   clear c7
   replace H := Option.bind_eq_some_iff.mp H
   obtain ⟨⟨t385, t386, t387⟩, A80, H⟩ := H
   (try dsimp only at H)
   have A8 := am A80
   clear A80
   by_cases c9 : x4_1 < (x3_1.length : Int)
   rotate_left
   · rw [if_neg c9] at H
     exact absurd H (by simp)
   rw [if_pos c9] at H
   have c9b0 : decide (x4_1 < (x3_1.length : Int)) = true := decide_eq_true c9
   clear c9
   obtain ⟨y390, hy390⟩ : ∃ y_ : List (S77), y_ = (x3_1.set (x4_1 : Int).toNat (⟨t385, t386, t387⟩ : S77)) := ⟨_, rfl⟩
   replace H : (laws_toConfOpS.l0 k1 l0 y390 (wrap64 (x4_1 + 1))) = some r := by first | (rw [hy390]; with_reducible exact H) | (have H2_ := (Option.bind_some _ _).symm.trans H; rw [hy390]; with_reducible exact H2_) | (have H2_ := (Option.bind_some _ _).symm.trans H; with_reducible exact H2_) | with_reducible exact H | (rw [hy390]; exact H) | exact H
   have Ny390 := am hy390
   clear hy390
   have H' := am H
   clear H
   have p384 : 0 ≤ (x4_1 : Int) := of_decide_eq_true Q5
   have q384 : x4_1 < (l0.length : Int) := of_decide_eq_true Q5
   obtain ⟨ad384, A384_2, c384_2, e384, hx384_0, hx384_1, hx384_2, hl384_2, hi384_2⟩ := at_T76 HR0.out x4_1 p384 q384
   cases e384
   replace hx384_0 := cm HB.out hx384_0
   replace hx384_1 := cm HB.out hx384_1
   replace hx384_2 := cm HB.out hx384_2
   have HR384_2 := am hi384_2
   have HC384_2 := am hl384_2
   clear hi384_2 hl384_2
   replace p384 := eq_true p384
   replace q384 := eq_true q384
   go_wp2_with (first | ((with_reducible refine gate_callee (f := 62) rfl ?_); refine goesL_ (some 20) rfl rfl Try.func62 kr rfl #[.agg #[.int .i64 ((rd_T76 l0 x4_1).f0), .int .i64 ((rd_T76 l0 x4_1).f1), .slice A384_2 ((rd_T76 l0 x4_1).f2).length c384_2]] rfl Q10 ?_; (with_reducible refine (laws_toConfOp.calls k1 ((rd_T76 l0 x4_1).f0) ((rd_T76 l0 x4_1).f1) _ _ ((rd_T76 l0 x4_1).f2) t385 t386 t387 _ ?side1 ?side2 A8.out).mono ?_); (case side1 => exact (by repeat (first | exact (Kd.C_below HR384_2.out HB.out) | (with_reducible refine Kd.C_alloc ?_ _) | (with_reducible refine Kd.C_drewN ?_ _) | (with_reducible refine Kd.C_drew ?_)))); (case side2 => exact HC384_2.out); rintro e w11 ⟨v388, rfl, ho0, hb⟩; refine ⟨_, rfl, ?_⟩; replace HO_3 := am (Kd.S_elder' u8_10 (Kd.R_base ho0) hb); have HO389 := am (Kd.R_lower ho0 (below_size Q6)); replace HB := am (below_step Q6 hb); (try clear hb); (try clear hb2); (try clear hk); (try clear hi); (try clear ho0); have p10 : 0 ≤ (x4_1 : Int) := of_decide_eq_true Q5; have q10 : (x4_1 : Int) < ((x3_1.length : Int) : Int) := of_decide_eq_true Q5; obtain ⟨go10, co10, eo10, gb10, gl10, cl10, HG10⟩ := Kd.S_form HO_3.out (by omega); (first | cases eo10 | (injection eo10 with ea_ en_ ec_; (first | subst ea_ | (injection ea_ with ea_; subst ea_)); subst ec_; clear en_)); have GB10 := am gb10; have GG10 := am HG10; clear gb10 gl10 HG10; obtain ⟨_, ce10, hcl10, hM10, hcc10, hfr10, _, _⟩ := Kd.S_elem HO_3.out z77 (x4_1 : Int) p10 q10; obtain ⟨ve10_2, rfl, ge10_2⟩ := k77_openM hM10; have hx10_0 : w11.cell? ⟨go10, (x4_1 : Int).toNat * 3, none⟩ = some (.int .i64 ((rd_T77 x3_1 x4_1).f0)) := hcc10 0 _ rfl; have hx10_1 : w11.cell? ⟨go10, (x4_1 : Int).toNat * 3 + 1, none⟩ = some (.int .i64 ((rd_T77 x3_1 x4_1).f1)) := hcc10 1 _ rfl; have hx10_2 : w11.cell? ⟨go10, (x4_1 : Int).toNat * 3 + 2, none⟩ = some (ve10_2) := hcc10 2 _ rfl; have hf10_0 : w11.frozen? ⟨go10, (x4_1 : Int).toNat * 3, none⟩ = false := hfr10 0; have hf10_1 : w11.frozen? ⟨go10, (x4_1 : Int).toNat * 3 + 1, none⟩ = false := hfr10 1; have hf10_2 : w11.frozen? ⟨go10, (x4_1 : Int).toNat * 3 + 2, none⟩ = false := hfr10 2; clear hcl10 hcc10 hfr10 hM10; replace p10 := eq_true p10; replace q10 := eq_true q10; obtain ⟨Ao12, co12, eo12⟩ := Kd.R_slice HO389.out; subst eo12; have n_ := am (Kd.S_mono (ok' := (fun k_ => some k_ ≠ (.slice Ao12 t387.length co12 : Value).ownBlock)) HO_3.out (fun k_ hk => hk.2)); clear HO_3; have HO_3 := n_; clear n_; have HX13 := am (show Kd.S k77 77 w11 w.heap.size (fun k_ => ((fun _ => True)) k_ ∧ ¬ ((fun k_ => some k_ = (.slice Ao12 t387.length co12 : Value).ownBlock)) k_) (.slice (some ⟨go10, 0, none⟩) x3_1.length co10) x3_1 from (by (with_reducible repeat (first | apply s1_ | apply s2_ | apply s3_)); exact Kd.S_mono HO_3.out (fun k_ hk => ⟨trivial, fun e_ => hk e_⟩))); obtain ⟨oki13, ce13, hcl13, hM13, hcc13, hfr13, hoki13, hH13⟩ := Kd.S_elem HX13.out z77 (x4_1 : Int) (of_decide_eq_true Q5) (by have h_ : (x4_1 : Int) < ((x3_1.length : Int) : Int) := of_decide_eq_true Q5; first | exact h_ | (have e_ := (Kd.S_reads' HO_3.out).1; omega) | simpa using h_); obtain ⟨ve13_2, rfl, ge13_2⟩ := k77_openM hM13; have HP13 := Kd.S_seg hH13 (of_decide_eq_true Q5) (by have h_ : (x4_1 : Int) < ((x3_1.length : Int) : Int) := of_decide_eq_true Q5; first | exact h_ | (have e_ := (Kd.S_reads' HO_3.out).1; omega) | simpa using h_) (seg := [.int .i64 t385, .int .i64 t386, .slice Ao12 t387.length co12]) (j := 0) (show 3 ≤ 3 from by decide) (x' := (⟨t385, t386, t387⟩ : S77)) (k77_mkM _ _ _ (⟨t385, t386, t387⟩ : S77) (Kd.R_mono (Kd.R_tight rfl (Kd.R_mono (ok' := fun k_ => ((fun _ => True)) k_ ∧ k_ ≠ go10) (Kd.R_apart' (HO389.out) (Kd.S_typed HO_3.out) (by decide)) (fun k_ hk => ⟨trivial, fun e_ => (hk.2) (by rw [e_]; rfl)⟩))) (fun _ h_ => Or.inr (h_)))) (fun _ hk => hk) (fun k_ hk_ => ((Kd.R_mono (ok' := fun k_ => ((fun _ => True)) k_ ∧ k_ ≠ go10) (Kd.R_apart' (HO389.out) (Kd.S_typed HO_3.out) (by decide)) (fun k_ hk => ⟨trivial, fun e_ => (hk.2) (by rw [e_]; rfl)⟩))).1 k_ hk_.symm); have hx13_0 := hcc13 0 _ rfl; (try simp only [show (k77).sz = 3 from rfl, Nat.mul_one, Nat.add_zero] at hx13_0); have hf13_0 := hfr13 0; (try simp only [show (k77).sz = 3 from rfl, Nat.mul_one, Nat.add_zero] at hf13_0); have hx13_1 := hcc13 1 _ rfl; (try simp only [show (k77).sz = 3 from rfl, Nat.mul_one, Nat.add_zero] at hx13_1); have hf13_1 := hfr13 1; (try simp only [show (k77).sz = 3 from rfl, Nat.mul_one, Nat.add_zero] at hf13_1); have hx13_2 := hcc13 2 _ rfl; (try simp only [show (k77).sz = 3 from rfl, Nat.mul_one, Nat.add_zero] at hx13_2); have hf13_2 := hfr13 2; (try simp only [show (k77).sz = 3 from rfl, Nat.mul_one, Nat.add_zero] at hf13_2); clear hcl13 hcc13 hfr13 hM13 hoki13 hH13) | ((with_reducible refine gate_store (t := 77) (p := 21) rfl ?_); refine store_event (t := 77) (p := 21) (v := ?vo_w14) (w1 := (((w11.setCell ⟨go10, (x4_1 : Int).toNat * 3, none⟩ (.int .i64 t385)).setCell ⟨go10, (x4_1 : Int).toNat * 3 + 1, none⟩ (.int .i64 t386)).setCell ⟨go10, (x4_1 : Int).toNat * 3 + 2, none⟩ (.slice Ao12 t387.length co12))) ?hg ?ho ?hn ?hr ?_; (case ho => rfl); (case hg => rfl); (case hn => rfl); (case hr => first | (go_simp; done) | (go_simp; rfl)); intro w14 hw; have hg : w11.grownBy w14 (some go10) := (by rw [hw]; exact HP13.2); have hp_ : Kd.S k77 77 w14 w.heap.size (fun _ => True) (.slice (some ⟨go10, 0, none⟩) x3_1.length co10) y390 := (by rw [hw, Ny390.out]; exact HP13.1); clear HP13; replace HO_3 := am (hp_); replace HB := am ((by rw [hw]; exact below_set (below_set (below_set (HB.out) GB10.out) GB10.out) GB10.out : Below w.heap.size w w14)); clear HO389; clear hg hw hp_))
   go_roundg k1
   case measure => have := HK1.out; omega
   case rel => exact ⟨(y390), (wrap64 (x4_1 + 1)), Q9, H', ⟨by have := HK1.out; omega⟩, ⟨u8_10⟩, ⟨Q6⟩⟩
def impl_areIds.l0 : Nat → List Int → List Int → Int → Int → Option (Bool)
 | 0, _, _, _, _ => none
 | k + 1, x0, x5, x6, x7 => if x7 < x6 then (if 0 ≤ x7 then (if x7 < (x5.length : Int) then (if (rd x5 x7) < 0 then (some false) else (if (rd x5 x7) > 99 then (some false) else (if x7 > 0 then (if 0 ≤ (wrap64 (x7 - 1)) then (if (wrap64 (x7 - 1)) < (x0.length : Int) then (if (rd x0 (wrap64 (x7 - 1))) ≥ (rd x5 x7) then (some false) else (impl_areIds.l0 k x0 x5 x6 (wrap64 (x7 + 1)))) else (none)) else (none)) else (impl_areIds.l0 k x0 x5 x6 (wrap64 (x7 + 1)))))) else (none)) else (none)) else (some (decide ((x0.length : Int) ≤ 7)))
def impl_areIds.f (k : Nat) (l0 : List Int) : Option (Bool) := impl_areIds.l0 k l0 l0 (l0.length : Int) 0
theorem impl_areIds.mono_l : ∀ k, (∀ y0 y1 y2 y3, LeO (impl_areIds.l0 k y0 y1 y2 y3) (impl_areIds.l0 (k + 1) y0 y1 y2 y3))
 | 0 => fun _ _ _ _ r h => by simp [impl_areIds.l0] at h
 | k + 1 => by
   have ih0 := impl_areIds.mono_l k
   · intro y0 y1 y2 y3
     unfold impl_areIds.l0
     repeat' first
     | (with_reducible exact ih0 _ _ _ _)
     | (with_reducible exact LeO.refl _)
     | (with_reducible exact LeO.none _)
     | (with_reducible refine LeO.ite ?_ ?_)
     | (with_reducible refine LeO.bind ?_ (fun _ => ?_))
     | exact ih0 _ _ _ _
     | exact LeO.none _
     | refine LeO.ite ?_ ?_
     | refine LeO.bind ?_ (fun _ => ?_)
theorem impl_areIds.mono : ∀ a0 k, LeO (impl_areIds.f k a0) (impl_areIds.f (k + 1) a0) := by
 intro a0 k
 have ih0 := impl_areIds.mono_l k
 unfold impl_areIds.f
 repeat' first
     | (with_reducible exact ih0 _ _ _ _)
     | (with_reducible exact LeO.refl _)
     | (with_reducible exact LeO.none _)
     | (with_reducible refine LeO.ite ?_ ?_)
     | (with_reducible refine LeO.bind ?_ (fun _ => ?_))
     | exact ih0 _ _ _ _
     | exact LeO.none _
     | refine LeO.ite ?_ ?_
     | refine LeO.bind ?_ (fun _ => ?_)
set_option maxHeartbeats 8000000 in
set_option maxRecDepth 100000 in
theorem impl_areIds.calls (k : Nat) (A0 : Option Addr) (c0 : Nat) (l0 : List Int) (r : Bool) (w : World) (hr0 : Kd.C (Kd.int .i64) w A0 l0.length l0) (hc0 : l0.length ≤ c0) (h : impl_areIds.f k l0 = some r) :
   Calls Try.prog 72 #[.slice A0 l0.length c0] w fun e w' => e = .returned (.bool r) ∧ Drawn0 w w' := by
 have HR0 := am hr0
 have HC0 := am hc0
 clear hr0 hc0
 have H : (impl_areIds.l0 k l0 l0 (l0.length : Int) 0) = some r := h
 clear h
 have H' := am H
 clear H
 go_enter Try.func72, Try.ntmps72
 go_wp2
 go_loopg [7] k (fun kq v7 w' => ∃ (x7_1 : Int), v7 = .int .i64 x7_1 ∧ Aside0 (impl_areIds.l0 kq l0 l0 (l0.length : Int) x7_1 = some r) ∧ Aside0 (kq ≤ k) ∧ Drawn0 w w')
 case atStart => exact ⟨(0), Q9, H', ⟨Nat.le_refl _⟩, Q3⟩
 clear H'
 obtain ⟨x7_1, rfl, HA, HK1, ⟨m1, rfl⟩⟩ := hrel
 cases gk with
 | zero => exact absurd HA.out (by simp [impl_areIds.l0])
 | succ k1 =>
   have H := HA.out
   clear HA
   simp only [impl_areIds.l0] at H
   by_cases c2 : x7_1 < (l0.length : Int)
   rotate_left
   · rw [if_neg c2] at H
     have c2b0 : decide (x7_1 < (l0.length : Int)) = false := decide_eq_false c2
     clear c2
     obtain rfl := sj H
     go_wp2
     go_ret
     exact ⟨by first | rfl | (simp; done) | (simp [*]; done), Q3⟩
   rw [if_pos c2] at H
   have c2b0 : decide (x7_1 < (l0.length : Int)) = true := decide_eq_true c2
   clear c2
   by_cases c3 : 0 ≤ x7_1
   rotate_left
   · rw [if_neg c3] at H
     exact absurd H (by simp)
   rw [if_pos c3] at H
   have c3b0 : decide (0 ≤ x7_1) = true := decide_eq_true c3
   clear c3
   by_cases c4 : x7_1 < (l0.length : Int)
   rotate_left
   · rw [if_neg c4] at H
     exact absurd H (by simp)
   rw [if_pos c4] at H
   have c4b0 : decide (x7_1 < (l0.length : Int)) = true := decide_eq_true c4
   clear c4
   by_cases c5 : (rd l0 x7_1) < 0
   · rw [if_pos c5] at H
     have c5b0 : decide ((rd l0 x7_1) < 0) = true := decide_eq_true c5
     clear c5
     obtain rfl := sj H
     have p391 : 0 ≤ (x7_1 : Int) := of_decide_eq_true Q5
     have q391 : x7_1 < (l0.length : Int) := of_decide_eq_true Q5
     obtain ⟨ad391, e391, hx391_0⟩ := Kd.at_int HR0.out x7_1 p391 q391
     cases e391
     replace p391 := eq_true p391
     replace q391 := eq_true q391
     go_wp2
     go_ret
     exact ⟨by first | rfl | (simp; done) | (simp [*]; done), Q3⟩
   rw [if_neg c5] at H
   have c5b0 : decide ((rd l0 x7_1) < 0) = false := decide_eq_false c5
   clear c5
   by_cases c6 : (rd l0 x7_1) > 99
   · rw [if_pos c6] at H
     have c6b0 : decide (99 < (rd l0 x7_1)) = true := decide_eq_true c6
     clear c6
     obtain rfl := sj H
     have p391 : 0 ≤ (x7_1 : Int) := of_decide_eq_true Q5
     have q391 : x7_1 < (l0.length : Int) := of_decide_eq_true Q5
     obtain ⟨ad391, e391, hx391_0⟩ := Kd.at_int HR0.out x7_1 p391 q391
     cases e391
     replace p391 := eq_true p391
     replace q391 := eq_true q391
     go_wp2
     go_ret
     exact ⟨by first | rfl | (simp; done) | (simp [*]; done), Q3⟩
   rw [if_neg c6] at H
   have c6b0 : decide (99 < (rd l0 x7_1)) = false := decide_eq_false c6
   clear c6
   by_cases c7 : x7_1 > 0
   rotate_left
   · rw [if_neg c7] at H
     have c7b0 : decide (0 < x7_1) = false := decide_eq_false c7
     clear c7
     have H' := am H
     clear H
     have p391 : 0 ≤ (x7_1 : Int) := of_decide_eq_true Q5
     have q391 : x7_1 < (l0.length : Int) := of_decide_eq_true Q5
     obtain ⟨ad391, e391, hx391_0⟩ := Kd.at_int HR0.out x7_1 p391 q391
     cases e391
     replace p391 := eq_true p391
     replace q391 := eq_true q391
     go_wp2
     go_roundg k1
     case measure => have := HK1.out; omega
     case rel => exact ⟨(wrap64 (x7_1 + 1)), Q9, H', ⟨by have := HK1.out; omega⟩, Q3⟩
   rw [if_pos c7] at H
   have c7b0 : decide (0 < x7_1) = true := decide_eq_true c7
   clear c7
   obtain ⟨ji8, hji8⟩ : ∃ j_ : Int, (wrap64 (x7_1 - 1)) = j_ := ⟨_, rfl⟩
   replace H : (if 0 ≤ (ji8) then (if (ji8) < (l0.length : Int) then (if (rd l0 (ji8)) ≥ (rd l0 x7_1) then (some false) else (impl_areIds.l0 k1 l0 l0 (l0.length : Int) (wrap64 (x7_1 + 1)))) else (none)) else (none)) = some r := by first | (rw [hji8] at H; exact H) | (simp only [hji8] at H ⊢; exact H)
   have hji8w : (IntKind.i64.wrap (x7_1 - 1)) = ji8 := (i64_w _).trans hji8
   by_cases c9 : 0 ≤ (ji8)
   rotate_left
   · rw [if_neg c9] at H
     exact absurd H (by simp)
   rw [if_pos c9] at H
   have c9b0 : decide (0 ≤ (ji8)) = true := decide_eq_true c9
   clear c9
   by_cases c10 : (ji8) < (l0.length : Int)
   rotate_left
   · rw [if_neg c10] at H
     exact absurd H (by simp)
   rw [if_pos c10] at H
   have c10b0 : decide ((ji8) < (l0.length : Int)) = true := decide_eq_true c10
   clear c10
   have H9 := am H
   clear H
   have p391 : 0 ≤ (x7_1 : Int) := of_decide_eq_true Q5
   have q391 : x7_1 < (l0.length : Int) := of_decide_eq_true Q5
   obtain ⟨ad391, e391, hx391_0⟩ := Kd.at_int HR0.out x7_1 p391 q391
   cases e391
   replace p391 := eq_true p391
   replace q391 := eq_true q391
   have p392 : 0 ≤ ((ji8) : Int) := of_decide_eq_true Q5
   have q392 : (ji8) < (l0.length : Int) := of_decide_eq_true Q5
   obtain ⟨ad392, e392, hx392_0⟩ := Kd.at_int HR0.out (ji8) p392 q392
   obtain rfl : ad391 = ad392 := (by injection e392)
   replace p392 := eq_true p392
   replace q392 := eq_true q392
   go_upto_if 30 with (fail)
   have H := H9.out
   clear H9
   by_cases c11 : (rd l0 (ji8)) ≥ (rd l0 x7_1)
   · rw [if_pos c11] at H
     have c11b0 : decide ((rd l0 x7_1) ≤ (rd l0 (ji8))) = true := decide_eq_true c11
     clear c11
     (first | rw [c11b0] | (simp only [i64_w, i32_w]; rw [c11b0]) | skip)
     obtain rfl := sj H
     go_wp2
     go_ret
     exact ⟨by first | rfl | (simp; done) | (simp only [← hji8] <;> (first | rfl | simp)) | (simp [*]; done), Q3⟩
   rw [if_neg c11] at H
   have c11b0 : decide ((rd l0 x7_1) ≤ (rd l0 (ji8))) = false := decide_eq_false c11
   clear c11
   (first | rw [c11b0] | (simp only [i64_w, i32_w]; rw [c11b0]) | skip)
   have H' := am H
   clear H
   go_wp2
   go_roundg k1
   case measure => have := HK1.out; omega
   case rel => exact ⟨(wrap64 (x7_1 + 1)), Q9, H', ⟨by have := HK1.out; omega⟩, Q3⟩
def slices_Equal_int_int.l0 : Nat → List Int → List Int → Int → Int → Option (Bool)
 | 0, _, _, _, _ => none
 | k + 1, x0, x1, x12, x13 => if x13 < x12 then (if 0 ≤ x13 then (if x13 < (x0.length : Int) then (if x13 < (x1.length : Int) then (if (rd x0 x13) = (rd x1 x13) then (slices_Equal_int_int.l0 k x0 x1 x12 (wrap64 (x13 + 1))) else (some false)) else (none)) else (none)) else (none)) else (some true)
def slices_Equal_int_int.f (k : Nat) (l0 : List Int) (l1 : List Int) : Option (Bool) := if (l0.length : Int) = (l1.length : Int) then (slices_Equal_int_int.l0 k l0 l1 (l0.length : Int) 0) else (some false)
theorem slices_Equal_int_int.mono_l : ∀ k, (∀ y0 y1 y2 y3, LeO (slices_Equal_int_int.l0 k y0 y1 y2 y3) (slices_Equal_int_int.l0 (k + 1) y0 y1 y2 y3))
 | 0 => fun _ _ _ _ r h => by simp [slices_Equal_int_int.l0] at h
 | k + 1 => by
   have ih0 := slices_Equal_int_int.mono_l k
   · intro y0 y1 y2 y3
     unfold slices_Equal_int_int.l0
     repeat' first
     | (with_reducible exact ih0 _ _ _ _)
     | (with_reducible exact LeO.refl _)
     | (with_reducible exact LeO.none _)
     | (with_reducible refine LeO.ite ?_ ?_)
     | (with_reducible refine LeO.bind ?_ (fun _ => ?_))
     | exact ih0 _ _ _ _
     | exact LeO.none _
     | refine LeO.ite ?_ ?_
     | refine LeO.bind ?_ (fun _ => ?_)
theorem slices_Equal_int_int.mono : ∀ a0 a1 k, LeO (slices_Equal_int_int.f k a0 a1) (slices_Equal_int_int.f (k + 1) a0 a1) := by
 intro a0 a1 k
 have ih0 := slices_Equal_int_int.mono_l k
 unfold slices_Equal_int_int.f
 repeat' first
     | (with_reducible exact ih0 _ _ _ _)
     | (with_reducible exact LeO.refl _)
     | (with_reducible exact LeO.none _)
     | (with_reducible refine LeO.ite ?_ ?_)
     | (with_reducible refine LeO.bind ?_ (fun _ => ?_))
     | exact ih0 _ _ _ _
     | exact LeO.none _
     | refine LeO.ite ?_ ?_
     | refine LeO.bind ?_ (fun _ => ?_)
set_option maxHeartbeats 8000000 in
set_option maxRecDepth 100000 in
theorem slices_Equal_int_int.calls (k : Nat) (A0 : Option Addr) (c0 : Nat) (l0 : List Int) (A1 : Option Addr) (c1 : Nat) (l1 : List Int) (r : Bool) (w : World) (hr0 : Kd.C (Kd.int .i64) w A0 l0.length l0) (hc0 : l0.length ≤ c0) (hr1 : Kd.C (Kd.int .i64) w A1 l1.length l1) (hc1 : l1.length ≤ c1) (h : slices_Equal_int_int.f k l0 l1 = some r) :
   Calls Try.prog 73 #[.slice A0 l0.length c0, .slice A1 l1.length c1] w fun e w' => e = .returned (.bool r) ∧ Drawn0 w w' := by
 have HR0 := am hr0
 have HC0 := am hc0
 clear hr0 hc0
 have HR1 := am hr1
 have HC1 := am hc1
 clear hr1 hc1
 have H : (if (l0.length : Int) = (l1.length : Int) then (slices_Equal_int_int.l0 k l0 l1 (l0.length : Int) 0) else (some false)) = some r := h
 clear h
 by_cases c3 : (l0.length : Int) = (l1.length : Int)
 rotate_left
 · rw [if_neg c3] at H
   have c3b0 : ((l0.length : Int) == (l1.length : Int)) = false := beq_eq_false_iff_ne.mpr c3
   have c3b1 : ((l0.length : Int) != (l1.length : Int)) = true := bne_iff_ne.mpr c3
   have c3b2 : (l0.length == l1.length) = false := by first | simpa using c3 | (simp at c3 ⊢; omega)
   obtain rfl := sj H
   go_enter Try.func73, Try.ntmps73
   go_wp2
   repeat (go_quiet (fail); try go_wp2)
   go_ret
   exact ⟨by first | rfl | (simp; done) | (simp [*]; done), Q3⟩
 rw [if_pos c3] at H
 have c3b0 : ((l0.length : Int) == (l1.length : Int)) = true := beq_iff_eq.mpr c3
 have c3b1 : ((l0.length : Int) != (l1.length : Int)) = false := bne_eq_false_iff_eq.mpr c3
 have c3b2 : (l0.length == l1.length) = true := by first | simpa using c3 | (simp at c3 ⊢; omega)
 clear c3
 have H' := am H
 clear H
 go_enter Try.func73, Try.ntmps73
 go_wp2
 repeat (go_quiet (fail); try go_wp2)
 go_loopg [13] k (fun kq v13 w' => ∃ (x13_1 : Int), v13 = .int .i64 x13_1 ∧ Aside0 (slices_Equal_int_int.l0 kq l0 l1 (l0.length : Int) x13_1 = some r) ∧ Aside0 (kq ≤ k) ∧ Drawn0 w w')
 case atStart => exact ⟨(0), Q9, H', ⟨Nat.le_refl _⟩, Q3⟩
 clear H'
 try clear c1
 try clear c3
 try clear c3b0
 try clear c3b1
 try clear c3b2
 obtain ⟨x13_1, rfl, HA, HK1, ⟨m1, rfl⟩⟩ := hrel
 cases gk with
 | zero => exact absurd HA.out (by simp [slices_Equal_int_int.l0])
 | succ k1 =>
   have H := HA.out
   clear HA
   simp only [slices_Equal_int_int.l0] at H
   by_cases c4 : x13_1 < (l0.length : Int)
   rotate_left
   · rw [if_neg c4] at H
     have c4b0 : decide (x13_1 < (l0.length : Int)) = false := decide_eq_false c4
     clear c4
     obtain rfl := sj H
     go_wp2
     repeat (go_quiet (fail); try go_wp2)
     go_ret
     exact ⟨by first | rfl | (simp; done) | (simp [*]; done), Q3⟩
   rw [if_pos c4] at H
   have c4b0 : decide (x13_1 < (l0.length : Int)) = true := decide_eq_true c4
   clear c4
   by_cases c5 : 0 ≤ x13_1
   rotate_left
   · rw [if_neg c5] at H
     exact absurd H (by simp)
   rw [if_pos c5] at H
   have c5b0 : decide (0 ≤ x13_1) = true := decide_eq_true c5
   clear c5
   by_cases c6 : x13_1 < (l0.length : Int)
   rotate_left
   · rw [if_neg c6] at H
     exact absurd H (by simp)
   rw [if_pos c6] at H
   have c6b0 : decide (x13_1 < (l0.length : Int)) = true := decide_eq_true c6
   clear c6
   by_cases c7 : x13_1 < (l1.length : Int)
   rotate_left
   · rw [if_neg c7] at H
     exact absurd H (by simp)
   rw [if_pos c7] at H
   have c7b0 : decide (x13_1 < (l1.length : Int)) = true := decide_eq_true c7
   clear c7
   have H9 := am H
   clear H
   have p393 : 0 ≤ (x13_1 : Int) := of_decide_eq_true Q5
   have q393 : x13_1 < (l0.length : Int) := of_decide_eq_true Q5
   obtain ⟨ad393, e393, hx393_0⟩ := Kd.at_int HR0.out x13_1 p393 q393
   cases e393
   replace p393 := eq_true p393
   replace q393 := eq_true q393
   have p394 : 0 ≤ (x13_1 : Int) := of_decide_eq_true Q5
   have q394 : x13_1 < (l1.length : Int) := of_decide_eq_true Q5
   obtain ⟨ad394, e394, hx394_0⟩ := Kd.at_int HR1.out x13_1 p394 q394
   cases e394
   replace p394 := eq_true p394
   replace q394 := eq_true q394
   go_upto_if 24 with (fail)
   repeat (go_quiet (fail); go_upto_if 24 with (fail))
   have H := H9.out
   clear H9
   by_cases c8 : (rd l0 x13_1) = (rd l1 x13_1)
   rotate_left
   · rw [if_neg c8] at H
     have c8b0 : ((rd l0 x13_1) == (rd l1 x13_1)) = false := beq_eq_false_iff_ne.mpr c8
     have c8b1 : ((rd l0 x13_1) != (rd l1 x13_1)) = true := bne_iff_ne.mpr c8
     (first | rw [c8b0] | (simp only [i64_w, i32_w]; rw [c8b0]) | skip)
     obtain rfl := sj H
     go_wp2
     repeat (go_quiet (fail); try go_wp2)
     go_ret
     exact ⟨by first | rfl | (simp; done) | (simp [*]; done), Q3⟩
   rw [if_pos c8] at H
   have c8b0 : ((rd l0 x13_1) == (rd l1 x13_1)) = true := beq_iff_eq.mpr c8
   have c8b1 : ((rd l0 x13_1) != (rd l1 x13_1)) = false := bne_eq_false_iff_eq.mpr c8
   clear c8
   (first | rw [c8b0] | (simp only [i64_w, i32_w]; rw [c8b0]) | skip)
   have H' := am H
   clear H
   go_wp2
   repeat (go_quiet (fail); try go_wp2)
   go_roundg k1
   case measure => have := HK1.out; omega
   case rel => exact ⟨(wrap64 (x13_1 + 1)), Q9, H', ⟨by have := HK1.out; omega⟩, Q3⟩
def slices_Index_int_int.l0 : Nat → List Int → Int → Int → Int → Option (Int)
 | 0, _, _, _, _ => none
 | k + 1, x0, x1, x7, x8 => if x8 < x7 then (if 0 ≤ x8 then (if x8 < (x0.length : Int) then (if x1 = (rd x0 x8) then (some x8) else (slices_Index_int_int.l0 k x0 x1 x7 (wrap64 (x8 + 1)))) else (none)) else (none)) else (some (-1))
def slices_Index_int_int.f (k : Nat) (l0 : List Int) (a1 : Int) : Option (Int) := slices_Index_int_int.l0 k l0 a1 (l0.length : Int) 0
theorem slices_Index_int_int.mono_l : ∀ k, (∀ y0 y1 y2 y3, LeO (slices_Index_int_int.l0 k y0 y1 y2 y3) (slices_Index_int_int.l0 (k + 1) y0 y1 y2 y3))
 | 0 => fun _ _ _ _ r h => by simp [slices_Index_int_int.l0] at h
 | k + 1 => by
   have ih0 := slices_Index_int_int.mono_l k
   · intro y0 y1 y2 y3
     unfold slices_Index_int_int.l0
     repeat' first
     | (with_reducible exact ih0 _ _ _ _)
     | (with_reducible exact LeO.refl _)
     | (with_reducible exact LeO.none _)
     | (with_reducible refine LeO.ite ?_ ?_)
     | (with_reducible refine LeO.bind ?_ (fun _ => ?_))
     | exact ih0 _ _ _ _
     | exact LeO.none _
     | refine LeO.ite ?_ ?_
     | refine LeO.bind ?_ (fun _ => ?_)
theorem slices_Index_int_int.mono : ∀ a0 a1 k, LeO (slices_Index_int_int.f k a0 a1) (slices_Index_int_int.f (k + 1) a0 a1) := by
 intro a0 a1 k
 have ih0 := slices_Index_int_int.mono_l k
 unfold slices_Index_int_int.f
 repeat' first
     | (with_reducible exact ih0 _ _ _ _)
     | (with_reducible exact LeO.refl _)
     | (with_reducible exact LeO.none _)
     | (with_reducible refine LeO.ite ?_ ?_)
     | (with_reducible refine LeO.bind ?_ (fun _ => ?_))
     | exact ih0 _ _ _ _
     | exact LeO.none _
     | refine LeO.ite ?_ ?_
     | refine LeO.bind ?_ (fun _ => ?_)
set_option maxHeartbeats 8000000 in
set_option maxRecDepth 100000 in
theorem slices_Index_int_int.calls (k : Nat) (A0 : Option Addr) (c0 : Nat) (l0 : List Int) (a1 : Int) (r : Int) (w : World) (hr0 : Kd.C (Kd.int .i64) w A0 l0.length l0) (hc0 : l0.length ≤ c0) (h : slices_Index_int_int.f k l0 a1 = some r) :
   Calls Try.prog 89 #[.slice A0 l0.length c0, .int .i64 a1] w fun e w' => e = .returned (.int .i64 r) ∧ Drawn0 w w' := by
 have HR0 := am hr0
 have HC0 := am hc0
 clear hr0 hc0
 have H : (slices_Index_int_int.l0 k l0 a1 (l0.length : Int) 0) = some r := h
 clear h
 have H' := am H
 clear H
 go_enter Try.func89, Try.ntmps89
 go_wp2
 go_loopg [8] k (fun kq v8 w' => ∃ (x8_1 : Int), v8 = .int .i64 x8_1 ∧ Aside0 (slices_Index_int_int.l0 kq l0 a1 (l0.length : Int) x8_1 = some r) ∧ Aside0 (kq ≤ k) ∧ Drawn0 w w')
 case atStart => exact ⟨(0), Q9, H', ⟨Nat.le_refl _⟩, Q3⟩
 clear H'
 obtain ⟨x8_1, rfl, HA, HK1, ⟨m1, rfl⟩⟩ := hrel
 cases gk with
 | zero => exact absurd HA.out (by simp [slices_Index_int_int.l0])
 | succ k1 =>
   have H := HA.out
   clear HA
   simp only [slices_Index_int_int.l0] at H
   by_cases c3 : x8_1 < (l0.length : Int)
   rotate_left
   · rw [if_neg c3] at H
     have c3b0 : decide (x8_1 < (l0.length : Int)) = false := decide_eq_false c3
     clear c3
     obtain rfl := sj H
     go_wp2
     go_ret
     exact ⟨by first | rfl | (simp; done) | (simp [*]; done), Q3⟩
   rw [if_pos c3] at H
   have c3b0 : decide (x8_1 < (l0.length : Int)) = true := decide_eq_true c3
   clear c3
   by_cases c4 : 0 ≤ x8_1
   rotate_left
   · rw [if_neg c4] at H
     exact absurd H (by simp)
   rw [if_pos c4] at H
   have c4b0 : decide (0 ≤ x8_1) = true := decide_eq_true c4
   clear c4
   by_cases c5 : x8_1 < (l0.length : Int)
   rotate_left
   · rw [if_neg c5] at H
     exact absurd H (by simp)
   rw [if_pos c5] at H
   have c5b0 : decide (x8_1 < (l0.length : Int)) = true := decide_eq_true c5
   clear c5
   have H9 := am H
   clear H
   have p395 : 0 ≤ (x8_1 : Int) := of_decide_eq_true Q5
   have q395 : x8_1 < (l0.length : Int) := of_decide_eq_true Q5
   obtain ⟨ad395, e395, hx395_0⟩ := Kd.at_int HR0.out x8_1 p395 q395
   cases e395
   replace p395 := eq_true p395
   replace q395 := eq_true q395
   go_upto_if 16 with (fail)
   have H := H9.out
   clear H9
   by_cases c6 : a1 = (rd l0 x8_1)
   · rw [if_pos c6] at H
     have c6b0 : (a1 == (rd l0 x8_1)) = true := beq_iff_eq.mpr c6
     have c6b1 : (a1 != (rd l0 x8_1)) = false := bne_eq_false_iff_eq.mpr c6
     clear c6
     (first | rw [c6b0] | (simp only [i64_w, i32_w]; rw [c6b0]) | skip)
     obtain rfl := sj H
     go_wp2
     go_ret
     exact ⟨by first | rfl | (simp; done) | (simp [*]; done), Q3⟩
   rw [if_neg c6] at H
   have c6b0 : (a1 == (rd l0 x8_1)) = false := beq_eq_false_iff_ne.mpr c6
   have c6b1 : (a1 != (rd l0 x8_1)) = true := bne_iff_ne.mpr c6
   (first | rw [c6b0] | (simp only [i64_w, i32_w]; rw [c6b0]) | skip)
   have H' := am H
   clear H
   go_wp2
   go_roundg k1
   case measure => have := HK1.out; omega
   case rel => exact ⟨(wrap64 (x8_1 + 1)), Q9, H', ⟨by have := HK1.out; omega⟩, Q3⟩
def slices_Contains_int_int.f (k : Nat) (l0 : List Int) (a1 : Int) : Option (Bool) := (slices_Index_int_int.f k l0 a1).bind fun t396 => (some (decide (t396 ≥ 0)))
theorem slices_Contains_int_int.mono : ∀ a0 a1 k, LeO (slices_Contains_int_int.f k a0 a1) (slices_Contains_int_int.f (k + 1) a0 a1) := by
 intro a0 a1 k
 unfold slices_Contains_int_int.f
 repeat' first
     | (with_reducible exact slices_Index_int_int.mono _ _ _)
     | (with_reducible exact LeO.refl _)
     | (with_reducible exact LeO.none _)
     | (with_reducible refine LeO.ite ?_ ?_)
     | (with_reducible refine LeO.bind ?_ (fun _ => ?_))
     | exact slices_Index_int_int.mono _ _ _
     | exact LeO.none _
     | refine LeO.ite ?_ ?_
     | refine LeO.bind ?_ (fun _ => ?_)
set_option maxHeartbeats 8000000 in
set_option maxRecDepth 100000 in
theorem slices_Contains_int_int.calls (k : Nat) (A0 : Option Addr) (c0 : Nat) (l0 : List Int) (a1 : Int) (r : Bool) (w : World) (hr0 : Kd.C (Kd.int .i64) w A0 l0.length l0) (hc0 : l0.length ≤ c0) (h : slices_Contains_int_int.f k l0 a1 = some r) :
   Calls Try.prog 71 #[.slice A0 l0.length c0, .int .i64 a1] w fun e w' => e = .returned (.bool r) ∧ Drawn0 w w' := by
 have HR0 := am hr0
 have HC0 := am hc0
 clear hr0 hc0
 have H : ((slices_Index_int_int.f k l0 a1).bind fun t396 => (some (decide (t396 ≥ 0)))) = some r := h
 clear h
 replace H := Option.bind_eq_some_iff.mp H
 obtain ⟨t396, A30, H⟩ := H
 replace H : (some (decide (t396 ≥ 0))) = some r := H
 have A3 := am A30
 clear A30
 obtain rfl := sj H
 go_enter Try.func71, Try.ntmps71
 go_wp2_with (first | ((with_reducible refine gate_callee (f := 89) rfl ?_); refine goesL_ (some 7) rfl rfl Try.func89 kr rfl #[.slice A0 l0.length c0, .int .i64 a1] rfl Q10 ?_; (with_reducible refine (slices_Index_int_int.calls k _ _ l0 a1 t396 _ ?side1 ?side2 A3.out).mono ?_); (case side1 => exact (by repeat (first | exact HR0.out | (with_reducible refine Kd.C_alloc ?_ _) | (with_reducible refine Kd.C_drewN ?_ _) | (with_reducible refine Kd.C_drew ?_)))); (case side2 => exact HC0.out); rintro e w' ⟨rfl, ⟨nd, rfl⟩⟩; refine ⟨_, rfl, ?_⟩))
 go_ret
 exact ⟨by first | rfl | (simp; done) | (simp [*]; done), Q3⟩
def slices_ContainsFunc_int_int.p (l1_0 : List Int) (l1_1 : List Int) (y : Int) : Bool := decide (y ∈ l1_0) || decide (y ∈ l1_1)
theorem slices_ContainsFunc_int_int.has_l (l : List Int) (a : Int) (hl : l.length ≤ 9223372036854775807) (d : Nat) : ∀ i : Nat, l.length = i + d → (∀ j : Nat, j < i → l.getD j 0 ≠ a) → ∃ r, slices_Index_int_int.l0 (d + 1) l a (l.length : Int) (i : Int) = some r ∧ decide (0 ≤ r) = decide (a ∈ l) := by
 induction d with
 | zero =>
   intro i hd hb
   refine ⟨-1, by rw [slices_Index_int_int.l0, if_neg (by omega)], ?_⟩
   rw [decide_eq_false (by omega), decide_eq_false]
   intro hm
   obtain ⟨j, hj, e⟩ := List.mem_iff_getElem.1 hm
   exact hb j (by omega) (by rw [List.getD_eq_getElem?_getD, List.getElem?_eq_getElem hj]; exact e)
 | succ d ih =>
   intro i hd hb
   by_cases h : a = rd l (i : Int)
   · refine ⟨i, by rw [slices_Index_int_int.l0, if_pos (by omega), if_pos (by omega), if_pos (by omega), if_pos h], ?_⟩
     rw [decide_eq_true (by omega), decide_eq_true]
     rw [h]
     unfold rd
     rw [Int.toNat_natCast, List.getD_eq_getElem?_getD, List.getElem?_eq_getElem (show i < l.length by omega)]
     exact List.getElem_mem _
   obtain ⟨r, h1, h2⟩ := ih (i + 1) (by omega) (fun j hj => by
     by_cases e : j = i
     · subst e
       intro e2
       refine h (e2.symm.trans ?_)
       unfold rd
       rw [Int.toNat_natCast]
     · exact hb j (by omega))
   refine ⟨r, ?_, h2⟩
   rw [slices_Index_int_int.l0, if_pos (by omega), if_pos (by omega), if_pos (by omega), if_neg h, show wrap64 ((i : Int) + 1) = ((i + 1 : Nat) : Int) by unfold wrap64; omega]
   exact h1
theorem slices_ContainsFunc_int_int.has (l : List Int) (a : Int) (hl : l.length ≤ 9223372036854775807) : ∃ k, slices_Contains_int_int.f k l a = some (decide (a ∈ l)) := by
 obtain ⟨r, h1, h2⟩ := slices_ContainsFunc_int_int.has_l l a hl l.length 0 (by omega) (fun j h => by omega)
 refine ⟨l.length + 1, ?_⟩
 unfold slices_Contains_int_int.f slices_Index_int_int.f
 rw [show ((0 : Nat) : Int) = 0 from rfl] at h1
 rw [h1]
 show some (decide (r ≥ 0)) = _
 rw [← h2]
set_option maxHeartbeats 800000 in
set_option maxRecDepth 100000 in
theorem slices_ContainsFunc_int_int.lit (b : Nat) (A1_0 : Option Addr) (c1_0 : Nat) (l1_0 : List Int) (A1_1 : Option Addr) (c1_1 : Nat) (l1_1 : List Int) (A1_2 : Option Addr) (c1_2 : Nat) (l1_2 : List Int) (y : Int) (w : World) (hb : w.heap[b]? = some (.cells #[.slice A1_0 l1_0.length c1_0, .slice A1_1 l1_1.length c1_1, .slice A1_2 l1_2.length c1_2] 26 (0, 0))) (hr1_0 : Kd.C (Kd.int .i64) w A1_0 l1_0.length l1_0) (hc1_0 : l1_0.length ≤ c1_0) (hr1_1 : Kd.C (Kd.int .i64) w A1_1 l1_1.length l1_1) (hc1_1 : l1_1.length ≤ c1_1) (hr1_2 : Kd.C (Kd.int .i64) w A1_2 l1_2.length l1_2) (hc1_2 : l1_2.length ≤ c1_2) :
   Calls Try.prog 75 #[.int .i64 y, .pointer (some ⟨b, 0, none⟩)] w fun e w' => e = .returned (.bool (slices_ContainsFunc_int_int.p l1_0 l1_1 y)) ∧ Below w.heap.size w w' := by
 have hc0 : w.cell? ⟨b, 0, none⟩ = some (.slice A1_0 l1_0.length c1_0) := (blk_cell hb 0).trans rfl
 obtain ⟨k0, hk0⟩ := slices_ContainsFunc_int_int.has l1_0 y hr1_0.2.1
 have HR0 := am hr1_0
 have HC0 := am hc1_0
 have hc1 : w.cell? ⟨b, 1, none⟩ = some (.slice A1_1 l1_1.length c1_1) := (blk_cell hb 1).trans rfl
 obtain ⟨k1, hk1⟩ := slices_ContainsFunc_int_int.has l1_1 y hr1_1.2.1
 have HR1 := am hr1_1
 have HC1 := am hc1_1
 have hu := Try.underlying26
 have HBB := am hb
 clear hr1_0 hc1_0 hr1_1 hc1_1 hr1_2 hc1_2 hb
 unfold slices_ContainsFunc_int_int.p
 cases hq0 : decide (y ∈ l1_0) with
 | true =>
   rw [hq0] at hk0
   have HK0 := am hk0
   clear hk0 hq0
   go_enter Try.func75, Try.ntmps75
   go_wp2_with (first | (go_at_call 71; (with_reducible refine (slices_Contains_int_int.calls k0 _ _ l1_0 y _ _ ?sd1 ?sd2 HK0.out).mono ?_); (case sd1 => repeat (first | exact HR0.out | (with_reducible refine Kd.C_drewN ?_ _) | (with_reducible refine Kd.C_drew ?_))); (case sd2 => exact HC0.out); rintro e w' ⟨rfl, ⟨nd0, rfl⟩⟩))
   go_ret
   exact ⟨by first | rfl | simp, u8_11⟩
 | false =>
   rw [hq0] at hk0
   have HK0 := am hk0
   clear hk0 hq0
   have HK1 := am hk1
   clear hk1
   go_enter Try.func75, Try.ntmps75
   go_wp2_with (first | (go_at_call 71; (with_reducible refine (slices_Contains_int_int.calls k0 _ _ l1_0 y _ _ ?sd1 ?sd2 HK0.out).mono ?_); (case sd1 => repeat (first | exact HR0.out | (with_reducible refine Kd.C_drewN ?_ _) | (with_reducible refine Kd.C_drew ?_))); (case sd2 => exact HC0.out); rintro e w' ⟨rfl, ⟨nd0, rfl⟩⟩) | (go_at_call 71; (with_reducible refine (slices_Contains_int_int.calls k1 _ _ l1_1 y _ _ ?sd1 ?sd2 HK1.out).mono ?_); (case sd1 => repeat (first | exact HR1.out | (with_reducible refine Kd.C_drewN ?_ _) | (with_reducible refine Kd.C_drew ?_))); (case sd2 => exact HC1.out); rintro e w' ⟨rfl, ⟨nd1, rfl⟩⟩))
   go_ret
   exact ⟨by first | rfl | simp, u8_11⟩
set_option maxHeartbeats 1600000 in
theorem slices_ContainsFunc_int_int.idx (p : Int → Bool) (bs : Array Value) (A0 : Option Addr) (c0 : Nat) (l0 : List Int) (w : World) (hr0 : Kd.C (Kd.int .i64) w A0 l0.length l0) (hc0 : l0.length ≤ c0)
   (hf : ∀ (y : Int) (W : World), Below w.heap.size w W → Calls Try.prog 75 (#[.int .i64 y] ++ bs) W fun e w' => e = .returned (.bool (p y)) ∧ Below W.heap.size W w') :
   Calls Try.prog 88 #[.slice A0 l0.length c0, .func (.func 75) #[] bs] w fun e w' => e = .returned (.int .i64 (Go.Proofs.Ytoemdmjdpikfbaa.Slc.idxB p l0)) ∧ Below w.heap.size w w' := by
 skip
 have hn : l0.length ≤ 9223372036854775807 := hr0.2.1
 have HR := am hr0
 have HF := am hf
 clear hr0 hf
 go_enter Try.func88, Try.ntmps88
 go_wp2
 go_loopg [5, 8] l0.length (fun gg _ s8 wr => ∃ kk : Int, 0 ≤ kk ∧ kk ≤ l0.length ∧ l0.length - kk.toNat ≤ gg ∧ s8 = .int .i64 kk ∧ Aside0 (Below w.heap.size w wr) ∧ Aside0 (∀ j : Nat, (j : Int) < kk → p (l0.getD j 0) = false))
 case atStart => exact ⟨0, by omega, by omega, by omega, rfl, ⟨Below.refl _ w⟩, ⟨fun j hj => by omega⟩⟩
 obtain ⟨kk, h0, hk, hg, rfl, BW, HA⟩ := hrel
 by_cases hlt : kk < (l0.length : Int)
 rotate_left
 · go_wp2
   go_ret
   refine ⟨?_, BW.out⟩
   rw [Go.Proofs.Ytoemdmjdpikfbaa.Slc.idxB_miss p l0 0 (fun j hj => HA.out j (by omega))]
   rfl
 obtain ⟨ad, e, hx0⟩ := Kd.at_int HR.out kk h0 hlt
 cases e
 replace hx0 := (BW.out.cell (World.block_lt_of_cell? w _ hx0)).trans hx0
 have HC := am (HF.out (l0.getD kk.toNat 0) wr BW.out)
 cases hq : p (l0.getD kk.toNat 0) with
 | true =>
   have HQ := am hq
   rw [hq] at HC
   clear hq
   go_wp2_with (go_at_call 75; refine HC.out.mono ?_; rintro e w' ⟨rfl, hb'⟩)
   go_ret
   refine ⟨?_, below_step BW.out hb'⟩
   rw [Go.Proofs.Ytoemdmjdpikfbaa.Slc.idxB_hit p l0 0 kk.toNat (by omega) HQ.out (fun j hj => HA.out j (by omega)), Int.toNat_of_nonneg h0]
   rfl
 | false =>
   have HQ := am hq
   rw [hq] at HC
   clear hq
   go_wp2_with (go_at_call 75; refine HC.out.mono ?_; rintro e w' ⟨rfl, hb'⟩)
   go_roundg (l0.length - (kk + 1).toNat)
   case measure => omega
   case rel =>
     refine ⟨kk + 1, by omega, by omega, by omega, by go_num, ⟨below_step BW.out hb'⟩, ⟨fun j hj => ?_⟩⟩
     by_cases e : (j : Int) = kk
     rotate_left
     · exact HA.out j (by omega)
     have := HQ.out
     rw [← e, Int.toNat_natCast] at this
     exact this
def slices_ContainsFunc_int_int.f (l0 : List Int) (l1_0 : List Int) (l1_1 : List Int) (l1_2 : List Int) : Option Bool := some (l0.any (slices_ContainsFunc_int_int.p l1_0 l1_1))
set_option maxHeartbeats 400000 in
theorem slices_ContainsFunc_int_int.calls (A0 : Option Addr) (c0 : Nat) (l0 : List Int) (A1_0 : Option Addr) (c1_0 : Nat) (l1_0 : List Int) (A1_1 : Option Addr) (c1_1 : Nat) (l1_1 : List Int) (A1_2 : Option Addr) (c1_2 : Nat) (l1_2 : List Int) (r : Bool) (w : World) {b : Nat} (hr0 : Kd.C (Kd.int .i64) w A0 l0.length l0) (hc0 : l0.length ≤ c0) (hr1_0 : Kd.C (Kd.int .i64) w A1_0 l1_0.length l1_0) (hc1_0 : l1_0.length ≤ c1_0) (hr1_1 : Kd.C (Kd.int .i64) w A1_1 l1_1.length l1_1) (hc1_1 : l1_1.length ≤ c1_1) (hr1_2 : Kd.C (Kd.int .i64) w A1_2 l1_2.length l1_2) (hc1_2 : l1_2.length ≤ c1_2) (hb : w.heap[b]? = some (.cells #[.slice A1_0 l1_0.length c1_0, .slice A1_1 l1_1.length c1_1, .slice A1_2 l1_2.length c1_2] 26 (0, 0))) (h : slices_ContainsFunc_int_int.f l0 l1_0 l1_1 l1_2 = some r) :
   Calls Try.prog 74 #[.slice A0 l0.length c0, .func (.func 75) #[] #[.pointer (some ⟨b, 0, none⟩)]] w fun e w' => e = .returned (.bool r) ∧ Below w.heap.size w w' := by
 obtain rfl := Option.some.inj h
 have HI := am (slices_ContainsFunc_int_int.idx (slices_ContainsFunc_int_int.p l1_0 l1_1) #[.pointer (some ⟨b, 0, none⟩)] A0 c0 l0 w hr0 hc0 (fun y W hW => slices_ContainsFunc_int_int.lit b A1_0 c1_0 l1_0 A1_1 c1_1 l1_1 A1_2 c1_2 l1_2 y W ((hW.block b (blk_lt hb)).trans hb) (Kd.C_below hr1_0 hW) hc1_0 (Kd.C_below hr1_1 hW) hc1_1 (Kd.C_below hr1_2 hW) hc1_2))
 clear hr0 hc0 hb h hr1_0 hc1_0 hr1_1 hc1_1 hr1_2 hc1_2
 go_enter Try.func74, Try.ntmps74
 go_wp2_with (go_at_call 88; refine HI.out.mono ?_; rintro e w' ⟨rfl, hb'⟩)
 go_ret
 exact ⟨(by first | (rw [← Go.Proofs.Ytoemdmjdpikfbaa.Slc.idxB_any]; done) | (rw [← Go.Proofs.Ytoemdmjdpikfbaa.Slc.idxB_any]; rfl)), hb'⟩
end Go.Proofs.Ytoemdmjdpikfbaa.QFnExactPlayConf
