import Derived.Test.YtkcadcoohmofcaaSqFnExactSettled
import Derived.Test.YtkcadcoohmofcaaQFnExactSettledx0
namespace Go.Proofs.Ytkcadcoohmofcaa.QFnExactSettled
open Go.RowKit Go.Proofs.YtkcadcoohmofcaaW.PrintWords Go.Proofs.YtkcadcoohmofcaaW.PrintLast Go.Proofs.YtkcadcoohmofcaaW.PrintMore Go.Proofs.Ytkcadcoohmofcaa.SqFnExactSettled
attribute [local go_sem] max2_int min2_int max_two min_two max_three min_three max_four min_four Go.Proofs.Ytkcadcoohmofcaa.Set.isSome_setCell
set_option linter.unusedVariables false
set_option linter.unusedSimpArgs false
theorem u13_1 {P : Prop} (h : P := by (with_reducible repeat (first | apply b1_ | apply b2_ | apply b3_)); exact BK320.out) : P := h
theorem u13_3 {P : Prop} (h : P := by (with_reducible repeat (first | apply b1_ | apply b2_ | apply b3_)); exact BK321.out) : P := h
def spec_l05Copy.l0 : Nat → Int → Int → Int → List (S85) → Int → Int → List (S85) → Option (Int × Int × (List (S85)))
 | 0, _, _, _, _, _, _, _ => none
 | k + 1, x4, x321000, x321001, x321002, x323000, x323001, x323002 => if x4 < (x321002.length : Int) then (if 0 ≤ x4 then (if x323002.length < 5864062014805 then (spec_l05Copy.l0 k (wrap64 (x4 + 1)) x321000 x321001 x321002 x323000 x323001 (x323002 ++ [(⟨(rd_T85 x321002 x4).f0, (rd_T85 x321002 x4).f1⟩ : S85)])) else (none)) else (none)) else (some (x323000, x323001, x323002))
def spec_l05Copy.f (k : Nat) (a0_0 : Int) (a0_1 : Int) (l0_2 : List (S85)) : Option (Int × Int × (List (S85))) := spec_l05Copy.l0 k 0 a0_0 a0_1 l0_2 a0_0 a0_1 ([] : List (S85))
theorem spec_l05Copy.mono_l : ∀ k, (∀ y0 y1 y2 y3 y4 y5 y6, LeO (spec_l05Copy.l0 k y0 y1 y2 y3 y4 y5 y6) (spec_l05Copy.l0 (k + 1) y0 y1 y2 y3 y4 y5 y6))
 | 0 => fun _ _ _ _ _ _ _ r h => by simp [spec_l05Copy.l0] at h
 | k + 1 => by
   have ih0 := spec_l05Copy.mono_l k
   · intro y0 y1 y2 y3 y4 y5 y6
     unfold spec_l05Copy.l0
     repeat' first
     | (with_reducible exact ih0 _ _ _ _ _ _ _)
     | (with_reducible exact LeO.refl _)
     | (with_reducible exact LeO.none _)
     | (with_reducible refine LeO.ite ?_ ?_)
     | (with_reducible refine LeO.bind ?_ (fun _ => ?_))
     | exact ih0 _ _ _ _ _ _ _
     | exact LeO.none _
     | refine LeO.ite ?_ ?_
     | refine LeO.bind ?_ (fun _ => ?_)
theorem spec_l05Copy.mono : ∀ a0 a1 a2 k, LeO (spec_l05Copy.f k a0 a1 a2) (spec_l05Copy.f (k + 1) a0 a1 a2) := by
 intro a0 a1 a2 k
 have ih0 := spec_l05Copy.mono_l k
 unfold spec_l05Copy.f
 repeat' first
     | (with_reducible exact ih0 _ _ _ _ _ _ _)
     | (with_reducible exact LeO.refl _)
     | (with_reducible exact LeO.none _)
     | (with_reducible refine LeO.ite ?_ ?_)
     | (with_reducible refine LeO.bind ?_ (fun _ => ?_))
     | exact ih0 _ _ _ _ _ _ _
     | exact LeO.none _
     | refine LeO.ite ?_ ?_
     | refine LeO.bind ?_ (fun _ => ?_)
def spec_l05Copy.T5 : Bool × List (List Nat × List Nat) := (true, [([], []), ([0], [0]), ([], []), ([2], [2]), ([], []), ([3, 4], [3, 4]), ([5], [5]), ([6], [6]), ([1, 7], [1, 7]), ([0, 1, 2, 3, 4, 5, 6, 7, 8], []), ([9, 8, 8, 0, 1, 2, 3, 4, 5, 6, 7, 8], [8, 9])])
def spec_l05Copy.B5 : List Nat := [0, 1, 0, 4, 0, 28, 60, 124, 255, 511, 1023]
theorem spec_l05Copy.tab5 : rtab .any (opsOf Try.f84 5) = spec_l05Copy.T5 := by kernel_rfl
theorem spec_l05Copy.bits5 : waitsOk spec_l05Copy.T5.2 spec_l05Copy.B5 = true := by kernel_rfl
set_option maxHeartbeats 8000000 in
set_option maxRecDepth 100000 in
theorem spec_l05Copy.calls (k : Nat) (a0_0 : Int) (a0_1 : Int) (A0_2 : Option Addr) (c0_2 : Nat) (l0_2 : List (S85)) (r1 : Int) (r2 : Int) (r3 : List (S85)) (w : World) (hr0_2 : Kd.C k85 w A0_2 l0_2.length l0_2) (hc0_2 : l0_2.length ≤ c0_2) (h : spec_l05Copy.f k a0_0 a0_1 l0_2 = some (r1, r2, r3)) :
   Calls Try.prog 84 #[.agg #[.int .i64 a0_0, .int .i64 a0_1, .slice A0_2 l0_2.length c0_2]] w fun e w' => ∃ v2_ : Value, e = .returned (.agg #[.int .i64 r1, .int .i64 r2, v2_]) ∧ Kd.R k85 85 w' w.heap.size (fun _ => True) v2_ r3 ∧ Below w.heap.size w w' := by
 have hu34 := Try.underlying34
 have hu85 := Try.underlying85
 have HR0_2 := am hr0_2
 have HC0_2 := am hc0_2
 clear hr0_2 hc0_2
 have HB := am (Below.refl w.heap.size w)
 have H : (spec_l05Copy.l0 k 0 a0_0 a0_1 l0_2 a0_0 a0_1 ([] : List (S85))) = some (r1, r2, r3) := h
 clear h
 have H' := am H
 clear H
 go_enter Try.func84, Try.ntmps84
 go_wp2_with (first | ((with_reducible refine gate_dst (N := 1) rfl ?_); refine box_event ?hg (N := 1) ?hd (cs := #[.int .i64 a0_0, .int .i64 a0_1, .slice A0_2 l0_2.length c0_2]) (t := 34) ?hr ?_; (case hd => rfl); (case hg => rfl); (case hr => first | (go_simp; done) | (go_simp; rfl)); intro gb320 hg w2 hbox hb; have BK320 := am (hbox); have GW320 := am ((by rw [hg]; exact (below_size Q2) : w.heap.size ≤ gb320)); have GE320 := am ((by rw [hg]; exact (below_size Q2) : w.heap.size ≤ gb320)); replace HB := am (below_step Q2 hb); clear hb hbox hg) | ((with_reducible refine gate_dst (N := 2) rfl ?_); refine box_event ?hg (N := 2) ?hd (cs := #[.int .i64 0, .int .i64 0, .slice none 0 0]) (t := 34) ?hr ?_; (case hd => rfl); (case hg => rfl); (case hr => first | (go_simp; done) | (go_simp; rfl)); intro gb321 hg w3 hbox hb; have BK321 := am (hbox); have GW321 := am ((by rw [hg]; exact (below_size Q2) : w.heap.size ≤ gb321)); have GE321 := am ((by rw [hg]; exact (below_size Q2) : w.heap.size ≤ gb321)); replace HB := am (below_step Q2 hb); have NB320_321 := am ((by rw [hg]; exact Nat.ne_of_lt (blk_lt (g := gb320) (o := .cells #[.int .i64 a0_0, .int .i64 a0_1, .slice A0_2 l0_2.length c0_2] 34 (0, 0)) u13_1) : gb320 ≠ gb321)); have NB321_320 := am ((by rw [hg]; exact Nat.ne_of_gt (blk_lt (g := gb320) (o := .cells #[.int .i64 a0_0, .int .i64 a0_1, .slice A0_2 l0_2.length c0_2] 34 (0, 0)) u13_1) : gb321 ≠ gb320)); replace BK320 := am (bb_ BK320.out u13_1 hb); clear hb hbox hg; have hnb4 := NB320_321.out; have hnc4 := NB321_320.out; obtain ⟨hcz5_0, hcz5_1, hcz5_2, hfz5_0, hfz5_1, hfz5_2⟩ := bc3f w3 BK320.out) | ((with_reducible refine gate_dst (N := 3) rfl ?_); refine box_event ?hg (N := 3) ?hd (cs := #[.int .i64 0, .int .i64 0, .slice none 0 0]) (t := 34) ?hr ?_; (case hd => rfl); (case hg => rfl); (case hr => first | (go_simp; done) | (go_simp; rfl)); intro gb322 hg w6 hbox hb; have BK322 := am (hbox); have GW322 := am ((by rw [hg]; exact (below_size Q2) : w.heap.size ≤ gb322)); have GE322 := am ((by rw [hg]; exact (below_size Q2) : w.heap.size ≤ gb322)); replace HB := am (below_step Q2 hb); have NB320_322 := am ((by rw [hg]; exact Nat.ne_of_lt (blk_lt (g := gb320) (o := .cells #[.int .i64 a0_0, .int .i64 a0_1, .slice A0_2 l0_2.length c0_2] 34 (0, 0)) u13_1) : gb320 ≠ gb322)); have NB322_320 := am ((by rw [hg]; exact Nat.ne_of_gt (blk_lt (g := gb320) (o := .cells #[.int .i64 a0_0, .int .i64 a0_1, .slice A0_2 l0_2.length c0_2] 34 (0, 0)) u13_1) : gb322 ≠ gb320)); replace BK320 := am (bb_ BK320.out u13_1 hb); have NB321_322 := am ((by rw [hg]; exact Nat.ne_of_lt (blk_lt (g := gb321) (o := .cells #[.int .i64 0, .int .i64 0, .slice none 0 0] 34 (0, 0)) u13_3) : gb321 ≠ gb322)); have NB322_321 := am ((by rw [hg]; exact Nat.ne_of_gt (blk_lt (g := gb321) (o := .cells #[.int .i64 0, .int .i64 0, .slice none 0 0] 34 (0, 0)) u13_3) : gb322 ≠ gb321)); replace BK321 := am (bb_ BK321.out u13_3 hb); clear hb hbox hg; have hnb7 := NB322_320.out; have hnc7 := NB320_322.out; have hnb8 := NB322_321.out; have hnc8 := NB321_322.out; obtain ⟨hcz9_0, hcz9_1, hcz9_2, hfz9_0, hfz9_1, hfz9_2⟩ := bc3f w6 BK322.out))
 go_loopg [4] k (fun kq v4 w' => ∃ (x4_1 : Int) (x323002_1 : List (S85)) (u323002 : Value), v4 = .int .i64 x4_1 ∧ Aside0 (spec_l05Copy.l0 kq x4_1 a0_0 a0_1 l0_2 a0_0 a0_1 x323002_1 = some (r1, r2, r3)) ∧ Aside0 (kq ≤ k) ∧ Aside0 (Kd.R k85 85 w' w.heap.size (fun _ => True) u323002 x323002_1) ∧ Aside0 (w'.heap[gb320]? = some (.cells #[.int .i64 a0_0, .int .i64 a0_1, (.slice A0_2 l0_2.length c0_2)] 34 (0, 0))) ∧ Aside0 (w'.heap[gb321]? = some (.cells #[.int .i64 0, .int .i64 0, (.slice none 0 0)] 34 (0, 0))) ∧ Aside0 (w'.heap[gb322]? = some (.cells #[.int .i64 a0_0, .int .i64 a0_1, u323002] 34 (0, 0))) ∧ Aside0 (Below w.heap.size w w'))
 case atStart => exact ⟨(0), (([] : List (S85))), (.slice none 0 0), (by first | rfl | (simp; done) | (simp [*]; done)), H', ⟨Nat.le_refl _⟩, ⟨(by first | exact Kd.R_nil _ _ _ _ _ | exact Kd.N_nil _ _ _ _ _ | exact Kd.V_nil _ _ _ _ _ | exact Kd.Q_nil _ _ _ _ _ | exact Kd.S_nil _ _ _ _ _)⟩, ⟨(by (with_reducible repeat (first | apply b1_ | apply b2_ | apply b3_)); refine blk_far ?_ NB320_322.out _; (with_reducible repeat (first | apply b1_ | apply b2_ | apply b3_)); refine blk_far ?_ NB320_322.out _; (with_reducible repeat (first | apply b1_ | apply b2_ | apply b3_)); refine blk_far ?_ NB320_322.out _; (with_reducible repeat (first | apply b1_ | apply b2_ | apply b3_)); exact BK320.out)⟩, ⟨(by (with_reducible repeat (first | apply b1_ | apply b2_ | apply b3_)); refine blk_far ?_ NB321_322.out _; (with_reducible repeat (first | apply b1_ | apply b2_ | apply b3_)); refine blk_far ?_ NB321_322.out _; (with_reducible repeat (first | apply b1_ | apply b2_ | apply b3_)); refine blk_far ?_ NB321_322.out _; (with_reducible repeat (first | apply b1_ | apply b2_ | apply b3_)); exact BK321.out)⟩, ⟨(by (with_reducible repeat (first | apply b1_ | apply b2_ | apply b3_)); refine blk_put (cs := #[.int .i64 a0_0, .int .i64 a0_1, .slice none 0 0]) ?_ 2 _ rfl; (with_reducible repeat (first | apply b1_ | apply b2_ | apply b3_)); refine blk_put (cs := #[.int .i64 a0_0, .int .i64 0, .slice none 0 0]) ?_ 1 _ rfl; (with_reducible repeat (first | apply b1_ | apply b2_ | apply b3_)); refine blk_put (cs := #[.int .i64 0, .int .i64 0, .slice none 0 0]) ?_ 0 _ rfl; (with_reducible repeat (first | apply b1_ | apply b2_ | apply b3_)); exact BK322.out)⟩, ⟨Q2⟩⟩
 clear H'
 try clear hcz5_0
 try clear hcz5_1
 try clear hcz5_2
 try clear hcz9_0
 try clear hcz9_1
 try clear hcz9_2
 try clear hfz5_0
 try clear hfz5_1
 try clear hfz5_2
 try clear hfz9_0
 try clear hfz9_1
 try clear hfz9_2
 obtain ⟨x4_1, x323002_1, u323002, rfl, HA, HK1, HO_323002, BK320, BK321, BK322, HB⟩ := hrel
 cases gk with
 | zero => exact absurd HA.out (by simp [spec_l05Copy.l0])
 | succ k1 =>
   have H := HA.out
   clear HA
   simp only [spec_l05Copy.l0] at H
   by_cases c10 : x4_1 < (l0_2.length : Int)
   rotate_left
   · rw [if_neg c10] at H
     have c10b0 : decide (x4_1 < (l0_2.length : Int)) = false := decide_eq_false c10
     clear c10
     simp only [Option.some.injEq, Prod.mk.injEq] at H
     obtain ⟨rfl, rfl, rfl⟩ := H
     have hnb20 := NB320_321.out
     have hnc20 := NB321_320.out
     have hnb21 := NB320_322.out
     have hnc21 := NB322_320.out
     obtain ⟨hcz22_0, hcz22_1, hcz22_2, hfz22_0, hfz22_1, hfz22_2⟩ := bc3f wr BK320.out
     have hnb23 := NB322_321.out
     have hnc23 := NB321_322.out
     obtain ⟨hcz24_0, hcz24_1, hcz24_2, hfz24_0, hfz24_1, hfz24_2⟩ := bc3f wr BK322.out
     obtain ⟨hcz25_0, hcz25_1, hcz25_2, hfz25_0, hfz25_1, hfz25_2⟩ := bc3f wr BK321.out
     obtain ⟨Ao26, co26, eo26⟩ := Kd.R_slice HO_323002.out
     subst eo26
     go_wp2
     refine bodyPost_ret (results_cell_row rfl _ _ gb321 34 #[.int .i64 a0_0, .int .i64 a0_1, .slice Ao26 x323002_1.length co26] (0, 0) _ rfl (by (with_reducible repeat (first | apply b1_ | apply b2_ | apply b3_)); refine blk_put (cs := #[.int .i64 a0_0, .int .i64 a0_1, .slice none 0 0]) ?_ 2 _ rfl; (with_reducible repeat (first | apply b1_ | apply b2_ | apply b3_)); refine blk_put (cs := #[.int .i64 a0_0, .int .i64 0, .slice none 0 0]) ?_ 1 _ rfl; (with_reducible repeat (first | apply b1_ | apply b2_ | apply b3_)); refine blk_put (cs := #[.int .i64 0, .int .i64 0, .slice none 0 0]) ?_ 0 _ rfl; (with_reducible repeat (first | apply b1_ | apply b2_ | apply b3_)); exact BK321.out) Try.underlying34 rfl kr) rfl ?_
     exact ⟨_, er, (by (with_reducible repeat (first | apply r1_ | apply r2_ | apply r3_)); exact Kd.R_mono (Kd.R_far (p := ⟨gb321, 2, none⟩) (Kd.R_far (p := ⟨gb321, 1, none⟩) (Kd.R_far (p := ⟨gb321, 0, none⟩) (Kd.R_types HO_323002.out BK321.out (by decide)) (fun _ hk => hk.2) (.int .i64 a0_0)) (fun _ hk => hk.2) (.int .i64 a0_1)) (fun _ hk => hk.2) (.slice Ao26 x323002_1.length co26)) (fun _ hk => trivial)), Q2⟩
   rw [if_pos c10] at H
   have c10b0 : decide (x4_1 < (l0_2.length : Int)) = true := decide_eq_true c10
   clear c10
   by_cases c11 : 0 ≤ x4_1
   rotate_left
   · rw [if_neg c11] at H
     exact absurd H (by simp)
   rw [if_pos c11] at H
   have c11b0 : decide (0 ≤ x4_1) = true := decide_eq_true c11
   clear c11
   by_cases c12 : x323002_1.length < 5864062014805
   rotate_left
   · rw [if_neg c12] at H
     exact absurd H (by simp)
   rw [if_pos c12] at H
   have LMc12 := am c12
   clear c12
   obtain ⟨y324, hy324⟩ : ∃ y_ : List (S85), y_ = (x323002_1 ++ [(⟨(rd_T85 l0_2 x4_1).f0, (rd_T85 l0_2 x4_1).f1⟩ : S85)]) := ⟨_, rfl⟩
   replace H : (spec_l05Copy.l0 k1 (wrap64 (x4_1 + 1)) a0_0 a0_1 l0_2 a0_0 a0_1 y324) = some (r1, r2, r3) := by first | (rw [hy324]; with_reducible exact H) | (have H2_ := (Option.bind_some _ _).symm.trans H; rw [hy324]; with_reducible exact H2_) | (have H2_ := (Option.bind_some _ _).symm.trans H; with_reducible exact H2_) | with_reducible exact H | (rw [hy324]; exact H) | exact H
   have Ny324 := am hy324
   clear hy324
   have H' := am H
   clear H
   have hnb13 := NB320_321.out
   have hnc13 := NB321_320.out
   have hnb14 := NB320_322.out
   have hnc14 := NB322_320.out
   obtain ⟨hcz15_0, hcz15_1, hcz15_2, hfz15_0, hfz15_1, hfz15_2⟩ := bc3f wr BK320.out
   try go_wp2
   replace HO_323002 := am (Kd.R_drew HO_323002.out)
   replace BK320 := am (blk_drew BK320.out)
   replace BK321 := am (blk_drew BK321.out)
   replace BK322 := am (blk_drew BK322.out)
   replace HB := am (below_drew1 HB.out)
   have p323 : 0 ≤ (x4_1 : Int) := of_decide_eq_true (by first | (with_reducible assumption) | assumption)
   have q323 : x4_1 < (l0_2.length : Int) := of_decide_eq_true (by first | (with_reducible assumption) | assumption)
   obtain ⟨ad323, e323, hx323_0, hx323_1⟩ := at_T85 HR0_2.out x4_1 p323 q323
   have hw323_1 := hx323_1
   have hw323_0 := hx323_0
   cases e323
   replace hx323_0 := cm HB.out hx323_0
   replace hx323_1 := cm HB.out hx323_1
   replace p323 := eq_true p323
   replace q323 := eq_true q323
   refine start_ (n := 11) (S := fun w' => w'.cell? ⟨gb322, 0, none⟩ = some (.int .i64 a0_0) ∧ w'.cell? ⟨gb322, 1, none⟩ = some (.int .i64 a0_1) ∧ w'.cell? ⟨gb322, 2, none⟩ = some (u323002) ∧ w'.cell? ⟨gb320, 0, none⟩ = some (.int .i64 a0_0) ∧ w'.cell? ⟨gb320, 1, none⟩ = some (.int .i64 a0_1) ∧ w'.cell? ⟨gb320, 2, none⟩ = some (.slice (some ad323) l0_2.length c0_2) ∧ w'.cell? (ad323.add ((x4_1).toNat * 2)) = some (.int .i64 ((rd_T85 l0_2 x4_1).f0)) ∧ w'.cell? ⟨(ad323.add ((x4_1).toNat * 2)).block, (ad323.add ((x4_1).toNat * 2)).off + 1, none⟩ = some (.string ((rd_T85 l0_2 x4_1).f1))) (ds := [10]) #[false, false, false, false, false, false, false, false, false, false, false] kr rfl rfl ⟨(blk_cell BK322.out 0).trans rfl, (blk_cell BK322.out 1).trans rfl, (blk_cell BK322.out 2).trans rfl, (blk_cell BK320.out 0).trans rfl, (blk_cell BK320.out 1).trans rfl, (blk_cell BK320.out 2).trans rfl, (cm HB.out hw323_0), (cm HB.out hw323_1)⟩ (fun hHeld => ?_); refine with_tabW spec_l05Copy.tab5 spec_l05Copy.bits5 (fun HT_ HW_ => ?_)
   generalize wr.drew = w16 at HO_323002 BK320 BK321 BK322 HB hx323_0 hx323_1 hHeld ⊢
   refine pV 0 17 (bt 1 11) ?_
   refine pV 2 19 #[true, false, true, false, false, false, false, false, false, false, false] ?_
   refine pV 4 21 #[true, false, true, false, true, false, false, false, false, false, false] ?_
   refine tV 1 18 #[true, true, true, false, true, false, false, false, false, false, false] ?_
   refine tV 3 20 (bt 5 11) ?_
   refine pV 5 22 (bt 6 11) ?_
   refine tV 6 23 (bt 7 11) ?_
   refine one_ (i := 7) (N := some 24) #[true, true, true, true, true, true, true, true, false, false, false] rfl rfl (one_of HT_.out kr) (by decide) (fun K hK => ?_)
   refine value_ (w1 := ?_) (v := ?_) (by rfl) rfl ?_ ?_
   rotate_left 2
   · go_simp
     constructor
     · rfl
     rfl
   refine hK.out _ _ ⟨(blk_cell (blk_alloc BK322.out _) 0).trans rfl, (blk_cell (blk_alloc BK322.out _) 1).trans rfl, (blk_cell (blk_alloc BK322.out _) 2).trans rfl, (blk_cell (blk_alloc BK320.out _) 0).trans rfl, (blk_cell (blk_alloc BK320.out _) 1).trans rfl, (blk_cell (blk_alloc BK320.out _) 2).trans rfl, (World.cell?_alloc_lt _ _ _ (World.block_lt_of_cell? _ _ ((cm HB.out hw323_0)))).trans ((cm HB.out hw323_0)), (World.cell?_alloc_lt _ _ _ (World.block_lt_of_cell? _ _ ((cm HB.out hw323_1)))).trans ((cm HB.out hw323_1))⟩ (fun hHeld => ?_)
   clear hK K
   refine norm_ (a' := ?_) ?_ ?_
   rotate_left
   · show Act.put _ (some 24) _ = _
     simp only [Act.put, la, lb, lc, i64_w, i32_w]
     rfl
   refine one_ (i := 8) (N := some 25) #[true, true, true, true, true, true, true, true, true, false, false] rfl rfl (one_of HT_.out kr) (by decide) (fun K hK => ?_)
   refine Kd.R_append_step k85 (w0 := w) w.heap.size (by rfl) (.tmp 18) (.tmp 24) 27 85 (.agg #[(.int .i64 0), (.string ⟨#[]⟩)]) 24 rfl Try.underlying27 info85 rfl (by decide) (by omega) u323002 x323002_1 (⟨(rd_T85 l0_2 x4_1).f0, (rd_T85 l0_2 x4_1).f1⟩ : S85) [.int .i64 ((rd_T85 l0_2 x4_1).f0), .string ((rd_T85 l0_2 x4_1).f1)] (fun _ => True) (fun _ => False) rfl rfl ?aP (fun _ hk => hk.elim) ?aF ?aO ?aB ?aS ?aL ?_
   (case aP => exact k85_mkM _ _ _ (⟨(rd_T85 l0_2 x4_1).f0, (rd_T85 l0_2 x4_1).f1⟩ : S85))
   (case aB => exact Q2)
   (case aF => exact (fun _ _ => trivial))
   (case aO => exact (by (with_reducible repeat (first | apply r1_ | apply r2_ | apply r3_)); exact HO_323002.out))
   (case aS => exact (below_size Q2))
   (case aL => have := LMc12.out; omega)
   intro v325 w17 ho hb hg hat
   rw [← Ny324.out] at ho
   replace BK320 := am (blk_grown (g := gb320) (o := .cells #[.int .i64 a0_0, .int .i64 a0_1, .slice (some ad323) l0_2.length c0_2] 34 (0, 0)) u13_1 hg (Kd.R_ne HO_323002.out BK320.out (by decide)))
   replace BK321 := am (blk_grown (g := gb321) (o := .cells #[.int .i64 0, .int .i64 0, .slice none 0 0] 34 (0, 0)) u13_3 hg (Kd.R_ne HO_323002.out BK321.out (by decide)))
   replace BK322 := am (blk_grown (g := gb322) (o := .cells #[.int .i64 a0_0, .int .i64 a0_1, u323002] 34 (0, 0)) (by (with_reducible repeat (first | apply b1_ | apply b2_ | apply b3_)); exact BK322.out) hg (Kd.R_ne HO_323002.out BK322.out (by decide)))
   replace HB := am (hb)
   have HO326 := am (ho)
   clear HO_323002
   clear ho hb hg hat
   obtain ⟨Ao18, co18, eo18⟩ := Kd.R_slice HO326.out
   (first | subst eo18 | (injection eo18 with f1_ f2_ f3_; have f4_ := f1_.symm; have f5_ := f3_.symm; clear f1_ f2_ f3_; subst f4_; subst f5_))
   refine hK.out _ _ ⟨(blk_cell BK322.out 0).trans rfl, (blk_cell BK322.out 1).trans rfl, (blk_cell BK322.out 2).trans rfl, (blk_cell BK320.out 0).trans rfl, (blk_cell BK320.out 1).trans rfl, (blk_cell BK320.out 2).trans rfl, (cm HB.out hw323_0), (cm HB.out hw323_1)⟩ (fun hHeld => ?_)
   clear hK K
   refine norm_ (a' := ?_) ?_ ?_
   rotate_left
   · show Act.put _ (some 25) _ = _
     simp only [Act.put, la, lb, lc, i64_w, i32_w]
     rfl
   refine pV 9 26 (bt 10 11) ?_
   refine last_ (i := 10) (N := none) #[true, true, true, true, true, true, true, true, true, true, true] rfl rfl (one_of HT_.out kr) (by decide) (fun K hK => ?_)
   have hs19 : w17.cell? ⟨gb322, 2, none⟩ = some (u323002) := (blk_cell BK322.out 2).trans rfl
   have hfs19 := blk_frozen BK322.out 2
   have hns19_0 := NB320_322.out
   have hns19_1 := NB321_322.out
   have hms19_0 := NB322_320.out
   have hms19_1 := NB322_321.out
   refine skip_ (w1 := ?_) (by rfl) rfl ?_ ?_
   rotate_left
   · go_simp
     rfl
   refine hK.out _ _ ?_
   clear hK K
   refine done_ (done_of HT_.out kr) ?_
   try go_wp2
   go_roundg k1
   case measure => have := HK1.out; omega
   case rel => exact ⟨(wrap64 (x4_1 + 1)), (y324), (.slice Ao18 y324.length co18), (by first | rfl | (simp; done) | (simp [*]; done)), H', ⟨by have := HK1.out; omega⟩, ⟨(by (with_reducible repeat (first | apply r1_ | apply r2_ | apply r3_)); exact Kd.R_mono (Kd.R_far (p := ⟨gb322, 2, none⟩) (Kd.R_types HO326.out BK322.out (by decide)) (fun _ hk => hk.2) (.slice Ao18 y324.length co18)) (fun _ hk => trivial))⟩, ⟨(by (with_reducible repeat (first | apply b1_ | apply b2_ | apply b3_)); refine blk_far ?_ NB320_322.out _; (with_reducible repeat (first | apply b1_ | apply b2_ | apply b3_)); exact BK320.out)⟩, ⟨(by (with_reducible repeat (first | apply b1_ | apply b2_ | apply b3_)); refine blk_far ?_ NB321_322.out _; (with_reducible repeat (first | apply b1_ | apply b2_ | apply b3_)); exact BK321.out)⟩, ⟨(by (with_reducible repeat (first | apply b1_ | apply b2_ | apply b3_)); refine blk_put (cs := #[.int .i64 a0_0, .int .i64 a0_1, u323002]) ?_ 2 _ rfl; (with_reducible repeat (first | apply b1_ | apply b2_ | apply b3_)); exact BK322.out)⟩, ⟨Q2⟩⟩
end Go.Proofs.Ytkcadcoohmofcaa.QFnExactSettled
