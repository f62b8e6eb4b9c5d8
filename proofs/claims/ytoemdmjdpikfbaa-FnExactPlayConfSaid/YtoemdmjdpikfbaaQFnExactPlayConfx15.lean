import Derived.Test.YtoemdmjdpikfbaaSqFnExactPlayConf
import Derived.Test.YtoemdmjdpikfbaaQFnExactPlayConfx0
import Derived.Test.YtoemdmjdpikfbaaQFnExactPlayConfx1
import Derived.Test.YtoemdmjdpikfbaaQFnExactPlayConfx14
namespace Go.Proofs.Ytoemdmjdpikfbaa.QFnExactPlayConf
open Go.RowKit Go.Proofs.YtoemdmjdpikfbaaW.PrintWords Go.Proofs.YtoemdmjdpikfbaaW.PrintLast Go.Proofs.YtoemdmjdpikfbaaW.PrintMore Go.Proofs.Ytoemdmjdpikfbaa.SqFnExactPlayConf
attribute [local go_sem] max2_int min2_int max_two min_two max_three min_three max_four min_four Go.Proofs.Ytoemdmjdpikfbaa.Set.isSome_setCell
set_option linter.unusedVariables false
set_option linter.unusedSimpArgs false
theorem u15_4 {P : Prop} (h : P := by (with_reducible repeat (first | apply s1_ | apply s2_ | apply s3_)); exact HO_0.out) : P := h
theorem u15_6 {P : Prop} (h : P := by (with_reducible repeat (first | apply s1_ | apply s2_ | apply s3_)); exact Kd.S_mono HO_0.out (fun k_ hk => ⟨hk, fun e_ => e_⟩)) : P := h
def laws_eqConfOpS.l0 : Nat → List (S77) → List (S77) → Int → Option (Bool)
 | 0, _, _, _ => none
 | k + 1, x0, x1, x5 => if x5 < (x0.length : Int) then (if 0 ≤ x5 then (if x5 < (x1.length : Int) then ((laws_eqConfOp.f k ((rd_T77 x0 x5).f0) ((rd_T77 x0 x5).f1) ((rd_T77 x0 x5).f2) ((rd_T77 x1 x5).f0) ((rd_T77 x1 x5).f1) ((rd_T77 x1 x5).f2)).bind fun t599 => (if t599 = true then (laws_eqConfOpS.l0 k x0 x1 (wrap64 (x5 + 1))) else (some false))) else (none)) else (none)) else (some true)
def laws_eqConfOpS.f (k : Nat) (l0 : List (S77)) (l1 : List (S77)) : Option (Bool) := if (l0.length : Int) = (l1.length : Int) then (laws_eqConfOpS.l0 k l0 l1 0) else (some false)
theorem laws_eqConfOpS.mono_l : ∀ k, (∀ y0 y1 y2, LeO (laws_eqConfOpS.l0 k y0 y1 y2) (laws_eqConfOpS.l0 (k + 1) y0 y1 y2))
 | 0 => fun _ _ _ r h => by simp [laws_eqConfOpS.l0] at h
 | k + 1 => by
   have ih0 := laws_eqConfOpS.mono_l k
   · intro y0 y1 y2
     unfold laws_eqConfOpS.l0
     repeat' first
     | (with_reducible exact ih0 _ _ _)
     | (with_reducible exact laws_eqConfOp.mono _ _ _ _ _ _ _)
     | (with_reducible exact LeO.refl _)
     | (with_reducible exact LeO.none _)
     | (with_reducible refine LeO.ite ?_ ?_)
     | (with_reducible refine LeO.bind ?_ (fun _ => ?_))
     | exact ih0 _ _ _
     | exact laws_eqConfOp.mono _ _ _ _ _ _ _
     | exact LeO.none _
     | refine LeO.ite ?_ ?_
     | refine LeO.bind ?_ (fun _ => ?_)
theorem laws_eqConfOpS.mono : ∀ a0 a1 k, LeO (laws_eqConfOpS.f k a0 a1) (laws_eqConfOpS.f (k + 1) a0 a1) := by
 intro a0 a1 k
 have ih0 := laws_eqConfOpS.mono_l k
 unfold laws_eqConfOpS.f
 repeat' first
     | (with_reducible exact ih0 _ _ _)
     | (with_reducible exact laws_eqConfOp.mono _ _ _ _ _ _ _)
     | (with_reducible exact LeO.refl _)
     | (with_reducible exact LeO.none _)
     | (with_reducible refine LeO.ite ?_ ?_)
     | (with_reducible refine LeO.bind ?_ (fun _ => ?_))
     | exact ih0 _ _ _
     | exact laws_eqConfOp.mono _ _ _ _ _ _ _
     | exact LeO.none _
     | refine LeO.ite ?_ ?_
     | refine LeO.bind ?_ (fun _ => ?_)
def laws_eqConfOpS.T6 : Bool × List (List Nat × List Nat) := (true, [([], []), ([], []), ([0, 1], [0, 1]), ([2], [2]), ([], []), ([], []), ([4, 5], [4, 5]), ([6], [6]), ([3, 7], [3, 7]), ([8], [8])])
def laws_eqConfOpS.B6 : List Nat := [0, 0, 3, 7, 0, 0, 48, 112, 255, 511]
theorem laws_eqConfOpS.tab6 : rtab .any (opsOf Try.f35 6) = laws_eqConfOpS.T6 := by kernel_rfl
theorem laws_eqConfOpS.bits6 : waitsOk laws_eqConfOpS.T6.2 laws_eqConfOpS.B6 = true := by kernel_rfl
set_option maxHeartbeats 8000000 in
set_option maxRecDepth 100000 in
theorem laws_eqConfOpS.calls (k : Nat) (A0 : Option Addr) (c0 : Nat) (l0 : List (S77)) (A1 : Option Addr) (c1 : Nat) (l1 : List (S77)) (r : Bool) (w : World) (hr0 : Kd.C k77 w A0 l0.length l0) (hc0 : l0.length ≤ c0) (hr1 : Kd.C k77 w A1 l1.length l1) (hc1 : l1.length ≤ c1) (h : laws_eqConfOpS.f k l0 l1 = some r) :
   Calls Try.prog 35 #[.slice A0 l0.length c0, .slice A1 l1.length c1] w fun e w' => e = .returned (.bool r) ∧ Below w.heap.size w w' := by
 have hu77 := Try.underlying77
 have HR0 := am hr0
 have HC0 := am hc0
 clear hr0 hc0
 have HR1 := am hr1
 have HC1 := am hc1
 clear hr1 hc1
 have HB := am (Below.refl w.heap.size w)
 have H : (if (l0.length : Int) = (l1.length : Int) then (laws_eqConfOpS.l0 k l0 l1 0) else (some false)) = some r := h
 clear h
 by_cases c3 : (l0.length : Int) = (l1.length : Int)
 rotate_left
 · rw [if_neg c3] at H
   have c3b0 : ((l0.length : Int) == (l1.length : Int)) = false := beq_eq_false_iff_ne.mpr c3
   have c3b1 : ((l0.length : Int) != (l1.length : Int)) = true := bne_iff_ne.mpr c3
   have c3b2 : (l0.length == l1.length) = false := by first | simpa using c3 | (simp at c3 ⊢; omega)
   obtain rfl := sj H
   go_enter Try.func35, Try.ntmps35
   go_wp2
   go_ret
   exact ⟨er, Q6⟩
 rw [if_pos c3] at H
 have c3b0 : ((l0.length : Int) == (l1.length : Int)) = true := beq_iff_eq.mpr c3
 have c3b1 : ((l0.length : Int) != (l1.length : Int)) = false := bne_eq_false_iff_eq.mpr c3
 have c3b2 : (l0.length == l1.length) = true := by first | simpa using c3 | (simp at c3 ⊢; omega)
 clear c3
 have H' := am H
 clear H
 go_enter Try.func35, Try.ntmps35
 go_wp2
 go_loopg [5] k (fun kq v5 w' => ∃ (x5_1 : Int), v5 = .int .i64 x5_1 ∧ Aside0 (laws_eqConfOpS.l0 kq l0 l1 x5_1 = some r) ∧ Aside0 (kq ≤ k) ∧ Aside0 (Below w.heap.size w w'))
 case atStart => exact ⟨(0), Q9, H', ⟨Nat.le_refl _⟩, ⟨Q6⟩⟩
 clear H'
 try clear c1
 try clear c3
 try clear c3b0
 try clear c3b1
 try clear c3b2
 obtain ⟨x5_1, rfl, HA, HK1, HB⟩ := hrel
 cases gk with
 | zero => exact absurd HA.out (by simp [laws_eqConfOpS.l0])
 | succ k1 =>
   have H := HA.out
   clear HA
   simp only [laws_eqConfOpS.l0] at H
   by_cases c4 : x5_1 < (l0.length : Int)
   rotate_left
   · rw [if_neg c4] at H
     have c4b0 : decide (x5_1 < (l0.length : Int)) = false := decide_eq_false c4
     clear c4
     obtain rfl := sj H
     go_wp2
     go_ret
     exact ⟨er, Q6⟩
   rw [if_pos c4] at H
   have c4b0 : decide (x5_1 < (l0.length : Int)) = true := decide_eq_true c4
   clear c4
   by_cases c5 : 0 ≤ x5_1
   rotate_left
   · rw [if_neg c5] at H
     exact absurd H (by simp)
   rw [if_pos c5] at H
   have c5b0 : decide (0 ≤ x5_1) = true := decide_eq_true c5
   clear c5
   by_cases c6 : x5_1 < (l1.length : Int)
   rotate_left
   · rw [if_neg c6] at H
     exact absurd H (by simp)
   rw [if_pos c6] at H
   have c6b0 : decide (x5_1 < (l1.length : Int)) = true := decide_eq_true c6
   clear c6
   replace H := Option.bind_eq_some_iff.mp H
   obtain ⟨t599, A70, H⟩ := H
   replace H : (if t599 = true then (laws_eqConfOpS.l0 k1 l0 l1 (wrap64 (x5_1 + 1))) else (some false)) = some r := H
   have A7 := am A70
   clear A70
   have H9 := am H
   clear H
   try go_wp2
   replace HB := am (below_drew1 HB.out)
   have p597 : 0 ≤ (x5_1 : Int) := of_decide_eq_true Q5
   have q597 : x5_1 < (l0.length : Int) := of_decide_eq_true Q5
   obtain ⟨ad597, A597_2, c597_2, e597, hx597_0, hx597_1, hx597_2, hl597_2, hi597_2⟩ := at_T77 HR0.out x5_1 p597 q597
   have hw597_2 := hx597_2
   have hw597_1 := hx597_1
   have hw597_0 := hx597_0
   cases e597
   replace hx597_0 := cm HB.out hx597_0
   replace hx597_1 := cm HB.out hx597_1
   replace hx597_2 := cm HB.out hx597_2
   have HR597_2 := am hi597_2
   have HC597_2 := am hl597_2
   clear hi597_2 hl597_2
   replace p597 := eq_true p597
   replace q597 := eq_true q597
   have p598 : 0 ≤ (x5_1 : Int) := of_decide_eq_true Q5
   have q598 : x5_1 < (l1.length : Int) := of_decide_eq_true Q5
   obtain ⟨ad598, A598_2, c598_2, e598, hx598_0, hx598_1, hx598_2, hl598_2, hi598_2⟩ := at_T77 HR1.out x5_1 p598 q598
   have hw598_2 := hx598_2
   have hw598_1 := hx598_1
   have hw598_0 := hx598_0
   cases e598
   replace hx598_0 := cm HB.out hx598_0
   replace hx598_1 := cm HB.out hx598_1
   replace hx598_2 := cm HB.out hx598_2
   have HR598_2 := am hi598_2
   have HC598_2 := am hl598_2
   clear hi598_2 hl598_2
   replace p598 := eq_true p598
   replace q598 := eq_true q598
   refine start_ (n := 10) (S := fun w' => w'.cell? (ad597.add ((x5_1).toNat * 3)) = some (.int .i64 ((rd_T77 l0 x5_1).f0)) ∧ w'.cell? ⟨(ad597.add ((x5_1).toNat * 3)).block, (ad597.add ((x5_1).toNat * 3)).off + 1, none⟩ = some (.int .i64 ((rd_T77 l0 x5_1).f1)) ∧ w'.cell? ⟨(ad597.add ((x5_1).toNat * 3)).block, (ad597.add ((x5_1).toNat * 3)).off + 2, none⟩ = some (.slice A597_2 ((rd_T77 l0 x5_1).f2).length c597_2) ∧ w'.cell? (ad598.add ((x5_1).toNat * 3)) = some (.int .i64 ((rd_T77 l1 x5_1).f0)) ∧ w'.cell? ⟨(ad598.add ((x5_1).toNat * 3)).block, (ad598.add ((x5_1).toNat * 3)).off + 1, none⟩ = some (.int .i64 ((rd_T77 l1 x5_1).f1)) ∧ w'.cell? ⟨(ad598.add ((x5_1).toNat * 3)).block, (ad598.add ((x5_1).toNat * 3)).off + 2, none⟩ = some (.slice A598_2 ((rd_T77 l1 x5_1).f2).length c598_2)) (ds := []) #[false, false, false, false, false, false, false, false, false, false] kr rfl rfl ⟨(cm HB.out hw597_0), (cm HB.out hw597_1), (cm HB.out hw597_2), (cm HB.out hw598_0), (cm HB.out hw598_1), (cm HB.out hw598_2)⟩ (fun hHeld => ?_); refine with_tabW laws_eqConfOpS.tab6 laws_eqConfOpS.bits6 (fun HT_ HW_ => ?_)
   generalize wr.drew = w8 at HB HR597_2 HR598_2 hx597_0 hx597_1 hx597_2 hx598_0 hx598_1 hx598_2 hHeld ⊢
   refine pV 0 17 (bt 1 10) ?_
   refine pV 1 18 (bt 2 10) ?_
   refine pV 2 19 (bt 3 10) ?_
   refine pV 4 21 #[true, true, true, false, true, false, false, false, false, false] ?_
   refine pV 5 22 #[true, true, true, false, true, true, false, false, false, false] ?_
   refine pV 6 23 #[true, true, true, false, true, true, true, false, false, false] ?_
   refine tV 3 20 (bt 7 10) ?_
   refine tV 7 24 (bt 8 10) ?_
   refine one_ (i := 8) (N := some 25) #[true, true, true, true, true, true, true, true, true, false] rfl rfl (one_of HT_.out kr) (by decide) (fun K hK => ?_)
   refine goes_ Try.func64 kr rfl #[.agg #[.int .i64 ((rd_T77 l0 x5_1).f0), .int .i64 ((rd_T77 l0 x5_1).f1), .slice A597_2 ((rd_T77 l0 x5_1).f2).length c597_2], .agg #[.int .i64 ((rd_T77 l1 x5_1).f0), .int .i64 ((rd_T77 l1 x5_1).f1), .slice A598_2 ((rd_T77 l1 x5_1).f2).length c598_2]] (by rfl) rfl rfl Q10 ?_
   with_reducible refine (laws_eqConfOp.calls k1 ((rd_T77 l0 x5_1).f0) ((rd_T77 l0 x5_1).f1) _ _ ((rd_T77 l0 x5_1).f2) ((rd_T77 l1 x5_1).f0) ((rd_T77 l1 x5_1).f1) _ _ ((rd_T77 l1 x5_1).f2) t599 _ ?side1 ?side2 ?side3 ?side4 A7.out).mono ?_
   (case side1 => exact (by repeat (first | exact (Kd.C_below HR597_2.out HB.out) | (with_reducible refine Kd.C_alloc ?_ _) | (with_reducible refine Kd.C_drewN ?_ _) | (with_reducible refine Kd.C_drew ?_))))
   (case side2 => exact HC597_2.out)
   (case side3 => exact (by repeat (first | exact (Kd.C_below HR598_2.out HB.out) | (with_reducible refine Kd.C_alloc ?_ _) | (with_reducible refine Kd.C_drewN ?_ _) | (with_reducible refine Kd.C_drew ?_))))
   (case side4 => exact HC598_2.out)
   rintro e w9 ⟨rfl, hb⟩
   refine ⟨_, rfl, ?_⟩
   replace HB := am (below_step Q6 hb)
   (try clear hb)
   (try clear hb2)
   (try clear hk)
   (try clear hi)
   refine hK.out _ _ ⟨(cm HB.out hw597_0), (cm HB.out hw597_1), (cm HB.out hw597_2), (cm HB.out hw598_0), (cm HB.out hw598_1), (cm HB.out hw598_2)⟩ (fun hHeld => ?_)
   clear hK K
   refine norm_ (a' := ?_) ?_ ?_
   rotate_left
   · show Act.put _ (some 25) _ = _
     simp only [Act.put, la, lb, lc, i64_w, i32_w]
     rfl
   refine pV 9 26 (bt 10 10) ?_
   refine done_ (done_of HT_.out kr) ?_
   go_upto_if 26 with (fail)
   have H := H9.out
   clear H9
   by_cases c10 : t599 = true
   · subst c10
     rw [if_pos rfl] at H
     have H' := am H
     clear H
     go_wp2
     go_roundg k1
     case measure => have := HK1.out; omega
     case rel => exact ⟨(wrap64 (x5_1 + 1)), Q9, H', ⟨by have := HK1.out; omega⟩, ⟨Q6⟩⟩
   replace c10 := Bool.eq_false_iff.mpr c10
   subst c10
   rw [nf] at H
   obtain rfl := sj H
   go_wp2
   go_ret
   exact ⟨er, Q6⟩
def laws_markInt0.f (l0 : List Int) (a1 : Int) : Option Int := if l0.length = 0 then some a1 else none
set_option maxHeartbeats 400000 in
theorem laws_markInt0.calls (A0 : Option Addr) (c0 : Nat) (l0 : List Int) (a1 : Int) (r : Int) (w : World) (hr0 : Kd.C (Kd.int .i64) w A0 l0.length l0) (hc0 : l0.length ≤ c0) (h : laws_markInt0.f l0 a1 = some r) :
   Calls Try.prog 28 #[.slice A0 l0.length c0, .int .i64 a1] w fun e w' => e = .returned (.int .i64 r) ∧ Below w.heap.size w w' := by
 have hn : l0.length = 0 ∧ a1 = r := by
   unfold laws_markInt0.f at h
   by_cases e : l0.length = 0
   · rw [if_pos e] at h; exact ⟨e, Option.some.inj h⟩
   · rw [if_neg e] at h; exact absurd h (by simp)
 obtain ⟨hl, rfl⟩ := hn
 have HL := am hl
 clear h hl hr0 hc0
 go_enter Try.func28, Try.ntmps28
 go_wp2
 go_loopg [1, 5] 1 (fun kq v1 v5 w' => ∃ x5 : Int, v1 = .int .i64 a1 ∧ v5 = .int .i64 x5 ∧ Aside0 (x5 = 0) ∧ Aside0 (Below w.heap.size w w'))
 case atStart => exact ⟨0, rfl, rfl, ⟨rfl⟩, ⟨(by first | exact Below.refl _ _ | (repeat (first | exact Below.refl _ _ | apply below_alloc | apply pw_below_drewN | apply below_drew1)))⟩⟩
 obtain ⟨x5, rfl, rfl, X5, HB⟩ := hrel
 have c3 : decide (x5 < (l0.length : Int)) = false := decide_eq_false (by have := HL.out; have := X5.out; omega)
 go_wp2
 go_ret
 exact ⟨rfl, (by repeat (first | exact HB.out | apply below_alloc | apply pw_below_drewN | apply below_drew1))⟩
section
open Classical in
theorem S_lent_ {α : Type} {d : Kd α} {e g n cap base : Nat} {w W : World} {ok S2 : Nat → Prop} {xs : List α} {x' : α} (h : Kd.S d e w base ok (.slice (some ⟨g, 0, none⟩) n cap) xs) (z : α) (i : Int) (h0 : 0 ≤ i) (h1 : i < n) (hk : Kept w W S2)
   (back : ∀ (okq : Nat → Prop) (c : List Value), c.length = d.sz → d.M w base okq (xs.getD i.toNat z) c → (∀ j u, c[j]? = some u → w.cell? ⟨g, i.toNat * d.sz + j, none⟩ = some u) → (∀ k, S2 k → okq k) ∧ ∃ okp, d.M W base okp x' c ∧ ∀ k, okp k → okq k) :
   Kd.S d e W base ok (.slice (some ⟨g, 0, none⟩) n cap) (xs.set i.toNat x') := by
 obtain ⟨okq, c, hcl, hM, hcc, hokq, hH⟩ := Kd.S_lend h z i h0 h1
 obtain ⟨b1, okp, b2, b3⟩ := back okq c hcl hM hcc
 obtain ⟨hoo, f, hR⟩ := hH
 exact Kd.H_back ⟨hoo, f, Kd.R_kept hR hk (fun k q1 q2 => q1.2 (b1 k q2))⟩ b2 b3
end
def laws_markConfOpS.l0 : Nat → List (S77) → Int → Int → Option (Int × (List (S77)))
 | 0, _, _, _ => none
 | k + 1, x0, x1, x5 => if x5 < (x0.length : Int) then (if 0 ≤ x5 then ((some (x0.set (x5 : Int).toNat (⟨x1, (rd_T77 x0 x5).f1, (rd_T77 x0 x5).f2⟩ : S77) : List (S77))).bind fun y600 => ((some (y600.set (x5 : Int).toNat (⟨(rd_T77 y600 x5).f0, wrap64 (x1 + 1), (rd_T77 y600 x5).f2⟩ : S77) : List (S77))).bind fun y601 => ((laws_markIntS.f k ((rd_T77 y601 x5).f2) (wrap64 ((wrap64 (x1 + 1)) + 1))).bind fun bt603 => (laws_markConfOpS.l0 k (y601.set (x5 : Int).toNat (⟨(rd_T77 y601 x5).f0, (rd_T77 y601 x5).f1, bt603.2⟩ : S77)) bt603.1 (wrap64 (x5 + 1)))))) else (none)) else (some (x1, x0))
def laws_markConfOpS.f (k : Nat) (l0 : List (S77)) (a1 : Int) : Option (Int × (List (S77))) := laws_markConfOpS.l0 k l0 a1 0
theorem laws_markConfOpS.mono_l : ∀ k, (∀ y0 y1 y2, LeO (laws_markConfOpS.l0 k y0 y1 y2) (laws_markConfOpS.l0 (k + 1) y0 y1 y2))
 | 0 => fun _ _ _ r h => by simp [laws_markConfOpS.l0] at h
 | k + 1 => by
   have ih0 := laws_markConfOpS.mono_l k
   · intro y0 y1 y2
     unfold laws_markConfOpS.l0
     repeat' first
     | (with_reducible exact ih0 _ _ _)
     | (with_reducible exact laws_markIntS.mono _ _ _)
     | (with_reducible exact LeO.refl _)
     | (with_reducible exact LeO.none _)
     | (with_reducible refine LeO.ite ?_ ?_)
     | (with_reducible refine LeO.bind ?_ (fun _ => ?_))
     | exact ih0 _ _ _
     | exact LeO.none _
     | refine LeO.ite ?_ ?_
     | refine LeO.bind ?_ (fun _ => ?_)
theorem laws_markConfOpS.mono : ∀ a0 a1 k, LeO (laws_markConfOpS.f k a0 a1) (laws_markConfOpS.f (k + 1) a0 a1) := by
 intro a0 a1 k
 have ih0 := laws_markConfOpS.mono_l k
 unfold laws_markConfOpS.f
 repeat' first
     | (with_reducible exact ih0 _ _ _)
     | (with_reducible exact laws_markIntS.mono _ _ _)
     | (with_reducible exact LeO.refl _)
     | (with_reducible exact LeO.none _)
     | (with_reducible refine LeO.ite ?_ ?_)
     | (with_reducible refine LeO.bind ?_ (fun _ => ?_))
     | exact ih0 _ _ _
     | exact LeO.none _
     | refine LeO.ite ?_ ?_
     | refine LeO.bind ?_ (fun _ => ?_)
set_option maxHeartbeats 8000000 in
set_option maxRecDepth 100000 in
theorem laws_markConfOpS.calls0 (PK_ : Nat → Prop) (k : Nat) (P0_ : Nat → Prop) (u9000_ : Value) (l0 : List (S77)) (a1 : Int) (r1 : Int) (r2 : List (S77)) (w0 w : World) (hB : Below w0.heap.size w0 w) (ho0 : Kd.S k77 77 w w0.heap.size P0_ u9000_ l0) (hpk_ : ∀ k, (u9000_ : Value).ownBlock = some k → PK_ k) (hpi_ : ∀ k, P0_ k → PK_ k) (h : laws_markConfOpS.f k l0 a1 = some (r1, r2)) :
   Calls Try.prog 36 #[u9000_, .int .i64 a1] w fun e w' => e = .returned (.int .i64 r1) ∧ Kd.S k77 77 w' w0.heap.size (fun k_ => P0_ k_) u9000_ r2 ∧ Below w0.heap.size w0 w' ∧ Kept w w' (fun k_ => PK_ k_) := by
 have HO0 := am ho0
 have HPK := am hpk_
 clear hpk_
 have HPI := am hpi_
 clear hpi_
 have HK := am (Kept.refl w (fun k_ => PK_ k_))
 have HW0 := am hB.size
 have HB := am hB
 clear hB
 have H : (laws_markConfOpS.l0 k l0 a1 0) = some (r1, r2) := h
 clear h
 have H' := am H
 clear H
 go_enter Try.func36, Try.ntmps36
 go_wp2
 go_loopg [1, 5] k (fun kq v1 v5 w' => ∃ (x0_1 : List (S77)) (x1_1 : Int) (x5_1 : Int), v1 = .int .i64 x1_1 ∧ v5 = .int .i64 x5_1 ∧ Aside0 (laws_markConfOpS.l0 kq x0_1 x1_1 x5_1 = some (r1, r2)) ∧ Aside0 (kq ≤ k) ∧ Aside0 (Kd.S k77 77 w' w0.heap.size (fun k_ => P0_ k_) u9000_ x0_1) ∧ Aside0 (Kept w w' (fun k_ => PK_ k_)) ∧ Aside0 (Below w0.heap.size w0 w'))
 case atStart => exact ⟨(l0), (a1), (0), Q9, Q9, H', ⟨Nat.le_refl _⟩, ⟨(by (with_reducible repeat (first | apply s1_ | apply s2_ | apply s3_)); exact HO0.out)⟩, ⟨Q1⟩, ⟨Q6⟩⟩
 clear H'
 obtain ⟨x0_1, x1_1, x5_1, rfl, rfl, HA, HK1, HO_0, HK, HB⟩ := hrel
 cases gk with
 | zero => exact absurd HA.out (by simp [laws_markConfOpS.l0])
 | succ k1 =>
   have H := HA.out
   clear HA
   simp only [laws_markConfOpS.l0] at H
   by_cases c3 : x5_1 < (x0_1.length : Int)
   rotate_left
   · rw [if_neg c3] at H
     have c3b0 : decide (x5_1 < (x0_1.length : Int)) = false := decide_eq_false c3
     clear c3
     simp only [Option.some.injEq, Prod.mk.injEq] at H
     obtain ⟨rfl, rfl⟩ := H
     obtain ⟨Ao14, co14, eo14⟩ := Kd.S_slice HO_0.out
     subst eo14
     go_wp2
     go_ret
     exact ⟨er, u15_4, Q6, Q1⟩
   rw [if_pos c3] at H
   have c3b0 : decide (x5_1 < (x0_1.length : Int)) = true := decide_eq_true c3
   clear c3
   by_cases c4 : 0 ≤ x5_1
   rotate_left
   · rw [if_neg c4] at H
     exact absurd H (by simp)
   rw [if_pos c4] at H
   have c4b0 : decide (0 ≤ x5_1) = true := decide_eq_true c4
   clear c4
   obtain ⟨y600, hy600⟩ : ∃ y_ : List (S77), y_ = (x0_1.set (x5_1 : Int).toNat (⟨x1_1, (rd_T77 x0_1 x5_1).f1, (rd_T77 x0_1 x5_1).f2⟩ : S77)) := ⟨_, rfl⟩
   replace H : ((some (y600.set (x5_1 : Int).toNat (⟨(rd_T77 y600 x5_1).f0, wrap64 (x1_1 + 1), (rd_T77 y600 x5_1).f2⟩ : S77) : List (S77))).bind fun y601 => ((laws_markIntS.f k1 ((rd_T77 y601 x5_1).f2) (wrap64 ((wrap64 (x1_1 + 1)) + 1))).bind fun bt603 => (laws_markConfOpS.l0 k1 (y601.set (x5_1 : Int).toNat (⟨(rd_T77 y601 x5_1).f0, (rd_T77 y601 x5_1).f1, bt603.2⟩ : S77)) bt603.1 (wrap64 (x5_1 + 1))))) = some (r1, r2) := by first | (rw [hy600]; with_reducible exact H) | (have H2_ := (Option.bind_some _ _).symm.trans H; rw [hy600]; with_reducible exact H2_) | (have H2_ := (Option.bind_some _ _).symm.trans H; with_reducible exact H2_) | with_reducible exact H | (rw [hy600]; exact H) | exact H
   have Ny600 := am hy600
   clear hy600
   obtain ⟨y601, hy601⟩ : ∃ y_ : List (S77), y_ = (y600.set (x5_1 : Int).toNat (⟨(rd_T77 y600 x5_1).f0, wrap64 (x1_1 + 1), (rd_T77 y600 x5_1).f2⟩ : S77)) := ⟨_, rfl⟩
   replace H : ((laws_markIntS.f k1 ((rd_T77 y601 x5_1).f2) (wrap64 ((wrap64 (x1_1 + 1)) + 1))).bind fun bt603 => (laws_markConfOpS.l0 k1 (y601.set (x5_1 : Int).toNat (⟨(rd_T77 y601 x5_1).f0, (rd_T77 y601 x5_1).f1, bt603.2⟩ : S77)) bt603.1 (wrap64 (x5_1 + 1)))) = some (r1, r2) := by first | (rw [hy601]; with_reducible exact H) | (have H2_ := (Option.bind_some _ _).symm.trans H; rw [hy601]; with_reducible exact H2_) | (have H2_ := (Option.bind_some _ _).symm.trans H; with_reducible exact H2_) | with_reducible exact H | (rw [hy601]; exact H) | exact H
   have Ny601 := am hy601
   clear hy601
   replace H := Option.bind_eq_some_iff.mp H
   obtain ⟨⟨t603, t603b⟩, A70, H⟩ := H
   (try dsimp only at H)
   have A7 := am A70
   clear A70
   have H' := am H
   clear H
   obtain ⟨Ao8, co8, eo8⟩ := Kd.S_slice HO_0.out
   subst eo8
   have p5 : 0 ≤ (x5_1 : Int) := of_decide_eq_true Q5
   have q5 : (x5_1 : Int) < ((x0_1.length : Int) : Int) := of_decide_eq_true Q5
   obtain ⟨go5, co5, eo5, gb5, gl5, cl5, HG5⟩ := Kd.S_form HO_0.out (by omega)
   (first | cases eo5 | (injection eo5 with ea_ en_ ec_; (first | subst ea_ | (injection ea_ with ea_; subst ea_)); subst ec_; clear en_))
   have GB5 := am gb5
   have GG5 := am HG5
   clear gb5 gl5 HG5
   have HMgo5 := am (show P0_ go5 from ((Kd.S_R HO_0.out).1 _ rfl))
   obtain ⟨_, ce5, hcl5, hM5, hcc5, hfr5, _, _⟩ := Kd.S_elem HO_0.out z77 (x5_1 : Int) p5 q5
   obtain ⟨ve5_2, rfl, ge5_2⟩ := k77_openM hM5
   have hx5_0 : wr.cell? ⟨go5, (x5_1 : Int).toNat * 3, none⟩ = some (.int .i64 ((rd_T77 x0_1 x5_1).f0)) := hcc5 0 _ rfl
   have hx5_1 : wr.cell? ⟨go5, (x5_1 : Int).toNat * 3 + 1, none⟩ = some (.int .i64 ((rd_T77 x0_1 x5_1).f1)) := hcc5 1 _ rfl
   have hx5_2 : wr.cell? ⟨go5, (x5_1 : Int).toNat * 3 + 2, none⟩ = some (ve5_2) := hcc5 2 _ rfl
   have hf5_0 : wr.frozen? ⟨go5, (x5_1 : Int).toNat * 3, none⟩ = false := hfr5 0
   have hf5_1 : wr.frozen? ⟨go5, (x5_1 : Int).toNat * 3 + 1, none⟩ = false := hfr5 1
   have hf5_2 : wr.frozen? ⟨go5, (x5_1 : Int).toNat * 3 + 2, none⟩ = false := hfr5 2
   clear hcl5 hcc5 hfr5 hM5
   replace p5 := eq_true p5
   replace q5 := eq_true q5
   have HX9 := am (show Kd.S k77 77 wr w0.heap.size (fun k_ => ((fun k_ => P0_ k_)) k_ ∧ ¬ ((fun _ => False)) k_) (.slice (some ⟨go5, 0, none⟩) x0_1.length co8) x0_1 from u15_6)
   obtain ⟨oki9, ce9, hcl9, hM9, hcc9, hfr9, hoki9, hH9⟩ := Kd.S_elem HX9.out z77 (x5_1 : Int) (of_decide_eq_true Q5) (by have h_ : (x5_1 : Int) < ((x0_1.length : Int) : Int) := of_decide_eq_true Q5; first | exact h_ | (have e_ := (Kd.S_reads' HO_0.out).1; omega) | simpa using h_)
   obtain ⟨ve9_2, rfl, ge9_2⟩ := k77_openM hM9
   have HP9 := Kd.S_seg hH9 (of_decide_eq_true Q5) (by have h_ : (x5_1 : Int) < ((x0_1.length : Int) : Int) := of_decide_eq_true Q5; first | exact h_ | (have e_ := (Kd.S_reads' HO_0.out).1; omega) | simpa using h_) (seg := [.int .i64 x1_1]) (j := 0) (show 1 ≤ 3 from by decide) (x' := (⟨x1_1, (rd_T77 x0_1 x5_1).f1, (rd_T77 x0_1 x5_1).f2⟩ : S77)) (k77_mkM _ _ _ (⟨x1_1, (rd_T77 x0_1 x5_1).f1, (rd_T77 x0_1 x5_1).f2⟩ : S77) (Kd.R_mono ge9_2 (fun _ h_ => Or.inl h_))) (fun _ hk => hk) (fun k_ hk_ => hk_.elim)
   have hx9_0 := hcc9 0 _ rfl
   (try simp only [show (k77).sz = 3 from rfl, Nat.mul_one, Nat.add_zero] at hx9_0)
   have hf9_0 := hfr9 0
   (try simp only [show (k77).sz = 3 from rfl, Nat.mul_one, Nat.add_zero] at hf9_0)
   clear hcl9 hcc9 hfr9 hM9 hoki9 hH9
   go_wp2_with (first | ((with_reducible refine gate_store (t := 3) (p := 16) rfl ?_); refine store_event (t := 3) (p := 16) (v := ?vo_w10) (w1 := (wr.setCell ⟨go5, (x5_1 : Int).toNat * 3, none⟩ (.int .i64 x1_1))) ?hg ?ho ?hn ?hr ?_; (case ho => rfl); (case hg => rfl); (case hn => rfl); (case hr => first | (go_simp; done) | (go_simp; rfl)); intro w10 hw; have hg : wr.grownBy w10 (some go5) := (by rw [hw]; exact HP9.2); have hp_ : Kd.S k77 77 w10 w0.heap.size (fun k_ => P0_ k_) (.slice (some ⟨go5, 0, none⟩) x0_1.length co8) y600 := (by rw [hw, Ny600.out]; exact HP9.1); clear HP9; replace HO_0 := am (hp_); replace HB := am ((by rw [hw]; exact below_set (HB.out) GB5.out : Below w0.heap.size w0 w10)); replace HK := am (Kept.of_grown (S := (fun k_ => PK_ k_)) hg Q1 (fun k_ e_ => .inl (HPK.out k_ e_))); clear hg hw hp_; have p6 : 0 ≤ (x5_1 : Int) := of_decide_eq_true Q5; have q6 : (x5_1 : Int) < ((x0_1.length : Int) : Int) := of_decide_eq_true Q5; obtain ⟨_, ce6, hcl6, hM6, hcc6, hfr6, _, _⟩ := Kd.S_elem HO_0.out z77 (x5_1 : Int) p6 q6; obtain ⟨ve6_2, rfl, ge6_2⟩ := k77_openM hM6; have hx6_0 : w10.cell? ⟨go5, (x5_1 : Int).toNat * 3, none⟩ = some (.int .i64 ((rd_T77 y600 x5_1).f0)) := hcc6 0 _ rfl; have hx6_1 : w10.cell? ⟨go5, (x5_1 : Int).toNat * 3 + 1, none⟩ = some (.int .i64 ((rd_T77 y600 x5_1).f1)) := hcc6 1 _ rfl; have hx6_2 : w10.cell? ⟨go5, (x5_1 : Int).toNat * 3 + 2, none⟩ = some (ve6_2) := hcc6 2 _ rfl; have hf6_0 : w10.frozen? ⟨go5, (x5_1 : Int).toNat * 3, none⟩ = false := hfr6 0; have hf6_1 : w10.frozen? ⟨go5, (x5_1 : Int).toNat * 3 + 1, none⟩ = false := hfr6 1; have hf6_2 : w10.frozen? ⟨go5, (x5_1 : Int).toNat * 3 + 2, none⟩ = false := hfr6 2; clear hcl6 hcc6 hfr6 hM6; replace p6 := eq_true p6; replace q6 := eq_true q6; have HX11 := am (show Kd.S k77 77 w10 w0.heap.size (fun k_ => ((fun k_ => P0_ k_)) k_ ∧ ¬ ((fun _ => False)) k_) (.slice (some ⟨go5, 0, none⟩) x0_1.length co8) y600 from u15_6); obtain ⟨oki11, ce11, hcl11, hM11, hcc11, hfr11, hoki11, hH11⟩ := Kd.S_elem HX11.out z77 (x5_1 : Int) (of_decide_eq_true Q5) (by have h_ : (x5_1 : Int) < ((x0_1.length : Int) : Int) := of_decide_eq_true Q5; first | exact h_ | (have e_ := (Kd.S_reads' HO_0.out).1; omega) | simpa using h_); obtain ⟨ve11_2, rfl, ge11_2⟩ := k77_openM hM11; have HP11 := Kd.S_seg hH11 (of_decide_eq_true Q5) (by have h_ : (x5_1 : Int) < ((x0_1.length : Int) : Int) := of_decide_eq_true Q5; first | exact h_ | (have e_ := (Kd.S_reads' HO_0.out).1; omega) | simpa using h_) (seg := [.int .i64 (wrap64 (x1_1 + 1))]) (j := 1) (show 2 ≤ 3 from by decide) (x' := (⟨(rd_T77 y600 x5_1).f0, wrap64 (x1_1 + 1), (rd_T77 y600 x5_1).f2⟩ : S77)) (k77_mkM _ _ _ (⟨(rd_T77 y600 x5_1).f0, wrap64 (x1_1 + 1), (rd_T77 y600 x5_1).f2⟩ : S77) (Kd.R_mono ge11_2 (fun _ h_ => Or.inl h_))) (fun _ hk => hk) (fun k_ hk_ => hk_.elim); have hx11_1 := hcc11 1 _ rfl; (try simp only [show (k77).sz = 3 from rfl, Nat.mul_one, Nat.add_zero] at hx11_1); have hf11_1 := hfr11 1; (try simp only [show (k77).sz = 3 from rfl, Nat.mul_one, Nat.add_zero] at hf11_1); clear hcl11 hcc11 hfr11 hM11 hoki11 hH11) | ((with_reducible refine gate_store (t := 3) (p := 23) rfl ?_); refine store_event (t := 3) (p := 23) (v := ?vo_w12) (w1 := (w10.setCell ⟨go5, (x5_1 : Int).toNat * 3 + 1, none⟩ (.int .i64 (wrap64 (x1_1 + 1))))) ?hg ?ho ?hn ?hr ?_; (case ho => rfl); (case hg => rfl); (case hn => rfl); (case hr => first | (go_simp; done) | (go_simp; rfl)); intro w12 hw; have hg : w10.grownBy w12 (some go5) := (by rw [hw]; exact HP11.2); have hp_ : Kd.S k77 77 w12 w0.heap.size (fun k_ => P0_ k_) (.slice (some ⟨go5, 0, none⟩) x0_1.length co8) y601 := (by rw [hw, Ny601.out]; exact HP11.1); clear HP11; replace HO_0 := am (hp_); replace HB := am ((by rw [hw]; exact below_set (HB.out) GB5.out : Below w0.heap.size w0 w12)); replace HK := am (Kept.of_grown (S := (fun k_ => PK_ k_)) hg Q1 (fun k_ e_ => .inl (HPK.out k_ e_))); clear hg hw hp_; have p602 : 0 ≤ (x5_1 : Int) := of_decide_eq_true Q5; have q602 : x5_1 < (y601.length : Int) := (by have h_ : (x5_1 : Int) < ((x0_1.length : Int) : Int) := of_decide_eq_true Q5; first | (have e_ := (Kd.S_reads' HO_0.out).1; omega) | simpa only [Ny600.out, Ny601.out, List.length_set] using h_); have ql602 : ((x5_1 : Int) < ((x0_1.length : Int) : Int)) = True := eq_true (of_decide_eq_true Q5); obtain ⟨ad602, A602_2, c602_2, e602, hx602_0, hx602_1, hx602_2, hl602_2, hi602_2⟩ := at_T77 (Kd.S_reads' HO_0.out).2.2 x5_1 p602 q602; obtain rfl : (⟨go5, 0, none⟩ : Addr) = ad602 := (by injection e602); obtain ⟨ce602, hce602, hMe602, hcc602⟩ := Kd.S_get HO_0.out z77 x5_1 p602 (by first | exact q602 | exact of_decide_eq_true Q5 | (have e_ := (Kd.S_reads' HO_0.out).1; omega)); obtain ⟨ve602_2, rfl, ge602_2⟩ := k77_openM hMe602; have hv602_2 := hcc602 2 _ rfl; rw [add_field _ _ 2 (by omega)] at hv602_2; replace hv602_2 := Option.some.inj (hv602_2.symm.trans hx602_2); rw [hv602_2] at ge602_2; have HL602_2 := am (show Kd.R (Kd.int .i64) 3 _ _ _ _ ((rd_T77 y601 x5_1).f2) from ge602_2); clear hv602_2 ge602_2; clear hcc602 hce602; (first | simp only [add_plain] at hx602_0 | simp only [add_at] at hx602_0 | simp only [Addr.add, Nat.zero_add] at hx602_0 | skip); (first | simp only [add_plain] at hx602_1 | simp only [add_at] at hx602_1 | simp only [Addr.add, Nat.zero_add] at hx602_1 | skip); (first | simp only [add_plain] at hx602_2 | simp only [add_at] at hx602_2 | simp only [Addr.add, Nat.zero_add] at hx602_2 | skip); have HR602_2 := am hi602_2; have HC602_2 := am hl602_2; clear hi602_2 hl602_2; replace p602 := eq_true p602; replace q602 := eq_true q602) | ((with_reducible refine gate_callee (f := 28) rfl ?_); refine goesL_ (some 32) rfl rfl Try.func28 kr rfl #[.slice A602_2 ((rd_T77 y601 x5_1).f2).length c602_2, .int .i64 (wrap64 ((wrap64 (x1_1 + 1)) + 1))] rfl Q10 ?_; (with_reducible refine (laws_markIntS.calls k1 (fun k_ => some k_ = ((.slice A602_2 ((rd_T77 y601 x5_1).f2).length c602_2) : Value).ownBlock) (.slice A602_2 ((rd_T77 y601 x5_1).f2).length c602_2) ((rd_T77 y601 x5_1).f2) (wrap64 ((wrap64 (x1_1 + 1)) + 1)) t603 t603b w0 _ ?side1 ?side2 A7.out).mono ?_); (case side1 => exact Q6); (case side2 => exact (by exact Kd.R_tight rfl (by (with_reducible repeat (first | apply r1_ | apply r2_ | apply r3_)); exact HL602_2.out))); rintro e w13 ⟨rfl, hy_, hb, hkp_⟩; refine ⟨_, rfl, ?_⟩; have hp_ : 0 ≤ (x5_1 : Int) := of_eq_true p602; have hq_ := of_eq_true q602; have n0_ := am (S_lent_ (x' := (⟨(rd_T77 y601 x5_1).f0, (rd_T77 y601 x5_1).f1, t603b⟩ : S77)) u15_4 z77 (x5_1 : Int) hp_ (by first | exact hq_ | exact of_decide_eq_true Q5 | (have e_ := (Kd.S_reads' HO_0.out).1; omega)) hkp_ (fun okq_ cq_ hcl_ hM_ hcc_ => by obtain ⟨vq_, rfl, gq_⟩ := k77_openM hM_; have hv_ := hcc_ 2 _ rfl; (try simp only [show (k77).sz = 3 from rfl] at hv_); obtain rfl : vq_ = (.slice A602_2 ((rd_T77 y601 x5_1).f2).length c602_2) := Option.some.inj (hv_.symm.trans (by first | exact hx602_2 | (simpa using hx602_2))); exact ⟨fun k_ e_ => gq_.1 k_ e_.symm, _, k77_mkM _ _ _ (⟨(rd_T77 y601 x5_1).f0, (rd_T77 y601 x5_1).f1, t603b⟩ : S77) (Kd.R_tight rfl hy_), fun k_ e_ => gq_.1 k_ e_.symm⟩)); have n3_ := am (Kept.then_ (S := (fun k_ => PK_ k_)) Q1 hkp_ (fun k_ e_ => .inl (HPI.out k_ ((Kd.R_mono (ok' := P0_) HL602_2.out (fun k_ h_ => h_.1)).1 k_ e_.symm)))); have n4_ := am (hb); clear HO_0; clear HL602_2; clear HR602_2; clear HK; clear HB; have HO_0 := n0_; have HK := n3_; have HB := n4_; clear n0_ n3_ n4_; (try clear hb); (try clear hb2); (try clear hkp_); (try clear hy_)))
   go_roundg k1
   case measure => have := HK1.out; omega
   case rel => exact ⟨(y601.set (x5_1 : Int).toNat (⟨(rd_T77 y601 x5_1).f0, (rd_T77 y601 x5_1).f1, t603b⟩ : S77)), (t603), (wrap64 (x5_1 + 1)), Q9, Q9, H', ⟨by have := HK1.out; omega⟩, ⟨u15_4⟩, ⟨Q1⟩, ⟨Q6⟩⟩
theorem laws_markConfOpS.calls (k : Nat) (P0_ : Nat → Prop) (u9000_ : Value) (l0 : List (S77)) (a1 : Int) (r1 : Int) (r2 : List (S77)) (w0 w : World) (hB : Below w0.heap.size w0 w) (ho0 : Kd.S k77 77 w w0.heap.size P0_ u9000_ l0) (h : laws_markConfOpS.f k l0 a1 = some (r1, r2)) :
   Calls Try.prog 36 #[u9000_, .int .i64 a1] w fun e w' => e = .returned (.int .i64 r1) ∧ Kd.S k77 77 w' w0.heap.size (fun k_ => P0_ k_) u9000_ r2 ∧ Below w0.heap.size w0 w' ∧ Kept w w' (fun k_ => P0_ k_) :=
 laws_markConfOpS.calls0 (fun k_ => P0_ k_) k P0_ u9000_ l0 a1 r1 r2 w0 w hB ho0 (fun k_ e_ => (Kd.S_R ho0).1 k_ e_) (fun k_ e_ => e_) h
def laws_markBoolS.l0 : Nat → List Bool → Int → Int → Option (Int × List Bool)
 | 0, _, _, _ => none
 | k + 1, x0, x1, x5 => if x5 < (x0.length : Int) then (if 0 ≤ x5 then (laws_markBoolS.l0 k (x0.set (x5 : Int).toNat ((Int.tmod x1 3) == 0)) (wrap64 (x1 + 1)) (wrap64 (x5 + 1))) else (none)) else (some (x1, x0))
def laws_markBoolS.f (k : Nat) (l0 : List Bool) (a1 : Int) : Option (Int × List Bool) := laws_markBoolS.l0 k l0 a1 0
theorem laws_markBoolS.mono_l : ∀ k, (∀ y0 y1 y2, LeO (laws_markBoolS.l0 k y0 y1 y2) (laws_markBoolS.l0 (k + 1) y0 y1 y2))
 | 0 => fun _ _ _ r h => by simp [laws_markBoolS.l0] at h
 | k + 1 => by
   have ih0 := laws_markBoolS.mono_l k
   · intro y0 y1 y2
     unfold laws_markBoolS.l0
     repeat' first
     | (with_reducible exact ih0 _ _ _)
     | (with_reducible exact LeO.refl _)
     | (with_reducible exact LeO.none _)
     | (with_reducible refine LeO.ite ?_ ?_)
     | (with_reducible refine LeO.bind ?_ (fun _ => ?_))
     | exact ih0 _ _ _
     | exact LeO.none _
     | refine LeO.ite ?_ ?_
     | refine LeO.bind ?_ (fun _ => ?_)
theorem laws_markBoolS.mono : ∀ a0 a1 k, LeO (laws_markBoolS.f k a0 a1) (laws_markBoolS.f (k + 1) a0 a1) := by
 intro a0 a1 k
 have ih0 := laws_markBoolS.mono_l k
 unfold laws_markBoolS.f
 repeat' first
     | (with_reducible exact ih0 _ _ _)
     | (with_reducible exact LeO.refl _)
     | (with_reducible exact LeO.none _)
     | (with_reducible refine LeO.ite ?_ ?_)
     | (with_reducible refine LeO.bind ?_ (fun _ => ?_))
     | exact ih0 _ _ _
     | exact LeO.none _
     | refine LeO.ite ?_ ?_
     | refine LeO.bind ?_ (fun _ => ?_)
set_option maxHeartbeats 8000000 in
set_option maxRecDepth 100000 in
theorem laws_markBoolS.calls (k : Nat) (P0_ : Nat → Prop) (u9000_ : Value) (l0 : List Bool) (a1 : Int) (r1 : Int) (r2 : List Bool) (w0 w : World) (hB : Below w0.heap.size w0 w) (ho0 : Kd.R Kd.bool 4 w w0.heap.size P0_ u9000_ l0) (h : laws_markBoolS.f k l0 a1 = some (r1, r2)) :
   Calls Try.prog 37 #[u9000_, .int .i64 a1] w fun e w' => e = .returned (.int .i64 r1) ∧ Kd.R Kd.bool 4 w' w0.heap.size (fun k_ => (P0_ k_ ∨ w.heap.size ≤ k_)) u9000_ r2 ∧ Below w0.heap.size w0 w' ∧ Kept w w' (fun k_ => P0_ k_) := by
 have HO0 := am (show Kd.R Kd.bool 4 w w0.heap.size (fun k_ => (P0_ k_ ∨ w.heap.size ≤ k_)) u9000_ l0 from Kd.R_mono ho0 (fun k_ hk => (.inl hk)))
 have HK := am (Kept.refl w (fun k_ => P0_ k_))
 have HW0 := am hB.size
 have HB := am hB
 clear hB
 have H : (laws_markBoolS.l0 k l0 a1 0) = some (r1, r2) := h
 clear h
 have H' := am H
 clear H
 go_enter Try.func37, Try.ntmps37
 go_wp2
 go_loopg [1, 5] k (fun kq v1 v5 w' => ∃ (x0_1 : List Bool) (x1_1 : Int) (x5_1 : Int), v1 = .int .i64 x1_1 ∧ v5 = .int .i64 x5_1 ∧ Aside0 (laws_markBoolS.l0 kq x0_1 x1_1 x5_1 = some (r1, r2)) ∧ Aside0 (kq ≤ k) ∧ Aside0 (Kd.R Kd.bool 4 w' w0.heap.size (fun k_ => (P0_ k_ ∨ w.heap.size ≤ k_)) u9000_ x0_1) ∧ Aside0 (Kept w w' (fun k_ => P0_ k_)) ∧ Aside0 (Below w0.heap.size w0 w'))
 case atStart => exact ⟨(l0), (a1), (0), Q9, Q9, H', ⟨Nat.le_refl _⟩, ⟨(by (with_reducible repeat (first | apply r1_ | apply r2_ | apply r3_)); exact HO0.out)⟩, ⟨Q1⟩, ⟨Q6⟩⟩
 clear H'
 obtain ⟨x0_1, x1_1, x5_1, rfl, rfl, HA, HK1, HO_0, HK, HB⟩ := hrel
 cases gk with
 | zero => exact absurd HA.out (by simp [laws_markBoolS.l0])
 | succ k1 =>
   have H := HA.out
   clear HA
   simp only [laws_markBoolS.l0] at H
   by_cases c3 : x5_1 < (x0_1.length : Int)
   rotate_left
   · rw [if_neg c3] at H
     have c3b0 : decide (x5_1 < (x0_1.length : Int)) = false := decide_eq_false c3
     clear c3
     simp only [Option.some.injEq, Prod.mk.injEq] at H
     obtain ⟨rfl, rfl⟩ := H
     obtain ⟨Ao9, co9, eo9⟩ := Kd.R_slice HO_0.out
     subst eo9
     go_wp2
     go_ret
     exact ⟨er, Q4, Q6, Q1⟩
   rw [if_pos c3] at H
   have c3b0 : decide (x5_1 < (x0_1.length : Int)) = true := decide_eq_true c3
   clear c3
   by_cases c4 : 0 ≤ x5_1
   rotate_left
   · rw [if_neg c4] at H
     exact absurd H (by simp)
   rw [if_pos c4] at H
   have c4b0 : decide (0 ≤ x5_1) = true := decide_eq_true c4
   clear c4
   obtain ⟨y604, hy604⟩ : ∃ y_ : List Bool, y_ = (x0_1.set (x5_1 : Int).toNat ((Int.tmod x1_1 3) == 0)) := ⟨_, rfl⟩
   replace H : (laws_markBoolS.l0 k1 y604 (wrap64 (x1_1 + 1)) (wrap64 (x5_1 + 1))) = some (r1, r2) := by first | (rw [hy604]; with_reducible exact H) | (have H2_ := (Option.bind_some _ _).symm.trans H; rw [hy604]; with_reducible exact H2_) | (have H2_ := (Option.bind_some _ _).symm.trans H; with_reducible exact H2_) | with_reducible exact H | (rw [hy604]; exact H) | exact H
   have Ny604 := am hy604
   clear hy604
   have H' := am H
   clear H
   obtain ⟨Ao6, co6, eo6⟩ := Kd.R_slice HO_0.out
   subst eo6
   have p5 : 0 ≤ (x5_1 : Int) := of_decide_eq_true Q5
   have q5 : (x5_1 : Int) < ((x0_1.length : Int) : Int) := of_decide_eq_true Q5
   obtain ⟨go5, co5, eo5, gb5, gl5, cl5, HG5⟩ := Kd.R_form HO_0.out (by omega)
   (first | cases eo5 | (injection eo5 with ea_ en_ ec_; (first | subst ea_ | (injection ea_ with ea_; subst ea_)); subst ec_; clear en_))
   have GB5 := am gb5
   have GG5 := am HG5
   clear gb5 gl5 HG5
   have HMgo5 := am (show (P0_ go5 ∨ w.heap.size ≤ go5) from (HO_0.out.1 _ rfl))
   obtain ⟨hx5_0, hf5_0⟩ := Kd.R_celln false HO_0.out (x5_1 : Int) p5 q5
   replace p5 := eq_true p5
   replace q5 := eq_true q5
   have HP7 := Kd.R_putg HO_0.out (x5_1 : Int) ((Int.tmod x1_1 3) == 0)
   go_wp2_with (first | ((with_reducible refine gate_store (t := 4) (p := 17) rfl ?_); refine store_event (t := 4) (p := 17) (v := ?vo_w8) (w1 := (wr.setCell ⟨go5, (x5_1 : Int).toNat, none⟩ (.bool ((Int.tmod x1_1 3) == 0)))) ?hg ?ho ?hn ?hr ?_; (case ho => rfl); (case hg => rfl); (case hn => rfl); (case hr => first | (go_simp; done) | (go_simp; rfl)); intro w8 hw; have hg : wr.grownBy w8 (some go5) := (by rw [hw]; exact HP7.2); have hp_ : Kd.R Kd.bool 4 w8 w0.heap.size (fun k_ => (P0_ k_ ∨ w.heap.size ≤ k_)) (.slice (some ⟨go5, 0, none⟩) x0_1.length co6) y604 := (by rw [hw, Ny604.out]; exact HP7.1); clear HP7; replace HB := am ((by rw [hw]; exact below_set (HB.out) GB5.out : Below w0.heap.size w0 w8)); replace HK := am (Kept.of_grown (S := (fun k_ => P0_ k_)) hg Q1 (fun k_ e_ => (HO_0.out.1 k_ e_))); replace HO_0 := am (hp_); clear hg hw hp_))
   go_roundg k1
   case measure => have := HK1.out; omega
   case rel => exact ⟨(y604), (wrap64 (x1_1 + 1)), (wrap64 (x5_1 + 1)), Q9, Q9, H', ⟨by have := HK1.out; omega⟩, ⟨Q4⟩, ⟨Q1⟩, ⟨Q6⟩⟩
def laws_heldBoolS.l0 : Nat → List Bool → Int → Int → Option (Int)
 | 0, _, _, _ => none
 | k + 1, x0, x1, x5 => if x5 < (x0.length : Int) then (if 0 ≤ x5 then (if ((rdOf false x0 x5) != ((Int.tmod x1 3) == 0)) = true then (some (-1)) else (laws_heldBoolS.l0 k x0 (wrap64 (x1 + 1)) (wrap64 (x5 + 1)))) else (none)) else (some x1)
def laws_heldBoolS.f (k : Nat) (l0 : List Bool) (a1 : Int) : Option (Int) := laws_heldBoolS.l0 k l0 a1 0
theorem laws_heldBoolS.mono_l : ∀ k, (∀ y0 y1 y2, LeO (laws_heldBoolS.l0 k y0 y1 y2) (laws_heldBoolS.l0 (k + 1) y0 y1 y2))
 | 0 => fun _ _ _ r h => by simp [laws_heldBoolS.l0] at h
 | k + 1 => by
   have ih0 := laws_heldBoolS.mono_l k
   · intro y0 y1 y2
     unfold laws_heldBoolS.l0
     repeat' first
     | (with_reducible exact ih0 _ _ _)
     | (with_reducible exact LeO.refl _)
     | (with_reducible exact LeO.none _)
     | (with_reducible refine LeO.ite ?_ ?_)
     | (with_reducible refine LeO.bind ?_ (fun _ => ?_))
     | exact ih0 _ _ _
     | exact LeO.none _
     | refine LeO.ite ?_ ?_
     | refine LeO.bind ?_ (fun _ => ?_)
theorem laws_heldBoolS.mono : ∀ a0 a1 k, LeO (laws_heldBoolS.f k a0 a1) (laws_heldBoolS.f (k + 1) a0 a1) := by
 intro a0 a1 k
 have ih0 := laws_heldBoolS.mono_l k
 unfold laws_heldBoolS.f
 repeat' first
     | (with_reducible exact ih0 _ _ _)
     | (with_reducible exact LeO.refl _)
     | (with_reducible exact LeO.none _)
     | (with_reducible refine LeO.ite ?_ ?_)
     | (with_reducible refine LeO.bind ?_ (fun _ => ?_))
     | exact ih0 _ _ _
     | exact LeO.none _
     | refine LeO.ite ?_ ?_
     | refine LeO.bind ?_ (fun _ => ?_)
set_option maxHeartbeats 8000000 in
set_option maxRecDepth 100000 in
theorem laws_heldBoolS.calls (k : Nat) (A0 : Option Addr) (c0 : Nat) (l0 : List Bool) (a1 : Int) (r : Int) (w : World) (hr0 : Kd.C Kd.bool w A0 l0.length l0) (hc0 : l0.length ≤ c0) (h : laws_heldBoolS.f k l0 a1 = some r) :
   Calls Try.prog 38 #[.slice A0 l0.length c0, .int .i64 a1] w fun e w' => e = .returned (.int .i64 r) ∧ Drawn0 w w' := by
 have HR0 := am hr0
 have HC0 := am hc0
 clear hr0 hc0
 have H : (laws_heldBoolS.l0 k l0 a1 0) = some r := h
 clear h
 have H' := am H
 clear H
 go_enter Try.func38, Try.ntmps38
 go_wp2
 go_loopg [1, 5] k (fun kq v1 v5 w' => ∃ (x1_1 : Int) (x5_1 : Int), v1 = .int .i64 x1_1 ∧ v5 = .int .i64 x5_1 ∧ Aside0 (laws_heldBoolS.l0 kq l0 x1_1 x5_1 = some r) ∧ Aside0 (kq ≤ k) ∧ Drawn0 w w')
 case atStart => exact ⟨(a1), (0), Q9, Q9, H', ⟨Nat.le_refl _⟩, Q3⟩
 clear H'
 obtain ⟨x1_1, x5_1, rfl, rfl, HA, HK1, ⟨m1, rfl⟩⟩ := hrel
 cases gk with
 | zero => exact absurd HA.out (by simp [laws_heldBoolS.l0])
 | succ k1 =>
   have H := HA.out
   clear HA
   simp only [laws_heldBoolS.l0] at H
   by_cases c3 : x5_1 < (l0.length : Int)
   rotate_left
   · rw [if_neg c3] at H
     have c3b0 : decide (x5_1 < (l0.length : Int)) = false := decide_eq_false c3
     clear c3
     obtain rfl := sj H
     go_wp2
     go_ret
     exact ⟨by first | rfl | (simp; done) | (simp [*]; done), Q3⟩
   rw [if_pos c3] at H
   have c3b0 : decide (x5_1 < (l0.length : Int)) = true := decide_eq_true c3
   clear c3
   by_cases c4 : 0 ≤ x5_1
   rotate_left
   · rw [if_neg c4] at H
     exact absurd H (by simp)
   rw [if_pos c4] at H
   have c4b0 : decide (0 ≤ x5_1) = true := decide_eq_true c4
   clear c4
   have H9 := am H
   clear H
   have p605 : 0 ≤ (x5_1 : Int) := of_decide_eq_true Q5
   have q605 : x5_1 < (l0.length : Int) := of_decide_eq_true Q5
   obtain ⟨ad605, e605, hx605_0⟩ := Kd.at_bool HR0.out x5_1 p605 q605
   cases e605
   replace p605 := eq_true p605
   replace q605 := eq_true q605
   go_upto_if 19 with (fail)
   have H := H9.out
   clear H9
   by_cases c5 : ((rdOf false l0 x5_1) != ((Int.tmod x1_1 3) == 0)) = true
   · rw [if_pos c5] at H
     have c5b0 : ((rdOf false l0 x5_1) != ((Int.tmod x1_1 3) == 0)) = true := c5
     (try (have c5b1 : decide ((rdOf false l0 x5_1) = ((Int.tmod x1_1 3) == 0)) = false := by simpa using c5))
     (try (have c5b2 : ((rdOf false l0 x5_1) == ((Int.tmod x1_1 3) == 0)) = false := by simpa using c5))
     (try (have c5b3 : ¬ ((rdOf false l0 x5_1) = ((Int.tmod x1_1 3) == 0)) := by simpa using c5))
     clear c5
     (first | rw [c5b0] | (simp only [i64_w, i32_w]; rw [c5b0]) | rw [show (!(_ == _)) = _ from c5b0] | skip)
     obtain rfl := sj H
     go_wp2
     go_ret
     exact ⟨by first | rfl | (simp; done) | (simp [*]; done), Q3⟩
   rw [if_neg c5] at H
   have c5b0 : ((rdOf false l0 x5_1) != ((Int.tmod x1_1 3) == 0)) = false := by simpa using c5
   (try (have c5b1 : decide ((rdOf false l0 x5_1) = ((Int.tmod x1_1 3) == 0)) = true := by simpa using c5))
   (try (have c5b2 : ((rdOf false l0 x5_1) == ((Int.tmod x1_1 3) == 0)) = true := by simpa using c5))
   clear c5
   (first | rw [c5b0] | (simp only [i64_w, i32_w]; rw [c5b0]) | rw [show (!(_ == _)) = _ from c5b0] | skip)
   have H' := am H
   clear H
   go_wp2
   go_roundg k1
   case measure => have := HK1.out; omega
   case rel => exact ⟨(wrap64 (x1_1 + 1)), (wrap64 (x5_1 + 1)), Q9, Q9, H', ⟨by have := HK1.out; omega⟩, Q3⟩
end Go.Proofs.Ytoemdmjdpikfbaa.QFnExactPlayConf
