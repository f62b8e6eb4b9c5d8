-- Printed by the session's own program wip/prx.py.
import Derived.Test.YtjdpifafijcpbaaDoorSqFnExactOnceEach
import Derived.Test.YtjdpifafijcpbaaDoorQFnExactOnceEachx0
import Derived.Test.YtjdpifafijcpbaaDoorQFnExactOnceEachx6
namespace Go.Proofs.YtjdpifafijcpbaaDoor.QFnExactOnceEach
open Go.RowKit Go.Proofs.YtjdpifafijcpbaaDoorW.PrintWords Go.Proofs.YtjdpifafijcpbaaDoorW.PrintLast Go.Proofs.YtjdpifafijcpbaaDoorW.PrintMore Go.Proofs.YtjdpifafijcpbaaDoor.SqFnExactOnceEach
attribute [local go_sem] max2_int min2_int max_two min_two max_three min_three max_four min_four Go.Proofs.YtjdpifafijcpbaaDoor.Set.isSome_setCell
set_option linter.unusedVariables false
set_option linter.unusedSimpArgs false

-- squeezed
theorem u7_2 {P : Prop} (h : P := by (with_reducible repeat (first | refine blk_drewN ?_ _ | refine blk_drew ?_ | refine blk_alloc ?_ _)); exact BK271.out) : P := h
theorem u7_6 {P : Prop} (h : P := by (with_reducible repeat (first | refine blk_drewN ?_ _ | refine blk_drew ?_ | refine blk_alloc ?_ _)); exact BK272.out) : P := h
/-! ### laws_toSessionCallS: function 10 -/
def laws_toSessionCallS.l0 : Nat → List (S59) → List (S50) → Int → Option ((List (S50)))
 | 0, _, _, _ => none
 | k + 1, x0, x3, x4 => if x4 < (x0.length : Int) then (if 0 ≤ x4 then ((laws_toSessionCall.f ((rd_T59 x0 x4).f0) ((rd_T59 x0 x4).f1) ((rd_T59 x0 x4).f2)).bind fun bt267 => (if x4 < (x3.length : Int) then (laws_toSessionCallS.l0 k x0 (x3.set (x4 : Int).toNat (⟨bt267.1, bt267.2.1, bt267.2.2⟩ : S50)) (wrap64 (x4 + 1))) else (none))) else (none)) else (some x3)
def laws_toSessionCallS.f (k : Nat) (l0 : List (S59)) : Option ((List (S50))) := if 0 ≤ (l0.length : Int) then (if ((l0.length : Int) : Int).toNat ≤ 8796093022208 then (laws_toSessionCallS.l0 k l0 (List.replicate ((l0.length : Int) : Int).toNat z50) 0) else (none)) else (none)
theorem laws_toSessionCallS.mono_l : ∀ k, (∀ y0 y1 y2, LeO (laws_toSessionCallS.l0 k y0 y1 y2) (laws_toSessionCallS.l0 (k + 1) y0 y1 y2))
 | 0 => fun _ _ _ r h => by simp [laws_toSessionCallS.l0] at h
 | k + 1 => by
   have ih0 := laws_toSessionCallS.mono_l k
   · intro y0 y1 y2
     unfold laws_toSessionCallS.l0
     repeat' first
     | (with_reducible exact ih0 _ _ _)
     | (with_reducible exact LeO.refl _)
     | (with_reducible exact LeO.none _)
     | (with_reducible refine LeO.ite ?_ ?_)
     | (with_reducible refine LeO.bind ?_ (fun _ => ?_))
     | exact ih0 _ _ _
     | exact LeO.none _
     | refine LeO.ite ?_ ?_
     | refine LeO.bind ?_ (fun _ => ?_)
theorem laws_toSessionCallS.mono : ∀ a0 k, LeO (laws_toSessionCallS.f k a0) (laws_toSessionCallS.f (k + 1) a0) := by
 intro a0 k
 have ih0 := laws_toSessionCallS.mono_l k
 unfold laws_toSessionCallS.f
 repeat' first
     | (with_reducible exact ih0 _ _ _)
     | (with_reducible exact LeO.refl _)
     | (with_reducible exact LeO.none _)
     | (with_reducible refine LeO.ite ?_ ?_)
     | (with_reducible refine LeO.bind ?_ (fun _ => ?_))
     | exact ih0 _ _ _
     | exact LeO.none _
     | refine LeO.ite ?_ ?_
     | refine LeO.bind ?_ (fun _ => ?_)
set_option maxHeartbeats 8000000 in
set_option maxRecDepth 100000 in
theorem laws_toSessionCallS.calls (k : Nat) (A0 : Option Addr) (c0 : Nat) (l0 : List (S59)) (r : List (S50)) (w : World) (hr0 : Kd.C k59 w A0 l0.length l0) (hc0 : l0.length ≤ c0) (h : laws_toSessionCallS.f k l0 = some r) :
   Calls Tryd.prog 10 #[.slice A0 l0.length c0] w fun e w' => ∃ v0_ : Value, e = .returned (v0_) ∧ Kd.R k50 50 w' w.heap.size (fun _ => True) v0_ r ∧ Below w.heap.size w w' := by
 have hu59 := Tryd.underlying59
 have hu50 := Tryd.underlying50
 have HR0 := am hr0
 have HC0 := am hc0
 clear hr0 hc0
 have HB := am (Below.refl w.heap.size w)
 have H : (if 0 ≤ (l0.length : Int) then (if ((l0.length : Int) : Int).toNat ≤ 8796093022208 then (laws_toSessionCallS.l0 k l0 (List.replicate ((l0.length : Int) : Int).toNat z50) 0) else (none)) else (none)) = some r := h
 clear h
 by_cases c2 : 0 ≤ (l0.length : Int)
 rotate_left
 · rw [if_neg c2] at H
   exact absurd H (by simp)
 rw [if_pos c2] at H
 have c2b0 := eq_true c2
 have c2b1 : decide (0 ≤ (l0.length : Int)) = true := decide_eq_true c2
 clear c2
 by_cases c3 : ((l0.length : Int) : Int).toNat ≤ 8796093022208
 rotate_left
 · rw [if_neg c3] at H
   exact absurd H (by simp)
 rw [if_pos c3] at H
 have c3b0 := eq_true c3
 have c3b1 : decide (((l0.length : Int) : Int).toNat ≤ 8796093022208) = true := decide_eq_true c3
 clear c3
 obtain ⟨y263, hy263⟩ : ∃ y_ : List (S50), y_ = (List.replicate ((l0.length : Int) : Int).toNat z50) := ⟨_, rfl⟩
 replace H : (laws_toSessionCallS.l0 k l0 y263 0) = some r := by first | (rw [hy263]; with_reducible exact H) | (have H2_ := (Option.bind_some _ _).symm.trans H; rw [hy263]; with_reducible exact H2_) | (have H2_ := (Option.bind_some _ _).symm.trans H; with_reducible exact H2_) | with_reducible exact H | (rw [hy263]; exact H) | exact H
 have Ny263 := am hy263
 clear hy263
 have H' := am H
 clear H
 go_enter Tryd.func10, Tryd.ntmps10
 go_wp2_with (first | ((with_reducible refine gate_dst (N := 7) rfl ?_); refine Kd.R_make k50 _ 50 rfl (N := 7) rfl 35 _ _ rfl (l0.length : Int) rfl rfl Tryd.underlying35 (.agg #[(.int .i64 0), (.int .i64 0), (.string ⟨#[]⟩)]) 32 info50 rfl (by decide) (by omega) z50 (ok := fun _ => True) (okp := fun _ => True) (k50_mkM _ _ _ z50 ) (fun _ hk => hk) trivial (of_decide_eq_true q0) (Nat.le_trans (Nat.mul_le_mul_right _ (of_decide_eq_true q0 : (l0.length : Int).toNat ≤ 8796093022208)) (by omega)) (Below.refl _ _) (Nat.le_refl _) ?_; intro v264 w4 ho5 hb hg_ hnew_; clear hg_ hnew_; (first | rw [← Ny263.out] at ho5 | (simp only [Int.reduceToNat] at ho5; rw [← Ny263.out] at ho5)); have HO265 := am (Kd.R_lower ho5 (below_size q1)); replace HB := am (below_step q1 hb); clear hb ho5))
 go_loopg [4] k (fun kq v4 w' => ∃ (x3_1 : List (S50)) (x4_1 : Int), v4 = .int .i64 x4_1 ∧ Aside0 (laws_toSessionCallS.l0 kq l0 x3_1 x4_1 = some r) ∧ Aside0 (kq ≤ k) ∧ Aside0 (Kd.R k50 50 w' w.heap.size (fun _ => True) v264 x3_1) ∧ Aside0 (Below w.heap.size w w'))
 case atStart => exact ⟨(y263), (0), (by first | rfl | (simp; done) | (simp [*]; done)), H', ⟨Nat.le_refl _⟩, ⟨(by (with_reducible repeat (first | apply Kd.R_alloc | apply Kd.R_drewN | apply Kd.R_drew)); exact HO265.out)⟩, ⟨q1⟩⟩
 clear H'
 try clear c2
 try clear c2b0
 try clear c2b1
 try clear c3
 try clear c3b0
 try clear c3b1
 obtain ⟨x3_1, x4_1, rfl, HA, HK1, HO_3, HB⟩ := hrel
 cases gk with
 | zero => exact absurd HA.out (by simp [laws_toSessionCallS.l0])
 | succ k1 =>
   have H := HA.out
   clear HA
   simp only [laws_toSessionCallS.l0] at H
   by_cases c6 : x4_1 < (l0.length : Int)
   rotate_left
   · rw [if_neg c6] at H
     have c6b0 : decide (x4_1 < (l0.length : Int)) = false := decide_eq_false c6
     clear c6
     obtain rfl := sj H
     go_wp2
     go_ret
     exact ⟨_, er, q6, q1⟩
   rw [if_pos c6] at H
   have c6b0 : decide (x4_1 < (l0.length : Int)) = true := decide_eq_true c6
   clear c6
   by_cases c7 : 0 ≤ x4_1
   rotate_left
   · rw [if_neg c7] at H
     exact absurd H (by simp)
   rw [if_pos c7] at H
   have c7b0 : decide (0 ≤ x4_1) = true := decide_eq_true c7
   clear c7
   replace H := Option.bind_eq_some_iff.mp H
   obtain ⟨⟨t267, t268, t269⟩, A80, H⟩ := H
   (try dsimp only at H)
   have A8 := am A80
   clear A80
   by_cases c9 : x4_1 < (x3_1.length : Int)
   rotate_left
   · rw [if_neg c9] at H
     exact absurd H (by simp)
   rw [if_pos c9] at H
   have c9b0 : decide (x4_1 < (x3_1.length : Int)) = true := decide_eq_true c9
   clear c9
   obtain ⟨y270, hy270⟩ : ∃ y_ : List (S50), y_ = (x3_1.set (x4_1 : Int).toNat (⟨t267, t268, t269⟩ : S50)) := ⟨_, rfl⟩
   replace H : (laws_toSessionCallS.l0 k1 l0 y270 (wrap64 (x4_1 + 1))) = some r := by first | (rw [hy270]; with_reducible exact H) | (have H2_ := (Option.bind_some _ _).symm.trans H; rw [hy270]; with_reducible exact H2_) | (have H2_ := (Option.bind_some _ _).symm.trans H; with_reducible exact H2_) | with_reducible exact H | (rw [hy270]; exact H) | exact H
   have Ny270 := am hy270
   clear hy270
   have H' := am H
   clear H
   have p266 : 0 ≤ (x4_1 : Int) := of_decide_eq_true q0
   have q266 : x4_1 < (l0.length : Int) := of_decide_eq_true q0
   obtain ⟨ad266, e266, hx266_0, hx266_1, hx266_2⟩ := at_T59 HR0.out x4_1 p266 q266
   cases e266
   replace hx266_0 := cm HB.out hx266_0
   replace hx266_1 := cm HB.out hx266_1
   replace hx266_2 := cm HB.out hx266_2
   replace p266 := eq_true p266
   replace q266 := eq_true q266
   go_wp2_with (first | ((with_reducible refine gate_callee (f := 33) rfl ?_); refine goesL_ (some 20) rfl rfl Tryd.func33 kr rfl #[.agg #[.int .i64 ((rd_T59 l0 x4_1).f0), .int .i64 ((rd_T59 l0 x4_1).f1), .string ((rd_T59 l0 x4_1).f2)]] rfl (by (try simp only [List.map_toArray, List.map_cons, List.map_nil]); first | done | rfl | (simp only [List.length_drop, List.length_take]; rfl)) ?_; (with_reducible refine (laws_toSessionCall.calls ((rd_T59 l0 x4_1).f0) ((rd_T59 l0 x4_1).f1) ((rd_T59 l0 x4_1).f2) t267 t268 t269 _ A8.out).mono ?_); rintro e w11 ⟨rfl, hb⟩; refine ⟨_, rfl, ?_⟩; replace HO_3 := am (Kd.R_below q6 hb); replace HB := am (below_step q1 hb); (try clear hb); (try clear hb2); (try clear hk); (try clear hi); have p10 : 0 ≤ (x4_1 : Int) := of_decide_eq_true q0; have q10 : (x4_1 : Int) < ((x3_1.length : Int) : Int) := of_decide_eq_true q0; obtain ⟨go10, co10, eo10, gb10, gl10, cl10, HG10⟩ := Kd.R_form HO_3.out (by omega); (first | cases eo10 | (injection eo10 with ea_ en_ ec_; (first | subst ea_ | (injection ea_ with ea_; subst ea_)); subst ec_; clear en_)); have GB10 := am gb10; have GG10 := am HG10; clear gb10 gl10 HG10; obtain ⟨ce10, hcl10, hM10, hcc10, hfr10⟩ := Kd.R_elem HO_3.out z50 (x4_1 : Int) p10 q10; obtain rfl := k50_openM hM10; have hx10_0 : w11.cell? ⟨go10, (x4_1 : Int).toNat * 3, none⟩ = some (.int .i64 ((rd_T50 x3_1 x4_1).f0)) := hcc10 0 _ rfl; have hx10_1 : w11.cell? ⟨go10, (x4_1 : Int).toNat * 3 + 1, none⟩ = some (.int .i64 ((rd_T50 x3_1 x4_1).f1)) := hcc10 1 _ rfl; have hx10_2 : w11.cell? ⟨go10, (x4_1 : Int).toNat * 3 + 2, none⟩ = some (.string ((rd_T50 x3_1 x4_1).f2)) := hcc10 2 _ rfl; have hf10_0 : w11.frozen? ⟨go10, (x4_1 : Int).toNat * 3, none⟩ = false := hfr10 0; have hf10_1 : w11.frozen? ⟨go10, (x4_1 : Int).toNat * 3 + 1, none⟩ = false := hfr10 1; have hf10_2 : w11.frozen? ⟨go10, (x4_1 : Int).toNat * 3 + 2, none⟩ = false := hfr10 2; clear hcl10 hcc10 hfr10 hM10; replace p10 := eq_true p10; replace q10 := eq_true q10; have HX12 := am (show Kd.R k50 50 w11 w.heap.size (fun _ => True) (.slice (some ⟨go10, 0, none⟩) x3_1.length co10) x3_1 from q6); obtain ⟨ce12, hcl12, hM12, hcc12, hfr12⟩ := Kd.R_elem HX12.out z50 (x4_1 : Int) (of_decide_eq_true q0) (by have h_ : (x4_1 : Int) < ((x3_1.length : Int) : Int) := of_decide_eq_true q0; first | exact h_ | (have e_ := (Kd.R_reads' HO_3.out).1; omega) | simpa using h_); obtain rfl := k50_openM hM12; have HP12 := Kd.R_seg HX12.out (x4_1 : Int) (of_decide_eq_true q0) (by have h_ : (x4_1 : Int) < ((x3_1.length : Int) : Int) := of_decide_eq_true q0; first | exact h_ | (have e_ := (Kd.R_reads' HO_3.out).1; omega) | simpa using h_) (seg := [.int .i64 t267, .int .i64 t268, .string t269]) (j := 0) hcl12 hcc12 (show 3 ≤ 3 from by decide) (x' := (⟨t267, t268, t269⟩ : S50)) (k50_mkM _ _ _ (⟨t267, t268, t269⟩ : S50) ) (fun _ hk => hk); have hx12_0 := hcc12 0 _ rfl; (try simp only [show (k50).sz = 3 from rfl, Nat.mul_one, Nat.add_zero] at hx12_0); have hf12_0 := hfr12 0; (try simp only [show (k50).sz = 3 from rfl, Nat.mul_one, Nat.add_zero] at hf12_0); have hx12_1 := hcc12 1 _ rfl; (try simp only [show (k50).sz = 3 from rfl, Nat.mul_one, Nat.add_zero] at hx12_1); have hf12_1 := hfr12 1; (try simp only [show (k50).sz = 3 from rfl, Nat.mul_one, Nat.add_zero] at hf12_1); have hx12_2 := hcc12 2 _ rfl; (try simp only [show (k50).sz = 3 from rfl, Nat.mul_one, Nat.add_zero] at hx12_2); have hf12_2 := hfr12 2; (try simp only [show (k50).sz = 3 from rfl, Nat.mul_one, Nat.add_zero] at hf12_2); clear hcl12 hcc12 hfr12 hM12) | ((with_reducible refine gate_store (t := 50) (p := 21) rfl ?_); refine store_event (t := 50) (p := 21) (v := ?vo_w13) (w1 := (((w11.setCell ⟨go10, (x4_1 : Int).toNat * 3, none⟩ (.int .i64 t267)).setCell ⟨go10, (x4_1 : Int).toNat * 3 + 1, none⟩ (.int .i64 t268)).setCell ⟨go10, (x4_1 : Int).toNat * 3 + 2, none⟩ (.string t269))) ?hg ?ho ?hn ?hr ?_; (case ho => rfl); (case hg => rfl); (case hn => rfl); (case hr => first | (go_simp; done) | (go_simp; rfl)); intro w13 hw; have hg : w11.grownBy w13 (some go10) := (by rw [hw]; exact HP12.2); have hp_ : Kd.R k50 50 w13 w.heap.size (fun _ => True) (.slice (some ⟨go10, 0, none⟩) x3_1.length co10) y270 := (by rw [hw, Ny270.out]; exact HP12.1); clear HP12; replace HO_3 := am (hp_); replace HB := am ((by rw [hw]; exact below_set (below_set (below_set (HB.out) GB10.out) GB10.out) GB10.out : Below w.heap.size w w13)); clear hg hw hp_))
   go_roundg k1
   case measure => have := HK1.out; omega
   case rel => exact ⟨(y270), (wrap64 (x4_1 + 1)), (by first | rfl | (simp; done) | (simp [*]; done)), H', ⟨by have := HK1.out; omega⟩, ⟨q6⟩, ⟨q1⟩⟩

/-! ### impl_copySessions: function 34 -/
def impl_copySessions.f (a0_0 : Int) (a0_1 : Int) (l0_2 : List (S54)) : Option (Int × Int × (List (S54))) := (some (([] : List (S54)) : List (S54))).bind fun y273 => (if y273.length + l0_2.length < 3518437208883 then (some (a0_0, a0_1, (y273 ++ l0_2))) else (none))
set_option maxHeartbeats 8000000 in
set_option maxRecDepth 100000 in
theorem impl_copySessions.calls (a0_0 : Int) (a0_1 : Int) (A0_2 : Option Addr) (c0_2 : Nat) (l0_2 : List (S54)) (r1 : Int) (r2 : Int) (r3 : List (S54)) (w : World) (hr0_2 : Kd.C k54 w A0_2 l0_2.length l0_2) (hc0_2 : l0_2.length ≤ c0_2) (h : impl_copySessions.f a0_0 a0_1 l0_2 = some (r1, r2, r3)) :
   Calls Tryd.prog 34 #[.agg #[.int .i64 a0_0, .int .i64 a0_1, .slice A0_2 l0_2.length c0_2]] w fun e w' => ∃ v2_ : Value, e = .returned (.agg #[.int .i64 r1, .int .i64 r2, v2_]) ∧ Kd.R k54 54 w' w.heap.size (fun _ => True) v2_ r3 ∧ Below w.heap.size w w' := by
 have hu30 := Tryd.underlying30
 have HR0_2 := am hr0_2
 have HC0_2 := am hc0_2
 clear hr0_2 hc0_2
 have HB := am (Below.refl w.heap.size w)
 have H : ((some (([] : List (S54)) : List (S54))).bind fun y273 => (if y273.length + l0_2.length < 3518437208883 then (some (a0_0, a0_1, (y273 ++ l0_2))) else (none))) = some (r1, r2, r3) := h
 clear h
 obtain ⟨y273, hy273⟩ : ∃ y_ : List (S54), y_ = (([] : List (S54))) := ⟨_, rfl⟩
 replace H : (if y273.length + l0_2.length < 3518437208883 then (some (a0_0, a0_1, (y273 ++ l0_2))) else (none)) = some (r1, r2, r3) := by first | (rw [hy273]; with_reducible exact H) | (have H2_ := (Option.bind_some _ _).symm.trans H; rw [hy273]; with_reducible exact H2_) | (have H2_ := (Option.bind_some _ _).symm.trans H; with_reducible exact H2_) | with_reducible exact H | (rw [hy273]; exact H) | exact H
 have Ny273 := am hy273
 clear hy273
 by_cases c2 : y273.length + l0_2.length < 3518437208883
 rotate_left
 · rw [if_neg c2] at H
   exact absurd H (by simp)
 rw [if_pos c2] at H
 have LMc2 := am c2
 clear c2
 obtain ⟨y276, hy276⟩ : ∃ y_ : List (S54), y_ = (y273 ++ l0_2) := ⟨_, rfl⟩
 replace H : (some (a0_0, a0_1, y276)) = some (r1, r2, r3) := by first | (rw [hy276]; with_reducible exact H) | (have H2_ := (Option.bind_some _ _).symm.trans H; rw [hy276]; with_reducible exact H2_) | (have H2_ := (Option.bind_some _ _).symm.trans H; with_reducible exact H2_) | with_reducible exact H | (rw [hy276]; exact H) | exact H
 have Ny276 := am hy276
 clear hy276
 simp only [Option.some.injEq, Prod.mk.injEq] at H
 obtain ⟨rfl, rfl, rfl⟩ := H
 go_enter Tryd.func34, Tryd.ntmps34
 go_wp2_with (first | ((with_reducible refine gate_dst (N := 1) rfl ?_); refine box_event ?hg (N := 1) ?hd (cs := #[.int .i64 a0_0, .int .i64 a0_1, .slice A0_2 l0_2.length c0_2]) (t := 30) ?hr ?_; (case hd => rfl); (case hg => rfl); (case hr => first | (go_simp; done) | (go_simp; rfl)); intro gb271 hg w3 hbox hb; have BK271 := am (hbox); have GW271 := am ((by rw [hg]; exact (below_size q1) : w.heap.size ≤ gb271)); have GE271 := am ((by rw [hg]; exact (below_size q1) : w.heap.size ≤ gb271)); replace HB := am (below_step q1 hb); clear hb hbox hg) | ((with_reducible refine gate_dst (N := 2) rfl ?_); refine box_event ?hg (N := 2) ?hd (cs := #[.int .i64 0, .int .i64 0, .slice none 0 0]) (t := 30) ?hr ?_; (case hd => rfl); (case hg => rfl); (case hr => first | (go_simp; done) | (go_simp; rfl)); intro gb272 hg w4 hbox hb; have BK272 := am (hbox); have GW272 := am ((by rw [hg]; exact (below_size q1) : w.heap.size ≤ gb272)); have GE272 := am ((by rw [hg]; exact (below_size q1) : w.heap.size ≤ gb272)); replace HB := am (below_step q1 hb); have NB271_272 := am ((by rw [hg]; exact Nat.ne_of_lt (blk_lt (g := gb271) (o := .cells #[.int .i64 a0_0, .int .i64 a0_1, .slice A0_2 l0_2.length c0_2] 30 (0, 0)) u7_2) : gb271 ≠ gb272)); have NB272_271 := am ((by rw [hg]; exact Nat.ne_of_gt (blk_lt (g := gb271) (o := .cells #[.int .i64 a0_0, .int .i64 a0_1, .slice A0_2 l0_2.length c0_2] 30 (0, 0)) u7_2) : gb272 ≠ gb271)); replace BK271 := am (blk_below (g := gb271) (o := .cells #[.int .i64 a0_0, .int .i64 a0_1, .slice A0_2 l0_2.length c0_2] 30 (0, 0)) u7_2 hb); clear hb hbox hg) | ((with_reducible refine gate_dst (N := 3) rfl ?_); refine Kd.R_lit k54 _ 54 ?hg (N := 3) ?hd (xs := ([] : List (S54))) (inner := []) (ok := fun _ => True) (okp := fun _ => True) ?hr ?hp (fun _ hk => hk) trivial (Below.refl _ _) (Nat.le_refl _) (by simp) ?_; (case hd => rfl); (case hg => rfl); (case hr => first | (go_simp; done) | (go_simp; rfl)); (case hp => exact (Reps.none _ _)); intro v274 w5 ho6 hb hg_ hnew_; clear hg_ hnew_; (first | rw [← Ny273.out] at ho6 | (simp only [Int.reduceToNat] at ho6; rw [← Ny273.out] at ho6)); have HO275 := am (Kd.R_lower ho6 (below_size q1)); replace BK271 := am (blk_below (g := gb271) (o := .cells #[.int .i64 a0_0, .int .i64 a0_1, .slice A0_2 l0_2.length c0_2] 30 (0, 0)) u7_2 hb); replace BK272 := am (blk_below (g := gb272) (o := .cells #[.int .i64 0, .int .i64 0, .slice none 0 0] 30 (0, 0)) u7_6 hb); replace HB := am (below_step q1 hb); clear hb ho6; have hnb7 := NB271_272.out; have hnc7 := NB272_271.out; obtain ⟨hcz8_0, hcz8_1, hcz8_2, hfz8_0, hfz8_1, hfz8_2⟩ := bc3f w5 BK271.out) | ((with_reducible refine gate_builtin (b := .append) (xs := #[.tmp 3, .tmp 5]) rfl ?_); at_builtin; refine Kd.R_append_rows k54 (w0 := w) w.heap.size rfl (.tmp 3) (.tmp 5) 28 54 (.agg #[(.int .i64 0), (.int .i64 0), (.int .i64 0), (.string ⟨#[]⟩)]) 40 rfl Tryd.underlying28 info54 rfl (by decide) (by omega) v274 y273 l0_2 _ _ _ (fun _ => True) (fun _ => False) rfl rfl ?aO ?aR (fun _ _ h => h) (fun _ h => h.elim) ?aF ?aB ?aS ?aL ?_; (case aR => repeat (first | exact (Kd.C_below HR0_2.out HB.out) | (with_reducible refine Kd.C_alloc ?_ _) | (with_reducible refine Kd.C_drewN ?_ _) | (with_reducible refine Kd.C_drew ?_))); (case aB => exact q1); (case aF => exact (fun _ _ => trivial)); (case aO => exact (by (with_reducible repeat (first | apply Kd.R_alloc | apply Kd.R_drewN | apply Kd.R_drew)); exact HO275.out)); (case aS => exact (below_size q1)); (case aL => have := LMc2.out; omega); intro v277 w9 ho hb hg hat; rw [← Ny276.out] at ho; replace BK271 := am (blk_grown (g := gb271) (o := .cells #[.int .i64 a0_0, .int .i64 a0_1, .slice A0_2 l0_2.length c0_2] 30 (0, 0)) u7_2 hg (Kd.R_ne HO275.out BK271.out (by decide))); replace BK272 := am (blk_grown (g := gb272) (o := .cells #[.int .i64 0, .int .i64 0, .slice none 0 0] 30 (0, 0)) u7_6 hg (Kd.R_ne HO275.out BK272.out (by decide))); replace HB := am (hb); have HO278 := am (ho); clear HO275; clear ho hb hg hat; obtain ⟨Ao10, co10, eo10⟩ := Kd.R_slice HO278.out; subst eo10; obtain ⟨hcz11_0, hcz11_1, hcz11_2, hfz11_0, hfz11_1, hfz11_2⟩ := bc3f w9 BK271.out; obtain ⟨hcz12_0, hcz12_1, hcz12_2, hfz12_0, hfz12_1, hfz12_2⟩ := bc3f w9 BK272.out))
 refine bodyPost_ret (results_cell_row rfl _ _ gb272 30 #[.int .i64 a0_0, .int .i64 a0_1, .slice Ao10 y276.length co10] (0, 0) _ rfl (by (with_reducible repeat (first | refine blk_drewN ?_ _ | refine blk_drew ?_ | refine blk_alloc ?_ _)); refine blk_put (cs := #[.int .i64 a0_0, .int .i64 a0_1, .slice none 0 0]) ?_ 2 _ rfl; (with_reducible repeat (first | refine blk_drewN ?_ _ | refine blk_drew ?_ | refine blk_alloc ?_ _)); refine blk_put (cs := #[.int .i64 a0_0, .int .i64 0, .slice none 0 0]) ?_ 1 _ rfl; (with_reducible repeat (first | refine blk_drewN ?_ _ | refine blk_drew ?_ | refine blk_alloc ?_ _)); refine blk_put (cs := #[.int .i64 0, .int .i64 0, .slice none 0 0]) ?_ 0 _ rfl; (with_reducible repeat (first | refine blk_drewN ?_ _ | refine blk_drew ?_ | refine blk_alloc ?_ _)); refine blk_far ?_ NB272_271.out _; (with_reducible repeat (first | refine blk_drewN ?_ _ | refine blk_drew ?_ | refine blk_alloc ?_ _)); exact BK272.out) Tryd.underlying30 rfl kr) rfl ?_
 exact ⟨_, er, (by (with_reducible repeat (first | apply Kd.R_alloc | apply Kd.R_drewN | apply Kd.R_drew)); exact Kd.R_mono (Kd.R_far (p := ⟨gb272, 2, none⟩) (Kd.R_far (p := ⟨gb272, 1, none⟩) (Kd.R_far (p := ⟨gb272, 0, none⟩) (Kd.R_far (p := ⟨gb271, 2, none⟩) (Kd.R_types (Kd.R_types HO278.out BK271.out (by decide)) BK272.out (by decide)) (fun _ hk => hk.1.2) (.slice Ao10 y276.length co10)) (fun _ hk => hk.2) (.int .i64 a0_0)) (fun _ hk => hk.2) (.int .i64 a0_1)) (fun _ hk => hk.2) (.slice Ao10 y276.length co10)) (fun _ hk => trivial)), q1⟩

/-! ### impl_Session_54: function 54 -/
def impl_Session_54.p (a1_0 : Int) (a1_1 : Int) (a1_2 : Int) (a1_3 : ByteArray) (y : S54) : Bool := (y.f2 == a1_2)
def impl_Session_54.f (l0 : List S54) (a1_0 : Int) (a1_1 : Int) (a1_2 : Int) (a1_3 : ByteArray) : Option Bool := some (l0.any (impl_Session_54.p a1_0 a1_1 a1_2 a1_3))
set_option maxHeartbeats 400000 in
theorem impl_Session_54.lit (b : Nat) (a1_0 : Int) (a1_1 : Int) (a1_2 : Int) (a1_3 : ByteArray) (y : S54) (w : World) (hb : w.heap[b]? = some (.cells #[.int .i64 a1_0, .int .i64 a1_1, .int .i64 a1_2, .string a1_3] 54 (0, 0))) :
   Calls Tryd.prog 55 #[.agg #[.int .i64 y.f0, .int .i64 y.f1, .int .i64 y.f2, .string y.f3], .pointer (some ⟨b, 0, none⟩)] w fun e w' => e = .returned (.bool (impl_Session_54.p a1_0 a1_1 a1_2 a1_3 y)) ∧ Below w.heap.size w w' := by
 have hu := Tryd.underlying54
 have hu2 := Tryd.underlying54
 have hc2 : ∀ o, (w.alloc o).cell? ⟨b, 2, none⟩ = some (.int .i64 a1_2) := fun o => (blk_cell (blk_alloc hb o) 2).trans rfl
 go_enter Tryd.func55, Tryd.ntmps55
 go_wp2
 go_ret
 exact ⟨rfl, below_alloc (Below.refl _ _) _⟩
set_option maxHeartbeats 1600000 in
theorem impl_Session_54.idx (p : S54 → Bool) (bs : Array Value) (A0 : Option Addr) (c0 : Nat) (l0 : List S54) (w : World) (hr0 : Kd.C k54 w A0 l0.length l0) (hc0 : l0.length ≤ c0)
   (hf : ∀ (y : S54) (W : World), Below w.heap.size w W → Calls Tryd.prog 55 (#[.agg #[.int .i64 y.f0, .int .i64 y.f1, .int .i64 y.f2, .string y.f3]] ++ bs) W fun e w' => e = .returned (.bool (p y)) ∧ Below W.heap.size W w') :
   Calls Tryd.prog 62 #[.slice A0 l0.length c0, .func (.func 55) #[] bs] w fun e w' => e = .returned (.int .i64 (Go.Proofs.YtjdpifafijcpbaaDoor.Slc.idxB p l0)) ∧ Below w.heap.size w w' := by
 have hu54 := Tryd.underlying54
 have hn : l0.length ≤ 9223372036854775807 := hr0.2.1
 have HR := am hr0
 have HF := am hf
 clear hr0 hf
 go_enter Tryd.func62, Tryd.ntmps62
 go_wp2
 go_loopg [5, 8] l0.length (fun gg _ s8 wr => ∃ kk : Int, 0 ≤ kk ∧ kk ≤ l0.length ∧ l0.length - kk.toNat ≤ gg ∧ s8 = .int .i64 kk ∧ Aside0 (Below w.heap.size w wr) ∧ Aside0 (∀ j : Nat, (j : Int) < kk → p (l0.getD j z54) = false))
 case atStart => exact ⟨0, by omega, by omega, by omega, rfl, ⟨Below.refl _ w⟩, ⟨fun j hj => by omega⟩⟩
 obtain ⟨kk, h0, hk, hg, rfl, BW, HA⟩ := hrel
 by_cases hlt : kk < (l0.length : Int)
 rotate_left
 · go_wp2
   go_ret
   refine ⟨?_, BW.out⟩
   rw [Go.Proofs.YtjdpifafijcpbaaDoor.Slc.idxB_miss p l0 z54 (fun j hj => HA.out j (by omega))]
   rfl
 obtain ⟨ad, e, hx0, hx1, hx2, hx3⟩ := at_T54 HR.out kk h0 hlt
 cases e
 replace hx0 := (BW.out.cell (World.block_lt_of_cell? w _ hx0)).trans hx0
 replace hx1 := (BW.out.cell (World.block_lt_of_cell? w _ hx1)).trans hx1
 replace hx2 := (BW.out.cell (World.block_lt_of_cell? w _ hx2)).trans hx2
 replace hx3 := (BW.out.cell (World.block_lt_of_cell? w _ hx3)).trans hx3
 have HC := am (HF.out (l0.getD kk.toNat z54) wr BW.out)
 cases hq : p (l0.getD kk.toNat z54) with
 | true =>
   have HQ := am hq
   rw [hq] at HC
   clear hq
   go_wp2_with (go_at_call 55; refine HC.out.mono ?_; rintro e w' ⟨rfl, hb'⟩)
   go_ret
   refine ⟨?_, below_step BW.out hb'⟩
   rw [Go.Proofs.YtjdpifafijcpbaaDoor.Slc.idxB_hit p l0 z54 kk.toNat (by omega) HQ.out (fun j hj => HA.out j (by omega)), Int.toNat_of_nonneg h0]
   rfl
 | false =>
   have HQ := am hq
   rw [hq] at HC
   clear hq
   go_wp2_with (go_at_call 55; refine HC.out.mono ?_; rintro e w' ⟨rfl, hb'⟩)
   go_roundg (l0.length - (kk + 1).toNat)
   case measure => omega
   case rel =>
     refine ⟨kk + 1, by omega, by omega, by omega, by go_num, ⟨below_step BW.out hb'⟩, ⟨fun j hj => ?_⟩⟩
     by_cases e : (j : Int) = kk
     rotate_left
     · exact HA.out j (by omega)
     have := HQ.out
     rw [← e, Int.toNat_natCast] at this
     exact this
set_option maxHeartbeats 400000 in
theorem impl_Session_54.calls (A0 : Option Addr) (c0 : Nat) (l0 : List S54) (a1_0 : Int) (a1_1 : Int) (a1_2 : Int) (a1_3 : ByteArray) (r : Bool) (w : World) {b : Nat} (hr0 : Kd.C k54 w A0 l0.length l0) (hc0 : l0.length ≤ c0)  (hb : w.heap[b]? = some (.cells #[.int .i64 a1_0, .int .i64 a1_1, .int .i64 a1_2, .string a1_3] 54 (0, 0))) (h : impl_Session_54.f l0 a1_0 a1_1 a1_2 a1_3 = some r) :
   Calls Tryd.prog 54 #[.slice A0 l0.length c0, .func (.func 55) #[] #[.pointer (some ⟨b, 0, none⟩)]] w fun e w' => e = .returned (.bool r) ∧ Below w.heap.size w w' := by
 obtain rfl := Option.some.inj h
 have HI := am (impl_Session_54.idx (impl_Session_54.p a1_0 a1_1 a1_2 a1_3) #[.pointer (some ⟨b, 0, none⟩)] A0 c0 l0 w hr0 hc0 (fun y W hW => impl_Session_54.lit b a1_0 a1_1 a1_2 a1_3 y W ((hW.block b (blk_lt hb)).trans hb)))
 clear hr0 hc0 hb h
 go_enter Tryd.func54, Tryd.ntmps54
 go_wp2_with (go_at_call 62; refine HI.out.mono ?_; rintro e w' ⟨rfl, hb'⟩)
 go_ret
 exact ⟨(by first | (rw [← Go.Proofs.YtjdpifafijcpbaaDoor.Slc.idxB_any]; done) | (rw [← Go.Proofs.YtjdpifafijcpbaaDoor.Slc.idxB_any]; rfl)), hb'⟩


end Go.Proofs.YtjdpifafijcpbaaDoor.QFnExactOnceEach
