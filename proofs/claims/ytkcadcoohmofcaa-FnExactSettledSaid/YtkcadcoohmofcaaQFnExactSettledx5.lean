import Derived.Test.YtkcadcoohmofcaaSqFnExactSettled
import Derived.Test.YtkcadcoohmofcaaQFnExactSettledx0
import Derived.Test.YtkcadcoohmofcaaQFnExactSettledx4
namespace Go.Proofs.Ytkcadcoohmofcaa.QFnExactSettled
open Go.RowKit Go.Proofs.YtkcadcoohmofcaaW.PrintWords Go.Proofs.YtkcadcoohmofcaaW.PrintLast Go.Proofs.YtkcadcoohmofcaaW.PrintMore Go.Proofs.Ytkcadcoohmofcaa.SqFnExactSettled
attribute [local go_sem] max2_int min2_int max_two min_two max_three min_three max_four min_four Go.Proofs.Ytkcadcoohmofcaa.Set.isSome_setCell
set_option linter.unusedVariables false
set_option linter.unusedSimpArgs false
theorem u5_10 {P : Prop} (h : P := by first | exact hq_ | exact of_decide_eq_true Q1 | (have e_ := (Kd.S_reads' HO_0.out).1; omega)) : P := h
section
open Classical in
theorem S_lentN_ {α : Type} {d : Kd α} {e g n cap base : Nat} {w W : World} {ok S2 : Nat → Prop} {xs : List α} {x' : α} (h : Kd.S d e w base ok (.slice (some ⟨g, 0, none⟩) n cap) xs) (z : α) (i : Int) (h0 : 0 ≤ i) (h1 : i < n) (hk : Kept w W S2)
   (back : ∀ (okq : Nat → Prop) (c : List Value), c.length = d.sz → d.M w base okq (xs.getD i.toNat z) c → (∀ j u, c[j]? = some u → w.cell? ⟨g, i.toNat * d.sz + j, none⟩ = some u) → (∀ k, S2 k → okq k) ∧ ∃ okp, d.M W base okp x' c ∧ ∀ k, okp k → okq k) :
   Kd.S d e W base ok (.slice (some ⟨g, 0, none⟩) n cap) (xs.set i.toNat x') := by
 obtain ⟨okq, c, hcl, hM, hcc, hokq, hH⟩ := Kd.S_lend h z i h0 h1
 obtain ⟨b1, okp, b2, b3⟩ := back okq c hcl hM hcc
 obtain ⟨hoo, f, hR⟩ := hH
 exact Kd.H_back ⟨hoo, f, Kd.R_kept hR hk (fun k q1 q2 => q1.2 (b1 k q2))⟩ b2 b3
end
theorem k37_lentE {w W : World} {base : Nat} {okq : Nat → Prop} {x : S37} {v7 v8 v9 : Value} {l' : List S85} (h : k37.M w base okq x [.int .i64 x.f0, .int .i64 x.f1, .int .i64 x.f2, .int .i64 x.f3, .int .i64 x.f4, .int .i64 x.f5.f0, .int .i64 x.f5.f1, v7, v8, v9]) (hk : Kept w W (fun k_ => some k_ = v7.ownBlock)) (hy : k85.R 85 W base (fun k_ => some k_ = v7.ownBlock) v7 l') :
   k37.M W base okq (⟨x.f0, x.f1, x.f2, x.f3, x.f4, (⟨x.f5.f0, x.f5.f1, l'⟩ : S34), x.f6, x.f7⟩ : S37) [.int .i64 x.f0, .int .i64 x.f1, .int .i64 x.f2, .int .i64 x.f3, .int .i64 x.f4, .int .i64 x.f5.f0, .int .i64 x.f5.f1, v7, v8, v9] := by
 obtain ⟨u7, u8, u9, e, g7, g8, g9⟩ := k37_openM h
 simp only [List.cons.injEq, and_true, true_and] at e
 obtain ⟨rfl, rfl, rfl⟩ := e
 exact k37_mkM W base okq (⟨x.f0, x.f1, x.f2, x.f3, x.f4, (⟨x.f5.f0, x.f5.f1, l'⟩ : S34), x.f6, x.f7⟩ : S37) (Kd.R_mono hy (fun k_ e_ => g7.1 k_ e_.symm)) (Kd.R_mono (ok' := okq) (Kd.R_kept (Kd.R_apart' g8 (Kd.R_typed g7) (by decide)) hk (fun _ h_ hs_ => h_.2 hs_)) (fun _ h_ => h_.1)) (Kd.R_mono (ok' := okq) (Kd.R_kept (Kd.R_apart' g9 (Kd.R_typed g7) (by decide)) hk (fun _ h_ hs_ => h_.2 hs_)) (fun _ h_ => h_.1)) (k37_apart h)
theorem k37_lentV {w W : World} {base : Nat} {okq : Nat → Prop} {x : S37} {v7 v8 v9 : Value} {l' : List Int} (h : k37.M w base okq x [.int .i64 x.f0, .int .i64 x.f1, .int .i64 x.f2, .int .i64 x.f3, .int .i64 x.f4, .int .i64 x.f5.f0, .int .i64 x.f5.f1, v7, v8, v9]) (hk : Kept w W (fun k_ => some k_ = v8.ownBlock)) (hy : (Kd.int .i64).R 3 W base (fun k_ => some k_ = v8.ownBlock) v8 l') :
   k37.M W base okq (⟨x.f0, x.f1, x.f2, x.f3, x.f4, (⟨x.f5.f0, x.f5.f1, x.f5.f2⟩ : S34), l', x.f7⟩ : S37) [.int .i64 x.f0, .int .i64 x.f1, .int .i64 x.f2, .int .i64 x.f3, .int .i64 x.f4, .int .i64 x.f5.f0, .int .i64 x.f5.f1, v7, v8, v9] := by
 obtain ⟨u7, u8, u9, e, g7, g8, g9⟩ := k37_openM h
 simp only [List.cons.injEq, and_true, true_and] at e
 obtain ⟨rfl, rfl, rfl⟩ := e
 exact k37_mkM W base okq (⟨x.f0, x.f1, x.f2, x.f3, x.f4, (⟨x.f5.f0, x.f5.f1, x.f5.f2⟩ : S34), l', x.f7⟩ : S37) (Kd.R_mono (ok' := okq) (Kd.R_kept (Kd.R_apart' g7 (Kd.R_typed g8) (by decide)) hk (fun _ h_ hs_ => h_.2 hs_)) (fun _ h_ => h_.1)) (Kd.R_mono hy (fun k_ e_ => g8.1 k_ e_.symm)) (Kd.R_mono (ok' := okq) (Kd.R_kept (Kd.R_tight2 rfl g9) hk (fun k_ h_ hs_ => k37_apart h k_ hs_.symm h_.1.symm)) (fun _ h_ => h_.2)) (k37_apart h)
theorem k37_lentW {w W : World} {base : Nat} {okq : Nat → Prop} {x : S37} {v7 v8 v9 : Value} {l' : List Int} (h : k37.M w base okq x [.int .i64 x.f0, .int .i64 x.f1, .int .i64 x.f2, .int .i64 x.f3, .int .i64 x.f4, .int .i64 x.f5.f0, .int .i64 x.f5.f1, v7, v8, v9]) (hk : Kept w W (fun k_ => some k_ = v9.ownBlock)) (hy : (Kd.int .i64).R 3 W base (fun k_ => some k_ = v9.ownBlock) v9 l') :
   k37.M W base okq (⟨x.f0, x.f1, x.f2, x.f3, x.f4, (⟨x.f5.f0, x.f5.f1, x.f5.f2⟩ : S34), x.f6, l'⟩ : S37) [.int .i64 x.f0, .int .i64 x.f1, .int .i64 x.f2, .int .i64 x.f3, .int .i64 x.f4, .int .i64 x.f5.f0, .int .i64 x.f5.f1, v7, v8, v9] := by
 obtain ⟨u7, u8, u9, e, g7, g8, g9⟩ := k37_openM h
 simp only [List.cons.injEq, and_true, true_and] at e
 obtain ⟨rfl, rfl, rfl⟩ := e
 exact k37_mkM W base okq (⟨x.f0, x.f1, x.f2, x.f3, x.f4, (⟨x.f5.f0, x.f5.f1, x.f5.f2⟩ : S34), x.f6, l'⟩ : S37) (Kd.R_mono (ok' := okq) (Kd.R_kept (Kd.R_apart' g7 (Kd.R_typed g9) (by decide)) hk (fun _ h_ hs_ => h_.2 hs_)) (fun _ h_ => h_.1)) (Kd.R_mono (ok' := okq) (Kd.R_kept (Kd.R_tight2 rfl g8) hk (fun k_ h_ hs_ => k37_apart h k_ h_.1.symm hs_.symm)) (fun _ h_ => h_.2)) (Kd.R_mono hy (fun k_ e_ => g9.1 k_ e_.symm)) (k37_apart h)
def laws_markNodeS.l0 : Nat → List (S37) → Int → Int → Option (Int × (List (S37)))
 | 0, _, _, _ => none
 | k + 1, x0, x1, x5 => if x5 < (x0.length : Int) then (if 0 ≤ x5 then ((some (x0.set (x5 : Int).toNat (⟨x1, (rd_T37 x0 x5).f1, (rd_T37 x0 x5).f2, (rd_T37 x0 x5).f3, (rd_T37 x0 x5).f4, (⟨(rd_T37 x0 x5).f5.f0, (rd_T37 x0 x5).f5.f1, (rd_T37 x0 x5).f5.f2⟩ : S34), (rd_T37 x0 x5).f6, (rd_T37 x0 x5).f7⟩ : S37) : List (S37))).bind fun y146 => ((some (y146.set (x5 : Int).toNat (⟨(rd_T37 y146 x5).f0, wrap64 (x1 + 1), (rd_T37 y146 x5).f2, (rd_T37 y146 x5).f3, (rd_T37 y146 x5).f4, (⟨(rd_T37 y146 x5).f5.f0, (rd_T37 y146 x5).f5.f1, (rd_T37 y146 x5).f5.f2⟩ : S34), (rd_T37 y146 x5).f6, (rd_T37 y146 x5).f7⟩ : S37) : List (S37))).bind fun y147 => ((some (y147.set (x5 : Int).toNat (⟨(rd_T37 y147 x5).f0, (rd_T37 y147 x5).f1, wrap64 ((wrap64 (x1 + 1)) + 1), (rd_T37 y147 x5).f3, (rd_T37 y147 x5).f4, (⟨(rd_T37 y147 x5).f5.f0, (rd_T37 y147 x5).f5.f1, (rd_T37 y147 x5).f5.f2⟩ : S34), (rd_T37 y147 x5).f6, (rd_T37 y147 x5).f7⟩ : S37) : List (S37))).bind fun y148 => ((some (y148.set (x5 : Int).toNat (⟨(rd_T37 y148 x5).f0, (rd_T37 y148 x5).f1, (rd_T37 y148 x5).f2, wrap64 ((wrap64 ((wrap64 (x1 + 1)) + 1)) + 1), (rd_T37 y148 x5).f4, (⟨(rd_T37 y148 x5).f5.f0, (rd_T37 y148 x5).f5.f1, (rd_T37 y148 x5).f5.f2⟩ : S34), (rd_T37 y148 x5).f6, (rd_T37 y148 x5).f7⟩ : S37) : List (S37))).bind fun y149 => ((some (y149.set (x5 : Int).toNat (⟨(rd_T37 y149 x5).f0, (rd_T37 y149 x5).f1, (rd_T37 y149 x5).f2, (rd_T37 y149 x5).f3, wrap64 ((wrap64 ((wrap64 ((wrap64 (x1 + 1)) + 1)) + 1)) + 1), (⟨(rd_T37 y149 x5).f5.f0, (rd_T37 y149 x5).f5.f1, (rd_T37 y149 x5).f5.f2⟩ : S34), (rd_T37 y149 x5).f6, (rd_T37 y149 x5).f7⟩ : S37) : List (S37))).bind fun y150 => ((some (y150.set (x5 : Int).toNat (⟨(rd_T37 y150 x5).f0, (rd_T37 y150 x5).f1, (rd_T37 y150 x5).f2, (rd_T37 y150 x5).f3, (rd_T37 y150 x5).f4, (⟨wrap64 ((wrap64 ((wrap64 ((wrap64 ((wrap64 (x1 + 1)) + 1)) + 1)) + 1)) + 1), (rd_T37 y150 x5).f5.f1, (rd_T37 y150 x5).f5.f2⟩ : S34), (rd_T37 y150 x5).f6, (rd_T37 y150 x5).f7⟩ : S37) : List (S37))).bind fun y151 => ((some (y151.set (x5 : Int).toNat (⟨(rd_T37 y151 x5).f0, (rd_T37 y151 x5).f1, (rd_T37 y151 x5).f2, (rd_T37 y151 x5).f3, (rd_T37 y151 x5).f4, (⟨(rd_T37 y151 x5).f5.f0, wrap64 ((wrap64 ((wrap64 ((wrap64 ((wrap64 ((wrap64 (x1 + 1)) + 1)) + 1)) + 1)) + 1)) + 1), (rd_T37 y151 x5).f5.f2⟩ : S34), (rd_T37 y151 x5).f6, (rd_T37 y151 x5).f7⟩ : S37) : List (S37))).bind fun y152 => ((laws_markEntryS.f k ((rd_T37 y152 x5).f5.f2) (wrap64 ((wrap64 ((wrap64 ((wrap64 ((wrap64 ((wrap64 ((wrap64 (x1 + 1)) + 1)) + 1)) + 1)) + 1)) + 1)) + 1))).bind fun bt154 => ((some (y152.set (x5 : Int).toNat (⟨(rd_T37 y152 x5).f0, (rd_T37 y152 x5).f1, (rd_T37 y152 x5).f2, (rd_T37 y152 x5).f3, (rd_T37 y152 x5).f4, (⟨(rd_T37 y152 x5).f5.f0, (rd_T37 y152 x5).f5.f1, bt154.2⟩ : S34), (rd_T37 y152 x5).f6, (rd_T37 y152 x5).f7⟩ : S37) : List (S37))).bind fun y154b => ((laws_markIntS.f k ((rd_T37 y154b x5).f6) bt154.1).bind fun bt156 => ((some (y154b.set (x5 : Int).toNat (⟨(rd_T37 y154b x5).f0, (rd_T37 y154b x5).f1, (rd_T37 y154b x5).f2, (rd_T37 y154b x5).f3, (rd_T37 y154b x5).f4, (⟨(rd_T37 y154b x5).f5.f0, (rd_T37 y154b x5).f5.f1, (rd_T37 y154b x5).f5.f2⟩ : S34), bt156.2, (rd_T37 y154b x5).f7⟩ : S37) : List (S37))).bind fun y156b => ((laws_markIntS.f k ((rd_T37 y156b x5).f7) bt156.1).bind fun bt158 => (laws_markNodeS.l0 k (y156b.set (x5 : Int).toNat (⟨(rd_T37 y156b x5).f0, (rd_T37 y156b x5).f1, (rd_T37 y156b x5).f2, (rd_T37 y156b x5).f3, (rd_T37 y156b x5).f4, (⟨(rd_T37 y156b x5).f5.f0, (rd_T37 y156b x5).f5.f1, (rd_T37 y156b x5).f5.f2⟩ : S34), (rd_T37 y156b x5).f6, bt158.2⟩ : S37)) bt158.1 (wrap64 (x5 + 1))))))))))))))) else (none)) else (some (x1, x0))
def laws_markNodeS.f (k : Nat) (l0 : List (S37)) (a1 : Int) : Option (Int × (List (S37))) := laws_markNodeS.l0 k l0 a1 0
theorem laws_markNodeS.mono_l : ∀ k, (∀ y0 y1 y2, LeO (laws_markNodeS.l0 k y0 y1 y2) (laws_markNodeS.l0 (k + 1) y0 y1 y2))
 | 0 => fun _ _ _ r h => by simp [laws_markNodeS.l0] at h
 | k + 1 => by
   have ih0 := laws_markNodeS.mono_l k
   · intro y0 y1 y2
     unfold laws_markNodeS.l0
     repeat' first
     | (with_reducible exact ih0 _ _ _)
     | (with_reducible exact laws_markEntryS.mono _ _ _)
     | (with_reducible exact laws_markIntS.mono _ _ _)
     | (with_reducible exact LeO.refl _)
     | (with_reducible exact LeO.none _)
     | (with_reducible refine LeO.ite ?_ ?_)
     | (with_reducible refine LeO.bind ?_ (fun _ => ?_))
     | exact ih0 _ _ _
     | exact LeO.none _
     | refine LeO.ite ?_ ?_
     | refine LeO.bind ?_ (fun _ => ?_)
theorem laws_markNodeS.mono : ∀ a0 a1 k, LeO (laws_markNodeS.f k a0 a1) (laws_markNodeS.f (k + 1) a0 a1) := by
 intro a0 a1 k
 have ih0 := laws_markNodeS.mono_l k
 unfold laws_markNodeS.f
 repeat' first
     | (with_reducible exact ih0 _ _ _)
     | (with_reducible exact laws_markEntryS.mono _ _ _)
     | (with_reducible exact laws_markIntS.mono _ _ _)
     | (with_reducible exact LeO.refl _)
     | (with_reducible exact LeO.none _)
     | (with_reducible refine LeO.ite ?_ ?_)
     | (with_reducible refine LeO.bind ?_ (fun _ => ?_))
     | exact ih0 _ _ _
     | exact LeO.none _
     | refine LeO.ite ?_ ?_
     | refine LeO.bind ?_ (fun _ => ?_)
set_option maxHeartbeats 8000000 in
set_option maxRecDepth 100000 in
theorem laws_markNodeS.calls0 (PK_ : Nat → Prop) (k : Nat) (P0_ : Nat → Prop) (u9000_ : Value) (l0 : List (S37)) (a1 : Int) (r1 : Int) (r2 : List (S37)) (w0 w : World) (hB : Below w0.heap.size w0 w) (ho0 : Kd.S k37 37 w w0.heap.size P0_ u9000_ l0) (hpk_ : ∀ k, (u9000_ : Value).ownBlock = some k → PK_ k) (hpi_ : ∀ k, P0_ k → PK_ k) (h : laws_markNodeS.f k l0 a1 = some (r1, r2)) :
   Calls Try.prog 81 #[u9000_, .int .i64 a1] w fun e w' => e = .returned (.int .i64 r1) ∧ Kd.S k37 37 w' w0.heap.size (fun k_ => P0_ k_) u9000_ r2 ∧ Below w0.heap.size w0 w' ∧ Kept w w' (fun k_ => PK_ k_) := by
 have HO0 := am ho0
 have HPK := am hpk_
 clear hpk_
 have HPI := am hpi_
 clear hpi_
 have HK := am (Kept.refl w (fun k_ => PK_ k_))
 have HW0 := am hB.size
 have HB := am hB
 clear hB
 have H : (laws_markNodeS.l0 k l0 a1 0) = some (r1, r2) := h
 clear h
 have H' := am H
 clear H
 go_enter Try.func81, Try.ntmps81
 go_wp2
 go_loopg [1, 5] k (fun kq v1 v5 w' => ∃ (x0_1 : List (S37)) (x1_1 : Int) (x5_1 : Int), v1 = .int .i64 x1_1 ∧ v5 = .int .i64 x5_1 ∧ Aside0 (laws_markNodeS.l0 kq x0_1 x1_1 x5_1 = some (r1, r2)) ∧ Aside0 (kq ≤ k) ∧ Aside0 (Kd.S k37 37 w' w0.heap.size (fun k_ => P0_ k_) u9000_ x0_1) ∧ Aside0 (Kept w w' (fun k_ => PK_ k_)) ∧ Aside0 (Below w0.heap.size w0 w'))
 case atStart => exact ⟨(l0), (a1), (0), Q3, Q3, H', ⟨Nat.le_refl _⟩, ⟨(by (with_reducible repeat (first | apply s1_ | apply s2_ | apply s3_)); exact HO0.out)⟩, ⟨Q7⟩, ⟨Q2⟩⟩
 clear H'
 obtain ⟨x0_1, x1_1, x5_1, rfl, rfl, HA, HK1, HO_0, HK, HB⟩ := hrel
 cases gk with
 | zero => exact absurd HA.out (by simp [laws_markNodeS.l0])
 | succ k1 =>
   have H := HA.out
   clear HA
   simp only [laws_markNodeS.l0] at H
   by_cases c3 : x5_1 < (x0_1.length : Int)
   rotate_left
   · rw [if_neg c3] at H
     have c3b0 : decide (x5_1 < (x0_1.length : Int)) = false := decide_eq_false c3
     clear c3
     simp only [Option.some.injEq, Prod.mk.injEq] at H
     obtain ⟨rfl, rfl⟩ := H
     obtain ⟨Ao33, co33, eo33⟩ := Kd.S_slice HO_0.out
     subst eo33
     go_wp2
     go_ret
     exact ⟨er, Q6, Q2, Q7⟩
   rw [if_pos c3] at H
   have c3b0 : decide (x5_1 < (x0_1.length : Int)) = true := decide_eq_true c3
   clear c3
   by_cases c4 : 0 ≤ x5_1
   rotate_left
   · rw [if_neg c4] at H
     exact absurd H (by simp)
   rw [if_pos c4] at H
   have c4b0 : decide (0 ≤ x5_1) = true := decide_eq_true c4
   clear c4
   obtain ⟨y146, hy146⟩ : ∃ y_ : List (S37), y_ = (x0_1.set (x5_1 : Int).toNat (⟨x1_1, (rd_T37 x0_1 x5_1).f1, (rd_T37 x0_1 x5_1).f2, (rd_T37 x0_1 x5_1).f3, (rd_T37 x0_1 x5_1).f4, (⟨(rd_T37 x0_1 x5_1).f5.f0, (rd_T37 x0_1 x5_1).f5.f1, (rd_T37 x0_1 x5_1).f5.f2⟩ : S34), (rd_T37 x0_1 x5_1).f6, (rd_T37 x0_1 x5_1).f7⟩ : S37)) := ⟨_, rfl⟩
   replace H : ((some (y146.set (x5_1 : Int).toNat (⟨(rd_T37 y146 x5_1).f0, wrap64 (x1_1 + 1), (rd_T37 y146 x5_1).f2, (rd_T37 y146 x5_1).f3, (rd_T37 y146 x5_1).f4, (⟨(rd_T37 y146 x5_1).f5.f0, (rd_T37 y146 x5_1).f5.f1, (rd_T37 y146 x5_1).f5.f2⟩ : S34), (rd_T37 y146 x5_1).f6, (rd_T37 y146 x5_1).f7⟩ : S37) : List (S37))).bind fun y147 => ((some (y147.set (x5_1 : Int).toNat (⟨(rd_T37 y147 x5_1).f0, (rd_T37 y147 x5_1).f1, wrap64 ((wrap64 (x1_1 + 1)) + 1), (rd_T37 y147 x5_1).f3, (rd_T37 y147 x5_1).f4, (⟨(rd_T37 y147 x5_1).f5.f0, (rd_T37 y147 x5_1).f5.f1, (rd_T37 y147 x5_1).f5.f2⟩ : S34), (rd_T37 y147 x5_1).f6, (rd_T37 y147 x5_1).f7⟩ : S37) : List (S37))).bind fun y148 => ((some (y148.set (x5_1 : Int).toNat (⟨(rd_T37 y148 x5_1).f0, (rd_T37 y148 x5_1).f1, (rd_T37 y148 x5_1).f2, wrap64 ((wrap64 ((wrap64 (x1_1 + 1)) + 1)) + 1), (rd_T37 y148 x5_1).f4, (⟨(rd_T37 y148 x5_1).f5.f0, (rd_T37 y148 x5_1).f5.f1, (rd_T37 y148 x5_1).f5.f2⟩ : S34), (rd_T37 y148 x5_1).f6, (rd_T37 y148 x5_1).f7⟩ : S37) : List (S37))).bind fun y149 => ((some (y149.set (x5_1 : Int).toNat (⟨(rd_T37 y149 x5_1).f0, (rd_T37 y149 x5_1).f1, (rd_T37 y149 x5_1).f2, (rd_T37 y149 x5_1).f3, wrap64 ((wrap64 ((wrap64 ((wrap64 (x1_1 + 1)) + 1)) + 1)) + 1), (⟨(rd_T37 y149 x5_1).f5.f0, (rd_T37 y149 x5_1).f5.f1, (rd_T37 y149 x5_1).f5.f2⟩ : S34), (rd_T37 y149 x5_1).f6, (rd_T37 y149 x5_1).f7⟩ : S37) : List (S37))).bind fun y150 => ((some (y150.set (x5_1 : Int).toNat (⟨(rd_T37 y150 x5_1).f0, (rd_T37 y150 x5_1).f1, (rd_T37 y150 x5_1).f2, (rd_T37 y150 x5_1).f3, (rd_T37 y150 x5_1).f4, (⟨wrap64 ((wrap64 ((wrap64 ((wrap64 ((wrap64 (x1_1 + 1)) + 1)) + 1)) + 1)) + 1), (rd_T37 y150 x5_1).f5.f1, (rd_T37 y150 x5_1).f5.f2⟩ : S34), (rd_T37 y150 x5_1).f6, (rd_T37 y150 x5_1).f7⟩ : S37) : List (S37))).bind fun y151 => ((some (y151.set (x5_1 : Int).toNat (⟨(rd_T37 y151 x5_1).f0, (rd_T37 y151 x5_1).f1, (rd_T37 y151 x5_1).f2, (rd_T37 y151 x5_1).f3, (rd_T37 y151 x5_1).f4, (⟨(rd_T37 y151 x5_1).f5.f0, wrap64 ((wrap64 ((wrap64 ((wrap64 ((wrap64 ((wrap64 (x1_1 + 1)) + 1)) + 1)) + 1)) + 1)) + 1), (rd_T37 y151 x5_1).f5.f2⟩ : S34), (rd_T37 y151 x5_1).f6, (rd_T37 y151 x5_1).f7⟩ : S37) : List (S37))).bind fun y152 => ((laws_markEntryS.f k1 ((rd_T37 y152 x5_1).f5.f2) (wrap64 ((wrap64 ((wrap64 ((wrap64 ((wrap64 ((wrap64 ((wrap64 (x1_1 + 1)) + 1)) + 1)) + 1)) + 1)) + 1)) + 1))).bind fun bt154 => ((some (y152.set (x5_1 : Int).toNat (⟨(rd_T37 y152 x5_1).f0, (rd_T37 y152 x5_1).f1, (rd_T37 y152 x5_1).f2, (rd_T37 y152 x5_1).f3, (rd_T37 y152 x5_1).f4, (⟨(rd_T37 y152 x5_1).f5.f0, (rd_T37 y152 x5_1).f5.f1, bt154.2⟩ : S34), (rd_T37 y152 x5_1).f6, (rd_T37 y152 x5_1).f7⟩ : S37) : List (S37))).bind fun y154b => ((laws_markIntS.f k1 ((rd_T37 y154b x5_1).f6) bt154.1).bind fun bt156 => ((some (y154b.set (x5_1 : Int).toNat (⟨(rd_T37 y154b x5_1).f0, (rd_T37 y154b x5_1).f1, (rd_T37 y154b x5_1).f2, (rd_T37 y154b x5_1).f3, (rd_T37 y154b x5_1).f4, (⟨(rd_T37 y154b x5_1).f5.f0, (rd_T37 y154b x5_1).f5.f1, (rd_T37 y154b x5_1).f5.f2⟩ : S34), bt156.2, (rd_T37 y154b x5_1).f7⟩ : S37) : List (S37))).bind fun y156b => ((laws_markIntS.f k1 ((rd_T37 y156b x5_1).f7) bt156.1).bind fun bt158 => (laws_markNodeS.l0 k1 (y156b.set (x5_1 : Int).toNat (⟨(rd_T37 y156b x5_1).f0, (rd_T37 y156b x5_1).f1, (rd_T37 y156b x5_1).f2, (rd_T37 y156b x5_1).f3, (rd_T37 y156b x5_1).f4, (⟨(rd_T37 y156b x5_1).f5.f0, (rd_T37 y156b x5_1).f5.f1, (rd_T37 y156b x5_1).f5.f2⟩ : S34), (rd_T37 y156b x5_1).f6, bt158.2⟩ : S37)) bt158.1 (wrap64 (x5_1 + 1)))))))))))))) = some (r1, r2) := by first | (rw [hy146]; with_reducible exact H) | (have H2_ := (Option.bind_some _ _).symm.trans H; rw [hy146]; with_reducible exact H2_) | (have H2_ := (Option.bind_some _ _).symm.trans H; with_reducible exact H2_) | with_reducible exact H | (rw [hy146]; exact H) | exact H
   have Ny146 := am hy146
   clear hy146
   obtain ⟨y147, hy147⟩ : ∃ y_ : List (S37), y_ = (y146.set (x5_1 : Int).toNat (⟨(rd_T37 y146 x5_1).f0, wrap64 (x1_1 + 1), (rd_T37 y146 x5_1).f2, (rd_T37 y146 x5_1).f3, (rd_T37 y146 x5_1).f4, (⟨(rd_T37 y146 x5_1).f5.f0, (rd_T37 y146 x5_1).f5.f1, (rd_T37 y146 x5_1).f5.f2⟩ : S34), (rd_T37 y146 x5_1).f6, (rd_T37 y146 x5_1).f7⟩ : S37)) := ⟨_, rfl⟩
   replace H : ((some (y147.set (x5_1 : Int).toNat (⟨(rd_T37 y147 x5_1).f0, (rd_T37 y147 x5_1).f1, wrap64 ((wrap64 (x1_1 + 1)) + 1), (rd_T37 y147 x5_1).f3, (rd_T37 y147 x5_1).f4, (⟨(rd_T37 y147 x5_1).f5.f0, (rd_T37 y147 x5_1).f5.f1, (rd_T37 y147 x5_1).f5.f2⟩ : S34), (rd_T37 y147 x5_1).f6, (rd_T37 y147 x5_1).f7⟩ : S37) : List (S37))).bind fun y148 => ((some (y148.set (x5_1 : Int).toNat (⟨(rd_T37 y148 x5_1).f0, (rd_T37 y148 x5_1).f1, (rd_T37 y148 x5_1).f2, wrap64 ((wrap64 ((wrap64 (x1_1 + 1)) + 1)) + 1), (rd_T37 y148 x5_1).f4, (⟨(rd_T37 y148 x5_1).f5.f0, (rd_T37 y148 x5_1).f5.f1, (rd_T37 y148 x5_1).f5.f2⟩ : S34), (rd_T37 y148 x5_1).f6, (rd_T37 y148 x5_1).f7⟩ : S37) : List (S37))).bind fun y149 => ((some (y149.set (x5_1 : Int).toNat (⟨(rd_T37 y149 x5_1).f0, (rd_T37 y149 x5_1).f1, (rd_T37 y149 x5_1).f2, (rd_T37 y149 x5_1).f3, wrap64 ((wrap64 ((wrap64 ((wrap64 (x1_1 + 1)) + 1)) + 1)) + 1), (⟨(rd_T37 y149 x5_1).f5.f0, (rd_T37 y149 x5_1).f5.f1, (rd_T37 y149 x5_1).f5.f2⟩ : S34), (rd_T37 y149 x5_1).f6, (rd_T37 y149 x5_1).f7⟩ : S37) : List (S37))).bind fun y150 => ((some (y150.set (x5_1 : Int).toNat (⟨(rd_T37 y150 x5_1).f0, (rd_T37 y150 x5_1).f1, (rd_T37 y150 x5_1).f2, (rd_T37 y150 x5_1).f3, (rd_T37 y150 x5_1).f4, (⟨wrap64 ((wrap64 ((wrap64 ((wrap64 ((wrap64 (x1_1 + 1)) + 1)) + 1)) + 1)) + 1), (rd_T37 y150 x5_1).f5.f1, (rd_T37 y150 x5_1).f5.f2⟩ : S34), (rd_T37 y150 x5_1).f6, (rd_T37 y150 x5_1).f7⟩ : S37) : List (S37))).bind fun y151 => ((some (y151.set (x5_1 : Int).toNat (⟨(rd_T37 y151 x5_1).f0, (rd_T37 y151 x5_1).f1, (rd_T37 y151 x5_1).f2, (rd_T37 y151 x5_1).f3, (rd_T37 y151 x5_1).f4, (⟨(rd_T37 y151 x5_1).f5.f0, wrap64 ((wrap64 ((wrap64 ((wrap64 ((wrap64 ((wrap64 (x1_1 + 1)) + 1)) + 1)) + 1)) + 1)) + 1), (rd_T37 y151 x5_1).f5.f2⟩ : S34), (rd_T37 y151 x5_1).f6, (rd_T37 y151 x5_1).f7⟩ : S37) : List (S37))).bind fun y152 => ((laws_markEntryS.f k1 ((rd_T37 y152 x5_1).f5.f2) (wrap64 ((wrap64 ((wrap64 ((wrap64 ((wrap64 ((wrap64 ((wrap64 (x1_1 + 1)) + 1)) + 1)) + 1)) + 1)) + 1)) + 1))).bind fun bt154 => ((some (y152.set (x5_1 : Int).toNat (⟨(rd_T37 y152 x5_1).f0, (rd_T37 y152 x5_1).f1, (rd_T37 y152 x5_1).f2, (rd_T37 y152 x5_1).f3, (rd_T37 y152 x5_1).f4, (⟨(rd_T37 y152 x5_1).f5.f0, (rd_T37 y152 x5_1).f5.f1, bt154.2⟩ : S34), (rd_T37 y152 x5_1).f6, (rd_T37 y152 x5_1).f7⟩ : S37) : List (S37))).bind fun y154b => ((laws_markIntS.f k1 ((rd_T37 y154b x5_1).f6) bt154.1).bind fun bt156 => ((some (y154b.set (x5_1 : Int).toNat (⟨(rd_T37 y154b x5_1).f0, (rd_T37 y154b x5_1).f1, (rd_T37 y154b x5_1).f2, (rd_T37 y154b x5_1).f3, (rd_T37 y154b x5_1).f4, (⟨(rd_T37 y154b x5_1).f5.f0, (rd_T37 y154b x5_1).f5.f1, (rd_T37 y154b x5_1).f5.f2⟩ : S34), bt156.2, (rd_T37 y154b x5_1).f7⟩ : S37) : List (S37))).bind fun y156b => ((laws_markIntS.f k1 ((rd_T37 y156b x5_1).f7) bt156.1).bind fun bt158 => (laws_markNodeS.l0 k1 (y156b.set (x5_1 : Int).toNat (⟨(rd_T37 y156b x5_1).f0, (rd_T37 y156b x5_1).f1, (rd_T37 y156b x5_1).f2, (rd_T37 y156b x5_1).f3, (rd_T37 y156b x5_1).f4, (⟨(rd_T37 y156b x5_1).f5.f0, (rd_T37 y156b x5_1).f5.f1, (rd_T37 y156b x5_1).f5.f2⟩ : S34), (rd_T37 y156b x5_1).f6, bt158.2⟩ : S37)) bt158.1 (wrap64 (x5_1 + 1))))))))))))) = some (r1, r2) := by first | (rw [hy147]; with_reducible exact H) | (have H2_ := (Option.bind_some _ _).symm.trans H; rw [hy147]; with_reducible exact H2_) | (have H2_ := (Option.bind_some _ _).symm.trans H; with_reducible exact H2_) | with_reducible exact H | (rw [hy147]; exact H) | exact H
   have Ny147 := am hy147
   clear hy147
   obtain ⟨y148, hy148⟩ : ∃ y_ : List (S37), y_ = (y147.set (x5_1 : Int).toNat (⟨(rd_T37 y147 x5_1).f0, (rd_T37 y147 x5_1).f1, wrap64 ((wrap64 (x1_1 + 1)) + 1), (rd_T37 y147 x5_1).f3, (rd_T37 y147 x5_1).f4, (⟨(rd_T37 y147 x5_1).f5.f0, (rd_T37 y147 x5_1).f5.f1, (rd_T37 y147 x5_1).f5.f2⟩ : S34), (rd_T37 y147 x5_1).f6, (rd_T37 y147 x5_1).f7⟩ : S37)) := ⟨_, rfl⟩
   replace H : ((some (y148.set (x5_1 : Int).toNat (⟨(rd_T37 y148 x5_1).f0, (rd_T37 y148 x5_1).f1, (rd_T37 y148 x5_1).f2, wrap64 ((wrap64 ((wrap64 (x1_1 + 1)) + 1)) + 1), (rd_T37 y148 x5_1).f4, (⟨(rd_T37 y148 x5_1).f5.f0, (rd_T37 y148 x5_1).f5.f1, (rd_T37 y148 x5_1).f5.f2⟩ : S34), (rd_T37 y148 x5_1).f6, (rd_T37 y148 x5_1).f7⟩ : S37) : List (S37))).bind fun y149 => ((some (y149.set (x5_1 : Int).toNat (⟨(rd_T37 y149 x5_1).f0, (rd_T37 y149 x5_1).f1, (rd_T37 y149 x5_1).f2, (rd_T37 y149 x5_1).f3, wrap64 ((wrap64 ((wrap64 ((wrap64 (x1_1 + 1)) + 1)) + 1)) + 1), (⟨(rd_T37 y149 x5_1).f5.f0, (rd_T37 y149 x5_1).f5.f1, (rd_T37 y149 x5_1).f5.f2⟩ : S34), (rd_T37 y149 x5_1).f6, (rd_T37 y149 x5_1).f7⟩ : S37) : List (S37))).bind fun y150 => ((some (y150.set (x5_1 : Int).toNat (⟨(rd_T37 y150 x5_1).f0, (rd_T37 y150 x5_1).f1, (rd_T37 y150 x5_1).f2, (rd_T37 y150 x5_1).f3, (rd_T37 y150 x5_1).f4, (⟨wrap64 ((wrap64 ((wrap64 ((wrap64 ((wrap64 (x1_1 + 1)) + 1)) + 1)) + 1)) + 1), (rd_T37 y150 x5_1).f5.f1, (rd_T37 y150 x5_1).f5.f2⟩ : S34), (rd_T37 y150 x5_1).f6, (rd_T37 y150 x5_1).f7⟩ : S37) : List (S37))).bind fun y151 => ((some (y151.set (x5_1 : Int).toNat (⟨(rd_T37 y151 x5_1).f0, (rd_T37 y151 x5_1).f1, (rd_T37 y151 x5_1).f2, (rd_T37 y151 x5_1).f3, (rd_T37 y151 x5_1).f4, (⟨(rd_T37 y151 x5_1).f5.f0, wrap64 ((wrap64 ((wrap64 ((wrap64 ((wrap64 ((wrap64 (x1_1 + 1)) + 1)) + 1)) + 1)) + 1)) + 1), (rd_T37 y151 x5_1).f5.f2⟩ : S34), (rd_T37 y151 x5_1).f6, (rd_T37 y151 x5_1).f7⟩ : S37) : List (S37))).bind fun y152 => ((laws_markEntryS.f k1 ((rd_T37 y152 x5_1).f5.f2) (wrap64 ((wrap64 ((wrap64 ((wrap64 ((wrap64 ((wrap64 ((wrap64 (x1_1 + 1)) + 1)) + 1)) + 1)) + 1)) + 1)) + 1))).bind fun bt154 => ((some (y152.set (x5_1 : Int).toNat (⟨(rd_T37 y152 x5_1).f0, (rd_T37 y152 x5_1).f1, (rd_T37 y152 x5_1).f2, (rd_T37 y152 x5_1).f3, (rd_T37 y152 x5_1).f4, (⟨(rd_T37 y152 x5_1).f5.f0, (rd_T37 y152 x5_1).f5.f1, bt154.2⟩ : S34), (rd_T37 y152 x5_1).f6, (rd_T37 y152 x5_1).f7⟩ : S37) : List (S37))).bind fun y154b => ((laws_markIntS.f k1 ((rd_T37 y154b x5_1).f6) bt154.1).bind fun bt156 => ((some (y154b.set (x5_1 : Int).toNat (⟨(rd_T37 y154b x5_1).f0, (rd_T37 y154b x5_1).f1, (rd_T37 y154b x5_1).f2, (rd_T37 y154b x5_1).f3, (rd_T37 y154b x5_1).f4, (⟨(rd_T37 y154b x5_1).f5.f0, (rd_T37 y154b x5_1).f5.f1, (rd_T37 y154b x5_1).f5.f2⟩ : S34), bt156.2, (rd_T37 y154b x5_1).f7⟩ : S37) : List (S37))).bind fun y156b => ((laws_markIntS.f k1 ((rd_T37 y156b x5_1).f7) bt156.1).bind fun bt158 => (laws_markNodeS.l0 k1 (y156b.set (x5_1 : Int).toNat (⟨(rd_T37 y156b x5_1).f0, (rd_T37 y156b x5_1).f1, (rd_T37 y156b x5_1).f2, (rd_T37 y156b x5_1).f3, (rd_T37 y156b x5_1).f4, (⟨(rd_T37 y156b x5_1).f5.f0, (rd_T37 y156b x5_1).f5.f1, (rd_T37 y156b x5_1).f5.f2⟩ : S34), (rd_T37 y156b x5_1).f6, bt158.2⟩ : S37)) bt158.1 (wrap64 (x5_1 + 1)))))))))))) = some (r1, r2) := by first | (rw [hy148]; with_reducible exact H) | (have H2_ := (Option.bind_some _ _).symm.trans H; rw [hy148]; with_reducible exact H2_) | (have H2_ := (Option.bind_some _ _).symm.trans H; with_reducible exact H2_) | with_reducible exact H | (rw [hy148]; exact H) | exact H
   have Ny148 := am hy148
   clear hy148
   obtain ⟨y149, hy149⟩ : ∃ y_ : List (S37), y_ = (y148.set (x5_1 : Int).toNat (⟨(rd_T37 y148 x5_1).f0, (rd_T37 y148 x5_1).f1, (rd_T37 y148 x5_1).f2, wrap64 ((wrap64 ((wrap64 (x1_1 + 1)) + 1)) + 1), (rd_T37 y148 x5_1).f4, (⟨(rd_T37 y148 x5_1).f5.f0, (rd_T37 y148 x5_1).f5.f1, (rd_T37 y148 x5_1).f5.f2⟩ : S34), (rd_T37 y148 x5_1).f6, (rd_T37 y148 x5_1).f7⟩ : S37)) := ⟨_, rfl⟩
   replace H : ((some (y149.set (x5_1 : Int).toNat (⟨(rd_T37 y149 x5_1).f0, (rd_T37 y149 x5_1).f1, (rd_T37 y149 x5_1).f2, (rd_T37 y149 x5_1).f3, wrap64 ((wrap64 ((wrap64 ((wrap64 (x1_1 + 1)) + 1)) + 1)) + 1), (⟨(rd_T37 y149 x5_1).f5.f0, (rd_T37 y149 x5_1).f5.f1, (rd_T37 y149 x5_1).f5.f2⟩ : S34), (rd_T37 y149 x5_1).f6, (rd_T37 y149 x5_1).f7⟩ : S37) : List (S37))).bind fun y150 => ((some (y150.set (x5_1 : Int).toNat (⟨(rd_T37 y150 x5_1).f0, (rd_T37 y150 x5_1).f1, (rd_T37 y150 x5_1).f2, (rd_T37 y150 x5_1).f3, (rd_T37 y150 x5_1).f4, (⟨wrap64 ((wrap64 ((wrap64 ((wrap64 ((wrap64 (x1_1 + 1)) + 1)) + 1)) + 1)) + 1), (rd_T37 y150 x5_1).f5.f1, (rd_T37 y150 x5_1).f5.f2⟩ : S34), (rd_T37 y150 x5_1).f6, (rd_T37 y150 x5_1).f7⟩ : S37) : List (S37))).bind fun y151 => ((some (y151.set (x5_1 : Int).toNat (⟨(rd_T37 y151 x5_1).f0, (rd_T37 y151 x5_1).f1, (rd_T37 y151 x5_1).f2, (rd_T37 y151 x5_1).f3, (rd_T37 y151 x5_1).f4, (⟨(rd_T37 y151 x5_1).f5.f0, wrap64 ((wrap64 ((wrap64 ((wrap64 ((wrap64 ((wrap64 (x1_1 + 1)) + 1)) + 1)) + 1)) + 1)) + 1), (rd_T37 y151 x5_1).f5.f2⟩ : S34), (rd_T37 y151 x5_1).f6, (rd_T37 y151 x5_1).f7⟩ : S37) : List (S37))).bind fun y152 => ((laws_markEntryS.f k1 ((rd_T37 y152 x5_1).f5.f2) (wrap64 ((wrap64 ((wrap64 ((wrap64 ((wrap64 ((wrap64 ((wrap64 (x1_1 + 1)) + 1)) + 1)) + 1)) + 1)) + 1)) + 1))).bind fun bt154 => ((some (y152.set (x5_1 : Int).toNat (⟨(rd_T37 y152 x5_1).f0, (rd_T37 y152 x5_1).f1, (rd_T37 y152 x5_1).f2, (rd_T37 y152 x5_1).f3, (rd_T37 y152 x5_1).f4, (⟨(rd_T37 y152 x5_1).f5.f0, (rd_T37 y152 x5_1).f5.f1, bt154.2⟩ : S34), (rd_T37 y152 x5_1).f6, (rd_T37 y152 x5_1).f7⟩ : S37) : List (S37))).bind fun y154b => ((laws_markIntS.f k1 ((rd_T37 y154b x5_1).f6) bt154.1).bind fun bt156 => ((some (y154b.set (x5_1 : Int).toNat (⟨(rd_T37 y154b x5_1).f0, (rd_T37 y154b x5_1).f1, (rd_T37 y154b x5_1).f2, (rd_T37 y154b x5_1).f3, (rd_T37 y154b x5_1).f4, (⟨(rd_T37 y154b x5_1).f5.f0, (rd_T37 y154b x5_1).f5.f1, (rd_T37 y154b x5_1).f5.f2⟩ : S34), bt156.2, (rd_T37 y154b x5_1).f7⟩ : S37) : List (S37))).bind fun y156b => ((laws_markIntS.f k1 ((rd_T37 y156b x5_1).f7) bt156.1).bind fun bt158 => (laws_markNodeS.l0 k1 (y156b.set (x5_1 : Int).toNat (⟨(rd_T37 y156b x5_1).f0, (rd_T37 y156b x5_1).f1, (rd_T37 y156b x5_1).f2, (rd_T37 y156b x5_1).f3, (rd_T37 y156b x5_1).f4, (⟨(rd_T37 y156b x5_1).f5.f0, (rd_T37 y156b x5_1).f5.f1, (rd_T37 y156b x5_1).f5.f2⟩ : S34), (rd_T37 y156b x5_1).f6, bt158.2⟩ : S37)) bt158.1 (wrap64 (x5_1 + 1))))))))))) = some (r1, r2) := by first | (rw [hy149]; with_reducible exact H) | (have H2_ := (Option.bind_some _ _).symm.trans H; rw [hy149]; with_reducible exact H2_) | (have H2_ := (Option.bind_some _ _).symm.trans H; with_reducible exact H2_) | with_reducible exact H | (rw [hy149]; exact H) | exact H
   have Ny149 := am hy149
   clear hy149
   obtain ⟨y150, hy150⟩ : ∃ y_ : List (S37), y_ = (y149.set (x5_1 : Int).toNat (⟨(rd_T37 y149 x5_1).f0, (rd_T37 y149 x5_1).f1, (rd_T37 y149 x5_1).f2, (rd_T37 y149 x5_1).f3, wrap64 ((wrap64 ((wrap64 ((wrap64 (x1_1 + 1)) + 1)) + 1)) + 1), (⟨(rd_T37 y149 x5_1).f5.f0, (rd_T37 y149 x5_1).f5.f1, (rd_T37 y149 x5_1).f5.f2⟩ : S34), (rd_T37 y149 x5_1).f6, (rd_T37 y149 x5_1).f7⟩ : S37)) := ⟨_, rfl⟩
   replace H : ((some (y150.set (x5_1 : Int).toNat (⟨(rd_T37 y150 x5_1).f0, (rd_T37 y150 x5_1).f1, (rd_T37 y150 x5_1).f2, (rd_T37 y150 x5_1).f3, (rd_T37 y150 x5_1).f4, (⟨wrap64 ((wrap64 ((wrap64 ((wrap64 ((wrap64 (x1_1 + 1)) + 1)) + 1)) + 1)) + 1), (rd_T37 y150 x5_1).f5.f1, (rd_T37 y150 x5_1).f5.f2⟩ : S34), (rd_T37 y150 x5_1).f6, (rd_T37 y150 x5_1).f7⟩ : S37) : List (S37))).bind fun y151 => ((some (y151.set (x5_1 : Int).toNat (⟨(rd_T37 y151 x5_1).f0, (rd_T37 y151 x5_1).f1, (rd_T37 y151 x5_1).f2, (rd_T37 y151 x5_1).f3, (rd_T37 y151 x5_1).f4, (⟨(rd_T37 y151 x5_1).f5.f0, wrap64 ((wrap64 ((wrap64 ((wrap64 ((wrap64 ((wrap64 (x1_1 + 1)) + 1)) + 1)) + 1)) + 1)) + 1), (rd_T37 y151 x5_1).f5.f2⟩ : S34), (rd_T37 y151 x5_1).f6, (rd_T37 y151 x5_1).f7⟩ : S37) : List (S37))).bind fun y152 => ((laws_markEntryS.f k1 ((rd_T37 y152 x5_1).f5.f2) (wrap64 ((wrap64 ((wrap64 ((wrap64 ((wrap64 ((wrap64 ((wrap64 (x1_1 + 1)) + 1)) + 1)) + 1)) + 1)) + 1)) + 1))).bind fun bt154 => ((some (y152.set (x5_1 : Int).toNat (⟨(rd_T37 y152 x5_1).f0, (rd_T37 y152 x5_1).f1, (rd_T37 y152 x5_1).f2, (rd_T37 y152 x5_1).f3, (rd_T37 y152 x5_1).f4, (⟨(rd_T37 y152 x5_1).f5.f0, (rd_T37 y152 x5_1).f5.f1, bt154.2⟩ : S34), (rd_T37 y152 x5_1).f6, (rd_T37 y152 x5_1).f7⟩ : S37) : List (S37))).bind fun y154b => ((laws_markIntS.f k1 ((rd_T37 y154b x5_1).f6) bt154.1).bind fun bt156 => ((some (y154b.set (x5_1 : Int).toNat (⟨(rd_T37 y154b x5_1).f0, (rd_T37 y154b x5_1).f1, (rd_T37 y154b x5_1).f2, (rd_T37 y154b x5_1).f3, (rd_T37 y154b x5_1).f4, (⟨(rd_T37 y154b x5_1).f5.f0, (rd_T37 y154b x5_1).f5.f1, (rd_T37 y154b x5_1).f5.f2⟩ : S34), bt156.2, (rd_T37 y154b x5_1).f7⟩ : S37) : List (S37))).bind fun y156b => ((laws_markIntS.f k1 ((rd_T37 y156b x5_1).f7) bt156.1).bind fun bt158 => (laws_markNodeS.l0 k1 (y156b.set (x5_1 : Int).toNat (⟨(rd_T37 y156b x5_1).f0, (rd_T37 y156b x5_1).f1, (rd_T37 y156b x5_1).f2, (rd_T37 y156b x5_1).f3, (rd_T37 y156b x5_1).f4, (⟨(rd_T37 y156b x5_1).f5.f0, (rd_T37 y156b x5_1).f5.f1, (rd_T37 y156b x5_1).f5.f2⟩ : S34), (rd_T37 y156b x5_1).f6, bt158.2⟩ : S37)) bt158.1 (wrap64 (x5_1 + 1)))))))))) = some (r1, r2) := by first | (rw [hy150]; with_reducible exact H) | (have H2_ := (Option.bind_some _ _).symm.trans H; rw [hy150]; with_reducible exact H2_) | (have H2_ := (Option.bind_some _ _).symm.trans H; with_reducible exact H2_) | with_reducible exact H | (rw [hy150]; exact H) | exact H
   have Ny150 := am hy150
   clear hy150
   obtain ⟨y151, hy151⟩ : ∃ y_ : List (S37), y_ = (y150.set (x5_1 : Int).toNat (⟨(rd_T37 y150 x5_1).f0, (rd_T37 y150 x5_1).f1, (rd_T37 y150 x5_1).f2, (rd_T37 y150 x5_1).f3, (rd_T37 y150 x5_1).f4, (⟨wrap64 ((wrap64 ((wrap64 ((wrap64 ((wrap64 (x1_1 + 1)) + 1)) + 1)) + 1)) + 1), (rd_T37 y150 x5_1).f5.f1, (rd_T37 y150 x5_1).f5.f2⟩ : S34), (rd_T37 y150 x5_1).f6, (rd_T37 y150 x5_1).f7⟩ : S37)) := ⟨_, rfl⟩
   replace H : ((some (y151.set (x5_1 : Int).toNat (⟨(rd_T37 y151 x5_1).f0, (rd_T37 y151 x5_1).f1, (rd_T37 y151 x5_1).f2, (rd_T37 y151 x5_1).f3, (rd_T37 y151 x5_1).f4, (⟨(rd_T37 y151 x5_1).f5.f0, wrap64 ((wrap64 ((wrap64 ((wrap64 ((wrap64 ((wrap64 (x1_1 + 1)) + 1)) + 1)) + 1)) + 1)) + 1), (rd_T37 y151 x5_1).f5.f2⟩ : S34), (rd_T37 y151 x5_1).f6, (rd_T37 y151 x5_1).f7⟩ : S37) : List (S37))).bind fun y152 => ((laws_markEntryS.f k1 ((rd_T37 y152 x5_1).f5.f2) (wrap64 ((wrap64 ((wrap64 ((wrap64 ((wrap64 ((wrap64 ((wrap64 (x1_1 + 1)) + 1)) + 1)) + 1)) + 1)) + 1)) + 1))).bind fun bt154 => ((some (y152.set (x5_1 : Int).toNat (⟨(rd_T37 y152 x5_1).f0, (rd_T37 y152 x5_1).f1, (rd_T37 y152 x5_1).f2, (rd_T37 y152 x5_1).f3, (rd_T37 y152 x5_1).f4, (⟨(rd_T37 y152 x5_1).f5.f0, (rd_T37 y152 x5_1).f5.f1, bt154.2⟩ : S34), (rd_T37 y152 x5_1).f6, (rd_T37 y152 x5_1).f7⟩ : S37) : List (S37))).bind fun y154b => ((laws_markIntS.f k1 ((rd_T37 y154b x5_1).f6) bt154.1).bind fun bt156 => ((some (y154b.set (x5_1 : Int).toNat (⟨(rd_T37 y154b x5_1).f0, (rd_T37 y154b x5_1).f1, (rd_T37 y154b x5_1).f2, (rd_T37 y154b x5_1).f3, (rd_T37 y154b x5_1).f4, (⟨(rd_T37 y154b x5_1).f5.f0, (rd_T37 y154b x5_1).f5.f1, (rd_T37 y154b x5_1).f5.f2⟩ : S34), bt156.2, (rd_T37 y154b x5_1).f7⟩ : S37) : List (S37))).bind fun y156b => ((laws_markIntS.f k1 ((rd_T37 y156b x5_1).f7) bt156.1).bind fun bt158 => (laws_markNodeS.l0 k1 (y156b.set (x5_1 : Int).toNat (⟨(rd_T37 y156b x5_1).f0, (rd_T37 y156b x5_1).f1, (rd_T37 y156b x5_1).f2, (rd_T37 y156b x5_1).f3, (rd_T37 y156b x5_1).f4, (⟨(rd_T37 y156b x5_1).f5.f0, (rd_T37 y156b x5_1).f5.f1, (rd_T37 y156b x5_1).f5.f2⟩ : S34), (rd_T37 y156b x5_1).f6, bt158.2⟩ : S37)) bt158.1 (wrap64 (x5_1 + 1))))))))) = some (r1, r2) := by first | (rw [hy151]; with_reducible exact H) | (have H2_ := (Option.bind_some _ _).symm.trans H; rw [hy151]; with_reducible exact H2_) | (have H2_ := (Option.bind_some _ _).symm.trans H; with_reducible exact H2_) | with_reducible exact H | (rw [hy151]; exact H) | exact H
   have Ny151 := am hy151
   clear hy151
   obtain ⟨y152, hy152⟩ : ∃ y_ : List (S37), y_ = (y151.set (x5_1 : Int).toNat (⟨(rd_T37 y151 x5_1).f0, (rd_T37 y151 x5_1).f1, (rd_T37 y151 x5_1).f2, (rd_T37 y151 x5_1).f3, (rd_T37 y151 x5_1).f4, (⟨(rd_T37 y151 x5_1).f5.f0, wrap64 ((wrap64 ((wrap64 ((wrap64 ((wrap64 ((wrap64 (x1_1 + 1)) + 1)) + 1)) + 1)) + 1)) + 1), (rd_T37 y151 x5_1).f5.f2⟩ : S34), (rd_T37 y151 x5_1).f6, (rd_T37 y151 x5_1).f7⟩ : S37)) := ⟨_, rfl⟩
   replace H : ((laws_markEntryS.f k1 ((rd_T37 y152 x5_1).f5.f2) (wrap64 ((wrap64 ((wrap64 ((wrap64 ((wrap64 ((wrap64 ((wrap64 (x1_1 + 1)) + 1)) + 1)) + 1)) + 1)) + 1)) + 1))).bind fun bt154 => ((some (y152.set (x5_1 : Int).toNat (⟨(rd_T37 y152 x5_1).f0, (rd_T37 y152 x5_1).f1, (rd_T37 y152 x5_1).f2, (rd_T37 y152 x5_1).f3, (rd_T37 y152 x5_1).f4, (⟨(rd_T37 y152 x5_1).f5.f0, (rd_T37 y152 x5_1).f5.f1, bt154.2⟩ : S34), (rd_T37 y152 x5_1).f6, (rd_T37 y152 x5_1).f7⟩ : S37) : List (S37))).bind fun y154b => ((laws_markIntS.f k1 ((rd_T37 y154b x5_1).f6) bt154.1).bind fun bt156 => ((some (y154b.set (x5_1 : Int).toNat (⟨(rd_T37 y154b x5_1).f0, (rd_T37 y154b x5_1).f1, (rd_T37 y154b x5_1).f2, (rd_T37 y154b x5_1).f3, (rd_T37 y154b x5_1).f4, (⟨(rd_T37 y154b x5_1).f5.f0, (rd_T37 y154b x5_1).f5.f1, (rd_T37 y154b x5_1).f5.f2⟩ : S34), bt156.2, (rd_T37 y154b x5_1).f7⟩ : S37) : List (S37))).bind fun y156b => ((laws_markIntS.f k1 ((rd_T37 y156b x5_1).f7) bt156.1).bind fun bt158 => (laws_markNodeS.l0 k1 (y156b.set (x5_1 : Int).toNat (⟨(rd_T37 y156b x5_1).f0, (rd_T37 y156b x5_1).f1, (rd_T37 y156b x5_1).f2, (rd_T37 y156b x5_1).f3, (rd_T37 y156b x5_1).f4, (⟨(rd_T37 y156b x5_1).f5.f0, (rd_T37 y156b x5_1).f5.f1, (rd_T37 y156b x5_1).f5.f2⟩ : S34), (rd_T37 y156b x5_1).f6, bt158.2⟩ : S37)) bt158.1 (wrap64 (x5_1 + 1)))))))) = some (r1, r2) := by first | (rw [hy152]; with_reducible exact H) | (have H2_ := (Option.bind_some _ _).symm.trans H; rw [hy152]; with_reducible exact H2_) | (have H2_ := (Option.bind_some _ _).symm.trans H; with_reducible exact H2_) | with_reducible exact H | (rw [hy152]; exact H) | exact H
   have Ny152 := am hy152
   clear hy152
   replace H := Option.bind_eq_some_iff.mp H
   obtain ⟨⟨t154, t154b⟩, A120, H⟩ := H
   (try dsimp only at H)
   obtain ⟨y154b, hy154b⟩ : ∃ y_ : List (S37), y_ = (y152.set (x5_1 : Int).toNat (⟨(rd_T37 y152 x5_1).f0, (rd_T37 y152 x5_1).f1, (rd_T37 y152 x5_1).f2, (rd_T37 y152 x5_1).f3, (rd_T37 y152 x5_1).f4, (⟨(rd_T37 y152 x5_1).f5.f0, (rd_T37 y152 x5_1).f5.f1, t154b⟩ : S34), (rd_T37 y152 x5_1).f6, (rd_T37 y152 x5_1).f7⟩ : S37)) := ⟨_, rfl⟩
   replace H : ((laws_markIntS.f k1 ((rd_T37 y154b x5_1).f6) t154).bind fun bt156 => ((some (y154b.set (x5_1 : Int).toNat (⟨(rd_T37 y154b x5_1).f0, (rd_T37 y154b x5_1).f1, (rd_T37 y154b x5_1).f2, (rd_T37 y154b x5_1).f3, (rd_T37 y154b x5_1).f4, (⟨(rd_T37 y154b x5_1).f5.f0, (rd_T37 y154b x5_1).f5.f1, (rd_T37 y154b x5_1).f5.f2⟩ : S34), bt156.2, (rd_T37 y154b x5_1).f7⟩ : S37) : List (S37))).bind fun y156b => ((laws_markIntS.f k1 ((rd_T37 y156b x5_1).f7) bt156.1).bind fun bt158 => (laws_markNodeS.l0 k1 (y156b.set (x5_1 : Int).toNat (⟨(rd_T37 y156b x5_1).f0, (rd_T37 y156b x5_1).f1, (rd_T37 y156b x5_1).f2, (rd_T37 y156b x5_1).f3, (rd_T37 y156b x5_1).f4, (⟨(rd_T37 y156b x5_1).f5.f0, (rd_T37 y156b x5_1).f5.f1, (rd_T37 y156b x5_1).f5.f2⟩ : S34), (rd_T37 y156b x5_1).f6, bt158.2⟩ : S37)) bt158.1 (wrap64 (x5_1 + 1)))))) = some (r1, r2) := by have H2_ := (Option.bind_some _ _).symm.trans H; rw [hy154b]; first | (with_reducible exact H2_) | exact H2_
   have Ny154b := am hy154b
   clear hy154b
   have A12 := am A120
   clear A120
   replace H := Option.bind_eq_some_iff.mp H
   obtain ⟨⟨t156, t156b⟩, A130, H⟩ := H
   (try dsimp only at H)
   obtain ⟨y156b, hy156b⟩ : ∃ y_ : List (S37), y_ = (y154b.set (x5_1 : Int).toNat (⟨(rd_T37 y154b x5_1).f0, (rd_T37 y154b x5_1).f1, (rd_T37 y154b x5_1).f2, (rd_T37 y154b x5_1).f3, (rd_T37 y154b x5_1).f4, (⟨(rd_T37 y154b x5_1).f5.f0, (rd_T37 y154b x5_1).f5.f1, (rd_T37 y154b x5_1).f5.f2⟩ : S34), t156b, (rd_T37 y154b x5_1).f7⟩ : S37)) := ⟨_, rfl⟩
   replace H : ((laws_markIntS.f k1 ((rd_T37 y156b x5_1).f7) t156).bind fun bt158 => (laws_markNodeS.l0 k1 (y156b.set (x5_1 : Int).toNat (⟨(rd_T37 y156b x5_1).f0, (rd_T37 y156b x5_1).f1, (rd_T37 y156b x5_1).f2, (rd_T37 y156b x5_1).f3, (rd_T37 y156b x5_1).f4, (⟨(rd_T37 y156b x5_1).f5.f0, (rd_T37 y156b x5_1).f5.f1, (rd_T37 y156b x5_1).f5.f2⟩ : S34), (rd_T37 y156b x5_1).f6, bt158.2⟩ : S37)) bt158.1 (wrap64 (x5_1 + 1)))) = some (r1, r2) := by have H2_ := (Option.bind_some _ _).symm.trans H; rw [hy156b]; first | (with_reducible exact H2_) | exact H2_
   have Ny156b := am hy156b
   clear hy156b
   have A13 := am A130
   clear A130
   replace H := Option.bind_eq_some_iff.mp H
   obtain ⟨⟨t158, t158b⟩, A140, H⟩ := H
   (try dsimp only at H)
   have A14 := am A140
   clear A140
   have H' := am H
   clear H
   obtain ⟨Ao15, co15, eo15⟩ := Kd.S_slice HO_0.out
   subst eo15
   have p5 : 0 ≤ (x5_1 : Int) := of_decide_eq_true Q1
   have q5 : (x5_1 : Int) < ((x0_1.length : Int) : Int) := of_decide_eq_true Q1
   obtain ⟨go5, co5, eo5, gb5, gl5, cl5, HG5⟩ := Kd.S_form HO_0.out (by omega)
   (first | cases eo5 | (injection eo5 with ea_ en_ ec_; (first | subst ea_ | (injection ea_ with ea_; subst ea_)); subst ec_; clear en_))
   have GB5 := am gb5
   have GG5 := am HG5
   clear gb5 gl5 HG5
   have HMgo5 := am (show P0_ go5 from ((Kd.S_R HO_0.out).1 _ rfl))
   obtain ⟨_, ce5, hcl5, hM5, hcc5, hfr5, _, _⟩ := Kd.S_elem HO_0.out z37 (x5_1 : Int) p5 q5
   obtain ⟨ve5_7, ve5_8, ve5_9, rfl, ge5_7, ge5_8, ge5_9⟩ := k37_openM hM5
   have hx5_0 : wr.cell? ⟨go5, (x5_1 : Int).toNat * 10, none⟩ = some (.int .i64 ((rd_T37 x0_1 x5_1).f0)) := hcc5 0 _ rfl
   have hx5_1 : wr.cell? ⟨go5, (x5_1 : Int).toNat * 10 + 1, none⟩ = some (.int .i64 ((rd_T37 x0_1 x5_1).f1)) := hcc5 1 _ rfl
   have hx5_2 : wr.cell? ⟨go5, (x5_1 : Int).toNat * 10 + 2, none⟩ = some (.int .i64 ((rd_T37 x0_1 x5_1).f2)) := hcc5 2 _ rfl
   have hx5_3 : wr.cell? ⟨go5, (x5_1 : Int).toNat * 10 + 3, none⟩ = some (.int .i64 ((rd_T37 x0_1 x5_1).f3)) := hcc5 3 _ rfl
   have hx5_4 : wr.cell? ⟨go5, (x5_1 : Int).toNat * 10 + 4, none⟩ = some (.int .i64 ((rd_T37 x0_1 x5_1).f4)) := hcc5 4 _ rfl
   have hx5_5 : wr.cell? ⟨go5, (x5_1 : Int).toNat * 10 + 5, none⟩ = some (.int .i64 ((rd_T37 x0_1 x5_1).f5.f0)) := hcc5 5 _ rfl
   have hx5_6 : wr.cell? ⟨go5, (x5_1 : Int).toNat * 10 + 6, none⟩ = some (.int .i64 ((rd_T37 x0_1 x5_1).f5.f1)) := hcc5 6 _ rfl
   have hx5_7 : wr.cell? ⟨go5, (x5_1 : Int).toNat * 10 + 7, none⟩ = some (ve5_7) := hcc5 7 _ rfl
   have hx5_8 : wr.cell? ⟨go5, (x5_1 : Int).toNat * 10 + 8, none⟩ = some (ve5_8) := hcc5 8 _ rfl
   have hx5_9 : wr.cell? ⟨go5, (x5_1 : Int).toNat * 10 + 9, none⟩ = some (ve5_9) := hcc5 9 _ rfl
   have hf5_0 : wr.frozen? ⟨go5, (x5_1 : Int).toNat * 10, none⟩ = false := hfr5 0
   have hf5_1 : wr.frozen? ⟨go5, (x5_1 : Int).toNat * 10 + 1, none⟩ = false := hfr5 1
   have hf5_2 : wr.frozen? ⟨go5, (x5_1 : Int).toNat * 10 + 2, none⟩ = false := hfr5 2
   have hf5_3 : wr.frozen? ⟨go5, (x5_1 : Int).toNat * 10 + 3, none⟩ = false := hfr5 3
   have hf5_4 : wr.frozen? ⟨go5, (x5_1 : Int).toNat * 10 + 4, none⟩ = false := hfr5 4
   have hf5_5 : wr.frozen? ⟨go5, (x5_1 : Int).toNat * 10 + 5, none⟩ = false := hfr5 5
   have hf5_6 : wr.frozen? ⟨go5, (x5_1 : Int).toNat * 10 + 6, none⟩ = false := hfr5 6
   have hf5_7 : wr.frozen? ⟨go5, (x5_1 : Int).toNat * 10 + 7, none⟩ = false := hfr5 7
   have hf5_8 : wr.frozen? ⟨go5, (x5_1 : Int).toNat * 10 + 8, none⟩ = false := hfr5 8
   have hf5_9 : wr.frozen? ⟨go5, (x5_1 : Int).toNat * 10 + 9, none⟩ = false := hfr5 9
   clear hcl5 hcc5 hfr5 hM5
   replace p5 := eq_true p5
   replace q5 := eq_true q5
   have HX16 := am (show Kd.S k37 37 wr w0.heap.size (fun k_ => ((fun k_ => P0_ k_)) k_ ∧ ¬ ((fun _ => False)) k_) (.slice (some ⟨go5, 0, none⟩) x0_1.length co15) x0_1 from Q5)
   obtain ⟨oki16, ce16, hcl16, hM16, hcc16, hfr16, hoki16, hH16⟩ := Kd.S_elem HX16.out z37 (x5_1 : Int) (of_decide_eq_true Q1) (by have h_ : (x5_1 : Int) < ((x0_1.length : Int) : Int) := of_decide_eq_true Q1; first | exact h_ | (have e_ := (Kd.S_reads' HO_0.out).1; omega) | simpa using h_)
   obtain ⟨ve16_7, ve16_8, ve16_9, rfl, ge16_7, ge16_8, ge16_9⟩ := k37_openM hM16
   have HP16 := Kd.S_seg hH16 (of_decide_eq_true Q1) (by have h_ : (x5_1 : Int) < ((x0_1.length : Int) : Int) := of_decide_eq_true Q1; first | exact h_ | (have e_ := (Kd.S_reads' HO_0.out).1; omega) | simpa using h_) (seg := [.int .i64 x1_1]) (j := 0) (show 1 ≤ 10 from by decide) (x' := (⟨x1_1, (rd_T37 x0_1 x5_1).f1, (rd_T37 x0_1 x5_1).f2, (rd_T37 x0_1 x5_1).f3, (rd_T37 x0_1 x5_1).f4, (⟨(rd_T37 x0_1 x5_1).f5.f0, (rd_T37 x0_1 x5_1).f5.f1, (rd_T37 x0_1 x5_1).f5.f2⟩ : S34), (rd_T37 x0_1 x5_1).f6, (rd_T37 x0_1 x5_1).f7⟩ : S37)) (k37_mkM _ _ _ (⟨x1_1, (rd_T37 x0_1 x5_1).f1, (rd_T37 x0_1 x5_1).f2, (rd_T37 x0_1 x5_1).f3, (rd_T37 x0_1 x5_1).f4, (⟨(rd_T37 x0_1 x5_1).f5.f0, (rd_T37 x0_1 x5_1).f5.f1, (rd_T37 x0_1 x5_1).f5.f2⟩ : S34), (rd_T37 x0_1 x5_1).f6, (rd_T37 x0_1 x5_1).f7⟩ : S37) (Kd.R_mono ge16_7 (fun _ h_ => Or.inl h_)) (Kd.R_mono ge16_8 (fun _ h_ => Or.inl h_)) (Kd.R_mono ge16_9 (fun _ h_ => Or.inl h_)) (k37_apart hM16)) (fun _ hk => hk) (fun k_ hk_ => hk_.elim)
   have hx16_0 := hcc16 0 _ rfl
   (try simp only [show (k37).sz = 10 from rfl, Nat.mul_one, Nat.add_zero] at hx16_0)
   have hf16_0 := hfr16 0
   (try simp only [show (k37).sz = 10 from rfl, Nat.mul_one, Nat.add_zero] at hf16_0)
   clear hcl16 hcc16 hfr16 hM16 hoki16 hH16
   go_wp2_with (first | ((with_reducible refine gate_store (t := 3) (p := 16) rfl ?_); refine store_event (t := 3) (p := 16) (v := ?vo_w17) (w1 := (wr.setCell ⟨go5, (x5_1 : Int).toNat * 10, none⟩ (.int .i64 x1_1))) ?hg ?ho ?hn ?hr ?_; (case ho => rfl); (case hg => rfl); (case hn => rfl); (case hr => first | (go_simp; done) | (go_simp; rfl)); intro w17 hw; (try clear hx5_0); (try clear hx5_1); (try clear hx5_2); (try clear hx5_3); (try clear hx5_4); (try clear hx5_5); (try clear hx5_6); (try clear hx5_7); (try clear hx5_8); (try clear hx5_9); (try clear hf5_0); (try clear hf5_1); (try clear hf5_2); (try clear hf5_3); (try clear hf5_4); (try clear hf5_5); (try clear hf5_6); (try clear hf5_7); (try clear hf5_8); (try clear hf5_9); (try clear hx16_0); (try clear hf16_0); (try clear ge5_7); (try clear ge5_8); (try clear ge5_9); (try clear ge16_7); (try clear ge16_8); (try clear ge16_9); have hg : wr.grownBy w17 (some go5) := (by rw [hw]; exact HP16.2); have hp_ : Kd.S k37 37 w17 w0.heap.size (fun k_ => P0_ k_) (.slice (some ⟨go5, 0, none⟩) x0_1.length co15) y146 := (by rw [hw, Ny146.out]; exact HP16.1); clear HP16; replace HO_0 := am (hp_); replace HB := am ((by rw [hw]; exact below_set (HB.out) GB5.out : Below w0.heap.size w0 w17)); replace HK := am (Kept.of_grown (S := (fun k_ => PK_ k_)) hg Q7 (fun k_ e_ => .inl (HPK.out k_ e_))); clear hg hw hp_; have p6 : 0 ≤ (x5_1 : Int) := of_decide_eq_true Q1; have q6 : (x5_1 : Int) < ((x0_1.length : Int) : Int) := of_decide_eq_true Q1; obtain ⟨_, ce6, hcl6, hM6, hcc6, hfr6, _, _⟩ := Kd.S_elem HO_0.out z37 (x5_1 : Int) p6 q6; obtain ⟨ve6_7, ve6_8, ve6_9, rfl, ge6_7, ge6_8, ge6_9⟩ := k37_openM hM6; have hx6_0 : w17.cell? ⟨go5, (x5_1 : Int).toNat * 10, none⟩ = some (.int .i64 ((rd_T37 y146 x5_1).f0)) := hcc6 0 _ rfl; have hx6_1 : w17.cell? ⟨go5, (x5_1 : Int).toNat * 10 + 1, none⟩ = some (.int .i64 ((rd_T37 y146 x5_1).f1)) := hcc6 1 _ rfl; have hx6_2 : w17.cell? ⟨go5, (x5_1 : Int).toNat * 10 + 2, none⟩ = some (.int .i64 ((rd_T37 y146 x5_1).f2)) := hcc6 2 _ rfl; have hx6_3 : w17.cell? ⟨go5, (x5_1 : Int).toNat * 10 + 3, none⟩ = some (.int .i64 ((rd_T37 y146 x5_1).f3)) := hcc6 3 _ rfl; have hx6_4 : w17.cell? ⟨go5, (x5_1 : Int).toNat * 10 + 4, none⟩ = some (.int .i64 ((rd_T37 y146 x5_1).f4)) := hcc6 4 _ rfl; have hx6_5 : w17.cell? ⟨go5, (x5_1 : Int).toNat * 10 + 5, none⟩ = some (.int .i64 ((rd_T37 y146 x5_1).f5.f0)) := hcc6 5 _ rfl; have hx6_6 : w17.cell? ⟨go5, (x5_1 : Int).toNat * 10 + 6, none⟩ = some (.int .i64 ((rd_T37 y146 x5_1).f5.f1)) := hcc6 6 _ rfl; have hx6_7 : w17.cell? ⟨go5, (x5_1 : Int).toNat * 10 + 7, none⟩ = some (ve6_7) := hcc6 7 _ rfl; have hx6_8 : w17.cell? ⟨go5, (x5_1 : Int).toNat * 10 + 8, none⟩ = some (ve6_8) := hcc6 8 _ rfl; have hx6_9 : w17.cell? ⟨go5, (x5_1 : Int).toNat * 10 + 9, none⟩ = some (ve6_9) := hcc6 9 _ rfl; have hf6_0 : w17.frozen? ⟨go5, (x5_1 : Int).toNat * 10, none⟩ = false := hfr6 0; have hf6_1 : w17.frozen? ⟨go5, (x5_1 : Int).toNat * 10 + 1, none⟩ = false := hfr6 1; have hf6_2 : w17.frozen? ⟨go5, (x5_1 : Int).toNat * 10 + 2, none⟩ = false := hfr6 2; have hf6_3 : w17.frozen? ⟨go5, (x5_1 : Int).toNat * 10 + 3, none⟩ = false := hfr6 3; have hf6_4 : w17.frozen? ⟨go5, (x5_1 : Int).toNat * 10 + 4, none⟩ = false := hfr6 4; have hf6_5 : w17.frozen? ⟨go5, (x5_1 : Int).toNat * 10 + 5, none⟩ = false := hfr6 5; have hf6_6 : w17.frozen? ⟨go5, (x5_1 : Int).toNat * 10 + 6, none⟩ = false := hfr6 6; have hf6_7 : w17.frozen? ⟨go5, (x5_1 : Int).toNat * 10 + 7, none⟩ = false := hfr6 7; have hf6_8 : w17.frozen? ⟨go5, (x5_1 : Int).toNat * 10 + 8, none⟩ = false := hfr6 8; have hf6_9 : w17.frozen? ⟨go5, (x5_1 : Int).toNat * 10 + 9, none⟩ = false := hfr6 9; clear hcl6 hcc6 hfr6 hM6; replace p6 := eq_true p6; replace q6 := eq_true q6; have HX18 := am (show Kd.S k37 37 w17 w0.heap.size (fun k_ => ((fun k_ => P0_ k_)) k_ ∧ ¬ ((fun _ => False)) k_) (.slice (some ⟨go5, 0, none⟩) x0_1.length co15) y146 from Q5); obtain ⟨oki18, ce18, hcl18, hM18, hcc18, hfr18, hoki18, hH18⟩ := Kd.S_elem HX18.out z37 (x5_1 : Int) (of_decide_eq_true Q1) (by have h_ : (x5_1 : Int) < ((x0_1.length : Int) : Int) := of_decide_eq_true Q1; first | exact h_ | (have e_ := (Kd.S_reads' HO_0.out).1; omega) | simpa using h_); obtain ⟨ve18_7, ve18_8, ve18_9, rfl, ge18_7, ge18_8, ge18_9⟩ := k37_openM hM18; have HP18 := Kd.S_seg hH18 (of_decide_eq_true Q1) (by have h_ : (x5_1 : Int) < ((x0_1.length : Int) : Int) := of_decide_eq_true Q1; first | exact h_ | (have e_ := (Kd.S_reads' HO_0.out).1; omega) | simpa using h_) (seg := [.int .i64 (wrap64 (x1_1 + 1))]) (j := 1) (show 2 ≤ 10 from by decide) (x' := (⟨(rd_T37 y146 x5_1).f0, wrap64 (x1_1 + 1), (rd_T37 y146 x5_1).f2, (rd_T37 y146 x5_1).f3, (rd_T37 y146 x5_1).f4, (⟨(rd_T37 y146 x5_1).f5.f0, (rd_T37 y146 x5_1).f5.f1, (rd_T37 y146 x5_1).f5.f2⟩ : S34), (rd_T37 y146 x5_1).f6, (rd_T37 y146 x5_1).f7⟩ : S37)) (k37_mkM _ _ _ (⟨(rd_T37 y146 x5_1).f0, wrap64 (x1_1 + 1), (rd_T37 y146 x5_1).f2, (rd_T37 y146 x5_1).f3, (rd_T37 y146 x5_1).f4, (⟨(rd_T37 y146 x5_1).f5.f0, (rd_T37 y146 x5_1).f5.f1, (rd_T37 y146 x5_1).f5.f2⟩ : S34), (rd_T37 y146 x5_1).f6, (rd_T37 y146 x5_1).f7⟩ : S37) (Kd.R_mono ge18_7 (fun _ h_ => Or.inl h_)) (Kd.R_mono ge18_8 (fun _ h_ => Or.inl h_)) (Kd.R_mono ge18_9 (fun _ h_ => Or.inl h_)) (k37_apart hM18)) (fun _ hk => hk) (fun k_ hk_ => hk_.elim); have hx18_1 := hcc18 1 _ rfl; (try simp only [show (k37).sz = 10 from rfl, Nat.mul_one, Nat.add_zero] at hx18_1); have hf18_1 := hfr18 1; (try simp only [show (k37).sz = 10 from rfl, Nat.mul_one, Nat.add_zero] at hf18_1); clear hcl18 hcc18 hfr18 hM18 hoki18 hH18) | ((with_reducible refine gate_store (t := 3) (p := 23) rfl ?_); refine store_event (t := 3) (p := 23) (v := ?vo_w19) (w1 := (w17.setCell ⟨go5, (x5_1 : Int).toNat * 10 + 1, none⟩ (.int .i64 (wrap64 (x1_1 + 1))))) ?hg ?ho ?hn ?hr ?_; (case ho => rfl); (case hg => rfl); (case hn => rfl); (case hr => first | (go_simp; done) | (go_simp; rfl)); intro w19 hw; (try clear hx6_0); (try clear hx6_1); (try clear hx6_2); (try clear hx6_3); (try clear hx6_4); (try clear hx6_5); (try clear hx6_6); (try clear hx6_7); (try clear hx6_8); (try clear hx6_9); (try clear hf6_0); (try clear hf6_1); (try clear hf6_2); (try clear hf6_3); (try clear hf6_4); (try clear hf6_5); (try clear hf6_6); (try clear hf6_7); (try clear hf6_8); (try clear hf6_9); (try clear hx18_1); (try clear hf18_1); (try clear ge6_7); (try clear ge6_8); (try clear ge6_9); (try clear ge18_7); (try clear ge18_8); (try clear ge18_9); have hg : w17.grownBy w19 (some go5) := (by rw [hw]; exact HP18.2); have hp_ : Kd.S k37 37 w19 w0.heap.size (fun k_ => P0_ k_) (.slice (some ⟨go5, 0, none⟩) x0_1.length co15) y147 := (by rw [hw, Ny147.out]; exact HP18.1); clear HP18; replace HO_0 := am (hp_); replace HB := am ((by rw [hw]; exact below_set (HB.out) GB5.out : Below w0.heap.size w0 w19)); replace HK := am (Kept.of_grown (S := (fun k_ => PK_ k_)) hg Q7 (fun k_ e_ => .inl (HPK.out k_ e_))); clear hg hw hp_; have p7 : 0 ≤ (x5_1 : Int) := of_decide_eq_true Q1; have q7 : (x5_1 : Int) < ((x0_1.length : Int) : Int) := of_decide_eq_true Q1; obtain ⟨_, ce7, hcl7, hM7, hcc7, hfr7, _, _⟩ := Kd.S_elem HO_0.out z37 (x5_1 : Int) p7 q7; obtain ⟨ve7_7, ve7_8, ve7_9, rfl, ge7_7, ge7_8, ge7_9⟩ := k37_openM hM7; have hx7_0 : w19.cell? ⟨go5, (x5_1 : Int).toNat * 10, none⟩ = some (.int .i64 ((rd_T37 y147 x5_1).f0)) := hcc7 0 _ rfl; have hx7_1 : w19.cell? ⟨go5, (x5_1 : Int).toNat * 10 + 1, none⟩ = some (.int .i64 ((rd_T37 y147 x5_1).f1)) := hcc7 1 _ rfl; have hx7_2 : w19.cell? ⟨go5, (x5_1 : Int).toNat * 10 + 2, none⟩ = some (.int .i64 ((rd_T37 y147 x5_1).f2)) := hcc7 2 _ rfl; have hx7_3 : w19.cell? ⟨go5, (x5_1 : Int).toNat * 10 + 3, none⟩ = some (.int .i64 ((rd_T37 y147 x5_1).f3)) := hcc7 3 _ rfl; have hx7_4 : w19.cell? ⟨go5, (x5_1 : Int).toNat * 10 + 4, none⟩ = some (.int .i64 ((rd_T37 y147 x5_1).f4)) := hcc7 4 _ rfl; have hx7_5 : w19.cell? ⟨go5, (x5_1 : Int).toNat * 10 + 5, none⟩ = some (.int .i64 ((rd_T37 y147 x5_1).f5.f0)) := hcc7 5 _ rfl; have hx7_6 : w19.cell? ⟨go5, (x5_1 : Int).toNat * 10 + 6, none⟩ = some (.int .i64 ((rd_T37 y147 x5_1).f5.f1)) := hcc7 6 _ rfl; have hx7_7 : w19.cell? ⟨go5, (x5_1 : Int).toNat * 10 + 7, none⟩ = some (ve7_7) := hcc7 7 _ rfl; have hx7_8 : w19.cell? ⟨go5, (x5_1 : Int).toNat * 10 + 8, none⟩ = some (ve7_8) := hcc7 8 _ rfl; have hx7_9 : w19.cell? ⟨go5, (x5_1 : Int).toNat * 10 + 9, none⟩ = some (ve7_9) := hcc7 9 _ rfl; have hf7_0 : w19.frozen? ⟨go5, (x5_1 : Int).toNat * 10, none⟩ = false := hfr7 0; have hf7_1 : w19.frozen? ⟨go5, (x5_1 : Int).toNat * 10 + 1, none⟩ = false := hfr7 1; have hf7_2 : w19.frozen? ⟨go5, (x5_1 : Int).toNat * 10 + 2, none⟩ = false := hfr7 2; have hf7_3 : w19.frozen? ⟨go5, (x5_1 : Int).toNat * 10 + 3, none⟩ = false := hfr7 3; have hf7_4 : w19.frozen? ⟨go5, (x5_1 : Int).toNat * 10 + 4, none⟩ = false := hfr7 4; have hf7_5 : w19.frozen? ⟨go5, (x5_1 : Int).toNat * 10 + 5, none⟩ = false := hfr7 5; have hf7_6 : w19.frozen? ⟨go5, (x5_1 : Int).toNat * 10 + 6, none⟩ = false := hfr7 6; have hf7_7 : w19.frozen? ⟨go5, (x5_1 : Int).toNat * 10 + 7, none⟩ = false := hfr7 7; have hf7_8 : w19.frozen? ⟨go5, (x5_1 : Int).toNat * 10 + 8, none⟩ = false := hfr7 8; have hf7_9 : w19.frozen? ⟨go5, (x5_1 : Int).toNat * 10 + 9, none⟩ = false := hfr7 9; clear hcl7 hcc7 hfr7 hM7; replace p7 := eq_true p7; replace q7 := eq_true q7; have HX20 := am (show Kd.S k37 37 w19 w0.heap.size (fun k_ => ((fun k_ => P0_ k_)) k_ ∧ ¬ ((fun _ => False)) k_) (.slice (some ⟨go5, 0, none⟩) x0_1.length co15) y147 from Q5); obtain ⟨oki20, ce20, hcl20, hM20, hcc20, hfr20, hoki20, hH20⟩ := Kd.S_elem HX20.out z37 (x5_1 : Int) (of_decide_eq_true Q1) (by have h_ : (x5_1 : Int) < ((x0_1.length : Int) : Int) := of_decide_eq_true Q1; first | exact h_ | (have e_ := (Kd.S_reads' HO_0.out).1; omega) | simpa using h_); obtain ⟨ve20_7, ve20_8, ve20_9, rfl, ge20_7, ge20_8, ge20_9⟩ := k37_openM hM20; have HP20 := Kd.S_seg hH20 (of_decide_eq_true Q1) (by have h_ : (x5_1 : Int) < ((x0_1.length : Int) : Int) := of_decide_eq_true Q1; first | exact h_ | (have e_ := (Kd.S_reads' HO_0.out).1; omega) | simpa using h_) (seg := [.int .i64 (wrap64 ((wrap64 (x1_1 + 1)) + 1))]) (j := 2) (show 3 ≤ 10 from by decide) (x' := (⟨(rd_T37 y147 x5_1).f0, (rd_T37 y147 x5_1).f1, wrap64 ((wrap64 (x1_1 + 1)) + 1), (rd_T37 y147 x5_1).f3, (rd_T37 y147 x5_1).f4, (⟨(rd_T37 y147 x5_1).f5.f0, (rd_T37 y147 x5_1).f5.f1, (rd_T37 y147 x5_1).f5.f2⟩ : S34), (rd_T37 y147 x5_1).f6, (rd_T37 y147 x5_1).f7⟩ : S37)) (k37_mkM _ _ _ (⟨(rd_T37 y147 x5_1).f0, (rd_T37 y147 x5_1).f1, wrap64 ((wrap64 (x1_1 + 1)) + 1), (rd_T37 y147 x5_1).f3, (rd_T37 y147 x5_1).f4, (⟨(rd_T37 y147 x5_1).f5.f0, (rd_T37 y147 x5_1).f5.f1, (rd_T37 y147 x5_1).f5.f2⟩ : S34), (rd_T37 y147 x5_1).f6, (rd_T37 y147 x5_1).f7⟩ : S37) (Kd.R_mono ge20_7 (fun _ h_ => Or.inl h_)) (Kd.R_mono ge20_8 (fun _ h_ => Or.inl h_)) (Kd.R_mono ge20_9 (fun _ h_ => Or.inl h_)) (k37_apart hM20)) (fun _ hk => hk) (fun k_ hk_ => hk_.elim); have hx20_2 := hcc20 2 _ rfl; (try simp only [show (k37).sz = 10 from rfl, Nat.mul_one, Nat.add_zero] at hx20_2); have hf20_2 := hfr20 2; (try simp only [show (k37).sz = 10 from rfl, Nat.mul_one, Nat.add_zero] at hf20_2); clear hcl20 hcc20 hfr20 hM20 hoki20 hH20) | ((with_reducible refine gate_store (t := 3) (p := 30) rfl ?_); refine store_event (t := 3) (p := 30) (v := ?vo_w21) (w1 := (w19.setCell ⟨go5, (x5_1 : Int).toNat * 10 + 2, none⟩ (.int .i64 (wrap64 ((wrap64 (x1_1 + 1)) + 1))))) ?hg ?ho ?hn ?hr ?_; (case ho => rfl); (case hg => rfl); (case hn => rfl); (case hr => first | (go_simp; done) | (go_simp; rfl)); intro w21 hw; (try clear hx7_0); (try clear hx7_1); (try clear hx7_2); (try clear hx7_3); (try clear hx7_4); (try clear hx7_5); (try clear hx7_6); (try clear hx7_7); (try clear hx7_8); (try clear hx7_9); (try clear hf7_0); (try clear hf7_1); (try clear hf7_2); (try clear hf7_3); (try clear hf7_4); (try clear hf7_5); (try clear hf7_6); (try clear hf7_7); (try clear hf7_8); (try clear hf7_9); (try clear hx20_2); (try clear hf20_2); (try clear ge7_7); (try clear ge7_8); (try clear ge7_9); (try clear ge20_7); (try clear ge20_8); (try clear ge20_9); have hg : w19.grownBy w21 (some go5) := (by rw [hw]; exact HP20.2); have hp_ : Kd.S k37 37 w21 w0.heap.size (fun k_ => P0_ k_) (.slice (some ⟨go5, 0, none⟩) x0_1.length co15) y148 := (by rw [hw, Ny148.out]; exact HP20.1); clear HP20; replace HO_0 := am (hp_); replace HB := am ((by rw [hw]; exact below_set (HB.out) GB5.out : Below w0.heap.size w0 w21)); replace HK := am (Kept.of_grown (S := (fun k_ => PK_ k_)) hg Q7 (fun k_ e_ => .inl (HPK.out k_ e_))); clear hg hw hp_; have p8 : 0 ≤ (x5_1 : Int) := of_decide_eq_true Q1; have q8 : (x5_1 : Int) < ((x0_1.length : Int) : Int) := of_decide_eq_true Q1; obtain ⟨_, ce8, hcl8, hM8, hcc8, hfr8, _, _⟩ := Kd.S_elem HO_0.out z37 (x5_1 : Int) p8 q8; obtain ⟨ve8_7, ve8_8, ve8_9, rfl, ge8_7, ge8_8, ge8_9⟩ := k37_openM hM8; have hx8_0 : w21.cell? ⟨go5, (x5_1 : Int).toNat * 10, none⟩ = some (.int .i64 ((rd_T37 y148 x5_1).f0)) := hcc8 0 _ rfl; have hx8_1 : w21.cell? ⟨go5, (x5_1 : Int).toNat * 10 + 1, none⟩ = some (.int .i64 ((rd_T37 y148 x5_1).f1)) := hcc8 1 _ rfl; have hx8_2 : w21.cell? ⟨go5, (x5_1 : Int).toNat * 10 + 2, none⟩ = some (.int .i64 ((rd_T37 y148 x5_1).f2)) := hcc8 2 _ rfl; have hx8_3 : w21.cell? ⟨go5, (x5_1 : Int).toNat * 10 + 3, none⟩ = some (.int .i64 ((rd_T37 y148 x5_1).f3)) := hcc8 3 _ rfl; have hx8_4 : w21.cell? ⟨go5, (x5_1 : Int).toNat * 10 + 4, none⟩ = some (.int .i64 ((rd_T37 y148 x5_1).f4)) := hcc8 4 _ rfl; have hx8_5 : w21.cell? ⟨go5, (x5_1 : Int).toNat * 10 + 5, none⟩ = some (.int .i64 ((rd_T37 y148 x5_1).f5.f0)) := hcc8 5 _ rfl; have hx8_6 : w21.cell? ⟨go5, (x5_1 : Int).toNat * 10 + 6, none⟩ = some (.int .i64 ((rd_T37 y148 x5_1).f5.f1)) := hcc8 6 _ rfl; have hx8_7 : w21.cell? ⟨go5, (x5_1 : Int).toNat * 10 + 7, none⟩ = some (ve8_7) := hcc8 7 _ rfl; have hx8_8 : w21.cell? ⟨go5, (x5_1 : Int).toNat * 10 + 8, none⟩ = some (ve8_8) := hcc8 8 _ rfl; have hx8_9 : w21.cell? ⟨go5, (x5_1 : Int).toNat * 10 + 9, none⟩ = some (ve8_9) := hcc8 9 _ rfl; have hf8_0 : w21.frozen? ⟨go5, (x5_1 : Int).toNat * 10, none⟩ = false := hfr8 0; have hf8_1 : w21.frozen? ⟨go5, (x5_1 : Int).toNat * 10 + 1, none⟩ = false := hfr8 1; have hf8_2 : w21.frozen? ⟨go5, (x5_1 : Int).toNat * 10 + 2, none⟩ = false := hfr8 2; have hf8_3 : w21.frozen? ⟨go5, (x5_1 : Int).toNat * 10 + 3, none⟩ = false := hfr8 3; have hf8_4 : w21.frozen? ⟨go5, (x5_1 : Int).toNat * 10 + 4, none⟩ = false := hfr8 4; have hf8_5 : w21.frozen? ⟨go5, (x5_1 : Int).toNat * 10 + 5, none⟩ = false := hfr8 5; have hf8_6 : w21.frozen? ⟨go5, (x5_1 : Int).toNat * 10 + 6, none⟩ = false := hfr8 6; have hf8_7 : w21.frozen? ⟨go5, (x5_1 : Int).toNat * 10 + 7, none⟩ = false := hfr8 7; have hf8_8 : w21.frozen? ⟨go5, (x5_1 : Int).toNat * 10 + 8, none⟩ = false := hfr8 8; have hf8_9 : w21.frozen? ⟨go5, (x5_1 : Int).toNat * 10 + 9, none⟩ = false := hfr8 9; clear hcl8 hcc8 hfr8 hM8; replace p8 := eq_true p8; replace q8 := eq_true q8; have HX22 := am (show Kd.S k37 37 w21 w0.heap.size (fun k_ => ((fun k_ => P0_ k_)) k_ ∧ ¬ ((fun _ => False)) k_) (.slice (some ⟨go5, 0, none⟩) x0_1.length co15) y148 from Q5); obtain ⟨oki22, ce22, hcl22, hM22, hcc22, hfr22, hoki22, hH22⟩ := Kd.S_elem HX22.out z37 (x5_1 : Int) (of_decide_eq_true Q1) (by have h_ : (x5_1 : Int) < ((x0_1.length : Int) : Int) := of_decide_eq_true Q1; first | exact h_ | (have e_ := (Kd.S_reads' HO_0.out).1; omega) | simpa using h_); obtain ⟨ve22_7, ve22_8, ve22_9, rfl, ge22_7, ge22_8, ge22_9⟩ := k37_openM hM22; have HP22 := Kd.S_seg hH22 (of_decide_eq_true Q1) (by have h_ : (x5_1 : Int) < ((x0_1.length : Int) : Int) := of_decide_eq_true Q1; first | exact h_ | (have e_ := (Kd.S_reads' HO_0.out).1; omega) | simpa using h_) (seg := [.int .i64 (wrap64 ((wrap64 ((wrap64 (x1_1 + 1)) + 1)) + 1))]) (j := 3) (show 4 ≤ 10 from by decide) (x' := (⟨(rd_T37 y148 x5_1).f0, (rd_T37 y148 x5_1).f1, (rd_T37 y148 x5_1).f2, wrap64 ((wrap64 ((wrap64 (x1_1 + 1)) + 1)) + 1), (rd_T37 y148 x5_1).f4, (⟨(rd_T37 y148 x5_1).f5.f0, (rd_T37 y148 x5_1).f5.f1, (rd_T37 y148 x5_1).f5.f2⟩ : S34), (rd_T37 y148 x5_1).f6, (rd_T37 y148 x5_1).f7⟩ : S37)) (k37_mkM _ _ _ (⟨(rd_T37 y148 x5_1).f0, (rd_T37 y148 x5_1).f1, (rd_T37 y148 x5_1).f2, wrap64 ((wrap64 ((wrap64 (x1_1 + 1)) + 1)) + 1), (rd_T37 y148 x5_1).f4, (⟨(rd_T37 y148 x5_1).f5.f0, (rd_T37 y148 x5_1).f5.f1, (rd_T37 y148 x5_1).f5.f2⟩ : S34), (rd_T37 y148 x5_1).f6, (rd_T37 y148 x5_1).f7⟩ : S37) (Kd.R_mono ge22_7 (fun _ h_ => Or.inl h_)) (Kd.R_mono ge22_8 (fun _ h_ => Or.inl h_)) (Kd.R_mono ge22_9 (fun _ h_ => Or.inl h_)) (k37_apart hM22)) (fun _ hk => hk) (fun k_ hk_ => hk_.elim); have hx22_3 := hcc22 3 _ rfl; (try simp only [show (k37).sz = 10 from rfl, Nat.mul_one, Nat.add_zero] at hx22_3); have hf22_3 := hfr22 3; (try simp only [show (k37).sz = 10 from rfl, Nat.mul_one, Nat.add_zero] at hf22_3); clear hcl22 hcc22 hfr22 hM22 hoki22 hH22) | ((with_reducible refine gate_store (t := 3) (p := 37) rfl ?_); refine store_event (t := 3) (p := 37) (v := ?vo_w23) (w1 := (w21.setCell ⟨go5, (x5_1 : Int).toNat * 10 + 3, none⟩ (.int .i64 (wrap64 ((wrap64 ((wrap64 (x1_1 + 1)) + 1)) + 1))))) ?hg ?ho ?hn ?hr ?_; (case ho => rfl); (case hg => rfl); (case hn => rfl); (case hr => first | (go_simp; done) | (go_simp; rfl)); intro w23 hw; (try clear hx8_0); (try clear hx8_1); (try clear hx8_2); (try clear hx8_3); (try clear hx8_4); (try clear hx8_5); (try clear hx8_6); (try clear hx8_7); (try clear hx8_8); (try clear hx8_9); (try clear hf8_0); (try clear hf8_1); (try clear hf8_2); (try clear hf8_3); (try clear hf8_4); (try clear hf8_5); (try clear hf8_6); (try clear hf8_7); (try clear hf8_8); (try clear hf8_9); (try clear hx22_3); (try clear hf22_3); (try clear ge8_7); (try clear ge8_8); (try clear ge8_9); (try clear ge22_7); (try clear ge22_8); (try clear ge22_9); have hg : w21.grownBy w23 (some go5) := (by rw [hw]; exact HP22.2); have hp_ : Kd.S k37 37 w23 w0.heap.size (fun k_ => P0_ k_) (.slice (some ⟨go5, 0, none⟩) x0_1.length co15) y149 := (by rw [hw, Ny149.out]; exact HP22.1); clear HP22; replace HO_0 := am (hp_); replace HB := am ((by rw [hw]; exact below_set (HB.out) GB5.out : Below w0.heap.size w0 w23)); replace HK := am (Kept.of_grown (S := (fun k_ => PK_ k_)) hg Q7 (fun k_ e_ => .inl (HPK.out k_ e_))); clear hg hw hp_; have p9 : 0 ≤ (x5_1 : Int) := of_decide_eq_true Q1; have q9 : (x5_1 : Int) < ((x0_1.length : Int) : Int) := of_decide_eq_true Q1; obtain ⟨_, ce9, hcl9, hM9, hcc9, hfr9, _, _⟩ := Kd.S_elem HO_0.out z37 (x5_1 : Int) p9 q9; obtain ⟨ve9_7, ve9_8, ve9_9, rfl, ge9_7, ge9_8, ge9_9⟩ := k37_openM hM9; have hx9_0 : w23.cell? ⟨go5, (x5_1 : Int).toNat * 10, none⟩ = some (.int .i64 ((rd_T37 y149 x5_1).f0)) := hcc9 0 _ rfl; have hx9_1 : w23.cell? ⟨go5, (x5_1 : Int).toNat * 10 + 1, none⟩ = some (.int .i64 ((rd_T37 y149 x5_1).f1)) := hcc9 1 _ rfl; have hx9_2 : w23.cell? ⟨go5, (x5_1 : Int).toNat * 10 + 2, none⟩ = some (.int .i64 ((rd_T37 y149 x5_1).f2)) := hcc9 2 _ rfl; have hx9_3 : w23.cell? ⟨go5, (x5_1 : Int).toNat * 10 + 3, none⟩ = some (.int .i64 ((rd_T37 y149 x5_1).f3)) := hcc9 3 _ rfl; have hx9_4 : w23.cell? ⟨go5, (x5_1 : Int).toNat * 10 + 4, none⟩ = some (.int .i64 ((rd_T37 y149 x5_1).f4)) := hcc9 4 _ rfl; have hx9_5 : w23.cell? ⟨go5, (x5_1 : Int).toNat * 10 + 5, none⟩ = some (.int .i64 ((rd_T37 y149 x5_1).f5.f0)) := hcc9 5 _ rfl; have hx9_6 : w23.cell? ⟨go5, (x5_1 : Int).toNat * 10 + 6, none⟩ = some (.int .i64 ((rd_T37 y149 x5_1).f5.f1)) := hcc9 6 _ rfl; have hx9_7 : w23.cell? ⟨go5, (x5_1 : Int).toNat * 10 + 7, none⟩ = some (ve9_7) := hcc9 7 _ rfl; have hx9_8 : w23.cell? ⟨go5, (x5_1 : Int).toNat * 10 + 8, none⟩ = some (ve9_8) := hcc9 8 _ rfl; have hx9_9 : w23.cell? ⟨go5, (x5_1 : Int).toNat * 10 + 9, none⟩ = some (ve9_9) := hcc9 9 _ rfl; have hf9_0 : w23.frozen? ⟨go5, (x5_1 : Int).toNat * 10, none⟩ = false := hfr9 0; have hf9_1 : w23.frozen? ⟨go5, (x5_1 : Int).toNat * 10 + 1, none⟩ = false := hfr9 1; have hf9_2 : w23.frozen? ⟨go5, (x5_1 : Int).toNat * 10 + 2, none⟩ = false := hfr9 2; have hf9_3 : w23.frozen? ⟨go5, (x5_1 : Int).toNat * 10 + 3, none⟩ = false := hfr9 3; have hf9_4 : w23.frozen? ⟨go5, (x5_1 : Int).toNat * 10 + 4, none⟩ = false := hfr9 4; have hf9_5 : w23.frozen? ⟨go5, (x5_1 : Int).toNat * 10 + 5, none⟩ = false := hfr9 5; have hf9_6 : w23.frozen? ⟨go5, (x5_1 : Int).toNat * 10 + 6, none⟩ = false := hfr9 6; have hf9_7 : w23.frozen? ⟨go5, (x5_1 : Int).toNat * 10 + 7, none⟩ = false := hfr9 7; have hf9_8 : w23.frozen? ⟨go5, (x5_1 : Int).toNat * 10 + 8, none⟩ = false := hfr9 8; have hf9_9 : w23.frozen? ⟨go5, (x5_1 : Int).toNat * 10 + 9, none⟩ = false := hfr9 9; clear hcl9 hcc9 hfr9 hM9; replace p9 := eq_true p9; replace q9 := eq_true q9; have HX24 := am (show Kd.S k37 37 w23 w0.heap.size (fun k_ => ((fun k_ => P0_ k_)) k_ ∧ ¬ ((fun _ => False)) k_) (.slice (some ⟨go5, 0, none⟩) x0_1.length co15) y149 from Q5); obtain ⟨oki24, ce24, hcl24, hM24, hcc24, hfr24, hoki24, hH24⟩ := Kd.S_elem HX24.out z37 (x5_1 : Int) (of_decide_eq_true Q1) (by have h_ : (x5_1 : Int) < ((x0_1.length : Int) : Int) := of_decide_eq_true Q1; first | exact h_ | (have e_ := (Kd.S_reads' HO_0.out).1; omega) | simpa using h_); obtain ⟨ve24_7, ve24_8, ve24_9, rfl, ge24_7, ge24_8, ge24_9⟩ := k37_openM hM24; have HP24 := Kd.S_seg hH24 (of_decide_eq_true Q1) (by have h_ : (x5_1 : Int) < ((x0_1.length : Int) : Int) := of_decide_eq_true Q1; first | exact h_ | (have e_ := (Kd.S_reads' HO_0.out).1; omega) | simpa using h_) (seg := [.int .i64 (wrap64 ((wrap64 ((wrap64 ((wrap64 (x1_1 + 1)) + 1)) + 1)) + 1))]) (j := 4) (show 5 ≤ 10 from by decide) (x' := (⟨(rd_T37 y149 x5_1).f0, (rd_T37 y149 x5_1).f1, (rd_T37 y149 x5_1).f2, (rd_T37 y149 x5_1).f3, wrap64 ((wrap64 ((wrap64 ((wrap64 (x1_1 + 1)) + 1)) + 1)) + 1), (⟨(rd_T37 y149 x5_1).f5.f0, (rd_T37 y149 x5_1).f5.f1, (rd_T37 y149 x5_1).f5.f2⟩ : S34), (rd_T37 y149 x5_1).f6, (rd_T37 y149 x5_1).f7⟩ : S37)) (k37_mkM _ _ _ (⟨(rd_T37 y149 x5_1).f0, (rd_T37 y149 x5_1).f1, (rd_T37 y149 x5_1).f2, (rd_T37 y149 x5_1).f3, wrap64 ((wrap64 ((wrap64 ((wrap64 (x1_1 + 1)) + 1)) + 1)) + 1), (⟨(rd_T37 y149 x5_1).f5.f0, (rd_T37 y149 x5_1).f5.f1, (rd_T37 y149 x5_1).f5.f2⟩ : S34), (rd_T37 y149 x5_1).f6, (rd_T37 y149 x5_1).f7⟩ : S37) (Kd.R_mono ge24_7 (fun _ h_ => Or.inl h_)) (Kd.R_mono ge24_8 (fun _ h_ => Or.inl h_)) (Kd.R_mono ge24_9 (fun _ h_ => Or.inl h_)) (k37_apart hM24)) (fun _ hk => hk) (fun k_ hk_ => hk_.elim); have hx24_4 := hcc24 4 _ rfl; (try simp only [show (k37).sz = 10 from rfl, Nat.mul_one, Nat.add_zero] at hx24_4); have hf24_4 := hfr24 4; (try simp only [show (k37).sz = 10 from rfl, Nat.mul_one, Nat.add_zero] at hf24_4); clear hcl24 hcc24 hfr24 hM24 hoki24 hH24) | ((with_reducible refine gate_store (t := 3) (p := 44) rfl ?_); refine store_event (t := 3) (p := 44) (v := ?vo_w25) (w1 := (w23.setCell ⟨go5, (x5_1 : Int).toNat * 10 + 4, none⟩ (.int .i64 (wrap64 ((wrap64 ((wrap64 ((wrap64 (x1_1 + 1)) + 1)) + 1)) + 1))))) ?hg ?ho ?hn ?hr ?_; (case ho => rfl); (case hg => rfl); (case hn => rfl); (case hr => first | (go_simp; done) | (go_simp; rfl)); intro w25 hw; (try clear hx9_0); (try clear hx9_1); (try clear hx9_2); (try clear hx9_3); (try clear hx9_4); (try clear hx9_5); (try clear hx9_6); (try clear hx9_7); (try clear hx9_8); (try clear hx9_9); (try clear hf9_0); (try clear hf9_1); (try clear hf9_2); (try clear hf9_3); (try clear hf9_4); (try clear hf9_5); (try clear hf9_6); (try clear hf9_7); (try clear hf9_8); (try clear hf9_9); (try clear hx24_4); (try clear hf24_4); (try clear ge9_7); (try clear ge9_8); (try clear ge9_9); (try clear ge24_7); (try clear ge24_8); (try clear ge24_9); have hg : w23.grownBy w25 (some go5) := (by rw [hw]; exact HP24.2); have hp_ : Kd.S k37 37 w25 w0.heap.size (fun k_ => P0_ k_) (.slice (some ⟨go5, 0, none⟩) x0_1.length co15) y150 := (by rw [hw, Ny150.out]; exact HP24.1); clear HP24; replace HO_0 := am (hp_); replace HB := am ((by rw [hw]; exact below_set (HB.out) GB5.out : Below w0.heap.size w0 w25)); replace HK := am (Kept.of_grown (S := (fun k_ => PK_ k_)) hg Q7 (fun k_ e_ => .inl (HPK.out k_ e_))); clear hg hw hp_; have p10 : 0 ≤ (x5_1 : Int) := of_decide_eq_true Q1; have q10 : (x5_1 : Int) < ((x0_1.length : Int) : Int) := of_decide_eq_true Q1; obtain ⟨_, ce10, hcl10, hM10, hcc10, hfr10, _, _⟩ := Kd.S_elem HO_0.out z37 (x5_1 : Int) p10 q10; obtain ⟨ve10_7, ve10_8, ve10_9, rfl, ge10_7, ge10_8, ge10_9⟩ := k37_openM hM10; have hx10_0 : w25.cell? ⟨go5, (x5_1 : Int).toNat * 10, none⟩ = some (.int .i64 ((rd_T37 y150 x5_1).f0)) := hcc10 0 _ rfl; have hx10_1 : w25.cell? ⟨go5, (x5_1 : Int).toNat * 10 + 1, none⟩ = some (.int .i64 ((rd_T37 y150 x5_1).f1)) := hcc10 1 _ rfl; have hx10_2 : w25.cell? ⟨go5, (x5_1 : Int).toNat * 10 + 2, none⟩ = some (.int .i64 ((rd_T37 y150 x5_1).f2)) := hcc10 2 _ rfl; have hx10_3 : w25.cell? ⟨go5, (x5_1 : Int).toNat * 10 + 3, none⟩ = some (.int .i64 ((rd_T37 y150 x5_1).f3)) := hcc10 3 _ rfl; have hx10_4 : w25.cell? ⟨go5, (x5_1 : Int).toNat * 10 + 4, none⟩ = some (.int .i64 ((rd_T37 y150 x5_1).f4)) := hcc10 4 _ rfl; have hx10_5 : w25.cell? ⟨go5, (x5_1 : Int).toNat * 10 + 5, none⟩ = some (.int .i64 ((rd_T37 y150 x5_1).f5.f0)) := hcc10 5 _ rfl; have hx10_6 : w25.cell? ⟨go5, (x5_1 : Int).toNat * 10 + 6, none⟩ = some (.int .i64 ((rd_T37 y150 x5_1).f5.f1)) := hcc10 6 _ rfl; have hx10_7 : w25.cell? ⟨go5, (x5_1 : Int).toNat * 10 + 7, none⟩ = some (ve10_7) := hcc10 7 _ rfl; have hx10_8 : w25.cell? ⟨go5, (x5_1 : Int).toNat * 10 + 8, none⟩ = some (ve10_8) := hcc10 8 _ rfl; have hx10_9 : w25.cell? ⟨go5, (x5_1 : Int).toNat * 10 + 9, none⟩ = some (ve10_9) := hcc10 9 _ rfl; have hf10_0 : w25.frozen? ⟨go5, (x5_1 : Int).toNat * 10, none⟩ = false := hfr10 0; have hf10_1 : w25.frozen? ⟨go5, (x5_1 : Int).toNat * 10 + 1, none⟩ = false := hfr10 1; have hf10_2 : w25.frozen? ⟨go5, (x5_1 : Int).toNat * 10 + 2, none⟩ = false := hfr10 2; have hf10_3 : w25.frozen? ⟨go5, (x5_1 : Int).toNat * 10 + 3, none⟩ = false := hfr10 3; have hf10_4 : w25.frozen? ⟨go5, (x5_1 : Int).toNat * 10 + 4, none⟩ = false := hfr10 4; have hf10_5 : w25.frozen? ⟨go5, (x5_1 : Int).toNat * 10 + 5, none⟩ = false := hfr10 5; have hf10_6 : w25.frozen? ⟨go5, (x5_1 : Int).toNat * 10 + 6, none⟩ = false := hfr10 6; have hf10_7 : w25.frozen? ⟨go5, (x5_1 : Int).toNat * 10 + 7, none⟩ = false := hfr10 7; have hf10_8 : w25.frozen? ⟨go5, (x5_1 : Int).toNat * 10 + 8, none⟩ = false := hfr10 8; have hf10_9 : w25.frozen? ⟨go5, (x5_1 : Int).toNat * 10 + 9, none⟩ = false := hfr10 9; clear hcl10 hcc10 hfr10 hM10; replace p10 := eq_true p10; replace q10 := eq_true q10; have HX26 := am (show Kd.S k37 37 w25 w0.heap.size (fun k_ => ((fun k_ => P0_ k_)) k_ ∧ ¬ ((fun _ => False)) k_) (.slice (some ⟨go5, 0, none⟩) x0_1.length co15) y150 from Q5); obtain ⟨oki26, ce26, hcl26, hM26, hcc26, hfr26, hoki26, hH26⟩ := Kd.S_elem HX26.out z37 (x5_1 : Int) (of_decide_eq_true Q1) (by have h_ : (x5_1 : Int) < ((x0_1.length : Int) : Int) := of_decide_eq_true Q1; first | exact h_ | (have e_ := (Kd.S_reads' HO_0.out).1; omega) | simpa using h_); obtain ⟨ve26_7, ve26_8, ve26_9, rfl, ge26_7, ge26_8, ge26_9⟩ := k37_openM hM26; have HP26 := Kd.S_seg hH26 (of_decide_eq_true Q1) (by have h_ : (x5_1 : Int) < ((x0_1.length : Int) : Int) := of_decide_eq_true Q1; first | exact h_ | (have e_ := (Kd.S_reads' HO_0.out).1; omega) | simpa using h_) (seg := [.int .i64 (wrap64 ((wrap64 ((wrap64 ((wrap64 ((wrap64 (x1_1 + 1)) + 1)) + 1)) + 1)) + 1))]) (j := 5) (show 6 ≤ 10 from by decide) (x' := (⟨(rd_T37 y150 x5_1).f0, (rd_T37 y150 x5_1).f1, (rd_T37 y150 x5_1).f2, (rd_T37 y150 x5_1).f3, (rd_T37 y150 x5_1).f4, (⟨wrap64 ((wrap64 ((wrap64 ((wrap64 ((wrap64 (x1_1 + 1)) + 1)) + 1)) + 1)) + 1), (rd_T37 y150 x5_1).f5.f1, (rd_T37 y150 x5_1).f5.f2⟩ : S34), (rd_T37 y150 x5_1).f6, (rd_T37 y150 x5_1).f7⟩ : S37)) (k37_mkM _ _ _ (⟨(rd_T37 y150 x5_1).f0, (rd_T37 y150 x5_1).f1, (rd_T37 y150 x5_1).f2, (rd_T37 y150 x5_1).f3, (rd_T37 y150 x5_1).f4, (⟨wrap64 ((wrap64 ((wrap64 ((wrap64 ((wrap64 (x1_1 + 1)) + 1)) + 1)) + 1)) + 1), (rd_T37 y150 x5_1).f5.f1, (rd_T37 y150 x5_1).f5.f2⟩ : S34), (rd_T37 y150 x5_1).f6, (rd_T37 y150 x5_1).f7⟩ : S37) (Kd.R_mono ge26_7 (fun _ h_ => Or.inl h_)) (Kd.R_mono ge26_8 (fun _ h_ => Or.inl h_)) (Kd.R_mono ge26_9 (fun _ h_ => Or.inl h_)) (k37_apart hM26)) (fun _ hk => hk) (fun k_ hk_ => hk_.elim); have hx26_5 := hcc26 5 _ rfl; (try simp only [show (k37).sz = 10 from rfl, Nat.mul_one, Nat.add_zero] at hx26_5); have hf26_5 := hfr26 5; (try simp only [show (k37).sz = 10 from rfl, Nat.mul_one, Nat.add_zero] at hf26_5); clear hcl26 hcc26 hfr26 hM26 hoki26 hH26) | ((with_reducible refine gate_store (t := 3) (p := 52) rfl ?_); refine store_event (t := 3) (p := 52) (v := ?vo_w27) (w1 := (w25.setCell ⟨go5, (x5_1 : Int).toNat * 10 + 5, none⟩ (.int .i64 (wrap64 ((wrap64 ((wrap64 ((wrap64 ((wrap64 (x1_1 + 1)) + 1)) + 1)) + 1)) + 1))))) ?hg ?ho ?hn ?hr ?_; (case ho => rfl); (case hg => rfl); (case hn => rfl); (case hr => first | (go_simp; done) | (go_simp; rfl)); intro w27 hw; (try clear hx10_0); (try clear hx10_1); (try clear hx10_2); (try clear hx10_3); (try clear hx10_4); (try clear hx10_5); (try clear hx10_6); (try clear hx10_7); (try clear hx10_8); (try clear hx10_9); (try clear hf10_0); (try clear hf10_1); (try clear hf10_2); (try clear hf10_3); (try clear hf10_4); (try clear hf10_5); (try clear hf10_6); (try clear hf10_7); (try clear hf10_8); (try clear hf10_9); (try clear hx26_5); (try clear hf26_5); (try clear ge10_7); (try clear ge10_8); (try clear ge10_9); (try clear ge26_7); (try clear ge26_8); (try clear ge26_9); have hg : w25.grownBy w27 (some go5) := (by rw [hw]; exact HP26.2); have hp_ : Kd.S k37 37 w27 w0.heap.size (fun k_ => P0_ k_) (.slice (some ⟨go5, 0, none⟩) x0_1.length co15) y151 := (by rw [hw, Ny151.out]; exact HP26.1); clear HP26; replace HO_0 := am (hp_); replace HB := am ((by rw [hw]; exact below_set (HB.out) GB5.out : Below w0.heap.size w0 w27)); replace HK := am (Kept.of_grown (S := (fun k_ => PK_ k_)) hg Q7 (fun k_ e_ => .inl (HPK.out k_ e_))); clear hg hw hp_; have p11 : 0 ≤ (x5_1 : Int) := of_decide_eq_true Q1; have q11 : (x5_1 : Int) < ((x0_1.length : Int) : Int) := of_decide_eq_true Q1; obtain ⟨_, ce11, hcl11, hM11, hcc11, hfr11, _, _⟩ := Kd.S_elem HO_0.out z37 (x5_1 : Int) p11 q11; obtain ⟨ve11_7, ve11_8, ve11_9, rfl, ge11_7, ge11_8, ge11_9⟩ := k37_openM hM11; have hx11_0 : w27.cell? ⟨go5, (x5_1 : Int).toNat * 10, none⟩ = some (.int .i64 ((rd_T37 y151 x5_1).f0)) := hcc11 0 _ rfl; have hx11_1 : w27.cell? ⟨go5, (x5_1 : Int).toNat * 10 + 1, none⟩ = some (.int .i64 ((rd_T37 y151 x5_1).f1)) := hcc11 1 _ rfl; have hx11_2 : w27.cell? ⟨go5, (x5_1 : Int).toNat * 10 + 2, none⟩ = some (.int .i64 ((rd_T37 y151 x5_1).f2)) := hcc11 2 _ rfl; have hx11_3 : w27.cell? ⟨go5, (x5_1 : Int).toNat * 10 + 3, none⟩ = some (.int .i64 ((rd_T37 y151 x5_1).f3)) := hcc11 3 _ rfl; have hx11_4 : w27.cell? ⟨go5, (x5_1 : Int).toNat * 10 + 4, none⟩ = some (.int .i64 ((rd_T37 y151 x5_1).f4)) := hcc11 4 _ rfl; have hx11_5 : w27.cell? ⟨go5, (x5_1 : Int).toNat * 10 + 5, none⟩ = some (.int .i64 ((rd_T37 y151 x5_1).f5.f0)) := hcc11 5 _ rfl; have hx11_6 : w27.cell? ⟨go5, (x5_1 : Int).toNat * 10 + 6, none⟩ = some (.int .i64 ((rd_T37 y151 x5_1).f5.f1)) := hcc11 6 _ rfl; have hx11_7 : w27.cell? ⟨go5, (x5_1 : Int).toNat * 10 + 7, none⟩ = some (ve11_7) := hcc11 7 _ rfl; have hx11_8 : w27.cell? ⟨go5, (x5_1 : Int).toNat * 10 + 8, none⟩ = some (ve11_8) := hcc11 8 _ rfl; have hx11_9 : w27.cell? ⟨go5, (x5_1 : Int).toNat * 10 + 9, none⟩ = some (ve11_9) := hcc11 9 _ rfl; have hf11_0 : w27.frozen? ⟨go5, (x5_1 : Int).toNat * 10, none⟩ = false := hfr11 0; have hf11_1 : w27.frozen? ⟨go5, (x5_1 : Int).toNat * 10 + 1, none⟩ = false := hfr11 1; have hf11_2 : w27.frozen? ⟨go5, (x5_1 : Int).toNat * 10 + 2, none⟩ = false := hfr11 2; have hf11_3 : w27.frozen? ⟨go5, (x5_1 : Int).toNat * 10 + 3, none⟩ = false := hfr11 3; have hf11_4 : w27.frozen? ⟨go5, (x5_1 : Int).toNat * 10 + 4, none⟩ = false := hfr11 4; have hf11_5 : w27.frozen? ⟨go5, (x5_1 : Int).toNat * 10 + 5, none⟩ = false := hfr11 5; have hf11_6 : w27.frozen? ⟨go5, (x5_1 : Int).toNat * 10 + 6, none⟩ = false := hfr11 6; have hf11_7 : w27.frozen? ⟨go5, (x5_1 : Int).toNat * 10 + 7, none⟩ = false := hfr11 7; have hf11_8 : w27.frozen? ⟨go5, (x5_1 : Int).toNat * 10 + 8, none⟩ = false := hfr11 8; have hf11_9 : w27.frozen? ⟨go5, (x5_1 : Int).toNat * 10 + 9, none⟩ = false := hfr11 9; clear hcl11 hcc11 hfr11 hM11; replace p11 := eq_true p11; replace q11 := eq_true q11; have HX28 := am (show Kd.S k37 37 w27 w0.heap.size (fun k_ => ((fun k_ => P0_ k_)) k_ ∧ ¬ ((fun _ => False)) k_) (.slice (some ⟨go5, 0, none⟩) x0_1.length co15) y151 from Q5); obtain ⟨oki28, ce28, hcl28, hM28, hcc28, hfr28, hoki28, hH28⟩ := Kd.S_elem HX28.out z37 (x5_1 : Int) (of_decide_eq_true Q1) (by have h_ : (x5_1 : Int) < ((x0_1.length : Int) : Int) := of_decide_eq_true Q1; first | exact h_ | (have e_ := (Kd.S_reads' HO_0.out).1; omega) | simpa using h_); obtain ⟨ve28_7, ve28_8, ve28_9, rfl, ge28_7, ge28_8, ge28_9⟩ := k37_openM hM28; have HP28 := Kd.S_seg hH28 (of_decide_eq_true Q1) (by have h_ : (x5_1 : Int) < ((x0_1.length : Int) : Int) := of_decide_eq_true Q1; first | exact h_ | (have e_ := (Kd.S_reads' HO_0.out).1; omega) | simpa using h_) (seg := [.int .i64 (wrap64 ((wrap64 ((wrap64 ((wrap64 ((wrap64 ((wrap64 (x1_1 + 1)) + 1)) + 1)) + 1)) + 1)) + 1))]) (j := 6) (show 7 ≤ 10 from by decide) (x' := (⟨(rd_T37 y151 x5_1).f0, (rd_T37 y151 x5_1).f1, (rd_T37 y151 x5_1).f2, (rd_T37 y151 x5_1).f3, (rd_T37 y151 x5_1).f4, (⟨(rd_T37 y151 x5_1).f5.f0, wrap64 ((wrap64 ((wrap64 ((wrap64 ((wrap64 ((wrap64 (x1_1 + 1)) + 1)) + 1)) + 1)) + 1)) + 1), (rd_T37 y151 x5_1).f5.f2⟩ : S34), (rd_T37 y151 x5_1).f6, (rd_T37 y151 x5_1).f7⟩ : S37)) (k37_mkM _ _ _ (⟨(rd_T37 y151 x5_1).f0, (rd_T37 y151 x5_1).f1, (rd_T37 y151 x5_1).f2, (rd_T37 y151 x5_1).f3, (rd_T37 y151 x5_1).f4, (⟨(rd_T37 y151 x5_1).f5.f0, wrap64 ((wrap64 ((wrap64 ((wrap64 ((wrap64 ((wrap64 (x1_1 + 1)) + 1)) + 1)) + 1)) + 1)) + 1), (rd_T37 y151 x5_1).f5.f2⟩ : S34), (rd_T37 y151 x5_1).f6, (rd_T37 y151 x5_1).f7⟩ : S37) (Kd.R_mono ge28_7 (fun _ h_ => Or.inl h_)) (Kd.R_mono ge28_8 (fun _ h_ => Or.inl h_)) (Kd.R_mono ge28_9 (fun _ h_ => Or.inl h_)) (k37_apart hM28)) (fun _ hk => hk) (fun k_ hk_ => hk_.elim); have hx28_6 := hcc28 6 _ rfl; (try simp only [show (k37).sz = 10 from rfl, Nat.mul_one, Nat.add_zero] at hx28_6); have hf28_6 := hfr28 6; (try simp only [show (k37).sz = 10 from rfl, Nat.mul_one, Nat.add_zero] at hf28_6); clear hcl28 hcc28 hfr28 hM28 hoki28 hH28) | ((with_reducible refine gate_store (t := 3) (p := 60) rfl ?_); refine store_event (t := 3) (p := 60) (v := ?vo_w29) (w1 := (w27.setCell ⟨go5, (x5_1 : Int).toNat * 10 + 6, none⟩ (.int .i64 (wrap64 ((wrap64 ((wrap64 ((wrap64 ((wrap64 ((wrap64 (x1_1 + 1)) + 1)) + 1)) + 1)) + 1)) + 1))))) ?hg ?ho ?hn ?hr ?_; (case ho => rfl); (case hg => rfl); (case hn => rfl); (case hr => first | (go_simp; done) | (go_simp; rfl)); intro w29 hw; (try clear hx11_0); (try clear hx11_1); (try clear hx11_2); (try clear hx11_3); (try clear hx11_4); (try clear hx11_5); (try clear hx11_6); (try clear hx11_7); (try clear hx11_8); (try clear hx11_9); (try clear hf11_0); (try clear hf11_1); (try clear hf11_2); (try clear hf11_3); (try clear hf11_4); (try clear hf11_5); (try clear hf11_6); (try clear hf11_7); (try clear hf11_8); (try clear hf11_9); (try clear hx28_6); (try clear hf28_6); (try clear ge11_7); (try clear ge11_8); (try clear ge11_9); (try clear ge28_7); (try clear ge28_8); (try clear ge28_9); have hg : w27.grownBy w29 (some go5) := (by rw [hw]; exact HP28.2); have hp_ : Kd.S k37 37 w29 w0.heap.size (fun k_ => P0_ k_) (.slice (some ⟨go5, 0, none⟩) x0_1.length co15) y152 := (by rw [hw, Ny152.out]; exact HP28.1); clear HP28; replace HO_0 := am (hp_); replace HB := am ((by rw [hw]; exact below_set (HB.out) GB5.out : Below w0.heap.size w0 w29)); replace HK := am (Kept.of_grown (S := (fun k_ => PK_ k_)) hg Q7 (fun k_ e_ => .inl (HPK.out k_ e_))); clear hg hw hp_; have p153 : 0 ≤ (x5_1 : Int) := of_decide_eq_true Q1; have q153 : x5_1 < (y152.length : Int) := (by have h_ : (x5_1 : Int) < ((x0_1.length : Int) : Int) := of_decide_eq_true Q1; first | (have e_ := (Kd.S_reads' HO_0.out).1; omega) | simpa only [Ny146.out, Ny147.out, Ny148.out, Ny149.out, Ny150.out, Ny151.out, Ny152.out, List.length_set] using h_); have ql153 : ((x5_1 : Int) < ((x0_1.length : Int) : Int)) = True := eq_true (of_decide_eq_true Q1); obtain ⟨ad153, A153_7, c153_7, A153_8, c153_8, A153_9, c153_9, e153, hx153_0, hx153_1, hx153_2, hx153_3, hx153_4, hx153_5, hx153_6, hx153_7, hx153_8, hx153_9, hl153_7, hi153_7, hl153_8, hi153_8, hl153_9, hi153_9⟩ := at_T37 (Kd.S_reads' HO_0.out).2.2 x5_1 p153 q153; obtain rfl : (⟨go5, 0, none⟩ : Addr) = ad153 := (by injection e153); obtain ⟨ce153, hce153, hMe153, hcc153⟩ := Kd.S_get HO_0.out z37 x5_1 p153 (by first | exact q153 | exact of_decide_eq_true Q1 | (have e_ := (Kd.S_reads' HO_0.out).1; omega)); obtain ⟨ve153_7, ve153_8, ve153_9, rfl, ge153_7, ge153_8, ge153_9⟩ := k37_openM hMe153; have hv153_7 := hcc153 7 _ rfl; rw [add_field _ _ 7 (by omega)] at hv153_7; replace hv153_7 := Option.some.inj (hv153_7.symm.trans hx153_7); rw [hv153_7] at ge153_7; have HL153_7 := am (show Kd.R k85 85 _ _ _ _ ((rd_T37 y152 x5_1).f5.f2) from ge153_7); clear hv153_7 ge153_7; have hv153_8 := hcc153 8 _ rfl; rw [add_field _ _ 8 (by omega)] at hv153_8; replace hv153_8 := Option.some.inj (hv153_8.symm.trans hx153_8); rw [hv153_8] at ge153_8; have HL153_8 := am (show Kd.R (Kd.int .i64) 3 _ _ _ _ ((rd_T37 y152 x5_1).f6) from ge153_8); clear hv153_8 ge153_8; have hv153_9 := hcc153 9 _ rfl; rw [add_field _ _ 9 (by omega)] at hv153_9; replace hv153_9 := Option.some.inj (hv153_9.symm.trans hx153_9); rw [hv153_9] at ge153_9; have HL153_9 := am (show Kd.R (Kd.int .i64) 3 _ _ _ _ ((rd_T37 y152 x5_1).f7) from ge153_9); clear hv153_9 ge153_9; clear hcc153 hce153; (first | simp only [add_plain] at hx153_0 | simp only [add_at] at hx153_0 | simp only [Addr.add, Nat.zero_add] at hx153_0 | skip); (first | simp only [add_plain] at hx153_1 | simp only [add_at] at hx153_1 | simp only [Addr.add, Nat.zero_add] at hx153_1 | skip); (first | simp only [add_plain] at hx153_2 | simp only [add_at] at hx153_2 | simp only [Addr.add, Nat.zero_add] at hx153_2 | skip); (first | simp only [add_plain] at hx153_3 | simp only [add_at] at hx153_3 | simp only [Addr.add, Nat.zero_add] at hx153_3 | skip); (first | simp only [add_plain] at hx153_4 | simp only [add_at] at hx153_4 | simp only [Addr.add, Nat.zero_add] at hx153_4 | skip); (first | simp only [add_plain] at hx153_5 | simp only [add_at] at hx153_5 | simp only [Addr.add, Nat.zero_add] at hx153_5 | skip); (first | simp only [add_plain] at hx153_6 | simp only [add_at] at hx153_6 | simp only [Addr.add, Nat.zero_add] at hx153_6 | skip); (first | simp only [add_plain] at hx153_7 | simp only [add_at] at hx153_7 | simp only [Addr.add, Nat.zero_add] at hx153_7 | skip); (first | simp only [add_plain] at hx153_8 | simp only [add_at] at hx153_8 | simp only [Addr.add, Nat.zero_add] at hx153_8 | skip); (first | simp only [add_plain] at hx153_9 | simp only [add_at] at hx153_9 | simp only [Addr.add, Nat.zero_add] at hx153_9 | skip); have HR153_7 := am hi153_7; have HC153_7 := am hl153_7; clear hi153_7 hl153_7; have HR153_8 := am hi153_8; have HC153_8 := am hl153_8; clear hi153_8 hl153_8; have HR153_9 := am hi153_9; have HC153_9 := am hl153_9; clear hi153_9 hl153_9; replace p153 := eq_true p153; replace q153 := eq_true q153) | ((with_reducible refine gate_callee (f := 59) rfl ?_); refine goesL_ (some 70) rfl rfl Try.func59 kr rfl #[.slice A153_7 ((rd_T37 y152 x5_1).f5.f2).length c153_7, .int .i64 (wrap64 ((wrap64 ((wrap64 ((wrap64 ((wrap64 ((wrap64 ((wrap64 (x1_1 + 1)) + 1)) + 1)) + 1)) + 1)) + 1)) + 1))] rfl Q0 ?_; (with_reducible refine (laws_markEntryS.calls k1 (fun k_ => some k_ = ((.slice A153_7 ((rd_T37 y152 x5_1).f5.f2).length c153_7) : Value).ownBlock) (.slice A153_7 ((rd_T37 y152 x5_1).f5.f2).length c153_7) ((rd_T37 y152 x5_1).f5.f2) (wrap64 ((wrap64 ((wrap64 ((wrap64 ((wrap64 ((wrap64 ((wrap64 (x1_1 + 1)) + 1)) + 1)) + 1)) + 1)) + 1)) + 1)) t154 t154b w0 _ ?side1 ?side2 A12.out).mono ?_); (case side1 => exact Q2); (case side2 => exact (by exact Kd.R_tight rfl (by (with_reducible repeat (first | apply r1_ | apply r2_ | apply r3_)); exact HL153_7.out))); rintro e w30 ⟨rfl, hy_, hb, hkp_⟩; refine ⟨_, rfl, ?_⟩; have hp_ : 0 ≤ (x5_1 : Int) := of_eq_true p153; have hq_ := of_eq_true q153; have n0_ := am (S_lentN_ (x' := (⟨(rd_T37 y152 x5_1).f0, (rd_T37 y152 x5_1).f1, (rd_T37 y152 x5_1).f2, (rd_T37 y152 x5_1).f3, (rd_T37 y152 x5_1).f4, (⟨(rd_T37 y152 x5_1).f5.f0, (rd_T37 y152 x5_1).f5.f1, t154b⟩ : S34), (rd_T37 y152 x5_1).f6, (rd_T37 y152 x5_1).f7⟩ : S37)) Q6 z37 (x5_1 : Int) hp_ u5_10 hkp_ (fun okq_ cq_ hcl_ hM_ hcc_ => by obtain ⟨vq7_, vq8_, vq9_, rfl, gq7_, gq8_, gq9_⟩ := k37_openM hM_; have hv_ := hcc_ 7 _ rfl; (try simp only [show (k37).sz = 10 from rfl] at hv_); obtain rfl : vq7_ = (.slice A153_7 ((rd_T37 y152 x5_1).f5.f2).length c153_7) := Option.some.inj (hv_.symm.trans (by first | exact hx153_7 | (simpa using hx153_7))); exact ⟨fun k_ e_ => gq7_.1 k_ e_.symm, okq_, k37_lentE hM_ hkp_ (Kd.R_tight rfl hy_), fun k_ e_ => e_⟩)); rw [← Ny154b.out] at n0_; have n3_ := am (Kept.then_ (S := (fun k_ => PK_ k_)) Q7 hkp_ (fun k_ e_ => .inl (HPI.out k_ ((Kd.R_mono (ok' := P0_) HL153_7.out (fun k_ h_ => h_.1)).1 k_ e_.symm)))); have n4_ := am (hb); clear HL153_7; clear HL153_8; clear HL153_9; clear HR153_7; clear HR153_8; clear HR153_9; clear HO_0; clear HK; clear HB; have HO_0 := n0_; have HK := n3_; have HB := n4_; clear n0_ n3_ n4_; (try clear hx153_0); (try clear hx153_1); (try clear hx153_2); (try clear hx153_3); (try clear hx153_4); (try clear hx153_5); (try clear hx153_6); (try clear hx153_7); (try clear hx153_8); (try clear hx153_9); (try clear hb); (try clear hkp_); (try clear hy_); (try clear hk); (try clear hi); have p155 : 0 ≤ (x5_1 : Int) := of_decide_eq_true Q1; have q155 : x5_1 < (y154b.length : Int) := (by have h_ : (x5_1 : Int) < ((x0_1.length : Int) : Int) := of_decide_eq_true Q1; first | (have e_ := (Kd.S_reads' HO_0.out).1; omega) | simpa only [Ny154b.out, Ny146.out, Ny147.out, Ny148.out, Ny149.out, Ny150.out, Ny151.out, Ny152.out, List.length_set] using h_); have ql155 : ((x5_1 : Int) < ((x0_1.length : Int) : Int)) = True := eq_true (of_decide_eq_true Q1); obtain ⟨ad155, A155_7, c155_7, A155_8, c155_8, A155_9, c155_9, e155, hx155_0, hx155_1, hx155_2, hx155_3, hx155_4, hx155_5, hx155_6, hx155_7, hx155_8, hx155_9, hl155_7, hi155_7, hl155_8, hi155_8, hl155_9, hi155_9⟩ := at_T37 (Kd.S_reads' HO_0.out).2.2 x5_1 p155 q155; obtain rfl : (⟨go5, 0, none⟩ : Addr) = ad155 := (by injection e155); obtain ⟨ce155, hce155, hMe155, hcc155⟩ := Kd.S_get HO_0.out z37 x5_1 p155 (by first | exact q155 | exact of_decide_eq_true Q1 | (have e_ := (Kd.S_reads' HO_0.out).1; omega)); obtain ⟨ve155_7, ve155_8, ve155_9, rfl, ge155_7, ge155_8, ge155_9⟩ := k37_openM hMe155; have hv155_7 := hcc155 7 _ rfl; rw [add_field _ _ 7 (by omega)] at hv155_7; replace hv155_7 := Option.some.inj (hv155_7.symm.trans hx155_7); rw [hv155_7] at ge155_7; have HL155_7 := am (show Kd.R k85 85 _ _ _ _ ((rd_T37 y154b x5_1).f5.f2) from ge155_7); clear hv155_7 ge155_7; have hv155_8 := hcc155 8 _ rfl; rw [add_field _ _ 8 (by omega)] at hv155_8; replace hv155_8 := Option.some.inj (hv155_8.symm.trans hx155_8); rw [hv155_8] at ge155_8; have HL155_8 := am (show Kd.R (Kd.int .i64) 3 _ _ _ _ ((rd_T37 y154b x5_1).f6) from ge155_8); clear hv155_8 ge155_8; have hv155_9 := hcc155 9 _ rfl; rw [add_field _ _ 9 (by omega)] at hv155_9; replace hv155_9 := Option.some.inj (hv155_9.symm.trans hx155_9); rw [hv155_9] at ge155_9; have HL155_9 := am (show Kd.R (Kd.int .i64) 3 _ _ _ _ ((rd_T37 y154b x5_1).f7) from ge155_9); clear hv155_9 ge155_9; clear hcc155 hce155; (first | simp only [add_plain] at hx155_0 | simp only [add_at] at hx155_0 | simp only [Addr.add, Nat.zero_add] at hx155_0 | skip); (first | simp only [add_plain] at hx155_1 | simp only [add_at] at hx155_1 | simp only [Addr.add, Nat.zero_add] at hx155_1 | skip); (first | simp only [add_plain] at hx155_2 | simp only [add_at] at hx155_2 | simp only [Addr.add, Nat.zero_add] at hx155_2 | skip); (first | simp only [add_plain] at hx155_3 | simp only [add_at] at hx155_3 | simp only [Addr.add, Nat.zero_add] at hx155_3 | skip); (first | simp only [add_plain] at hx155_4 | simp only [add_at] at hx155_4 | simp only [Addr.add, Nat.zero_add] at hx155_4 | skip); (first | simp only [add_plain] at hx155_5 | simp only [add_at] at hx155_5 | simp only [Addr.add, Nat.zero_add] at hx155_5 | skip); (first | simp only [add_plain] at hx155_6 | simp only [add_at] at hx155_6 | simp only [Addr.add, Nat.zero_add] at hx155_6 | skip); (first | simp only [add_plain] at hx155_7 | simp only [add_at] at hx155_7 | simp only [Addr.add, Nat.zero_add] at hx155_7 | skip); (first | simp only [add_plain] at hx155_8 | simp only [add_at] at hx155_8 | simp only [Addr.add, Nat.zero_add] at hx155_8 | skip); (first | simp only [add_plain] at hx155_9 | simp only [add_at] at hx155_9 | simp only [Addr.add, Nat.zero_add] at hx155_9 | skip); have HR155_7 := am hi155_7; have HC155_7 := am hl155_7; clear hi155_7 hl155_7; have HR155_8 := am hi155_8; have HC155_8 := am hl155_8; clear hi155_8 hl155_8; have HR155_9 := am hi155_9; have HC155_9 := am hl155_9; clear hi155_9 hl155_9; replace p155 := eq_true p155; replace q155 := eq_true q155) | ((with_reducible refine gate_callee (f := 54) rfl ?_); refine goesL_ (some 77) rfl rfl Try.func54 kr rfl #[.slice A155_8 ((rd_T37 y154b x5_1).f6).length c155_8, .int .i64 t154] rfl Q0 ?_; (with_reducible refine (laws_markIntS.calls k1 (fun k_ => some k_ = ((.slice A155_8 ((rd_T37 y154b x5_1).f6).length c155_8) : Value).ownBlock) (.slice A155_8 ((rd_T37 y154b x5_1).f6).length c155_8) ((rd_T37 y154b x5_1).f6) t154 t156 t156b w0 _ ?side1 ?side2 A13.out).mono ?_); (case side1 => exact Q2); (case side2 => exact (by exact Kd.R_tight rfl (by (with_reducible repeat (first | apply r1_ | apply r2_ | apply r3_)); exact HL155_8.out))); rintro e w31 ⟨rfl, hy_, hb, hkp_⟩; refine ⟨_, rfl, ?_⟩; have hp_ : 0 ≤ (x5_1 : Int) := of_eq_true p155; have hq_ := of_eq_true q155; have n0_ := am (S_lentN_ (x' := (⟨(rd_T37 y154b x5_1).f0, (rd_T37 y154b x5_1).f1, (rd_T37 y154b x5_1).f2, (rd_T37 y154b x5_1).f3, (rd_T37 y154b x5_1).f4, (⟨(rd_T37 y154b x5_1).f5.f0, (rd_T37 y154b x5_1).f5.f1, (rd_T37 y154b x5_1).f5.f2⟩ : S34), t156b, (rd_T37 y154b x5_1).f7⟩ : S37)) Q6 z37 (x5_1 : Int) hp_ u5_10 hkp_ (fun okq_ cq_ hcl_ hM_ hcc_ => by obtain ⟨vq7_, vq8_, vq9_, rfl, gq7_, gq8_, gq9_⟩ := k37_openM hM_; have hv_ := hcc_ 8 _ rfl; (try simp only [show (k37).sz = 10 from rfl] at hv_); obtain rfl : vq8_ = (.slice A155_8 ((rd_T37 y154b x5_1).f6).length c155_8) := Option.some.inj (hv_.symm.trans (by first | exact hx155_8 | (simpa using hx155_8))); exact ⟨fun k_ e_ => gq8_.1 k_ e_.symm, okq_, k37_lentV hM_ hkp_ (Kd.R_tight rfl hy_), fun k_ e_ => e_⟩)); rw [← Ny156b.out] at n0_; have n3_ := am (Kept.then_ (S := (fun k_ => PK_ k_)) Q7 hkp_ (fun k_ e_ => .inl (HPI.out k_ ((Kd.R_mono (ok' := P0_) HL155_8.out (fun k_ h_ => h_.1)).1 k_ e_.symm)))); have n4_ := am (hb); clear HL155_7; clear HL155_8; clear HL155_9; clear HR155_7; clear HR155_8; clear HR155_9; clear HO_0; clear HK; clear HB; have HO_0 := n0_; have HK := n3_; have HB := n4_; clear n0_ n3_ n4_; (try clear hx155_0); (try clear hx155_1); (try clear hx155_2); (try clear hx155_3); (try clear hx155_4); (try clear hx155_5); (try clear hx155_6); (try clear hx155_7); (try clear hx155_8); (try clear hx155_9); (try clear hb); (try clear hkp_); (try clear hy_); (try clear hk); (try clear hi); have p157 : 0 ≤ (x5_1 : Int) := of_decide_eq_true Q1; have q157 : x5_1 < (y156b.length : Int) := (by have h_ : (x5_1 : Int) < ((x0_1.length : Int) : Int) := of_decide_eq_true Q1; first | (have e_ := (Kd.S_reads' HO_0.out).1; omega) | simpa only [Ny156b.out, Ny154b.out, Ny146.out, Ny147.out, Ny148.out, Ny149.out, Ny150.out, Ny151.out, Ny152.out, List.length_set] using h_); have ql157 : ((x5_1 : Int) < ((x0_1.length : Int) : Int)) = True := eq_true (of_decide_eq_true Q1); obtain ⟨ad157, A157_7, c157_7, A157_8, c157_8, A157_9, c157_9, e157, hx157_0, hx157_1, hx157_2, hx157_3, hx157_4, hx157_5, hx157_6, hx157_7, hx157_8, hx157_9, hl157_7, hi157_7, hl157_8, hi157_8, hl157_9, hi157_9⟩ := at_T37 (Kd.S_reads' HO_0.out).2.2 x5_1 p157 q157; obtain rfl : (⟨go5, 0, none⟩ : Addr) = ad157 := (by injection e157); obtain ⟨ce157, hce157, hMe157, hcc157⟩ := Kd.S_get HO_0.out z37 x5_1 p157 (by first | exact q157 | exact of_decide_eq_true Q1 | (have e_ := (Kd.S_reads' HO_0.out).1; omega)); obtain ⟨ve157_7, ve157_8, ve157_9, rfl, ge157_7, ge157_8, ge157_9⟩ := k37_openM hMe157; have hv157_7 := hcc157 7 _ rfl; rw [add_field _ _ 7 (by omega)] at hv157_7; replace hv157_7 := Option.some.inj (hv157_7.symm.trans hx157_7); rw [hv157_7] at ge157_7; have HL157_7 := am (show Kd.R k85 85 _ _ _ _ ((rd_T37 y156b x5_1).f5.f2) from ge157_7); clear hv157_7 ge157_7; have hv157_8 := hcc157 8 _ rfl; rw [add_field _ _ 8 (by omega)] at hv157_8; replace hv157_8 := Option.some.inj (hv157_8.symm.trans hx157_8); rw [hv157_8] at ge157_8; have HL157_8 := am (show Kd.R (Kd.int .i64) 3 _ _ _ _ ((rd_T37 y156b x5_1).f6) from ge157_8); clear hv157_8 ge157_8; have hv157_9 := hcc157 9 _ rfl; rw [add_field _ _ 9 (by omega)] at hv157_9; replace hv157_9 := Option.some.inj (hv157_9.symm.trans hx157_9); rw [hv157_9] at ge157_9; have HL157_9 := am (show Kd.R (Kd.int .i64) 3 _ _ _ _ ((rd_T37 y156b x5_1).f7) from ge157_9); clear hv157_9 ge157_9; clear hcc157 hce157; (first | simp only [add_plain] at hx157_0 | simp only [add_at] at hx157_0 | simp only [Addr.add, Nat.zero_add] at hx157_0 | skip); (first | simp only [add_plain] at hx157_1 | simp only [add_at] at hx157_1 | simp only [Addr.add, Nat.zero_add] at hx157_1 | skip); (first | simp only [add_plain] at hx157_2 | simp only [add_at] at hx157_2 | simp only [Addr.add, Nat.zero_add] at hx157_2 | skip); (first | simp only [add_plain] at hx157_3 | simp only [add_at] at hx157_3 | simp only [Addr.add, Nat.zero_add] at hx157_3 | skip); (first | simp only [add_plain] at hx157_4 | simp only [add_at] at hx157_4 | simp only [Addr.add, Nat.zero_add] at hx157_4 | skip); (first | simp only [add_plain] at hx157_5 | simp only [add_at] at hx157_5 | simp only [Addr.add, Nat.zero_add] at hx157_5 | skip); (first | simp only [add_plain] at hx157_6 | simp only [add_at] at hx157_6 | simp only [Addr.add, Nat.zero_add] at hx157_6 | skip); (first | simp only [add_plain] at hx157_7 | simp only [add_at] at hx157_7 | simp only [Addr.add, Nat.zero_add] at hx157_7 | skip); (first | simp only [add_plain] at hx157_8 | simp only [add_at] at hx157_8 | simp only [Addr.add, Nat.zero_add] at hx157_8 | skip); (first | simp only [add_plain] at hx157_9 | simp only [add_at] at hx157_9 | simp only [Addr.add, Nat.zero_add] at hx157_9 | skip); have HR157_7 := am hi157_7; have HC157_7 := am hl157_7; clear hi157_7 hl157_7; have HR157_8 := am hi157_8; have HC157_8 := am hl157_8; clear hi157_8 hl157_8; have HR157_9 := am hi157_9; have HC157_9 := am hl157_9; clear hi157_9 hl157_9; replace p157 := eq_true p157; replace q157 := eq_true q157) | ((with_reducible refine gate_callee (f := 54) rfl ?_); refine goesL_ (some 84) rfl rfl Try.func54 kr rfl #[.slice A157_9 ((rd_T37 y156b x5_1).f7).length c157_9, .int .i64 t156] rfl Q0 ?_; (with_reducible refine (laws_markIntS.calls k1 (fun k_ => some k_ = ((.slice A157_9 ((rd_T37 y156b x5_1).f7).length c157_9) : Value).ownBlock) (.slice A157_9 ((rd_T37 y156b x5_1).f7).length c157_9) ((rd_T37 y156b x5_1).f7) t156 t158 t158b w0 _ ?side1 ?side2 A14.out).mono ?_); (case side1 => exact Q2); (case side2 => exact (by exact Kd.R_tight rfl (by (with_reducible repeat (first | apply r1_ | apply r2_ | apply r3_)); exact HL157_9.out))); rintro e w32 ⟨rfl, hy_, hb, hkp_⟩; refine ⟨_, rfl, ?_⟩; have hp_ : 0 ≤ (x5_1 : Int) := of_eq_true p157; have hq_ := of_eq_true q157; have n0_ := am (S_lentN_ (x' := (⟨(rd_T37 y156b x5_1).f0, (rd_T37 y156b x5_1).f1, (rd_T37 y156b x5_1).f2, (rd_T37 y156b x5_1).f3, (rd_T37 y156b x5_1).f4, (⟨(rd_T37 y156b x5_1).f5.f0, (rd_T37 y156b x5_1).f5.f1, (rd_T37 y156b x5_1).f5.f2⟩ : S34), (rd_T37 y156b x5_1).f6, t158b⟩ : S37)) Q6 z37 (x5_1 : Int) hp_ u5_10 hkp_ (fun okq_ cq_ hcl_ hM_ hcc_ => by obtain ⟨vq7_, vq8_, vq9_, rfl, gq7_, gq8_, gq9_⟩ := k37_openM hM_; have hv_ := hcc_ 9 _ rfl; (try simp only [show (k37).sz = 10 from rfl] at hv_); obtain rfl : vq9_ = (.slice A157_9 ((rd_T37 y156b x5_1).f7).length c157_9) := Option.some.inj (hv_.symm.trans (by first | exact hx157_9 | (simpa using hx157_9))); exact ⟨fun k_ e_ => gq9_.1 k_ e_.symm, okq_, k37_lentW hM_ hkp_ (Kd.R_tight rfl hy_), fun k_ e_ => e_⟩)); have n3_ := am (Kept.then_ (S := (fun k_ => PK_ k_)) Q7 hkp_ (fun k_ e_ => .inl (HPI.out k_ ((Kd.R_mono (ok' := P0_) HL157_9.out (fun k_ h_ => h_.1)).1 k_ e_.symm)))); have n4_ := am (hb); clear HL157_7; clear HL157_8; clear HL157_9; clear HR157_7; clear HR157_8; clear HR157_9; clear HO_0; clear HK; clear HB; have HO_0 := n0_; have HK := n3_; have HB := n4_; clear n0_ n3_ n4_; (try clear hx157_0); (try clear hx157_1); (try clear hx157_2); (try clear hx157_3); (try clear hx157_4); (try clear hx157_5); (try clear hx157_6); (try clear hx157_7); (try clear hx157_8); (try clear hx157_9); (try clear hb); (try clear hkp_); (try clear hy_); (try clear hk); (try clear hi)))
   go_roundg k1
   case measure => have := HK1.out; omega
   case rel => exact ⟨(y156b.set (x5_1 : Int).toNat (⟨(rd_T37 y156b x5_1).f0, (rd_T37 y156b x5_1).f1, (rd_T37 y156b x5_1).f2, (rd_T37 y156b x5_1).f3, (rd_T37 y156b x5_1).f4, (⟨(rd_T37 y156b x5_1).f5.f0, (rd_T37 y156b x5_1).f5.f1, (rd_T37 y156b x5_1).f5.f2⟩ : S34), (rd_T37 y156b x5_1).f6, t158b⟩ : S37)), (t158), (wrap64 (x5_1 + 1)), Q3, Q3, H', ⟨by have := HK1.out; omega⟩, ⟨Q6⟩, ⟨Q7⟩, ⟨Q2⟩⟩
theorem laws_markNodeS.calls (k : Nat) (P0_ : Nat → Prop) (u9000_ : Value) (l0 : List (S37)) (a1 : Int) (r1 : Int) (r2 : List (S37)) (w0 w : World) (hB : Below w0.heap.size w0 w) (ho0 : Kd.S k37 37 w w0.heap.size P0_ u9000_ l0) (h : laws_markNodeS.f k l0 a1 = some (r1, r2)) :
   Calls Try.prog 81 #[u9000_, .int .i64 a1] w fun e w' => e = .returned (.int .i64 r1) ∧ Kd.S k37 37 w' w0.heap.size (fun k_ => P0_ k_) u9000_ r2 ∧ Below w0.heap.size w0 w' ∧ Kept w w' (fun k_ => P0_ k_) :=
 laws_markNodeS.calls0 (fun k_ => P0_ k_) k P0_ u9000_ l0 a1 r1 r2 w0 w hB ho0 (fun k_ e_ => (Kd.S_R ho0).1 k_ e_) (fun k_ e_ => e_) h
def laws_markGroup.f (k : Nat) (a0_0 : Int) (l0_1 : List S37) (l0_2 : List S29) (a1 : Int) : Option (Int × List S37 × List S29) := (laws_markNodeS.f k l0_1 a1).bind fun t => (laws_markMsgS.f k l0_2 t.1).bind fun u => some (u.1, t.2, u.2)
theorem laws_markGroup.mono : ∀ a0 a1 a2 a3 k, LeO (laws_markGroup.f k a0 a1 a2 a3) (laws_markGroup.f (k + 1) a0 a1 a2 a3) := by
 intro a0 a1 a2 a3 k
 unfold laws_markGroup.f
 repeat' first
     | (with_reducible exact laws_markNodeS.mono _ _ _)
     | (with_reducible exact laws_markMsgS.mono _ _ _)
     | (with_reducible exact LeO.refl _)
     | (with_reducible exact LeO.none _)
     | (with_reducible refine LeO.bind ?_ (fun _ => ?_))
set_option maxHeartbeats 1600000 in
set_option maxRecDepth 100000 in
theorem laws_markGroup.calls (k : Nat) (a0_0 : Int) (P0_1_ : Nat → Prop) (u9000_ : Value) (l0_1 : List S37) (P0_2_ : Nat → Prop) (u9001_ : Value) (l0_2 : List S29) (a1 : Int) (r1 : Int) (r2 : List S37) (r3 : List S29) (w0 w : World) (hB : Below w0.heap.size w0 w) (ho0_1 : Kd.S k37 37 w w0.heap.size P0_1_ u9000_ l0_1) (ho0_2 : Kd.S k29 29 w w0.heap.size P0_2_ u9001_ l0_2) (hap : ∀ k_, P0_1_ k_ → ¬ P0_2_ k_) (h : laws_markGroup.f k a0_0 l0_1 l0_2 a1 = some (r1, r2, r3)) :
   Calls Try.prog 32 #[.agg #[.int .i64 a0_0, u9000_, u9001_], .int .i64 a1] w fun e w' => e = .returned (.int .i64 r1) ∧ Kd.S k37 37 w' w0.heap.size P0_1_ u9000_ r2 ∧ Kd.S k29 29 w' w0.heap.size P0_2_ u9001_ r3 ∧ Below w0.heap.size w0 w' ∧ Kept w w' (fun k_ => P0_1_ k_ ∨ P0_2_ k_) := by
 have hu := Try.underlying53
 unfold laws_markGroup.f at h
 replace h := Option.bind_eq_some_iff.mp h
 obtain ⟨⟨t1, t2⟩, h1, h⟩ := h
 replace h := Option.bind_eq_some_iff.mp h
 obtain ⟨⟨s1, s2⟩, h2, h⟩ := h
 simp only [Option.some.injEq, Prod.mk.injEq] at h
 obtain ⟨rfl, rfl, rfl⟩ := h
 have H1 := am h1
 have H2 := am h2
 have HB := am hB
 have HO1 := am (Kd.S_mono (ok' := fun k_ => P0_1_ k_ ∧ k_ < w.heap.size) (Kd.S_bound ho0_1) (fun _ h_ => ⟨h_.1, h_.2.2.1⟩))
 have HO2 := am ho0_2
 have HA := am hap
 clear h1 h2 hB ho0_1 ho0_2 hap
 obtain ⟨Ao1, co1, eo1⟩ := Kd.S_slice HO1.out
 obtain ⟨Ao2, co2, eo2⟩ := Kd.S_slice HO2.out
 subst eo1
 subst eo2
 go_enter Try.func32, Try.ntmps32
 go_wp2_with (first | (go_at_call 81; (with_reducible refine (laws_markNodeS.calls k (fun k_ => P0_1_ k_ ∧ k_ < w.heap.size) (.slice Ao1 l0_1.length co1) l0_1 a1 t1 t2 w0 _ ?s1 ?s2 H1.out).mono ?_); (case s1 => first | exact HB.out | (repeat (first | exact HB.out | apply below_alloc | apply pw_below_drewN | apply below_drew1))); (case s2 => ((with_reducible repeat (first | apply s1_ | apply s2_ | apply s3_)); exact HO1.out)); rintro e w1 ⟨rfl, hy, hb, hk⟩; have hc2 : w1.cell? ⟨w.heap.size, 2, none⟩ = some (.slice Ao2 l0_2.length co2) := cell_kept (by first | (simp; done) | (simp [World.alloc, World.cell?]; done)) hk (fun e_ => Nat.lt_irrefl _ e_.2); have n1 := am hy; have n2 := am (Kd.S_kept (ok := fun k_ => P0_2_ k_) (by ((with_reducible repeat (first | apply s1_ | apply s2_ | apply s3_)); exact HO2.out)) hk (fun k_ hk_ e_ => HA.out k_ e_.1 hk_)); have n3 := am hb; have HK := am (Kept.then_ (S := (fun k_ => P0_1_ k_ ∨ P0_2_ k_)) (by repeat (first | exact Kept.refl w _ | apply Kept.alloc | apply Kept.drewN | apply Kept.drew)) hk (fun _ e_ => Or.inl (Or.inl e_.1))); clear HO1 HO2 HB hy hb hk) | (go_at_call 41; (with_reducible refine (laws_markMsgS.calls k P0_2_ (.slice Ao2 l0_2.length co2) l0_2 t1 s1 s2 w0 _ ?s1 ?s2 H2.out).mono ?_); (case s1 => (repeat (first | exact n3.out | apply below_alloc | apply pw_below_drewN | apply below_drew1))); (case s2 => ((with_reducible repeat (first | apply s1_ | apply s2_ | apply s3_)); exact n2.out)); rintro e w2 ⟨rfl, hy2, hb2, hk2⟩; have m1 := am (Kd.S_kept (ok := fun k_ => P0_1_ k_ ∧ k_ < w.heap.size) (by ((with_reducible repeat (first | apply s1_ | apply s2_ | apply s3_)); exact n1.out)) hk2 (fun k_ hk_ e_ => HA.out k_ hk_.1 e_)); have m2 := am hy2; have m3 := am hb2; have HK2 := am (Kept.then_ (S := (fun k_ => P0_1_ k_ ∨ P0_2_ k_)) (by repeat (first | exact HK.out | apply Kept.alloc | apply Kept.drewN | apply Kept.drew)) hk2 (fun _ e_ => Or.inl (Or.inr e_))); clear hy2 hb2 hk2))
 go_ret
 exact ⟨rfl, Kd.S_mono m1.out (fun _ h_ => h_.1), m2.out, m3.out, HK2.out⟩
def laws_szEntry.f (a0_0 : Int) (a0_1 : ByteArray) (a1 : Int) : Option (Int) := if (wrap64 (a1 - (a0_1.size : Int))) < 0 then (some (-1)) else (some (wrap64 (a1 - (a0_1.size : Int))))
set_option maxHeartbeats 8000000 in
set_option maxRecDepth 100000 in
theorem laws_szEntry.calls (a0_0 : Int) (a0_1 : ByteArray) (a1 : Int) (r : Int) (w : World) (h : laws_szEntry.f a0_0 a0_1 a1 = some r) :
   Calls Try.prog 107 #[.agg #[.int .i64 a0_0, .string a0_1], .int .i64 a1] w fun e w' => e = .returned (.int .i64 r) ∧ Below w.heap.size w w' := by
 have hu112 := Try.underlying112
 have HB := am (Below.refl w.heap.size w)
 have H : (if (wrap64 (a1 - (a0_1.size : Int))) < 0 then (some (-1)) else (some (wrap64 (a1 - (a0_1.size : Int))))) = some r := h
 clear h
 have H9 := am H
 clear H
 go_enter Try.func107, Try.ntmps107
 go_upto_if 11 with (first | ((with_reducible refine gate_dst (N := 2) rfl ?_); refine box_event ?hg (N := 2) ?hd (cs := #[.int .i64 a0_0, .string a0_1]) (t := 112) ?hr ?_; (case hd => rfl); (case hg => rfl); (case hr => first | (go_simp; done) | (go_simp; rfl)); intro gb159 hg w3 hbox hb; have BK159 := am (hbox); have GW159 := am ((by rw [hg]; exact (below_size Q2) : w.heap.size ≤ gb159)); have GE159 := am ((by rw [hg]; exact (below_size Q2) : w.heap.size ≤ gb159)); replace HB := am (below_step Q2 hb); clear hb hbox hg; obtain ⟨hcz4_0, hcz4_1, hfz4_0, hfz4_1⟩ := bc2f w3 BK159.out))
 have H := H9.out
 clear H9
 by_cases c5 : (wrap64 (a1 - (a0_1.size : Int))) < 0
 · rw [if_pos c5] at H
   have c5b0 : decide ((wrap64 (a1 - (a0_1.size : Int))) < 0) = true := decide_eq_true c5
   clear c5
   (first | rw [c5b0] | (simp only [i64_w, i32_w]; rw [c5b0]) | skip)
   obtain rfl := sj H
   go_wp2
   go_ret
   exact ⟨er, Q2⟩
 rw [if_neg c5] at H
 have c5b0 : decide ((wrap64 (a1 - (a0_1.size : Int))) < 0) = false := decide_eq_false c5
 clear c5
 (first | rw [c5b0] | (simp only [i64_w, i32_w]; rw [c5b0]) | skip)
 obtain rfl := sj H
 go_wp2
 go_ret
 exact ⟨er, Q2⟩
def laws_szEntryS.l0 : Nat → List (S112) → Int → Int → Option (Int)
 | 0, _, _, _ => none
 | k + 1, x0, x1, x5 => if x5 < (x0.length : Int) then (if 0 ≤ x5 then ((laws_szEntry.f ((rd_T112 x0 x5).f0) ((rd_T112 x0 x5).f1) x1).bind fun t161 => (if t161 < 0 then (some (-1)) else (laws_szEntryS.l0 k x0 t161 (wrap64 (x5 + 1))))) else (none)) else (some x1)
def laws_szEntryS.f (k : Nat) (l0 : List (S112)) (a1 : Int) : Option (Int) := if (wrap64 (a1 - (l0.length : Int))) < 0 then (some (-1)) else (laws_szEntryS.l0 k l0 (wrap64 (a1 - (l0.length : Int))) 0)
theorem laws_szEntryS.mono_l : ∀ k, (∀ y0 y1 y2, LeO (laws_szEntryS.l0 k y0 y1 y2) (laws_szEntryS.l0 (k + 1) y0 y1 y2))
 | 0 => fun _ _ _ r h => by simp [laws_szEntryS.l0] at h
 | k + 1 => by
   have ih0 := laws_szEntryS.mono_l k
   · intro y0 y1 y2
     unfold laws_szEntryS.l0
     repeat' first
     | (with_reducible exact ih0 _ _ _)
     | (with_reducible exact LeO.refl _)
     | (with_reducible exact LeO.none _)
     | (with_reducible refine LeO.ite ?_ ?_)
     | (with_reducible refine LeO.bind ?_ (fun _ => ?_))
     | exact ih0 _ _ _
     | exact LeO.none _
     | refine LeO.ite ?_ ?_
     | refine LeO.bind ?_ (fun _ => ?_)
theorem laws_szEntryS.mono : ∀ a0 a1 k, LeO (laws_szEntryS.f k a0 a1) (laws_szEntryS.f (k + 1) a0 a1) := by
 intro a0 a1 k
 have ih0 := laws_szEntryS.mono_l k
 unfold laws_szEntryS.f
 repeat' first
     | (with_reducible exact ih0 _ _ _)
     | (with_reducible exact LeO.refl _)
     | (with_reducible exact LeO.none _)
     | (with_reducible refine LeO.ite ?_ ?_)
     | (with_reducible refine LeO.bind ?_ (fun _ => ?_))
     | exact ih0 _ _ _
     | exact LeO.none _
     | refine LeO.ite ?_ ?_
     | refine LeO.bind ?_ (fun _ => ?_)
set_option maxHeartbeats 8000000 in
set_option maxRecDepth 100000 in
theorem laws_szEntryS.calls (k : Nat) (A0 : Option Addr) (c0 : Nat) (l0 : List (S112)) (a1 : Int) (r : Int) (w : World) (hr0 : Kd.C k112 w A0 l0.length l0) (hc0 : l0.length ≤ c0) (h : laws_szEntryS.f k l0 a1 = some r) :
   Calls Try.prog 61 #[.slice A0 l0.length c0, .int .i64 a1] w fun e w' => e = .returned (.int .i64 r) ∧ Below w.heap.size w w' := by
 have hu112 := Try.underlying112
 have HR0 := am hr0
 have HC0 := am hc0
 clear hr0 hc0
 have HB := am (Below.refl w.heap.size w)
 have H : (if (wrap64 (a1 - (l0.length : Int))) < 0 then (some (-1)) else (laws_szEntryS.l0 k l0 (wrap64 (a1 - (l0.length : Int))) 0)) = some r := h
 clear h
 by_cases c3 : (wrap64 (a1 - (l0.length : Int))) < 0
 · rw [if_pos c3] at H
   have c3b0 : decide ((wrap64 (a1 - (l0.length : Int))) < 0) = true := decide_eq_true c3
   clear c3
   obtain rfl := sj H
   go_enter Try.func61, Try.ntmps61
   go_wp2
   go_ret
   exact ⟨er, Q2⟩
 rw [if_neg c3] at H
 have c3b0 : decide ((wrap64 (a1 - (l0.length : Int))) < 0) = false := decide_eq_false c3
 clear c3
 have H' := am H
 clear H
 go_enter Try.func61, Try.ntmps61
 go_wp2
 go_loopg [1, 5] k (fun kq v1 v5 w' => ∃ (x1_1 : Int) (x5_1 : Int), v1 = .int .i64 x1_1 ∧ v5 = .int .i64 x5_1 ∧ Aside0 (laws_szEntryS.l0 kq l0 x1_1 x5_1 = some r) ∧ Aside0 (kq ≤ k) ∧ Aside0 (Below w.heap.size w w'))
 case atStart => exact ⟨(wrap64 (a1 - (l0.length : Int))), (0), Q3, Q3, H', ⟨Nat.le_refl _⟩, ⟨Q2⟩⟩
 clear H'
 try clear c3
 try clear c3b0
 obtain ⟨x1_1, x5_1, rfl, rfl, HA, HK1, HB⟩ := hrel
 cases gk with
 | zero => exact absurd HA.out (by simp [laws_szEntryS.l0])
 | succ k1 =>
   have H := HA.out
   clear HA
   simp only [laws_szEntryS.l0] at H
   by_cases c4 : x5_1 < (l0.length : Int)
   rotate_left
   · rw [if_neg c4] at H
     have c4b0 : decide (x5_1 < (l0.length : Int)) = false := decide_eq_false c4
     clear c4
     obtain rfl := sj H
     go_wp2
     go_ret
     exact ⟨er, Q2⟩
   rw [if_pos c4] at H
   have c4b0 : decide (x5_1 < (l0.length : Int)) = true := decide_eq_true c4
   clear c4
   by_cases c5 : 0 ≤ x5_1
   rotate_left
   · rw [if_neg c5] at H
     exact absurd H (by simp)
   rw [if_pos c5] at H
   have c5b0 : decide (0 ≤ x5_1) = true := decide_eq_true c5
   clear c5
   replace H := Option.bind_eq_some_iff.mp H
   obtain ⟨t161, A60, H⟩ := H
   replace H : (if t161 < 0 then (some (-1)) else (laws_szEntryS.l0 k1 l0 t161 (wrap64 (x5_1 + 1)))) = some r := H
   have A6 := am A60
   clear A60
   have H9 := am H
   clear H
   have p160 : 0 ≤ (x5_1 : Int) := of_decide_eq_true Q1
   have q160 : x5_1 < (l0.length : Int) := of_decide_eq_true Q1
   obtain ⟨ad160, e160, hx160_0, hx160_1⟩ := at_T112 HR0.out x5_1 p160 q160
   cases e160
   replace hx160_0 := cm HB.out hx160_0
   replace hx160_1 := cm HB.out hx160_1
   replace p160 := eq_true p160
   replace q160 := eq_true q160
   go_upto_if 25 with (first | ((with_reducible refine gate_callee (f := 107) rfl ?_); refine goesL_ (some 23) rfl rfl Try.func107 kr rfl #[.agg #[.int .i64 ((rd_T112 l0 x5_1).f0), .string ((rd_T112 l0 x5_1).f1)], .int .i64 x1_1] rfl Q0 ?_; (with_reducible refine (laws_szEntry.calls ((rd_T112 l0 x5_1).f0) ((rd_T112 l0 x5_1).f1) x1_1 t161 _ A6.out).mono ?_); rintro e w7 ⟨rfl, hb⟩; refine ⟨_, rfl, ?_⟩; replace HB := am (below_step Q2 hb); (try clear hb); (try clear hb2); (try clear hk); (try clear hi)))
   have H := H9.out
   clear H9
   by_cases c8 : t161 < 0
   · rw [if_pos c8] at H
     have c8b0 : decide (t161 < 0) = true := decide_eq_true c8
     clear c8
     (first | rw [c8b0] | (simp only [i64_w, i32_w]; rw [c8b0]) | skip)
     obtain rfl := sj H
     go_wp2
     go_ret
     exact ⟨er, Q2⟩
   rw [if_neg c8] at H
   have c8b0 : decide (t161 < 0) = false := decide_eq_false c8
   clear c8
   (first | rw [c8b0] | (simp only [i64_w, i32_w]; rw [c8b0]) | skip)
   have H' := am H
   clear H
   go_wp2
   go_roundg k1
   case measure => have := HK1.out; omega
   case rel => exact ⟨(t161), (wrap64 (x5_1 + 1)), Q3, Q3, H', ⟨by have := HK1.out; omega⟩, ⟨Q2⟩⟩
def laws_szRLog.f (k : Nat) (a0_0 : Int) (a0_1 : Int) (l0_2 : List (S112)) (a1 : Int) : Option (Int) := (laws_szEntryS.f k l0_2 a1).bind fun t163 => (if t163 < 0 then (some (-1)) else (some t163))
theorem laws_szRLog.mono : ∀ a0 a1 a2 a3 k, LeO (laws_szRLog.f k a0 a1 a2 a3) (laws_szRLog.f (k + 1) a0 a1 a2 a3) := by
 intro a0 a1 a2 a3 k
 unfold laws_szRLog.f
 repeat' first
     | (with_reducible exact laws_szEntryS.mono _ _ _)
     | (with_reducible exact LeO.refl _)
     | (with_reducible exact LeO.none _)
     | (with_reducible refine LeO.ite ?_ ?_)
     | (with_reducible refine LeO.bind ?_ (fun _ => ?_))
     | exact laws_szEntryS.mono _ _ _
     | exact LeO.none _
     | refine LeO.ite ?_ ?_
     | refine LeO.bind ?_ (fun _ => ?_)
set_option maxHeartbeats 8000000 in
set_option maxRecDepth 100000 in
theorem laws_szRLog.calls (k : Nat) (a0_0 : Int) (a0_1 : Int) (A0_2 : Option Addr) (c0_2 : Nat) (l0_2 : List (S112)) (a1 : Int) (r : Int) (w : World) (hr0_2 : Kd.C k112 w A0_2 l0_2.length l0_2) (hc0_2 : l0_2.length ≤ c0_2) (h : laws_szRLog.f k a0_0 a0_1 l0_2 a1 = some r) :
   Calls Try.prog 70 #[.agg #[.int .i64 a0_0, .int .i64 a0_1, .slice A0_2 l0_2.length c0_2], .int .i64 a1] w fun e w' => e = .returned (.int .i64 r) ∧ Below w.heap.size w w' := by
 have hu43 := Try.underlying43
 have HR0_2 := am hr0_2
 have HC0_2 := am hc0_2
 clear hr0_2 hc0_2
 have HB := am (Below.refl w.heap.size w)
 have H : ((laws_szEntryS.f k l0_2 a1).bind fun t163 => (if t163 < 0 then (some (-1)) else (some t163))) = some r := h
 clear h
 replace H := Option.bind_eq_some_iff.mp H
 obtain ⟨t163, A30, H⟩ := H
 replace H : (if t163 < 0 then (some (-1)) else (some t163)) = some r := H
 have A3 := am A30
 clear A30
 have H9 := am H
 clear H
 go_enter Try.func70, Try.ntmps70
 go_upto_if 10 with (first | ((with_reducible refine gate_dst (N := 2) rfl ?_); refine box_event ?hg (N := 2) ?hd (cs := #[.int .i64 a0_0, .int .i64 a0_1, .slice A0_2 l0_2.length c0_2]) (t := 43) ?hr ?_; (case hd => rfl); (case hg => rfl); (case hr => first | (go_simp; done) | (go_simp; rfl)); intro gb162 hg w4 hbox hb; have BK162 := am (hbox); have GW162 := am ((by rw [hg]; exact (below_size Q2) : w.heap.size ≤ gb162)); have GE162 := am ((by rw [hg]; exact (below_size Q2) : w.heap.size ≤ gb162)); replace HB := am (below_step Q2 hb); clear hb hbox hg; obtain ⟨hcz5_0, hcz5_1, hcz5_2⟩ := bc3 w4 BK162.out) | ((with_reducible refine gate_callee (f := 61) rfl ?_); refine goesL_ (some 8) rfl rfl Try.func61 kr rfl #[.slice A0_2 l0_2.length c0_2, .int .i64 a1] rfl Q0 ?_; (with_reducible refine (laws_szEntryS.calls k _ _ l0_2 a1 t163 _ ?side1 ?side2 A3.out).mono ?_); (case side1 => exact (by repeat (first | exact (Kd.C_below HR0_2.out HB.out) | (with_reducible refine Kd.C_alloc ?_ _) | (with_reducible refine Kd.C_drewN ?_ _) | (with_reducible refine Kd.C_drew ?_)))); (case side2 => exact HC0_2.out); rintro e w6 ⟨rfl, hb⟩; refine ⟨_, rfl, ?_⟩; replace BK162 := am (blk_below (g := gb162) (o := .cells #[.int .i64 a0_0, .int .i64 a0_1, .slice A0_2 l0_2.length c0_2] 43 (0, 0)) (by (with_reducible repeat (first | apply b1_ | apply b2_ | apply b3_)); exact BK162.out) hb); replace HB := am (below_step Q2 hb); (try clear hb); (try clear hb2); (try clear hk); (try clear hi)))
 have H := H9.out
 clear H9
 by_cases c7 : t163 < 0
 · rw [if_pos c7] at H
   have c7b0 : decide (t163 < 0) = true := decide_eq_true c7
   clear c7
   (first | rw [c7b0] | (simp only [i64_w, i32_w]; rw [c7b0]) | skip)
   obtain rfl := sj H
   go_wp2
   go_ret
   exact ⟨er, Q2⟩
 rw [if_neg c7] at H
 have c7b0 : decide (t163 < 0) = false := decide_eq_false c7
 clear c7
 (first | rw [c7b0] | (simp only [i64_w, i32_w]; rw [c7b0]) | skip)
 obtain rfl := sj H
 go_wp2
 go_ret
 exact ⟨er, Q2⟩
def laws_szIntS.f (l0 : List Int) (a1 : Int) : Option (Int) := if (wrap64 (a1 - (l0.length : Int))) < 0 then (some (-1)) else (some (wrap64 (a1 - (l0.length : Int))))
set_option maxHeartbeats 8000000 in
set_option maxRecDepth 100000 in
theorem laws_szIntS.calls (A0 : Option Addr) (c0 : Nat) (l0 : List Int) (a1 : Int) (r : Int) (w : World) (hr0 : Kd.C (Kd.int .i64) w A0 l0.length l0) (hc0 : l0.length ≤ c0) (h : laws_szIntS.f l0 a1 = some r) :
   Calls Try.prog 71 #[.slice A0 l0.length c0, .int .i64 a1] w fun e w' => e = .returned (.int .i64 r) ∧ Drawn0 w w' := by
 have HR0 := am hr0
 have HC0 := am hc0
 clear hr0 hc0
 have H : (if (wrap64 (a1 - (l0.length : Int))) < 0 then (some (-1)) else (some (wrap64 (a1 - (l0.length : Int))))) = some r := h
 clear h
 by_cases c3 : (wrap64 (a1 - (l0.length : Int))) < 0
 · rw [if_pos c3] at H
   have c3b0 : decide ((wrap64 (a1 - (l0.length : Int))) < 0) = true := decide_eq_true c3
   clear c3
   obtain rfl := sj H
   go_enter Try.func71, Try.ntmps71
   go_wp2
   go_ret
   exact ⟨by first | rfl | (simp; done) | (simp [*]; done), (by repeat (first | exact Drawn0.refl _ | apply Drawn0.step))⟩
 rw [if_neg c3] at H
 have c3b0 : decide ((wrap64 (a1 - (l0.length : Int))) < 0) = false := decide_eq_false c3
 clear c3
 obtain rfl := sj H
 go_enter Try.func71, Try.ntmps71
 go_wp2
 go_ret
 exact ⟨by first | rfl | (simp; done) | (simp [*]; done), (by repeat (first | exact Drawn0.refl _ | apply Drawn0.step))⟩
def laws_szNode.f (k : Nat) (a0_0 : Int) (a0_1 : Int) (a0_2 : Int) (a0_3 : Int) (a0_4 : Int) (a0_5 : Int) (a0_6 : Int) (l0_7 : List (S112)) (l0_8 : List Int) (l0_9 : List Int) (a1 : Int) : Option (Int) := (laws_szRLog.f k a0_5 a0_6 l0_7 a1).bind fun t165 => (if t165 < 0 then (some (-1)) else ((laws_szIntS.f l0_8 t165).bind fun t166 => (if t166 < 0 then (some (-1)) else ((laws_szIntS.f l0_9 t166).bind fun t167 => (if t167 < 0 then (some (-1)) else (some t167))))))
theorem laws_szNode.mono : ∀ a0 a1 a2 a3 a4 a5 a6 a7 a8 a9 a10 k, LeO (laws_szNode.f k a0 a1 a2 a3 a4 a5 a6 a7 a8 a9 a10) (laws_szNode.f (k + 1) a0 a1 a2 a3 a4 a5 a6 a7 a8 a9 a10) := by
 intro a0 a1 a2 a3 a4 a5 a6 a7 a8 a9 a10 k
 unfold laws_szNode.f
 repeat' first
     | (with_reducible exact laws_szRLog.mono _ _ _ _ _)
     | (with_reducible exact LeO.refl _)
     | (with_reducible exact LeO.none _)
     | (with_reducible refine LeO.ite ?_ ?_)
     | (with_reducible refine LeO.bind ?_ (fun _ => ?_))
     | exact laws_szRLog.mono _ _ _ _ _
     | exact LeO.none _
     | refine LeO.ite ?_ ?_
     | refine LeO.bind ?_ (fun _ => ?_)
set_option maxHeartbeats 8000000 in
set_option maxRecDepth 100000 in
theorem laws_szNode.calls (k : Nat) (a0_0 : Int) (a0_1 : Int) (a0_2 : Int) (a0_3 : Int) (a0_4 : Int) (a0_5 : Int) (a0_6 : Int) (A0_7 : Option Addr) (c0_7 : Nat) (l0_7 : List (S112)) (A0_8 : Option Addr) (c0_8 : Nat) (l0_8 : List Int) (A0_9 : Option Addr) (c0_9 : Nat) (l0_9 : List Int) (a1 : Int) (r : Int) (w : World) (hr0_7 : Kd.C k112 w A0_7 l0_7.length l0_7) (hc0_7 : l0_7.length ≤ c0_7) (hr0_8 : Kd.C (Kd.int .i64) w A0_8 l0_8.length l0_8) (hc0_8 : l0_8.length ≤ c0_8) (hr0_9 : Kd.C (Kd.int .i64) w A0_9 l0_9.length l0_9) (hc0_9 : l0_9.length ≤ c0_9) (h : laws_szNode.f k a0_0 a0_1 a0_2 a0_3 a0_4 a0_5 a0_6 l0_7 l0_8 l0_9 a1 = some r) :
   Calls Try.prog 25 #[.agg #[.int .i64 a0_0, .int .i64 a0_1, .int .i64 a0_2, .int .i64 a0_3, .int .i64 a0_4, .int .i64 a0_5, .int .i64 a0_6, .slice A0_7 l0_7.length c0_7, .slice A0_8 l0_8.length c0_8, .slice A0_9 l0_9.length c0_9], .int .i64 a1] w fun e w' => e = .returned (.int .i64 r) ∧ Below w.heap.size w w' := by
 have hu45 := Try.underlying45
 have hu43 := Try.underlying43
 have HR0_7 := am hr0_7
 have HC0_7 := am hc0_7
 clear hr0_7 hc0_7
 have HR0_8 := am hr0_8
 have HC0_8 := am hc0_8
 clear hr0_8 hc0_8
 have HR0_9 := am hr0_9
 have HC0_9 := am hc0_9
 clear hr0_9 hc0_9
 have HB := am (Below.refl w.heap.size w)
 have H : ((laws_szRLog.f k a0_5 a0_6 l0_7 a1).bind fun t165 => (if t165 < 0 then (some (-1)) else ((laws_szIntS.f l0_8 t165).bind fun t166 => (if t166 < 0 then (some (-1)) else ((laws_szIntS.f l0_9 t166).bind fun t167 => (if t167 < 0 then (some (-1)) else (some t167))))))) = some r := h
 clear h
 replace H := Option.bind_eq_some_iff.mp H
 obtain ⟨t165, A30, H⟩ := H
 have A3 := am A30
 clear A30
 have H9 := am H
 clear H
 go_enter Try.func25, Try.ntmps25
 go_upto_if 10 with (first | ((with_reducible refine gate_dst (N := 2) rfl ?_); refine box_event ?hg (N := 2) ?hd (cs := #[.int .i64 a0_0, .int .i64 a0_1, .int .i64 a0_2, .int .i64 a0_3, .int .i64 a0_4, .int .i64 a0_5, .int .i64 a0_6, .slice A0_7 l0_7.length c0_7, .slice A0_8 l0_8.length c0_8, .slice A0_9 l0_9.length c0_9]) (t := 45) ?hr ?_; (case hd => rfl); (case hg => rfl); (case hr => first | (go_simp; done) | (go_simp; rfl)); intro gb164 hg w4 hbox hb; have BK164 := am (hbox); have GW164 := am ((by rw [hg]; exact (below_size Q2) : w.heap.size ≤ gb164)); have GE164 := am ((by rw [hg]; exact (below_size Q2) : w.heap.size ≤ gb164)); replace HB := am (below_step Q2 hb); clear hb hbox hg; obtain ⟨hcz5_0, hcz5_1, hcz5_2, hcz5_3, hcz5_4, hcz5_5, hcz5_6, hcz5_7, hcz5_8, hcz5_9⟩ := bc10 w4 BK164.out) | ((with_reducible refine gate_callee (f := 70) rfl ?_); refine goesL_ (some 8) rfl rfl Try.func70 kr rfl #[.agg #[.int .i64 a0_5, .int .i64 a0_6, .slice A0_7 l0_7.length c0_7], .int .i64 a1] rfl Q0 ?_; (with_reducible refine (laws_szRLog.calls k a0_5 a0_6 _ _ l0_7 a1 t165 _ ?side1 ?side2 A3.out).mono ?_); (case side1 => exact (by repeat (first | exact (Kd.C_below HR0_7.out HB.out) | (with_reducible refine Kd.C_alloc ?_ _) | (with_reducible refine Kd.C_drewN ?_ _) | (with_reducible refine Kd.C_drew ?_)))); (case side2 => exact HC0_7.out); rintro e w6 ⟨rfl, hb⟩; refine ⟨_, rfl, ?_⟩; replace BK164 := am (blk_below (g := gb164) (o := .cells #[.int .i64 a0_0, .int .i64 a0_1, .int .i64 a0_2, .int .i64 a0_3, .int .i64 a0_4, .int .i64 a0_5, .int .i64 a0_6, .slice A0_7 l0_7.length c0_7, .slice A0_8 l0_8.length c0_8, .slice A0_9 l0_9.length c0_9] 45 (0, 0)) (by (with_reducible repeat (first | apply b1_ | apply b2_ | apply b3_)); exact BK164.out) hb); replace HB := am (below_step Q2 hb); (try clear hb); (try clear hb2); (try clear hk); (try clear hi)))
 have H := H9.out
 clear H9
 by_cases c7 : t165 < 0
 · rw [if_pos c7] at H
   have c7b0 : decide (t165 < 0) = true := decide_eq_true c7
   clear c7
   (first | rw [c7b0] | (simp only [i64_w, i32_w]; rw [c7b0]) | skip)
   obtain rfl := sj H
   go_wp2
   go_ret
   exact ⟨er, Q2⟩
 rw [if_neg c7] at H
 have c7b0 : decide (t165 < 0) = false := decide_eq_false c7
 clear c7
 (first | rw [c7b0] | (simp only [i64_w, i32_w]; rw [c7b0]) | skip)
 replace H := Option.bind_eq_some_iff.mp H
 obtain ⟨t166, A80, H⟩ := H
 have A8 := am A80
 clear A80
 have H9 := am H
 clear H
 obtain ⟨hcz9_0, hcz9_1, hcz9_2, hcz9_3, hcz9_4, hcz9_5, hcz9_6, hcz9_7, hcz9_8, hcz9_9⟩ := bc10 w6 BK164.out
 go_upto_if 16 with (first | ((with_reducible refine gate_callee (f := 71) rfl ?_); refine goesL_ (some 14) rfl rfl Try.func71 kr rfl #[.slice A0_8 l0_8.length c0_8, .int .i64 t165] rfl Q0 ?_; (with_reducible refine (laws_szIntS.calls _ _ l0_8 t165 t166 _ ?side1 ?side2 A8.out).mono ?_); (case side1 => exact Q8); (case side2 => exact HC0_8.out); rintro e w' ⟨rfl, ⟨nd, rfl⟩⟩; refine ⟨_, rfl, ?_⟩))
 have H := H9.out
 clear H9
 by_cases c10 : t166 < 0
 · rw [if_pos c10] at H
   have c10b0 : decide (t166 < 0) = true := decide_eq_true c10
   clear c10
   (first | rw [c10b0] | (simp only [i64_w, i32_w]; rw [c10b0]) | skip)
   obtain rfl := sj H
   go_wp2
   go_ret
   exact ⟨er, Q2⟩
 rw [if_neg c10] at H
 have c10b0 : decide (t166 < 0) = false := decide_eq_false c10
 clear c10
 (first | rw [c10b0] | (simp only [i64_w, i32_w]; rw [c10b0]) | skip)
 replace H := Option.bind_eq_some_iff.mp H
 obtain ⟨t167, A110, H⟩ := H
 replace H : (if t167 < 0 then (some (-1)) else (some t167)) = some r := H
 have A11 := am A110
 clear A110
 have H9 := am H
 clear H
 obtain ⟨hcz12_0, hcz12_1, hcz12_2, hcz12_3, hcz12_4, hcz12_5, hcz12_6, hcz12_7, hcz12_8, hcz12_9⟩ := bc10 w6 BK164.out
 go_upto_if 22 with (first | ((with_reducible refine gate_callee (f := 71) rfl ?_); refine goesL_ (some 20) rfl rfl Try.func71 kr rfl #[.slice A0_9 l0_9.length c0_9, .int .i64 t166] rfl Q0 ?_; (with_reducible refine (laws_szIntS.calls _ _ l0_9 t166 t167 _ ?side1 ?side2 A11.out).mono ?_); (case side1 => exact (by repeat (first | exact (Kd.C_below HR0_9.out HB.out) | (with_reducible refine Kd.C_alloc ?_ _) | (with_reducible refine Kd.C_drewN ?_ _) | (with_reducible refine Kd.C_drew ?_)))); (case side2 => exact HC0_9.out); rintro e w' ⟨rfl, ⟨nd, rfl⟩⟩; refine ⟨_, rfl, ?_⟩))
 have H := H9.out
 clear H9
 by_cases c13 : t167 < 0
 · rw [if_pos c13] at H
   have c13b0 : decide (t167 < 0) = true := decide_eq_true c13
   clear c13
   (first | rw [c13b0] | (simp only [i64_w, i32_w]; rw [c13b0]) | skip)
   obtain rfl := sj H
   go_wp2
   go_ret
   exact ⟨er, Q2⟩
 rw [if_neg c13] at H
 have c13b0 : decide (t167 < 0) = false := decide_eq_false c13
 clear c13
 (first | rw [c13b0] | (simp only [i64_w, i32_w]; rw [c13b0]) | skip)
 obtain rfl := sj H
 go_wp2
 go_ret
 exact ⟨er, Q2⟩
def laws_szNodeS.l0 : Nat → List (S45) → Int → Int → Option (Int)
 | 0, _, _, _ => none
 | k + 1, x0, x1, x5 => if x5 < (x0.length : Int) then (if 0 ≤ x5 then ((laws_szNode.f k ((rd_T45 x0 x5).f0) ((rd_T45 x0 x5).f1) ((rd_T45 x0 x5).f2) ((rd_T45 x0 x5).f3) ((rd_T45 x0 x5).f4) ((rd_T45 x0 x5).f5.f0) ((rd_T45 x0 x5).f5.f1) ((rd_T45 x0 x5).f5.f2) ((rd_T45 x0 x5).f6) ((rd_T45 x0 x5).f7) x1).bind fun t169 => (if t169 < 0 then (some (-1)) else (laws_szNodeS.l0 k x0 t169 (wrap64 (x5 + 1))))) else (none)) else (some x1)
def laws_szNodeS.f (k : Nat) (l0 : List (S45)) (a1 : Int) : Option (Int) := if (wrap64 (a1 - (l0.length : Int))) < 0 then (some (-1)) else (laws_szNodeS.l0 k l0 (wrap64 (a1 - (l0.length : Int))) 0)
theorem laws_szNodeS.mono_l : ∀ k, (∀ y0 y1 y2, LeO (laws_szNodeS.l0 k y0 y1 y2) (laws_szNodeS.l0 (k + 1) y0 y1 y2))
 | 0 => fun _ _ _ r h => by simp [laws_szNodeS.l0] at h
 | k + 1 => by
   have ih0 := laws_szNodeS.mono_l k
   · intro y0 y1 y2
     unfold laws_szNodeS.l0
     repeat' first
     | (with_reducible exact ih0 _ _ _)
     | (with_reducible exact laws_szNode.mono _ _ _ _ _ _ _ _ _ _ _ _)
     | (with_reducible exact LeO.refl _)
     | (with_reducible exact LeO.none _)
     | (with_reducible refine LeO.ite ?_ ?_)
     | (with_reducible refine LeO.bind ?_ (fun _ => ?_))
     | exact ih0 _ _ _
     | exact laws_szNode.mono _ _ _ _ _ _ _ _ _ _ _ _
     | exact LeO.none _
     | refine LeO.ite ?_ ?_
     | refine LeO.bind ?_ (fun _ => ?_)
theorem laws_szNodeS.mono : ∀ a0 a1 k, LeO (laws_szNodeS.f k a0 a1) (laws_szNodeS.f (k + 1) a0 a1) := by
 intro a0 a1 k
 have ih0 := laws_szNodeS.mono_l k
 unfold laws_szNodeS.f
 repeat' first
     | (with_reducible exact ih0 _ _ _)
     | (with_reducible exact laws_szNode.mono _ _ _ _ _ _ _ _ _ _ _ _)
     | (with_reducible exact LeO.refl _)
     | (with_reducible exact LeO.none _)
     | (with_reducible refine LeO.ite ?_ ?_)
     | (with_reducible refine LeO.bind ?_ (fun _ => ?_))
     | exact ih0 _ _ _
     | exact laws_szNode.mono _ _ _ _ _ _ _ _ _ _ _ _
     | exact LeO.none _
     | refine LeO.ite ?_ ?_
     | refine LeO.bind ?_ (fun _ => ?_)
set_option maxHeartbeats 8000000 in
set_option maxRecDepth 100000 in
theorem laws_szNodeS.calls (k : Nat) (A0 : Option Addr) (c0 : Nat) (l0 : List (S45)) (a1 : Int) (r : Int) (w : World) (hr0 : Kd.C k45 w A0 l0.length l0) (hc0 : l0.length ≤ c0) (h : laws_szNodeS.f k l0 a1 = some r) :
   Calls Try.prog 94 #[.slice A0 l0.length c0, .int .i64 a1] w fun e w' => e = .returned (.int .i64 r) ∧ Below w.heap.size w w' := by
 have hu45 := Try.underlying45
 have HR0 := am hr0
 have HC0 := am hc0
 clear hr0 hc0
 have HB := am (Below.refl w.heap.size w)
 have H : (if (wrap64 (a1 - (l0.length : Int))) < 0 then (some (-1)) else (laws_szNodeS.l0 k l0 (wrap64 (a1 - (l0.length : Int))) 0)) = some r := h
 clear h
 by_cases c3 : (wrap64 (a1 - (l0.length : Int))) < 0
 · rw [if_pos c3] at H
   have c3b0 : decide ((wrap64 (a1 - (l0.length : Int))) < 0) = true := decide_eq_true c3
   clear c3
   obtain rfl := sj H
   go_enter Try.func94, Try.ntmps94
   go_wp2
   go_ret
   exact ⟨er, Q2⟩
 rw [if_neg c3] at H
 have c3b0 : decide ((wrap64 (a1 - (l0.length : Int))) < 0) = false := decide_eq_false c3
 clear c3
 have H' := am H
 clear H
 go_enter Try.func94, Try.ntmps94
 go_wp2
 go_loopg [1, 5] k (fun kq v1 v5 w' => ∃ (x1_1 : Int) (x5_1 : Int), v1 = .int .i64 x1_1 ∧ v5 = .int .i64 x5_1 ∧ Aside0 (laws_szNodeS.l0 kq l0 x1_1 x5_1 = some r) ∧ Aside0 (kq ≤ k) ∧ Aside0 (Below w.heap.size w w'))
 case atStart => exact ⟨(wrap64 (a1 - (l0.length : Int))), (0), Q3, Q3, H', ⟨Nat.le_refl _⟩, ⟨Q2⟩⟩
 clear H'
 try clear c3
 try clear c3b0
 obtain ⟨x1_1, x5_1, rfl, rfl, HA, HK1, HB⟩ := hrel
 cases gk with
 | zero => exact absurd HA.out (by simp [laws_szNodeS.l0])
 | succ k1 =>
   have H := HA.out
   clear HA
   simp only [laws_szNodeS.l0] at H
   by_cases c4 : x5_1 < (l0.length : Int)
   rotate_left
   · rw [if_neg c4] at H
     have c4b0 : decide (x5_1 < (l0.length : Int)) = false := decide_eq_false c4
     clear c4
     obtain rfl := sj H
     go_wp2
     go_ret
     exact ⟨er, Q2⟩
   rw [if_pos c4] at H
   have c4b0 : decide (x5_1 < (l0.length : Int)) = true := decide_eq_true c4
   clear c4
   by_cases c5 : 0 ≤ x5_1
   rotate_left
   · rw [if_neg c5] at H
     exact absurd H (by simp)
   rw [if_pos c5] at H
   have c5b0 : decide (0 ≤ x5_1) = true := decide_eq_true c5
   clear c5
   replace H := Option.bind_eq_some_iff.mp H
   obtain ⟨t169, A60, H⟩ := H
   replace H : (if t169 < 0 then (some (-1)) else (laws_szNodeS.l0 k1 l0 t169 (wrap64 (x5_1 + 1)))) = some r := H
   have A6 := am A60
   clear A60
   have H9 := am H
   clear H
   have p168 : 0 ≤ (x5_1 : Int) := of_decide_eq_true Q1
   have q168 : x5_1 < (l0.length : Int) := of_decide_eq_true Q1
   obtain ⟨ad168, A168_7, c168_7, A168_8, c168_8, A168_9, c168_9, e168, hx168_0, hx168_1, hx168_2, hx168_3, hx168_4, hx168_5, hx168_6, hx168_7, hx168_8, hx168_9, hl168_7, hi168_7, hl168_8, hi168_8, hl168_9, hi168_9⟩ := at_T45 HR0.out x5_1 p168 q168
   cases e168
   replace hx168_0 := cm HB.out hx168_0
   replace hx168_1 := cm HB.out hx168_1
   replace hx168_2 := cm HB.out hx168_2
   replace hx168_3 := cm HB.out hx168_3
   replace hx168_4 := cm HB.out hx168_4
   replace hx168_5 := cm HB.out hx168_5
   replace hx168_6 := cm HB.out hx168_6
   replace hx168_7 := cm HB.out hx168_7
   replace hx168_8 := cm HB.out hx168_8
   replace hx168_9 := cm HB.out hx168_9
   have HR168_7 := am hi168_7
   have HC168_7 := am hl168_7
   clear hi168_7 hl168_7
   have HR168_8 := am hi168_8
   have HC168_8 := am hl168_8
   clear hi168_8 hl168_8
   have HR168_9 := am hi168_9
   have HC168_9 := am hl168_9
   clear hi168_9 hl168_9
   replace p168 := eq_true p168
   replace q168 := eq_true q168
   go_upto_if 25 with (first | ((with_reducible refine gate_callee (f := 25) rfl ?_); refine goesL_ (some 23) rfl rfl Try.func25 kr rfl #[.agg #[.int .i64 ((rd_T45 l0 x5_1).f0), .int .i64 ((rd_T45 l0 x5_1).f1), .int .i64 ((rd_T45 l0 x5_1).f2), .int .i64 ((rd_T45 l0 x5_1).f3), .int .i64 ((rd_T45 l0 x5_1).f4), .int .i64 ((rd_T45 l0 x5_1).f5.f0), .int .i64 ((rd_T45 l0 x5_1).f5.f1), .slice A168_7 ((rd_T45 l0 x5_1).f5.f2).length c168_7, .slice A168_8 ((rd_T45 l0 x5_1).f6).length c168_8, .slice A168_9 ((rd_T45 l0 x5_1).f7).length c168_9], .int .i64 x1_1] rfl Q0 ?_; (with_reducible refine (laws_szNode.calls k1 ((rd_T45 l0 x5_1).f0) ((rd_T45 l0 x5_1).f1) ((rd_T45 l0 x5_1).f2) ((rd_T45 l0 x5_1).f3) ((rd_T45 l0 x5_1).f4) ((rd_T45 l0 x5_1).f5.f0) ((rd_T45 l0 x5_1).f5.f1) _ _ ((rd_T45 l0 x5_1).f5.f2) _ _ ((rd_T45 l0 x5_1).f6) _ _ ((rd_T45 l0 x5_1).f7) x1_1 t169 _ ?side1 ?side2 ?side3 ?side4 ?side5 ?side6 A6.out).mono ?_); (case side1 => exact (by repeat (first | exact (Kd.C_below HR168_7.out HB.out) | (with_reducible refine Kd.C_alloc ?_ _) | (with_reducible refine Kd.C_drewN ?_ _) | (with_reducible refine Kd.C_drew ?_)))); (case side2 => exact HC168_7.out); (case side3 => exact (by repeat (first | exact (Kd.C_below HR168_8.out HB.out) | (with_reducible refine Kd.C_alloc ?_ _) | (with_reducible refine Kd.C_drewN ?_ _) | (with_reducible refine Kd.C_drew ?_)))); (case side4 => exact HC168_8.out); (case side5 => exact (by repeat (first | exact (Kd.C_below HR168_9.out HB.out) | (with_reducible refine Kd.C_alloc ?_ _) | (with_reducible refine Kd.C_drewN ?_ _) | (with_reducible refine Kd.C_drew ?_)))); (case side6 => exact HC168_9.out); rintro e w7 ⟨rfl, hb⟩; refine ⟨_, rfl, ?_⟩; replace HB := am (below_step Q2 hb); (try clear hb); (try clear hb2); (try clear hk); (try clear hi)))
   have H := H9.out
   clear H9
   by_cases c8 : t169 < 0
   · rw [if_pos c8] at H
     have c8b0 : decide (t169 < 0) = true := decide_eq_true c8
     clear c8
     (first | rw [c8b0] | (simp only [i64_w, i32_w]; rw [c8b0]) | skip)
     obtain rfl := sj H
     go_wp2
     go_ret
     exact ⟨er, Q2⟩
   rw [if_neg c8] at H
   have c8b0 : decide (t169 < 0) = false := decide_eq_false c8
   clear c8
   (first | rw [c8b0] | (simp only [i64_w, i32_w]; rw [c8b0]) | skip)
   have H' := am H
   clear H
   go_wp2
   go_roundg k1
   case measure => have := HK1.out; omega
   case rel => exact ⟨(t169), (wrap64 (x5_1 + 1)), Q3, Q3, H', ⟨by have := HK1.out; omega⟩, ⟨Q2⟩⟩
def laws_szMsg.f (k : Nat) (a0_0 : Int) (a0_1 : Int) (a0_2 : Int) (a0_3 : Int) (a0_4 : Int) (a0_5 : Int) (a0_6 : Int) (a0_7 : Bool) (l0_8 : List (S112)) (a1 : Int) : Option (Int) := (laws_szEntryS.f k l0_8 a1).bind fun t171 => (if t171 < 0 then (some (-1)) else (some t171))
theorem laws_szMsg.mono : ∀ a0 a1 a2 a3 a4 a5 a6 a7 a8 a9 k, LeO (laws_szMsg.f k a0 a1 a2 a3 a4 a5 a6 a7 a8 a9) (laws_szMsg.f (k + 1) a0 a1 a2 a3 a4 a5 a6 a7 a8 a9) := by
 intro a0 a1 a2 a3 a4 a5 a6 a7 a8 a9 k
 unfold laws_szMsg.f
 repeat' first
     | (with_reducible exact laws_szEntryS.mono _ _ _)
     | (with_reducible exact LeO.refl _)
     | (with_reducible exact LeO.none _)
     | (with_reducible refine LeO.ite ?_ ?_)
     | (with_reducible refine LeO.bind ?_ (fun _ => ?_))
     | exact laws_szEntryS.mono _ _ _
     | exact LeO.none _
     | refine LeO.ite ?_ ?_
     | refine LeO.bind ?_ (fun _ => ?_)
set_option maxHeartbeats 8000000 in
set_option maxRecDepth 100000 in
theorem laws_szMsg.calls (k : Nat) (a0_0 : Int) (a0_1 : Int) (a0_2 : Int) (a0_3 : Int) (a0_4 : Int) (a0_5 : Int) (a0_6 : Int) (a0_7 : Bool) (A0_8 : Option Addr) (c0_8 : Nat) (l0_8 : List (S112)) (a1 : Int) (r : Int) (w : World) (hr0_8 : Kd.C k112 w A0_8 l0_8.length l0_8) (hc0_8 : l0_8.length ≤ c0_8) (h : laws_szMsg.f k a0_0 a0_1 a0_2 a0_3 a0_4 a0_5 a0_6 a0_7 l0_8 a1 = some r) :
   Calls Try.prog 15 #[.agg #[.int .i64 a0_0, .int .i64 a0_1, .int .i64 a0_2, .int .i64 a0_3, .int .i64 a0_4, .int .i64 a0_5, .int .i64 a0_6, .bool a0_7, .slice A0_8 l0_8.length c0_8], .int .i64 a1] w fun e w' => e = .returned (.int .i64 r) ∧ Below w.heap.size w w' := by
 have hu24 := Try.underlying24
 have HR0_8 := am hr0_8
 have HC0_8 := am hc0_8
 clear hr0_8 hc0_8
 have HB := am (Below.refl w.heap.size w)
 have H : ((laws_szEntryS.f k l0_8 a1).bind fun t171 => (if t171 < 0 then (some (-1)) else (some t171))) = some r := h
 clear h
 replace H := Option.bind_eq_some_iff.mp H
 obtain ⟨t171, A30, H⟩ := H
 replace H : (if t171 < 0 then (some (-1)) else (some t171)) = some r := H
 have A3 := am A30
 clear A30
 have H9 := am H
 clear H
 go_enter Try.func15, Try.ntmps15
 go_upto_if 10 with (first | ((with_reducible refine gate_dst (N := 2) rfl ?_); refine box_event ?hg (N := 2) ?hd (cs := #[.int .i64 a0_0, .int .i64 a0_1, .int .i64 a0_2, .int .i64 a0_3, .int .i64 a0_4, .int .i64 a0_5, .int .i64 a0_6, .bool a0_7, .slice A0_8 l0_8.length c0_8]) (t := 24) ?hr ?_; (case hd => rfl); (case hg => rfl); (case hr => first | (go_simp; done) | (go_simp; rfl)); intro gb170 hg w4 hbox hb; have BK170 := am (hbox); have GW170 := am ((by rw [hg]; exact (below_size Q2) : w.heap.size ≤ gb170)); have GE170 := am ((by rw [hg]; exact (below_size Q2) : w.heap.size ≤ gb170)); replace HB := am (below_step Q2 hb); clear hb hbox hg; obtain ⟨hcz5_0, hcz5_1, hcz5_2, hcz5_3, hcz5_4, hcz5_5, hcz5_6, hcz5_7, hcz5_8⟩ := bc9 w4 BK170.out) | ((with_reducible refine gate_callee (f := 61) rfl ?_); refine goesL_ (some 8) rfl rfl Try.func61 kr rfl #[.slice A0_8 l0_8.length c0_8, .int .i64 a1] rfl Q0 ?_; (with_reducible refine (laws_szEntryS.calls k _ _ l0_8 a1 t171 _ ?side1 ?side2 A3.out).mono ?_); (case side1 => exact Q8); (case side2 => exact HC0_8.out); rintro e w6 ⟨rfl, hb⟩; refine ⟨_, rfl, ?_⟩; replace BK170 := am (blk_below (g := gb170) (o := .cells #[.int .i64 a0_0, .int .i64 a0_1, .int .i64 a0_2, .int .i64 a0_3, .int .i64 a0_4, .int .i64 a0_5, .int .i64 a0_6, .bool a0_7, .slice A0_8 l0_8.length c0_8] 24 (0, 0)) (by (with_reducible repeat (first | apply b1_ | apply b2_ | apply b3_)); exact BK170.out) hb); replace HB := am (below_step Q2 hb); (try clear hb); (try clear hb2); (try clear hk); (try clear hi)))
 have H := H9.out
 clear H9
 by_cases c7 : t171 < 0
 · rw [if_pos c7] at H
   have c7b0 : decide (t171 < 0) = true := decide_eq_true c7
   clear c7
   (first | rw [c7b0] | (simp only [i64_w, i32_w]; rw [c7b0]) | skip)
   obtain rfl := sj H
   go_wp2
   go_ret
   exact ⟨er, Q2⟩
 rw [if_neg c7] at H
 have c7b0 : decide (t171 < 0) = false := decide_eq_false c7
 clear c7
 (first | rw [c7b0] | (simp only [i64_w, i32_w]; rw [c7b0]) | skip)
 obtain rfl := sj H
 go_wp2
 go_ret
 exact ⟨er, Q2⟩
end Go.Proofs.Ytkcadcoohmofcaa.QFnExactSettled
