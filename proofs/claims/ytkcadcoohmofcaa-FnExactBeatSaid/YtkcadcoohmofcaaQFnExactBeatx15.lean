-- Printed by the session's own program wip/prx.py.
import Derived.Test.YtkcadcoohmofcaaSqFnExactBeat
import Derived.Test.YtkcadcoohmofcaaQFnExactBeatx0
import Derived.Test.YtkcadcoohmofcaaQFnExactBeatx2
namespace Go.Proofs.Ytkcadcoohmofcaa.QFnExactBeat
open Go.RowKit Go.Proofs.YtkcadcoohmofcaaW.PrintWords Go.Proofs.YtkcadcoohmofcaaW.PrintLast Go.Proofs.YtkcadcoohmofcaaW.PrintMore Go.Proofs.Ytkcadcoohmofcaa.SqFnExactBeat
attribute [local go_sem] max2_int min2_int max_two min_two max_three min_three max_four min_four Go.Proofs.Ytkcadcoohmofcaa.Set.isSome_setCell
set_option linter.unusedVariables false
set_option linter.unusedSimpArgs false

-- squeezed
theorem u15_3 {P : Prop} (h : P := by (with_reducible repeat (first | apply Kd.S_alloc | apply Kd.S_drewN | apply Kd.S_drew)); exact Kd.S_mono HO_0.out (fun k_ hk => ⟨hk, fun e_ => e_⟩)) : P := h
theorem u15_6 {P : Prop} (h : P := by (with_reducible repeat (first | apply Kd.S_alloc | apply Kd.S_drewN | apply Kd.S_drew)); exact HO_0.out) : P := h
/-! ### laws_markMsgS: function 41 -/
section
open Classical in
theorem S_lent_ {α : Type} {d : Kd α} {e g n cap base : Nat} {w W : World} {ok S2 : Nat → Prop} {xs : List α} {x' : α} (h : Kd.S d e w base ok (.slice (some ⟨g, 0, none⟩) n cap) xs) (z : α) (i : Int) (h0 : 0 ≤ i) (h1 : i < n) (hk : Kept w W S2)
   (back : ∀ (okq : Nat → Prop) (c : List Value), c.length = d.sz → d.M w base okq (xs.getD i.toNat z) c → (∀ j u, c[j]? = some u → w.cell? ⟨g, i.toNat * d.sz + j, none⟩ = some u) → (∀ k, S2 k → okq k) ∧ ∃ okp, d.M W base okp x' c ∧ ∀ k, okp k → okq k) :
   Kd.S d e W base ok (.slice (some ⟨g, 0, none⟩) n cap) (xs.set i.toNat x') := by
 obtain ⟨okq, c, hcl, hM, hcc, hokq, hH⟩ := Kd.S_lend h z i h0 h1
 obtain ⟨b1, okp, b2, b3⟩ := back okq c hcl hM hcc
 obtain ⟨hoo, f, hR⟩ := hH
 exact Kd.H_back ⟨hoo, f, Kd.R_kept hR hk (fun k q1 q2 => q1.2 (b1 k q2))⟩ b2 b3
end
def laws_markMsgS.l0 : Nat → List (S29) → Int → Int → Option (Int × (List (S29)))
 | 0, _, _, _ => none
 | k + 1, x0, x1, x5 => if x5 < (x0.length : Int) then (if 0 ≤ x5 then ((some (x0.set (x5 : Int).toNat (⟨x1, (rd_T29 x0 x5).f1, (rd_T29 x0 x5).f2, (rd_T29 x0 x5).f3, (rd_T29 x0 x5).f4, (rd_T29 x0 x5).f5, (rd_T29 x0 x5).f6, (rd_T29 x0 x5).f7, (rd_T29 x0 x5).f8⟩ : S29) : List (S29))).bind fun y305 => ((some (y305.set (x5 : Int).toNat (⟨(rd_T29 y305 x5).f0, wrap64 (x1 + 1), (rd_T29 y305 x5).f2, (rd_T29 y305 x5).f3, (rd_T29 y305 x5).f4, (rd_T29 y305 x5).f5, (rd_T29 y305 x5).f6, (rd_T29 y305 x5).f7, (rd_T29 y305 x5).f8⟩ : S29) : List (S29))).bind fun y306 => ((some (y306.set (x5 : Int).toNat (⟨(rd_T29 y306 x5).f0, (rd_T29 y306 x5).f1, wrap64 ((wrap64 (x1 + 1)) + 1), (rd_T29 y306 x5).f3, (rd_T29 y306 x5).f4, (rd_T29 y306 x5).f5, (rd_T29 y306 x5).f6, (rd_T29 y306 x5).f7, (rd_T29 y306 x5).f8⟩ : S29) : List (S29))).bind fun y307 => ((some (y307.set (x5 : Int).toNat (⟨(rd_T29 y307 x5).f0, (rd_T29 y307 x5).f1, (rd_T29 y307 x5).f2, wrap64 ((wrap64 ((wrap64 (x1 + 1)) + 1)) + 1), (rd_T29 y307 x5).f4, (rd_T29 y307 x5).f5, (rd_T29 y307 x5).f6, (rd_T29 y307 x5).f7, (rd_T29 y307 x5).f8⟩ : S29) : List (S29))).bind fun y308 => ((some (y308.set (x5 : Int).toNat (⟨(rd_T29 y308 x5).f0, (rd_T29 y308 x5).f1, (rd_T29 y308 x5).f2, (rd_T29 y308 x5).f3, wrap64 ((wrap64 ((wrap64 ((wrap64 (x1 + 1)) + 1)) + 1)) + 1), (rd_T29 y308 x5).f5, (rd_T29 y308 x5).f6, (rd_T29 y308 x5).f7, (rd_T29 y308 x5).f8⟩ : S29) : List (S29))).bind fun y309 => ((some (y309.set (x5 : Int).toNat (⟨(rd_T29 y309 x5).f0, (rd_T29 y309 x5).f1, (rd_T29 y309 x5).f2, (rd_T29 y309 x5).f3, (rd_T29 y309 x5).f4, wrap64 ((wrap64 ((wrap64 ((wrap64 ((wrap64 (x1 + 1)) + 1)) + 1)) + 1)) + 1), (rd_T29 y309 x5).f6, (rd_T29 y309 x5).f7, (rd_T29 y309 x5).f8⟩ : S29) : List (S29))).bind fun y310 => ((some (y310.set (x5 : Int).toNat (⟨(rd_T29 y310 x5).f0, (rd_T29 y310 x5).f1, (rd_T29 y310 x5).f2, (rd_T29 y310 x5).f3, (rd_T29 y310 x5).f4, (rd_T29 y310 x5).f5, wrap64 ((wrap64 ((wrap64 ((wrap64 ((wrap64 ((wrap64 (x1 + 1)) + 1)) + 1)) + 1)) + 1)) + 1), (rd_T29 y310 x5).f7, (rd_T29 y310 x5).f8⟩ : S29) : List (S29))).bind fun y311 => ((some (y311.set (x5 : Int).toNat (⟨(rd_T29 y311 x5).f0, (rd_T29 y311 x5).f1, (rd_T29 y311 x5).f2, (rd_T29 y311 x5).f3, (rd_T29 y311 x5).f4, (rd_T29 y311 x5).f5, (rd_T29 y311 x5).f6, ((Int.tmod (wrap64 ((wrap64 ((wrap64 ((wrap64 ((wrap64 ((wrap64 ((wrap64 (x1 + 1)) + 1)) + 1)) + 1)) + 1)) + 1)) + 1)) 3) == 0), (rd_T29 y311 x5).f8⟩ : S29) : List (S29))).bind fun y312 => ((laws_markEntryS.f k ((rd_T29 y312 x5).f8) (wrap64 ((wrap64 ((wrap64 ((wrap64 ((wrap64 ((wrap64 ((wrap64 ((wrap64 (x1 + 1)) + 1)) + 1)) + 1)) + 1)) + 1)) + 1)) + 1))).bind fun bt314 => (laws_markMsgS.l0 k (y312.set (x5 : Int).toNat (⟨(rd_T29 y312 x5).f0, (rd_T29 y312 x5).f1, (rd_T29 y312 x5).f2, (rd_T29 y312 x5).f3, (rd_T29 y312 x5).f4, (rd_T29 y312 x5).f5, (rd_T29 y312 x5).f6, (rd_T29 y312 x5).f7, bt314.2⟩ : S29)) bt314.1 (wrap64 (x5 + 1)))))))))))) else (none)) else (some (x1, x0))
def laws_markMsgS.f (k : Nat) (l0 : List (S29)) (a1 : Int) : Option (Int × (List (S29))) := laws_markMsgS.l0 k l0 a1 0
theorem laws_markMsgS.mono_l : ∀ k, (∀ y0 y1 y2, LeO (laws_markMsgS.l0 k y0 y1 y2) (laws_markMsgS.l0 (k + 1) y0 y1 y2))
 | 0 => fun _ _ _ r h => by simp [laws_markMsgS.l0] at h
 | k + 1 => by
   have ih0 := laws_markMsgS.mono_l k
   · intro y0 y1 y2
     unfold laws_markMsgS.l0
     repeat' first
     | (with_reducible exact ih0 _ _ _)
     | (with_reducible exact laws_markEntryS.mono _ _ _)
     | (with_reducible exact LeO.refl _)
     | (with_reducible exact LeO.none _)
     | (with_reducible refine LeO.ite ?_ ?_)
     | (with_reducible refine LeO.bind ?_ (fun _ => ?_))
     | exact ih0 _ _ _
     | exact LeO.none _
     | refine LeO.ite ?_ ?_
     | refine LeO.bind ?_ (fun _ => ?_)
theorem laws_markMsgS.mono : ∀ a0 a1 k, LeO (laws_markMsgS.f k a0 a1) (laws_markMsgS.f (k + 1) a0 a1) := by
 intro a0 a1 k
 have ih0 := laws_markMsgS.mono_l k
 unfold laws_markMsgS.f
 repeat' first
     | (with_reducible exact ih0 _ _ _)
     | (with_reducible exact laws_markEntryS.mono _ _ _)
     | (with_reducible exact LeO.refl _)
     | (with_reducible exact LeO.none _)
     | (with_reducible refine LeO.ite ?_ ?_)
     | (with_reducible refine LeO.bind ?_ (fun _ => ?_))
     | exact ih0 _ _ _
     | exact LeO.none _
     | refine LeO.ite ?_ ?_
     | refine LeO.bind ?_ (fun _ => ?_)
set_option maxHeartbeats 8000000 in
set_option maxRecDepth 100000 in
theorem laws_markMsgS.calls0 (PK_ : Nat → Prop) (k : Nat) (P0_ : Nat → Prop) (u9000_ : Value) (l0 : List (S29)) (a1 : Int) (r1 : Int) (r2 : List (S29)) (w0 w : World) (hB : Below w0.heap.size w0 w) (ho0 : Kd.S k29 29 w w0.heap.size P0_ u9000_ l0) (hpk_ : ∀ k, (u9000_ : Value).ownBlock = some k → PK_ k) (hpi_ : ∀ k, P0_ k → PK_ k) (h : laws_markMsgS.f k l0 a1 = some (r1, r2)) :
   Calls Try.prog 41 #[u9000_, .int .i64 a1] w fun e w' => e = .returned (.int .i64 r1) ∧ Kd.S k29 29 w' w0.heap.size (fun k_ => P0_ k_) u9000_ r2 ∧ Below w0.heap.size w0 w' ∧ Kept w w' (fun k_ => PK_ k_) := by
 have HO0 := am ho0
 have HPK := am hpk_
 clear hpk_
 have HPI := am hpi_
 clear hpi_
 have HK := am (Kept.refl w (fun k_ => PK_ k_))
 have HW0 := am hB.size
 have HB := am hB
 clear hB
 have H : (laws_markMsgS.l0 k l0 a1 0) = some (r1, r2) := h
 clear h
 have H' := am H
 clear H
 go_enter Try.func41, Try.ntmps41
 go_wp2
 go_loopg [1, 5] k (fun kq v1 v5 w' => ∃ (x0_1 : List (S29)) (x1_1 : Int) (x5_1 : Int), v1 = .int .i64 x1_1 ∧ v5 = .int .i64 x5_1 ∧ Aside0 (laws_markMsgS.l0 kq x0_1 x1_1 x5_1 = some (r1, r2)) ∧ Aside0 (kq ≤ k) ∧ Aside0 (Kd.S k29 29 w' w0.heap.size (fun k_ => P0_ k_) u9000_ x0_1) ∧ Aside0 (Kept w w' (fun k_ => PK_ k_)) ∧ Aside0 (Below w0.heap.size w0 w'))
 case atStart => exact ⟨(l0), (a1), (0), Q4, Q4, H', ⟨Nat.le_refl _⟩, ⟨(by (with_reducible repeat (first | apply Kd.S_alloc | apply Kd.S_drewN | apply Kd.S_drew)); exact HO0.out)⟩, ⟨Q5⟩, ⟨Q1⟩⟩
 clear H'
 obtain ⟨x0_1, x1_1, x5_1, rfl, rfl, HA, HK1, HO_0, HK, HB⟩ := hrel
 cases gk with
 | zero => exact absurd HA.out (by simp [laws_markMsgS.l0])
 | succ k1 =>
   have H := HA.out
   clear HA
   simp only [laws_markMsgS.l0] at H
   by_cases c3 : x5_1 < (x0_1.length : Int)
   rotate_left
   · rw [if_neg c3] at H
     have c3b0 : decide (x5_1 < (x0_1.length : Int)) = false := decide_eq_false c3
     clear c3
     simp only [Option.some.injEq, Prod.mk.injEq] at H
     obtain ⟨rfl, rfl⟩ := H
     obtain ⟨Ao32, co32, eo32⟩ := Kd.S_slice HO_0.out
     subst eo32
     go_wp2
     go_ret
     exact ⟨er, u15_6, Q1, Q5⟩
   rw [if_pos c3] at H
   have c3b0 : decide (x5_1 < (x0_1.length : Int)) = true := decide_eq_true c3
   clear c3
   by_cases c4 : 0 ≤ x5_1
   rotate_left
   · rw [if_neg c4] at H
     exact absurd H (by simp)
   rw [if_pos c4] at H
   have c4b0 : decide (0 ≤ x5_1) = true := decide_eq_true c4
   clear c4
   obtain ⟨y305, hy305⟩ : ∃ y_ : List (S29), y_ = (x0_1.set (x5_1 : Int).toNat (⟨x1_1, (rd_T29 x0_1 x5_1).f1, (rd_T29 x0_1 x5_1).f2, (rd_T29 x0_1 x5_1).f3, (rd_T29 x0_1 x5_1).f4, (rd_T29 x0_1 x5_1).f5, (rd_T29 x0_1 x5_1).f6, (rd_T29 x0_1 x5_1).f7, (rd_T29 x0_1 x5_1).f8⟩ : S29)) := ⟨_, rfl⟩
   replace H : ((some (y305.set (x5_1 : Int).toNat (⟨(rd_T29 y305 x5_1).f0, wrap64 (x1_1 + 1), (rd_T29 y305 x5_1).f2, (rd_T29 y305 x5_1).f3, (rd_T29 y305 x5_1).f4, (rd_T29 y305 x5_1).f5, (rd_T29 y305 x5_1).f6, (rd_T29 y305 x5_1).f7, (rd_T29 y305 x5_1).f8⟩ : S29) : List (S29))).bind fun y306 => ((some (y306.set (x5_1 : Int).toNat (⟨(rd_T29 y306 x5_1).f0, (rd_T29 y306 x5_1).f1, wrap64 ((wrap64 (x1_1 + 1)) + 1), (rd_T29 y306 x5_1).f3, (rd_T29 y306 x5_1).f4, (rd_T29 y306 x5_1).f5, (rd_T29 y306 x5_1).f6, (rd_T29 y306 x5_1).f7, (rd_T29 y306 x5_1).f8⟩ : S29) : List (S29))).bind fun y307 => ((some (y307.set (x5_1 : Int).toNat (⟨(rd_T29 y307 x5_1).f0, (rd_T29 y307 x5_1).f1, (rd_T29 y307 x5_1).f2, wrap64 ((wrap64 ((wrap64 (x1_1 + 1)) + 1)) + 1), (rd_T29 y307 x5_1).f4, (rd_T29 y307 x5_1).f5, (rd_T29 y307 x5_1).f6, (rd_T29 y307 x5_1).f7, (rd_T29 y307 x5_1).f8⟩ : S29) : List (S29))).bind fun y308 => ((some (y308.set (x5_1 : Int).toNat (⟨(rd_T29 y308 x5_1).f0, (rd_T29 y308 x5_1).f1, (rd_T29 y308 x5_1).f2, (rd_T29 y308 x5_1).f3, wrap64 ((wrap64 ((wrap64 ((wrap64 (x1_1 + 1)) + 1)) + 1)) + 1), (rd_T29 y308 x5_1).f5, (rd_T29 y308 x5_1).f6, (rd_T29 y308 x5_1).f7, (rd_T29 y308 x5_1).f8⟩ : S29) : List (S29))).bind fun y309 => ((some (y309.set (x5_1 : Int).toNat (⟨(rd_T29 y309 x5_1).f0, (rd_T29 y309 x5_1).f1, (rd_T29 y309 x5_1).f2, (rd_T29 y309 x5_1).f3, (rd_T29 y309 x5_1).f4, wrap64 ((wrap64 ((wrap64 ((wrap64 ((wrap64 (x1_1 + 1)) + 1)) + 1)) + 1)) + 1), (rd_T29 y309 x5_1).f6, (rd_T29 y309 x5_1).f7, (rd_T29 y309 x5_1).f8⟩ : S29) : List (S29))).bind fun y310 => ((some (y310.set (x5_1 : Int).toNat (⟨(rd_T29 y310 x5_1).f0, (rd_T29 y310 x5_1).f1, (rd_T29 y310 x5_1).f2, (rd_T29 y310 x5_1).f3, (rd_T29 y310 x5_1).f4, (rd_T29 y310 x5_1).f5, wrap64 ((wrap64 ((wrap64 ((wrap64 ((wrap64 ((wrap64 (x1_1 + 1)) + 1)) + 1)) + 1)) + 1)) + 1), (rd_T29 y310 x5_1).f7, (rd_T29 y310 x5_1).f8⟩ : S29) : List (S29))).bind fun y311 => ((some (y311.set (x5_1 : Int).toNat (⟨(rd_T29 y311 x5_1).f0, (rd_T29 y311 x5_1).f1, (rd_T29 y311 x5_1).f2, (rd_T29 y311 x5_1).f3, (rd_T29 y311 x5_1).f4, (rd_T29 y311 x5_1).f5, (rd_T29 y311 x5_1).f6, ((Int.tmod (wrap64 ((wrap64 ((wrap64 ((wrap64 ((wrap64 ((wrap64 ((wrap64 (x1_1 + 1)) + 1)) + 1)) + 1)) + 1)) + 1)) + 1)) 3) == 0), (rd_T29 y311 x5_1).f8⟩ : S29) : List (S29))).bind fun y312 => ((laws_markEntryS.f k1 ((rd_T29 y312 x5_1).f8) (wrap64 ((wrap64 ((wrap64 ((wrap64 ((wrap64 ((wrap64 ((wrap64 ((wrap64 (x1_1 + 1)) + 1)) + 1)) + 1)) + 1)) + 1)) + 1)) + 1))).bind fun bt314 => (laws_markMsgS.l0 k1 (y312.set (x5_1 : Int).toNat (⟨(rd_T29 y312 x5_1).f0, (rd_T29 y312 x5_1).f1, (rd_T29 y312 x5_1).f2, (rd_T29 y312 x5_1).f3, (rd_T29 y312 x5_1).f4, (rd_T29 y312 x5_1).f5, (rd_T29 y312 x5_1).f6, (rd_T29 y312 x5_1).f7, bt314.2⟩ : S29)) bt314.1 (wrap64 (x5_1 + 1))))))))))) = some (r1, r2) := by first | (rw [hy305]; with_reducible exact H) | (have H2_ := (Option.bind_some _ _).symm.trans H; rw [hy305]; with_reducible exact H2_) | (have H2_ := (Option.bind_some _ _).symm.trans H; with_reducible exact H2_) | with_reducible exact H | (rw [hy305]; exact H) | exact H
   have Ny305 := am hy305
   clear hy305
   obtain ⟨y306, hy306⟩ : ∃ y_ : List (S29), y_ = (y305.set (x5_1 : Int).toNat (⟨(rd_T29 y305 x5_1).f0, wrap64 (x1_1 + 1), (rd_T29 y305 x5_1).f2, (rd_T29 y305 x5_1).f3, (rd_T29 y305 x5_1).f4, (rd_T29 y305 x5_1).f5, (rd_T29 y305 x5_1).f6, (rd_T29 y305 x5_1).f7, (rd_T29 y305 x5_1).f8⟩ : S29)) := ⟨_, rfl⟩
   replace H : ((some (y306.set (x5_1 : Int).toNat (⟨(rd_T29 y306 x5_1).f0, (rd_T29 y306 x5_1).f1, wrap64 ((wrap64 (x1_1 + 1)) + 1), (rd_T29 y306 x5_1).f3, (rd_T29 y306 x5_1).f4, (rd_T29 y306 x5_1).f5, (rd_T29 y306 x5_1).f6, (rd_T29 y306 x5_1).f7, (rd_T29 y306 x5_1).f8⟩ : S29) : List (S29))).bind fun y307 => ((some (y307.set (x5_1 : Int).toNat (⟨(rd_T29 y307 x5_1).f0, (rd_T29 y307 x5_1).f1, (rd_T29 y307 x5_1).f2, wrap64 ((wrap64 ((wrap64 (x1_1 + 1)) + 1)) + 1), (rd_T29 y307 x5_1).f4, (rd_T29 y307 x5_1).f5, (rd_T29 y307 x5_1).f6, (rd_T29 y307 x5_1).f7, (rd_T29 y307 x5_1).f8⟩ : S29) : List (S29))).bind fun y308 => ((some (y308.set (x5_1 : Int).toNat (⟨(rd_T29 y308 x5_1).f0, (rd_T29 y308 x5_1).f1, (rd_T29 y308 x5_1).f2, (rd_T29 y308 x5_1).f3, wrap64 ((wrap64 ((wrap64 ((wrap64 (x1_1 + 1)) + 1)) + 1)) + 1), (rd_T29 y308 x5_1).f5, (rd_T29 y308 x5_1).f6, (rd_T29 y308 x5_1).f7, (rd_T29 y308 x5_1).f8⟩ : S29) : List (S29))).bind fun y309 => ((some (y309.set (x5_1 : Int).toNat (⟨(rd_T29 y309 x5_1).f0, (rd_T29 y309 x5_1).f1, (rd_T29 y309 x5_1).f2, (rd_T29 y309 x5_1).f3, (rd_T29 y309 x5_1).f4, wrap64 ((wrap64 ((wrap64 ((wrap64 ((wrap64 (x1_1 + 1)) + 1)) + 1)) + 1)) + 1), (rd_T29 y309 x5_1).f6, (rd_T29 y309 x5_1).f7, (rd_T29 y309 x5_1).f8⟩ : S29) : List (S29))).bind fun y310 => ((some (y310.set (x5_1 : Int).toNat (⟨(rd_T29 y310 x5_1).f0, (rd_T29 y310 x5_1).f1, (rd_T29 y310 x5_1).f2, (rd_T29 y310 x5_1).f3, (rd_T29 y310 x5_1).f4, (rd_T29 y310 x5_1).f5, wrap64 ((wrap64 ((wrap64 ((wrap64 ((wrap64 ((wrap64 (x1_1 + 1)) + 1)) + 1)) + 1)) + 1)) + 1), (rd_T29 y310 x5_1).f7, (rd_T29 y310 x5_1).f8⟩ : S29) : List (S29))).bind fun y311 => ((some (y311.set (x5_1 : Int).toNat (⟨(rd_T29 y311 x5_1).f0, (rd_T29 y311 x5_1).f1, (rd_T29 y311 x5_1).f2, (rd_T29 y311 x5_1).f3, (rd_T29 y311 x5_1).f4, (rd_T29 y311 x5_1).f5, (rd_T29 y311 x5_1).f6, ((Int.tmod (wrap64 ((wrap64 ((wrap64 ((wrap64 ((wrap64 ((wrap64 ((wrap64 (x1_1 + 1)) + 1)) + 1)) + 1)) + 1)) + 1)) + 1)) 3) == 0), (rd_T29 y311 x5_1).f8⟩ : S29) : List (S29))).bind fun y312 => ((laws_markEntryS.f k1 ((rd_T29 y312 x5_1).f8) (wrap64 ((wrap64 ((wrap64 ((wrap64 ((wrap64 ((wrap64 ((wrap64 ((wrap64 (x1_1 + 1)) + 1)) + 1)) + 1)) + 1)) + 1)) + 1)) + 1))).bind fun bt314 => (laws_markMsgS.l0 k1 (y312.set (x5_1 : Int).toNat (⟨(rd_T29 y312 x5_1).f0, (rd_T29 y312 x5_1).f1, (rd_T29 y312 x5_1).f2, (rd_T29 y312 x5_1).f3, (rd_T29 y312 x5_1).f4, (rd_T29 y312 x5_1).f5, (rd_T29 y312 x5_1).f6, (rd_T29 y312 x5_1).f7, bt314.2⟩ : S29)) bt314.1 (wrap64 (x5_1 + 1)))))))))) = some (r1, r2) := by first | (rw [hy306]; with_reducible exact H) | (have H2_ := (Option.bind_some _ _).symm.trans H; rw [hy306]; with_reducible exact H2_) | (have H2_ := (Option.bind_some _ _).symm.trans H; with_reducible exact H2_) | with_reducible exact H | (rw [hy306]; exact H) | exact H
   have Ny306 := am hy306
   clear hy306
   obtain ⟨y307, hy307⟩ : ∃ y_ : List (S29), y_ = (y306.set (x5_1 : Int).toNat (⟨(rd_T29 y306 x5_1).f0, (rd_T29 y306 x5_1).f1, wrap64 ((wrap64 (x1_1 + 1)) + 1), (rd_T29 y306 x5_1).f3, (rd_T29 y306 x5_1).f4, (rd_T29 y306 x5_1).f5, (rd_T29 y306 x5_1).f6, (rd_T29 y306 x5_1).f7, (rd_T29 y306 x5_1).f8⟩ : S29)) := ⟨_, rfl⟩
   replace H : ((some (y307.set (x5_1 : Int).toNat (⟨(rd_T29 y307 x5_1).f0, (rd_T29 y307 x5_1).f1, (rd_T29 y307 x5_1).f2, wrap64 ((wrap64 ((wrap64 (x1_1 + 1)) + 1)) + 1), (rd_T29 y307 x5_1).f4, (rd_T29 y307 x5_1).f5, (rd_T29 y307 x5_1).f6, (rd_T29 y307 x5_1).f7, (rd_T29 y307 x5_1).f8⟩ : S29) : List (S29))).bind fun y308 => ((some (y308.set (x5_1 : Int).toNat (⟨(rd_T29 y308 x5_1).f0, (rd_T29 y308 x5_1).f1, (rd_T29 y308 x5_1).f2, (rd_T29 y308 x5_1).f3, wrap64 ((wrap64 ((wrap64 ((wrap64 (x1_1 + 1)) + 1)) + 1)) + 1), (rd_T29 y308 x5_1).f5, (rd_T29 y308 x5_1).f6, (rd_T29 y308 x5_1).f7, (rd_T29 y308 x5_1).f8⟩ : S29) : List (S29))).bind fun y309 => ((some (y309.set (x5_1 : Int).toNat (⟨(rd_T29 y309 x5_1).f0, (rd_T29 y309 x5_1).f1, (rd_T29 y309 x5_1).f2, (rd_T29 y309 x5_1).f3, (rd_T29 y309 x5_1).f4, wrap64 ((wrap64 ((wrap64 ((wrap64 ((wrap64 (x1_1 + 1)) + 1)) + 1)) + 1)) + 1), (rd_T29 y309 x5_1).f6, (rd_T29 y309 x5_1).f7, (rd_T29 y309 x5_1).f8⟩ : S29) : List (S29))).bind fun y310 => ((some (y310.set (x5_1 : Int).toNat (⟨(rd_T29 y310 x5_1).f0, (rd_T29 y310 x5_1).f1, (rd_T29 y310 x5_1).f2, (rd_T29 y310 x5_1).f3, (rd_T29 y310 x5_1).f4, (rd_T29 y310 x5_1).f5, wrap64 ((wrap64 ((wrap64 ((wrap64 ((wrap64 ((wrap64 (x1_1 + 1)) + 1)) + 1)) + 1)) + 1)) + 1), (rd_T29 y310 x5_1).f7, (rd_T29 y310 x5_1).f8⟩ : S29) : List (S29))).bind fun y311 => ((some (y311.set (x5_1 : Int).toNat (⟨(rd_T29 y311 x5_1).f0, (rd_T29 y311 x5_1).f1, (rd_T29 y311 x5_1).f2, (rd_T29 y311 x5_1).f3, (rd_T29 y311 x5_1).f4, (rd_T29 y311 x5_1).f5, (rd_T29 y311 x5_1).f6, ((Int.tmod (wrap64 ((wrap64 ((wrap64 ((wrap64 ((wrap64 ((wrap64 ((wrap64 (x1_1 + 1)) + 1)) + 1)) + 1)) + 1)) + 1)) + 1)) 3) == 0), (rd_T29 y311 x5_1).f8⟩ : S29) : List (S29))).bind fun y312 => ((laws_markEntryS.f k1 ((rd_T29 y312 x5_1).f8) (wrap64 ((wrap64 ((wrap64 ((wrap64 ((wrap64 ((wrap64 ((wrap64 ((wrap64 (x1_1 + 1)) + 1)) + 1)) + 1)) + 1)) + 1)) + 1)) + 1))).bind fun bt314 => (laws_markMsgS.l0 k1 (y312.set (x5_1 : Int).toNat (⟨(rd_T29 y312 x5_1).f0, (rd_T29 y312 x5_1).f1, (rd_T29 y312 x5_1).f2, (rd_T29 y312 x5_1).f3, (rd_T29 y312 x5_1).f4, (rd_T29 y312 x5_1).f5, (rd_T29 y312 x5_1).f6, (rd_T29 y312 x5_1).f7, bt314.2⟩ : S29)) bt314.1 (wrap64 (x5_1 + 1))))))))) = some (r1, r2) := by first | (rw [hy307]; with_reducible exact H) | (have H2_ := (Option.bind_some _ _).symm.trans H; rw [hy307]; with_reducible exact H2_) | (have H2_ := (Option.bind_some _ _).symm.trans H; with_reducible exact H2_) | with_reducible exact H | (rw [hy307]; exact H) | exact H
   have Ny307 := am hy307
   clear hy307
   obtain ⟨y308, hy308⟩ : ∃ y_ : List (S29), y_ = (y307.set (x5_1 : Int).toNat (⟨(rd_T29 y307 x5_1).f0, (rd_T29 y307 x5_1).f1, (rd_T29 y307 x5_1).f2, wrap64 ((wrap64 ((wrap64 (x1_1 + 1)) + 1)) + 1), (rd_T29 y307 x5_1).f4, (rd_T29 y307 x5_1).f5, (rd_T29 y307 x5_1).f6, (rd_T29 y307 x5_1).f7, (rd_T29 y307 x5_1).f8⟩ : S29)) := ⟨_, rfl⟩
   replace H : ((some (y308.set (x5_1 : Int).toNat (⟨(rd_T29 y308 x5_1).f0, (rd_T29 y308 x5_1).f1, (rd_T29 y308 x5_1).f2, (rd_T29 y308 x5_1).f3, wrap64 ((wrap64 ((wrap64 ((wrap64 (x1_1 + 1)) + 1)) + 1)) + 1), (rd_T29 y308 x5_1).f5, (rd_T29 y308 x5_1).f6, (rd_T29 y308 x5_1).f7, (rd_T29 y308 x5_1).f8⟩ : S29) : List (S29))).bind fun y309 => ((some (y309.set (x5_1 : Int).toNat (⟨(rd_T29 y309 x5_1).f0, (rd_T29 y309 x5_1).f1, (rd_T29 y309 x5_1).f2, (rd_T29 y309 x5_1).f3, (rd_T29 y309 x5_1).f4, wrap64 ((wrap64 ((wrap64 ((wrap64 ((wrap64 (x1_1 + 1)) + 1)) + 1)) + 1)) + 1), (rd_T29 y309 x5_1).f6, (rd_T29 y309 x5_1).f7, (rd_T29 y309 x5_1).f8⟩ : S29) : List (S29))).bind fun y310 => ((some (y310.set (x5_1 : Int).toNat (⟨(rd_T29 y310 x5_1).f0, (rd_T29 y310 x5_1).f1, (rd_T29 y310 x5_1).f2, (rd_T29 y310 x5_1).f3, (rd_T29 y310 x5_1).f4, (rd_T29 y310 x5_1).f5, wrap64 ((wrap64 ((wrap64 ((wrap64 ((wrap64 ((wrap64 (x1_1 + 1)) + 1)) + 1)) + 1)) + 1)) + 1), (rd_T29 y310 x5_1).f7, (rd_T29 y310 x5_1).f8⟩ : S29) : List (S29))).bind fun y311 => ((some (y311.set (x5_1 : Int).toNat (⟨(rd_T29 y311 x5_1).f0, (rd_T29 y311 x5_1).f1, (rd_T29 y311 x5_1).f2, (rd_T29 y311 x5_1).f3, (rd_T29 y311 x5_1).f4, (rd_T29 y311 x5_1).f5, (rd_T29 y311 x5_1).f6, ((Int.tmod (wrap64 ((wrap64 ((wrap64 ((wrap64 ((wrap64 ((wrap64 ((wrap64 (x1_1 + 1)) + 1)) + 1)) + 1)) + 1)) + 1)) + 1)) 3) == 0), (rd_T29 y311 x5_1).f8⟩ : S29) : List (S29))).bind fun y312 => ((laws_markEntryS.f k1 ((rd_T29 y312 x5_1).f8) (wrap64 ((wrap64 ((wrap64 ((wrap64 ((wrap64 ((wrap64 ((wrap64 ((wrap64 (x1_1 + 1)) + 1)) + 1)) + 1)) + 1)) + 1)) + 1)) + 1))).bind fun bt314 => (laws_markMsgS.l0 k1 (y312.set (x5_1 : Int).toNat (⟨(rd_T29 y312 x5_1).f0, (rd_T29 y312 x5_1).f1, (rd_T29 y312 x5_1).f2, (rd_T29 y312 x5_1).f3, (rd_T29 y312 x5_1).f4, (rd_T29 y312 x5_1).f5, (rd_T29 y312 x5_1).f6, (rd_T29 y312 x5_1).f7, bt314.2⟩ : S29)) bt314.1 (wrap64 (x5_1 + 1)))))))) = some (r1, r2) := by first | (rw [hy308]; with_reducible exact H) | (have H2_ := (Option.bind_some _ _).symm.trans H; rw [hy308]; with_reducible exact H2_) | (have H2_ := (Option.bind_some _ _).symm.trans H; with_reducible exact H2_) | with_reducible exact H | (rw [hy308]; exact H) | exact H
   have Ny308 := am hy308
   clear hy308
   obtain ⟨y309, hy309⟩ : ∃ y_ : List (S29), y_ = (y308.set (x5_1 : Int).toNat (⟨(rd_T29 y308 x5_1).f0, (rd_T29 y308 x5_1).f1, (rd_T29 y308 x5_1).f2, (rd_T29 y308 x5_1).f3, wrap64 ((wrap64 ((wrap64 ((wrap64 (x1_1 + 1)) + 1)) + 1)) + 1), (rd_T29 y308 x5_1).f5, (rd_T29 y308 x5_1).f6, (rd_T29 y308 x5_1).f7, (rd_T29 y308 x5_1).f8⟩ : S29)) := ⟨_, rfl⟩
   replace H : ((some (y309.set (x5_1 : Int).toNat (⟨(rd_T29 y309 x5_1).f0, (rd_T29 y309 x5_1).f1, (rd_T29 y309 x5_1).f2, (rd_T29 y309 x5_1).f3, (rd_T29 y309 x5_1).f4, wrap64 ((wrap64 ((wrap64 ((wrap64 ((wrap64 (x1_1 + 1)) + 1)) + 1)) + 1)) + 1), (rd_T29 y309 x5_1).f6, (rd_T29 y309 x5_1).f7, (rd_T29 y309 x5_1).f8⟩ : S29) : List (S29))).bind fun y310 => ((some (y310.set (x5_1 : Int).toNat (⟨(rd_T29 y310 x5_1).f0, (rd_T29 y310 x5_1).f1, (rd_T29 y310 x5_1).f2, (rd_T29 y310 x5_1).f3, (rd_T29 y310 x5_1).f4, (rd_T29 y310 x5_1).f5, wrap64 ((wrap64 ((wrap64 ((wrap64 ((wrap64 ((wrap64 (x1_1 + 1)) + 1)) + 1)) + 1)) + 1)) + 1), (rd_T29 y310 x5_1).f7, (rd_T29 y310 x5_1).f8⟩ : S29) : List (S29))).bind fun y311 => ((some (y311.set (x5_1 : Int).toNat (⟨(rd_T29 y311 x5_1).f0, (rd_T29 y311 x5_1).f1, (rd_T29 y311 x5_1).f2, (rd_T29 y311 x5_1).f3, (rd_T29 y311 x5_1).f4, (rd_T29 y311 x5_1).f5, (rd_T29 y311 x5_1).f6, ((Int.tmod (wrap64 ((wrap64 ((wrap64 ((wrap64 ((wrap64 ((wrap64 ((wrap64 (x1_1 + 1)) + 1)) + 1)) + 1)) + 1)) + 1)) + 1)) 3) == 0), (rd_T29 y311 x5_1).f8⟩ : S29) : List (S29))).bind fun y312 => ((laws_markEntryS.f k1 ((rd_T29 y312 x5_1).f8) (wrap64 ((wrap64 ((wrap64 ((wrap64 ((wrap64 ((wrap64 ((wrap64 ((wrap64 (x1_1 + 1)) + 1)) + 1)) + 1)) + 1)) + 1)) + 1)) + 1))).bind fun bt314 => (laws_markMsgS.l0 k1 (y312.set (x5_1 : Int).toNat (⟨(rd_T29 y312 x5_1).f0, (rd_T29 y312 x5_1).f1, (rd_T29 y312 x5_1).f2, (rd_T29 y312 x5_1).f3, (rd_T29 y312 x5_1).f4, (rd_T29 y312 x5_1).f5, (rd_T29 y312 x5_1).f6, (rd_T29 y312 x5_1).f7, bt314.2⟩ : S29)) bt314.1 (wrap64 (x5_1 + 1))))))) = some (r1, r2) := by first | (rw [hy309]; with_reducible exact H) | (have H2_ := (Option.bind_some _ _).symm.trans H; rw [hy309]; with_reducible exact H2_) | (have H2_ := (Option.bind_some _ _).symm.trans H; with_reducible exact H2_) | with_reducible exact H | (rw [hy309]; exact H) | exact H
   have Ny309 := am hy309
   clear hy309
   obtain ⟨y310, hy310⟩ : ∃ y_ : List (S29), y_ = (y309.set (x5_1 : Int).toNat (⟨(rd_T29 y309 x5_1).f0, (rd_T29 y309 x5_1).f1, (rd_T29 y309 x5_1).f2, (rd_T29 y309 x5_1).f3, (rd_T29 y309 x5_1).f4, wrap64 ((wrap64 ((wrap64 ((wrap64 ((wrap64 (x1_1 + 1)) + 1)) + 1)) + 1)) + 1), (rd_T29 y309 x5_1).f6, (rd_T29 y309 x5_1).f7, (rd_T29 y309 x5_1).f8⟩ : S29)) := ⟨_, rfl⟩
   replace H : ((some (y310.set (x5_1 : Int).toNat (⟨(rd_T29 y310 x5_1).f0, (rd_T29 y310 x5_1).f1, (rd_T29 y310 x5_1).f2, (rd_T29 y310 x5_1).f3, (rd_T29 y310 x5_1).f4, (rd_T29 y310 x5_1).f5, wrap64 ((wrap64 ((wrap64 ((wrap64 ((wrap64 ((wrap64 (x1_1 + 1)) + 1)) + 1)) + 1)) + 1)) + 1), (rd_T29 y310 x5_1).f7, (rd_T29 y310 x5_1).f8⟩ : S29) : List (S29))).bind fun y311 => ((some (y311.set (x5_1 : Int).toNat (⟨(rd_T29 y311 x5_1).f0, (rd_T29 y311 x5_1).f1, (rd_T29 y311 x5_1).f2, (rd_T29 y311 x5_1).f3, (rd_T29 y311 x5_1).f4, (rd_T29 y311 x5_1).f5, (rd_T29 y311 x5_1).f6, ((Int.tmod (wrap64 ((wrap64 ((wrap64 ((wrap64 ((wrap64 ((wrap64 ((wrap64 (x1_1 + 1)) + 1)) + 1)) + 1)) + 1)) + 1)) + 1)) 3) == 0), (rd_T29 y311 x5_1).f8⟩ : S29) : List (S29))).bind fun y312 => ((laws_markEntryS.f k1 ((rd_T29 y312 x5_1).f8) (wrap64 ((wrap64 ((wrap64 ((wrap64 ((wrap64 ((wrap64 ((wrap64 ((wrap64 (x1_1 + 1)) + 1)) + 1)) + 1)) + 1)) + 1)) + 1)) + 1))).bind fun bt314 => (laws_markMsgS.l0 k1 (y312.set (x5_1 : Int).toNat (⟨(rd_T29 y312 x5_1).f0, (rd_T29 y312 x5_1).f1, (rd_T29 y312 x5_1).f2, (rd_T29 y312 x5_1).f3, (rd_T29 y312 x5_1).f4, (rd_T29 y312 x5_1).f5, (rd_T29 y312 x5_1).f6, (rd_T29 y312 x5_1).f7, bt314.2⟩ : S29)) bt314.1 (wrap64 (x5_1 + 1)))))) = some (r1, r2) := by first | (rw [hy310]; with_reducible exact H) | (have H2_ := (Option.bind_some _ _).symm.trans H; rw [hy310]; with_reducible exact H2_) | (have H2_ := (Option.bind_some _ _).symm.trans H; with_reducible exact H2_) | with_reducible exact H | (rw [hy310]; exact H) | exact H
   have Ny310 := am hy310
   clear hy310
   obtain ⟨y311, hy311⟩ : ∃ y_ : List (S29), y_ = (y310.set (x5_1 : Int).toNat (⟨(rd_T29 y310 x5_1).f0, (rd_T29 y310 x5_1).f1, (rd_T29 y310 x5_1).f2, (rd_T29 y310 x5_1).f3, (rd_T29 y310 x5_1).f4, (rd_T29 y310 x5_1).f5, wrap64 ((wrap64 ((wrap64 ((wrap64 ((wrap64 ((wrap64 (x1_1 + 1)) + 1)) + 1)) + 1)) + 1)) + 1), (rd_T29 y310 x5_1).f7, (rd_T29 y310 x5_1).f8⟩ : S29)) := ⟨_, rfl⟩
   replace H : ((some (y311.set (x5_1 : Int).toNat (⟨(rd_T29 y311 x5_1).f0, (rd_T29 y311 x5_1).f1, (rd_T29 y311 x5_1).f2, (rd_T29 y311 x5_1).f3, (rd_T29 y311 x5_1).f4, (rd_T29 y311 x5_1).f5, (rd_T29 y311 x5_1).f6, ((Int.tmod (wrap64 ((wrap64 ((wrap64 ((wrap64 ((wrap64 ((wrap64 ((wrap64 (x1_1 + 1)) + 1)) + 1)) + 1)) + 1)) + 1)) + 1)) 3) == 0), (rd_T29 y311 x5_1).f8⟩ : S29) : List (S29))).bind fun y312 => ((laws_markEntryS.f k1 ((rd_T29 y312 x5_1).f8) (wrap64 ((wrap64 ((wrap64 ((wrap64 ((wrap64 ((wrap64 ((wrap64 ((wrap64 (x1_1 + 1)) + 1)) + 1)) + 1)) + 1)) + 1)) + 1)) + 1))).bind fun bt314 => (laws_markMsgS.l0 k1 (y312.set (x5_1 : Int).toNat (⟨(rd_T29 y312 x5_1).f0, (rd_T29 y312 x5_1).f1, (rd_T29 y312 x5_1).f2, (rd_T29 y312 x5_1).f3, (rd_T29 y312 x5_1).f4, (rd_T29 y312 x5_1).f5, (rd_T29 y312 x5_1).f6, (rd_T29 y312 x5_1).f7, bt314.2⟩ : S29)) bt314.1 (wrap64 (x5_1 + 1))))) = some (r1, r2) := by first | (rw [hy311]; with_reducible exact H) | (have H2_ := (Option.bind_some _ _).symm.trans H; rw [hy311]; with_reducible exact H2_) | (have H2_ := (Option.bind_some _ _).symm.trans H; with_reducible exact H2_) | with_reducible exact H | (rw [hy311]; exact H) | exact H
   have Ny311 := am hy311
   clear hy311
   obtain ⟨y312, hy312⟩ : ∃ y_ : List (S29), y_ = (y311.set (x5_1 : Int).toNat (⟨(rd_T29 y311 x5_1).f0, (rd_T29 y311 x5_1).f1, (rd_T29 y311 x5_1).f2, (rd_T29 y311 x5_1).f3, (rd_T29 y311 x5_1).f4, (rd_T29 y311 x5_1).f5, (rd_T29 y311 x5_1).f6, ((Int.tmod (wrap64 ((wrap64 ((wrap64 ((wrap64 ((wrap64 ((wrap64 ((wrap64 (x1_1 + 1)) + 1)) + 1)) + 1)) + 1)) + 1)) + 1)) 3) == 0), (rd_T29 y311 x5_1).f8⟩ : S29)) := ⟨_, rfl⟩
   replace H : ((laws_markEntryS.f k1 ((rd_T29 y312 x5_1).f8) (wrap64 ((wrap64 ((wrap64 ((wrap64 ((wrap64 ((wrap64 ((wrap64 ((wrap64 (x1_1 + 1)) + 1)) + 1)) + 1)) + 1)) + 1)) + 1)) + 1))).bind fun bt314 => (laws_markMsgS.l0 k1 (y312.set (x5_1 : Int).toNat (⟨(rd_T29 y312 x5_1).f0, (rd_T29 y312 x5_1).f1, (rd_T29 y312 x5_1).f2, (rd_T29 y312 x5_1).f3, (rd_T29 y312 x5_1).f4, (rd_T29 y312 x5_1).f5, (rd_T29 y312 x5_1).f6, (rd_T29 y312 x5_1).f7, bt314.2⟩ : S29)) bt314.1 (wrap64 (x5_1 + 1)))) = some (r1, r2) := by first | (rw [hy312]; with_reducible exact H) | (have H2_ := (Option.bind_some _ _).symm.trans H; rw [hy312]; with_reducible exact H2_) | (have H2_ := (Option.bind_some _ _).symm.trans H; with_reducible exact H2_) | with_reducible exact H | (rw [hy312]; exact H) | exact H
   have Ny312 := am hy312
   clear hy312
   replace H := Option.bind_eq_some_iff.mp H
   obtain ⟨⟨t314, t314b⟩, A130, H⟩ := H
   (try dsimp only at H)
   have A13 := am A130
   clear A130
   have H' := am H
   clear H
   obtain ⟨Ao14, co14, eo14⟩ := Kd.S_slice HO_0.out
   subst eo14
   have p5 : 0 ≤ (x5_1 : Int) := of_decide_eq_true Q3
   have q5 : (x5_1 : Int) < ((x0_1.length : Int) : Int) := of_decide_eq_true Q3
   obtain ⟨go5, co5, eo5, gb5, gl5, cl5, HG5⟩ := Kd.S_form HO_0.out (by omega)
   (first | cases eo5 | (injection eo5 with ea_ en_ ec_; (first | subst ea_ | (injection ea_ with ea_; subst ea_)); subst ec_; clear en_))
   have GB5 := am gb5
   have GG5 := am HG5
   clear gb5 gl5 HG5
   have HMgo5 := am (show P0_ go5 from ((Kd.S_R HO_0.out).1 _ rfl))
   obtain ⟨_, ce5, hcl5, hM5, hcc5, hfr5, _, _⟩ := Kd.S_elem HO_0.out z29 (x5_1 : Int) p5 q5
   obtain ⟨ve5_8, rfl, ge5_8⟩ := k29_openM hM5
   have hx5_0 : wr.cell? ⟨go5, (x5_1 : Int).toNat * 9, none⟩ = some (.int .i64 ((rd_T29 x0_1 x5_1).f0)) := hcc5 0 _ rfl
   have hx5_1 : wr.cell? ⟨go5, (x5_1 : Int).toNat * 9 + 1, none⟩ = some (.int .i64 ((rd_T29 x0_1 x5_1).f1)) := hcc5 1 _ rfl
   have hx5_2 : wr.cell? ⟨go5, (x5_1 : Int).toNat * 9 + 2, none⟩ = some (.int .i64 ((rd_T29 x0_1 x5_1).f2)) := hcc5 2 _ rfl
   have hx5_3 : wr.cell? ⟨go5, (x5_1 : Int).toNat * 9 + 3, none⟩ = some (.int .i64 ((rd_T29 x0_1 x5_1).f3)) := hcc5 3 _ rfl
   have hx5_4 : wr.cell? ⟨go5, (x5_1 : Int).toNat * 9 + 4, none⟩ = some (.int .i64 ((rd_T29 x0_1 x5_1).f4)) := hcc5 4 _ rfl
   have hx5_5 : wr.cell? ⟨go5, (x5_1 : Int).toNat * 9 + 5, none⟩ = some (.int .i64 ((rd_T29 x0_1 x5_1).f5)) := hcc5 5 _ rfl
   have hx5_6 : wr.cell? ⟨go5, (x5_1 : Int).toNat * 9 + 6, none⟩ = some (.int .i64 ((rd_T29 x0_1 x5_1).f6)) := hcc5 6 _ rfl
   have hx5_7 : wr.cell? ⟨go5, (x5_1 : Int).toNat * 9 + 7, none⟩ = some (.bool ((rd_T29 x0_1 x5_1).f7)) := hcc5 7 _ rfl
   have hx5_8 : wr.cell? ⟨go5, (x5_1 : Int).toNat * 9 + 8, none⟩ = some (ve5_8) := hcc5 8 _ rfl
   have hf5_0 : wr.frozen? ⟨go5, (x5_1 : Int).toNat * 9, none⟩ = false := hfr5 0
   have hf5_1 : wr.frozen? ⟨go5, (x5_1 : Int).toNat * 9 + 1, none⟩ = false := hfr5 1
   have hf5_2 : wr.frozen? ⟨go5, (x5_1 : Int).toNat * 9 + 2, none⟩ = false := hfr5 2
   have hf5_3 : wr.frozen? ⟨go5, (x5_1 : Int).toNat * 9 + 3, none⟩ = false := hfr5 3
   have hf5_4 : wr.frozen? ⟨go5, (x5_1 : Int).toNat * 9 + 4, none⟩ = false := hfr5 4
   have hf5_5 : wr.frozen? ⟨go5, (x5_1 : Int).toNat * 9 + 5, none⟩ = false := hfr5 5
   have hf5_6 : wr.frozen? ⟨go5, (x5_1 : Int).toNat * 9 + 6, none⟩ = false := hfr5 6
   have hf5_7 : wr.frozen? ⟨go5, (x5_1 : Int).toNat * 9 + 7, none⟩ = false := hfr5 7
   have hf5_8 : wr.frozen? ⟨go5, (x5_1 : Int).toNat * 9 + 8, none⟩ = false := hfr5 8
   clear hcl5 hcc5 hfr5 hM5
   replace p5 := eq_true p5
   replace q5 := eq_true q5
   have HX15 := am (show Kd.S k29 29 wr w0.heap.size (fun k_ => ((fun k_ => P0_ k_)) k_ ∧ ¬ ((fun _ => False)) k_) (.slice (some ⟨go5, 0, none⟩) x0_1.length co14) x0_1 from u15_3)
   obtain ⟨oki15, ce15, hcl15, hM15, hcc15, hfr15, hoki15, hH15⟩ := Kd.S_elem HX15.out z29 (x5_1 : Int) (of_decide_eq_true Q3) (by have h_ : (x5_1 : Int) < ((x0_1.length : Int) : Int) := of_decide_eq_true Q3; first | exact h_ | (have e_ := (Kd.S_reads' HO_0.out).1; omega) | simpa using h_)
   obtain ⟨ve15_8, rfl, ge15_8⟩ := k29_openM hM15
   have HP15 := Kd.S_seg hH15 (of_decide_eq_true Q3) (by have h_ : (x5_1 : Int) < ((x0_1.length : Int) : Int) := of_decide_eq_true Q3; first | exact h_ | (have e_ := (Kd.S_reads' HO_0.out).1; omega) | simpa using h_) (seg := [.int .i64 x1_1]) (j := 0) (show 1 ≤ 9 from by decide) (x' := (⟨x1_1, (rd_T29 x0_1 x5_1).f1, (rd_T29 x0_1 x5_1).f2, (rd_T29 x0_1 x5_1).f3, (rd_T29 x0_1 x5_1).f4, (rd_T29 x0_1 x5_1).f5, (rd_T29 x0_1 x5_1).f6, (rd_T29 x0_1 x5_1).f7, (rd_T29 x0_1 x5_1).f8⟩ : S29)) (k29_mkM _ _ _ (⟨x1_1, (rd_T29 x0_1 x5_1).f1, (rd_T29 x0_1 x5_1).f2, (rd_T29 x0_1 x5_1).f3, (rd_T29 x0_1 x5_1).f4, (rd_T29 x0_1 x5_1).f5, (rd_T29 x0_1 x5_1).f6, (rd_T29 x0_1 x5_1).f7, (rd_T29 x0_1 x5_1).f8⟩ : S29) (Kd.R_mono ge15_8 (fun _ h_ => Or.inl h_))) (fun _ hk => hk) (fun k_ hk_ => hk_.elim)
   have hx15_0 := hcc15 0 _ rfl
   (try simp only [show (k29).sz = 9 from rfl, Nat.mul_one, Nat.add_zero] at hx15_0)
   have hf15_0 := hfr15 0
   (try simp only [show (k29).sz = 9 from rfl, Nat.mul_one, Nat.add_zero] at hf15_0)
   clear hcl15 hcc15 hfr15 hM15 hoki15 hH15
   go_wp2_with (first | ((with_reducible refine gate_store (t := 3) (p := 16) rfl ?_); refine store_event (t := 3) (p := 16) (v := ?vo_w16) (w1 := (wr.setCell ⟨go5, (x5_1 : Int).toNat * 9, none⟩ (.int .i64 x1_1))) ?hg ?ho ?hn ?hr ?_; (case ho => rfl); (case hg => rfl); (case hn => rfl); (case hr => first | (go_simp; done) | (go_simp; rfl)); intro w16 hw; have hg : wr.grownBy w16 (some go5) := (by rw [hw]; exact HP15.2); have hp_ : Kd.S k29 29 w16 w0.heap.size (fun k_ => P0_ k_) (.slice (some ⟨go5, 0, none⟩) x0_1.length co14) y305 := (by rw [hw, Ny305.out]; exact HP15.1); clear HP15; replace HO_0 := am (hp_); replace HB := am ((by rw [hw]; exact below_set (HB.out) GB5.out : Below w0.heap.size w0 w16)); replace HK := am (Kept.of_grown (S := (fun k_ => PK_ k_)) hg Q5 (fun k_ e_ => .inl (HPK.out k_ e_))); clear hg hw hp_; have p6 : 0 ≤ (x5_1 : Int) := of_decide_eq_true Q3; have q6 : (x5_1 : Int) < ((x0_1.length : Int) : Int) := of_decide_eq_true Q3; obtain ⟨_, ce6, hcl6, hM6, hcc6, hfr6, _, _⟩ := Kd.S_elem HO_0.out z29 (x5_1 : Int) p6 q6; obtain ⟨ve6_8, rfl, ge6_8⟩ := k29_openM hM6; have hx6_0 : w16.cell? ⟨go5, (x5_1 : Int).toNat * 9, none⟩ = some (.int .i64 ((rd_T29 y305 x5_1).f0)) := hcc6 0 _ rfl; have hx6_1 : w16.cell? ⟨go5, (x5_1 : Int).toNat * 9 + 1, none⟩ = some (.int .i64 ((rd_T29 y305 x5_1).f1)) := hcc6 1 _ rfl; have hx6_2 : w16.cell? ⟨go5, (x5_1 : Int).toNat * 9 + 2, none⟩ = some (.int .i64 ((rd_T29 y305 x5_1).f2)) := hcc6 2 _ rfl; have hx6_3 : w16.cell? ⟨go5, (x5_1 : Int).toNat * 9 + 3, none⟩ = some (.int .i64 ((rd_T29 y305 x5_1).f3)) := hcc6 3 _ rfl; have hx6_4 : w16.cell? ⟨go5, (x5_1 : Int).toNat * 9 + 4, none⟩ = some (.int .i64 ((rd_T29 y305 x5_1).f4)) := hcc6 4 _ rfl; have hx6_5 : w16.cell? ⟨go5, (x5_1 : Int).toNat * 9 + 5, none⟩ = some (.int .i64 ((rd_T29 y305 x5_1).f5)) := hcc6 5 _ rfl; have hx6_6 : w16.cell? ⟨go5, (x5_1 : Int).toNat * 9 + 6, none⟩ = some (.int .i64 ((rd_T29 y305 x5_1).f6)) := hcc6 6 _ rfl; have hx6_7 : w16.cell? ⟨go5, (x5_1 : Int).toNat * 9 + 7, none⟩ = some (.bool ((rd_T29 y305 x5_1).f7)) := hcc6 7 _ rfl; have hx6_8 : w16.cell? ⟨go5, (x5_1 : Int).toNat * 9 + 8, none⟩ = some (ve6_8) := hcc6 8 _ rfl; have hf6_0 : w16.frozen? ⟨go5, (x5_1 : Int).toNat * 9, none⟩ = false := hfr6 0; have hf6_1 : w16.frozen? ⟨go5, (x5_1 : Int).toNat * 9 + 1, none⟩ = false := hfr6 1; have hf6_2 : w16.frozen? ⟨go5, (x5_1 : Int).toNat * 9 + 2, none⟩ = false := hfr6 2; have hf6_3 : w16.frozen? ⟨go5, (x5_1 : Int).toNat * 9 + 3, none⟩ = false := hfr6 3; have hf6_4 : w16.frozen? ⟨go5, (x5_1 : Int).toNat * 9 + 4, none⟩ = false := hfr6 4; have hf6_5 : w16.frozen? ⟨go5, (x5_1 : Int).toNat * 9 + 5, none⟩ = false := hfr6 5; have hf6_6 : w16.frozen? ⟨go5, (x5_1 : Int).toNat * 9 + 6, none⟩ = false := hfr6 6; have hf6_7 : w16.frozen? ⟨go5, (x5_1 : Int).toNat * 9 + 7, none⟩ = false := hfr6 7; have hf6_8 : w16.frozen? ⟨go5, (x5_1 : Int).toNat * 9 + 8, none⟩ = false := hfr6 8; clear hcl6 hcc6 hfr6 hM6; replace p6 := eq_true p6; replace q6 := eq_true q6; have HX17 := am (show Kd.S k29 29 w16 w0.heap.size (fun k_ => ((fun k_ => P0_ k_)) k_ ∧ ¬ ((fun _ => False)) k_) (.slice (some ⟨go5, 0, none⟩) x0_1.length co14) y305 from u15_3); obtain ⟨oki17, ce17, hcl17, hM17, hcc17, hfr17, hoki17, hH17⟩ := Kd.S_elem HX17.out z29 (x5_1 : Int) (of_decide_eq_true Q3) (by have h_ : (x5_1 : Int) < ((x0_1.length : Int) : Int) := of_decide_eq_true Q3; first | exact h_ | (have e_ := (Kd.S_reads' HO_0.out).1; omega) | simpa using h_); obtain ⟨ve17_8, rfl, ge17_8⟩ := k29_openM hM17; have HP17 := Kd.S_seg hH17 (of_decide_eq_true Q3) (by have h_ : (x5_1 : Int) < ((x0_1.length : Int) : Int) := of_decide_eq_true Q3; first | exact h_ | (have e_ := (Kd.S_reads' HO_0.out).1; omega) | simpa using h_) (seg := [.int .i64 (wrap64 (x1_1 + 1))]) (j := 1) (show 2 ≤ 9 from by decide) (x' := (⟨(rd_T29 y305 x5_1).f0, wrap64 (x1_1 + 1), (rd_T29 y305 x5_1).f2, (rd_T29 y305 x5_1).f3, (rd_T29 y305 x5_1).f4, (rd_T29 y305 x5_1).f5, (rd_T29 y305 x5_1).f6, (rd_T29 y305 x5_1).f7, (rd_T29 y305 x5_1).f8⟩ : S29)) (k29_mkM _ _ _ (⟨(rd_T29 y305 x5_1).f0, wrap64 (x1_1 + 1), (rd_T29 y305 x5_1).f2, (rd_T29 y305 x5_1).f3, (rd_T29 y305 x5_1).f4, (rd_T29 y305 x5_1).f5, (rd_T29 y305 x5_1).f6, (rd_T29 y305 x5_1).f7, (rd_T29 y305 x5_1).f8⟩ : S29) (Kd.R_mono ge17_8 (fun _ h_ => Or.inl h_))) (fun _ hk => hk) (fun k_ hk_ => hk_.elim); have hx17_1 := hcc17 1 _ rfl; (try simp only [show (k29).sz = 9 from rfl, Nat.mul_one, Nat.add_zero] at hx17_1); have hf17_1 := hfr17 1; (try simp only [show (k29).sz = 9 from rfl, Nat.mul_one, Nat.add_zero] at hf17_1); clear hcl17 hcc17 hfr17 hM17 hoki17 hH17) | ((with_reducible refine gate_store (t := 3) (p := 23) rfl ?_); refine store_event (t := 3) (p := 23) (v := ?vo_w18) (w1 := (w16.setCell ⟨go5, (x5_1 : Int).toNat * 9 + 1, none⟩ (.int .i64 (wrap64 (x1_1 + 1))))) ?hg ?ho ?hn ?hr ?_; (case ho => rfl); (case hg => rfl); (case hn => rfl); (case hr => first | (go_simp; done) | (go_simp; rfl)); intro w18 hw; have hg : w16.grownBy w18 (some go5) := (by rw [hw]; exact HP17.2); have hp_ : Kd.S k29 29 w18 w0.heap.size (fun k_ => P0_ k_) (.slice (some ⟨go5, 0, none⟩) x0_1.length co14) y306 := (by rw [hw, Ny306.out]; exact HP17.1); clear HP17; replace HO_0 := am (hp_); replace HB := am ((by rw [hw]; exact below_set (HB.out) GB5.out : Below w0.heap.size w0 w18)); replace HK := am (Kept.of_grown (S := (fun k_ => PK_ k_)) hg Q5 (fun k_ e_ => .inl (HPK.out k_ e_))); clear hg hw hp_; have p7 : 0 ≤ (x5_1 : Int) := of_decide_eq_true Q3; have q7 : (x5_1 : Int) < ((x0_1.length : Int) : Int) := of_decide_eq_true Q3; obtain ⟨_, ce7, hcl7, hM7, hcc7, hfr7, _, _⟩ := Kd.S_elem HO_0.out z29 (x5_1 : Int) p7 q7; obtain ⟨ve7_8, rfl, ge7_8⟩ := k29_openM hM7; have hx7_0 : w18.cell? ⟨go5, (x5_1 : Int).toNat * 9, none⟩ = some (.int .i64 ((rd_T29 y306 x5_1).f0)) := hcc7 0 _ rfl; have hx7_1 : w18.cell? ⟨go5, (x5_1 : Int).toNat * 9 + 1, none⟩ = some (.int .i64 ((rd_T29 y306 x5_1).f1)) := hcc7 1 _ rfl; have hx7_2 : w18.cell? ⟨go5, (x5_1 : Int).toNat * 9 + 2, none⟩ = some (.int .i64 ((rd_T29 y306 x5_1).f2)) := hcc7 2 _ rfl; have hx7_3 : w18.cell? ⟨go5, (x5_1 : Int).toNat * 9 + 3, none⟩ = some (.int .i64 ((rd_T29 y306 x5_1).f3)) := hcc7 3 _ rfl; have hx7_4 : w18.cell? ⟨go5, (x5_1 : Int).toNat * 9 + 4, none⟩ = some (.int .i64 ((rd_T29 y306 x5_1).f4)) := hcc7 4 _ rfl; have hx7_5 : w18.cell? ⟨go5, (x5_1 : Int).toNat * 9 + 5, none⟩ = some (.int .i64 ((rd_T29 y306 x5_1).f5)) := hcc7 5 _ rfl; have hx7_6 : w18.cell? ⟨go5, (x5_1 : Int).toNat * 9 + 6, none⟩ = some (.int .i64 ((rd_T29 y306 x5_1).f6)) := hcc7 6 _ rfl; have hx7_7 : w18.cell? ⟨go5, (x5_1 : Int).toNat * 9 + 7, none⟩ = some (.bool ((rd_T29 y306 x5_1).f7)) := hcc7 7 _ rfl; have hx7_8 : w18.cell? ⟨go5, (x5_1 : Int).toNat * 9 + 8, none⟩ = some (ve7_8) := hcc7 8 _ rfl; have hf7_0 : w18.frozen? ⟨go5, (x5_1 : Int).toNat * 9, none⟩ = false := hfr7 0; have hf7_1 : w18.frozen? ⟨go5, (x5_1 : Int).toNat * 9 + 1, none⟩ = false := hfr7 1; have hf7_2 : w18.frozen? ⟨go5, (x5_1 : Int).toNat * 9 + 2, none⟩ = false := hfr7 2; have hf7_3 : w18.frozen? ⟨go5, (x5_1 : Int).toNat * 9 + 3, none⟩ = false := hfr7 3; have hf7_4 : w18.frozen? ⟨go5, (x5_1 : Int).toNat * 9 + 4, none⟩ = false := hfr7 4; have hf7_5 : w18.frozen? ⟨go5, (x5_1 : Int).toNat * 9 + 5, none⟩ = false := hfr7 5; have hf7_6 : w18.frozen? ⟨go5, (x5_1 : Int).toNat * 9 + 6, none⟩ = false := hfr7 6; have hf7_7 : w18.frozen? ⟨go5, (x5_1 : Int).toNat * 9 + 7, none⟩ = false := hfr7 7; have hf7_8 : w18.frozen? ⟨go5, (x5_1 : Int).toNat * 9 + 8, none⟩ = false := hfr7 8; clear hcl7 hcc7 hfr7 hM7; replace p7 := eq_true p7; replace q7 := eq_true q7; have HX19 := am (show Kd.S k29 29 w18 w0.heap.size (fun k_ => ((fun k_ => P0_ k_)) k_ ∧ ¬ ((fun _ => False)) k_) (.slice (some ⟨go5, 0, none⟩) x0_1.length co14) y306 from u15_3); obtain ⟨oki19, ce19, hcl19, hM19, hcc19, hfr19, hoki19, hH19⟩ := Kd.S_elem HX19.out z29 (x5_1 : Int) (of_decide_eq_true Q3) (by have h_ : (x5_1 : Int) < ((x0_1.length : Int) : Int) := of_decide_eq_true Q3; first | exact h_ | (have e_ := (Kd.S_reads' HO_0.out).1; omega) | simpa using h_); obtain ⟨ve19_8, rfl, ge19_8⟩ := k29_openM hM19; have HP19 := Kd.S_seg hH19 (of_decide_eq_true Q3) (by have h_ : (x5_1 : Int) < ((x0_1.length : Int) : Int) := of_decide_eq_true Q3; first | exact h_ | (have e_ := (Kd.S_reads' HO_0.out).1; omega) | simpa using h_) (seg := [.int .i64 (wrap64 ((wrap64 (x1_1 + 1)) + 1))]) (j := 2) (show 3 ≤ 9 from by decide) (x' := (⟨(rd_T29 y306 x5_1).f0, (rd_T29 y306 x5_1).f1, wrap64 ((wrap64 (x1_1 + 1)) + 1), (rd_T29 y306 x5_1).f3, (rd_T29 y306 x5_1).f4, (rd_T29 y306 x5_1).f5, (rd_T29 y306 x5_1).f6, (rd_T29 y306 x5_1).f7, (rd_T29 y306 x5_1).f8⟩ : S29)) (k29_mkM _ _ _ (⟨(rd_T29 y306 x5_1).f0, (rd_T29 y306 x5_1).f1, wrap64 ((wrap64 (x1_1 + 1)) + 1), (rd_T29 y306 x5_1).f3, (rd_T29 y306 x5_1).f4, (rd_T29 y306 x5_1).f5, (rd_T29 y306 x5_1).f6, (rd_T29 y306 x5_1).f7, (rd_T29 y306 x5_1).f8⟩ : S29) (Kd.R_mono ge19_8 (fun _ h_ => Or.inl h_))) (fun _ hk => hk) (fun k_ hk_ => hk_.elim); have hx19_2 := hcc19 2 _ rfl; (try simp only [show (k29).sz = 9 from rfl, Nat.mul_one, Nat.add_zero] at hx19_2); have hf19_2 := hfr19 2; (try simp only [show (k29).sz = 9 from rfl, Nat.mul_one, Nat.add_zero] at hf19_2); clear hcl19 hcc19 hfr19 hM19 hoki19 hH19) | ((with_reducible refine gate_store (t := 3) (p := 30) rfl ?_); refine store_event (t := 3) (p := 30) (v := ?vo_w20) (w1 := (w18.setCell ⟨go5, (x5_1 : Int).toNat * 9 + 2, none⟩ (.int .i64 (wrap64 ((wrap64 (x1_1 + 1)) + 1))))) ?hg ?ho ?hn ?hr ?_; (case ho => rfl); (case hg => rfl); (case hn => rfl); (case hr => first | (go_simp; done) | (go_simp; rfl)); intro w20 hw; have hg : w18.grownBy w20 (some go5) := (by rw [hw]; exact HP19.2); have hp_ : Kd.S k29 29 w20 w0.heap.size (fun k_ => P0_ k_) (.slice (some ⟨go5, 0, none⟩) x0_1.length co14) y307 := (by rw [hw, Ny307.out]; exact HP19.1); clear HP19; replace HO_0 := am (hp_); replace HB := am ((by rw [hw]; exact below_set (HB.out) GB5.out : Below w0.heap.size w0 w20)); replace HK := am (Kept.of_grown (S := (fun k_ => PK_ k_)) hg Q5 (fun k_ e_ => .inl (HPK.out k_ e_))); clear hg hw hp_; have p8 : 0 ≤ (x5_1 : Int) := of_decide_eq_true Q3; have q8 : (x5_1 : Int) < ((x0_1.length : Int) : Int) := of_decide_eq_true Q3; obtain ⟨_, ce8, hcl8, hM8, hcc8, hfr8, _, _⟩ := Kd.S_elem HO_0.out z29 (x5_1 : Int) p8 q8; obtain ⟨ve8_8, rfl, ge8_8⟩ := k29_openM hM8; have hx8_0 : w20.cell? ⟨go5, (x5_1 : Int).toNat * 9, none⟩ = some (.int .i64 ((rd_T29 y307 x5_1).f0)) := hcc8 0 _ rfl; have hx8_1 : w20.cell? ⟨go5, (x5_1 : Int).toNat * 9 + 1, none⟩ = some (.int .i64 ((rd_T29 y307 x5_1).f1)) := hcc8 1 _ rfl; have hx8_2 : w20.cell? ⟨go5, (x5_1 : Int).toNat * 9 + 2, none⟩ = some (.int .i64 ((rd_T29 y307 x5_1).f2)) := hcc8 2 _ rfl; have hx8_3 : w20.cell? ⟨go5, (x5_1 : Int).toNat * 9 + 3, none⟩ = some (.int .i64 ((rd_T29 y307 x5_1).f3)) := hcc8 3 _ rfl; have hx8_4 : w20.cell? ⟨go5, (x5_1 : Int).toNat * 9 + 4, none⟩ = some (.int .i64 ((rd_T29 y307 x5_1).f4)) := hcc8 4 _ rfl; have hx8_5 : w20.cell? ⟨go5, (x5_1 : Int).toNat * 9 + 5, none⟩ = some (.int .i64 ((rd_T29 y307 x5_1).f5)) := hcc8 5 _ rfl; have hx8_6 : w20.cell? ⟨go5, (x5_1 : Int).toNat * 9 + 6, none⟩ = some (.int .i64 ((rd_T29 y307 x5_1).f6)) := hcc8 6 _ rfl; have hx8_7 : w20.cell? ⟨go5, (x5_1 : Int).toNat * 9 + 7, none⟩ = some (.bool ((rd_T29 y307 x5_1).f7)) := hcc8 7 _ rfl; have hx8_8 : w20.cell? ⟨go5, (x5_1 : Int).toNat * 9 + 8, none⟩ = some (ve8_8) := hcc8 8 _ rfl; have hf8_0 : w20.frozen? ⟨go5, (x5_1 : Int).toNat * 9, none⟩ = false := hfr8 0; have hf8_1 : w20.frozen? ⟨go5, (x5_1 : Int).toNat * 9 + 1, none⟩ = false := hfr8 1; have hf8_2 : w20.frozen? ⟨go5, (x5_1 : Int).toNat * 9 + 2, none⟩ = false := hfr8 2; have hf8_3 : w20.frozen? ⟨go5, (x5_1 : Int).toNat * 9 + 3, none⟩ = false := hfr8 3; have hf8_4 : w20.frozen? ⟨go5, (x5_1 : Int).toNat * 9 + 4, none⟩ = false := hfr8 4; have hf8_5 : w20.frozen? ⟨go5, (x5_1 : Int).toNat * 9 + 5, none⟩ = false := hfr8 5; have hf8_6 : w20.frozen? ⟨go5, (x5_1 : Int).toNat * 9 + 6, none⟩ = false := hfr8 6; have hf8_7 : w20.frozen? ⟨go5, (x5_1 : Int).toNat * 9 + 7, none⟩ = false := hfr8 7; have hf8_8 : w20.frozen? ⟨go5, (x5_1 : Int).toNat * 9 + 8, none⟩ = false := hfr8 8; clear hcl8 hcc8 hfr8 hM8; replace p8 := eq_true p8; replace q8 := eq_true q8; have HX21 := am (show Kd.S k29 29 w20 w0.heap.size (fun k_ => ((fun k_ => P0_ k_)) k_ ∧ ¬ ((fun _ => False)) k_) (.slice (some ⟨go5, 0, none⟩) x0_1.length co14) y307 from u15_3); obtain ⟨oki21, ce21, hcl21, hM21, hcc21, hfr21, hoki21, hH21⟩ := Kd.S_elem HX21.out z29 (x5_1 : Int) (of_decide_eq_true Q3) (by have h_ : (x5_1 : Int) < ((x0_1.length : Int) : Int) := of_decide_eq_true Q3; first | exact h_ | (have e_ := (Kd.S_reads' HO_0.out).1; omega) | simpa using h_); obtain ⟨ve21_8, rfl, ge21_8⟩ := k29_openM hM21; have HP21 := Kd.S_seg hH21 (of_decide_eq_true Q3) (by have h_ : (x5_1 : Int) < ((x0_1.length : Int) : Int) := of_decide_eq_true Q3; first | exact h_ | (have e_ := (Kd.S_reads' HO_0.out).1; omega) | simpa using h_) (seg := [.int .i64 (wrap64 ((wrap64 ((wrap64 (x1_1 + 1)) + 1)) + 1))]) (j := 3) (show 4 ≤ 9 from by decide) (x' := (⟨(rd_T29 y307 x5_1).f0, (rd_T29 y307 x5_1).f1, (rd_T29 y307 x5_1).f2, wrap64 ((wrap64 ((wrap64 (x1_1 + 1)) + 1)) + 1), (rd_T29 y307 x5_1).f4, (rd_T29 y307 x5_1).f5, (rd_T29 y307 x5_1).f6, (rd_T29 y307 x5_1).f7, (rd_T29 y307 x5_1).f8⟩ : S29)) (k29_mkM _ _ _ (⟨(rd_T29 y307 x5_1).f0, (rd_T29 y307 x5_1).f1, (rd_T29 y307 x5_1).f2, wrap64 ((wrap64 ((wrap64 (x1_1 + 1)) + 1)) + 1), (rd_T29 y307 x5_1).f4, (rd_T29 y307 x5_1).f5, (rd_T29 y307 x5_1).f6, (rd_T29 y307 x5_1).f7, (rd_T29 y307 x5_1).f8⟩ : S29) (Kd.R_mono ge21_8 (fun _ h_ => Or.inl h_))) (fun _ hk => hk) (fun k_ hk_ => hk_.elim); have hx21_3 := hcc21 3 _ rfl; (try simp only [show (k29).sz = 9 from rfl, Nat.mul_one, Nat.add_zero] at hx21_3); have hf21_3 := hfr21 3; (try simp only [show (k29).sz = 9 from rfl, Nat.mul_one, Nat.add_zero] at hf21_3); clear hcl21 hcc21 hfr21 hM21 hoki21 hH21) | ((with_reducible refine gate_store (t := 3) (p := 37) rfl ?_); refine store_event (t := 3) (p := 37) (v := ?vo_w22) (w1 := (w20.setCell ⟨go5, (x5_1 : Int).toNat * 9 + 3, none⟩ (.int .i64 (wrap64 ((wrap64 ((wrap64 (x1_1 + 1)) + 1)) + 1))))) ?hg ?ho ?hn ?hr ?_; (case ho => rfl); (case hg => rfl); (case hn => rfl); (case hr => first | (go_simp; done) | (go_simp; rfl)); intro w22 hw; have hg : w20.grownBy w22 (some go5) := (by rw [hw]; exact HP21.2); have hp_ : Kd.S k29 29 w22 w0.heap.size (fun k_ => P0_ k_) (.slice (some ⟨go5, 0, none⟩) x0_1.length co14) y308 := (by rw [hw, Ny308.out]; exact HP21.1); clear HP21; replace HO_0 := am (hp_); replace HB := am ((by rw [hw]; exact below_set (HB.out) GB5.out : Below w0.heap.size w0 w22)); replace HK := am (Kept.of_grown (S := (fun k_ => PK_ k_)) hg Q5 (fun k_ e_ => .inl (HPK.out k_ e_))); clear hg hw hp_; have p9 : 0 ≤ (x5_1 : Int) := of_decide_eq_true Q3; have q9 : (x5_1 : Int) < ((x0_1.length : Int) : Int) := of_decide_eq_true Q3; obtain ⟨_, ce9, hcl9, hM9, hcc9, hfr9, _, _⟩ := Kd.S_elem HO_0.out z29 (x5_1 : Int) p9 q9; obtain ⟨ve9_8, rfl, ge9_8⟩ := k29_openM hM9; have hx9_0 : w22.cell? ⟨go5, (x5_1 : Int).toNat * 9, none⟩ = some (.int .i64 ((rd_T29 y308 x5_1).f0)) := hcc9 0 _ rfl; have hx9_1 : w22.cell? ⟨go5, (x5_1 : Int).toNat * 9 + 1, none⟩ = some (.int .i64 ((rd_T29 y308 x5_1).f1)) := hcc9 1 _ rfl; have hx9_2 : w22.cell? ⟨go5, (x5_1 : Int).toNat * 9 + 2, none⟩ = some (.int .i64 ((rd_T29 y308 x5_1).f2)) := hcc9 2 _ rfl; have hx9_3 : w22.cell? ⟨go5, (x5_1 : Int).toNat * 9 + 3, none⟩ = some (.int .i64 ((rd_T29 y308 x5_1).f3)) := hcc9 3 _ rfl; have hx9_4 : w22.cell? ⟨go5, (x5_1 : Int).toNat * 9 + 4, none⟩ = some (.int .i64 ((rd_T29 y308 x5_1).f4)) := hcc9 4 _ rfl; have hx9_5 : w22.cell? ⟨go5, (x5_1 : Int).toNat * 9 + 5, none⟩ = some (.int .i64 ((rd_T29 y308 x5_1).f5)) := hcc9 5 _ rfl; have hx9_6 : w22.cell? ⟨go5, (x5_1 : Int).toNat * 9 + 6, none⟩ = some (.int .i64 ((rd_T29 y308 x5_1).f6)) := hcc9 6 _ rfl; have hx9_7 : w22.cell? ⟨go5, (x5_1 : Int).toNat * 9 + 7, none⟩ = some (.bool ((rd_T29 y308 x5_1).f7)) := hcc9 7 _ rfl; have hx9_8 : w22.cell? ⟨go5, (x5_1 : Int).toNat * 9 + 8, none⟩ = some (ve9_8) := hcc9 8 _ rfl; have hf9_0 : w22.frozen? ⟨go5, (x5_1 : Int).toNat * 9, none⟩ = false := hfr9 0; have hf9_1 : w22.frozen? ⟨go5, (x5_1 : Int).toNat * 9 + 1, none⟩ = false := hfr9 1; have hf9_2 : w22.frozen? ⟨go5, (x5_1 : Int).toNat * 9 + 2, none⟩ = false := hfr9 2; have hf9_3 : w22.frozen? ⟨go5, (x5_1 : Int).toNat * 9 + 3, none⟩ = false := hfr9 3; have hf9_4 : w22.frozen? ⟨go5, (x5_1 : Int).toNat * 9 + 4, none⟩ = false := hfr9 4; have hf9_5 : w22.frozen? ⟨go5, (x5_1 : Int).toNat * 9 + 5, none⟩ = false := hfr9 5; have hf9_6 : w22.frozen? ⟨go5, (x5_1 : Int).toNat * 9 + 6, none⟩ = false := hfr9 6; have hf9_7 : w22.frozen? ⟨go5, (x5_1 : Int).toNat * 9 + 7, none⟩ = false := hfr9 7; have hf9_8 : w22.frozen? ⟨go5, (x5_1 : Int).toNat * 9 + 8, none⟩ = false := hfr9 8; clear hcl9 hcc9 hfr9 hM9; replace p9 := eq_true p9; replace q9 := eq_true q9; have HX23 := am (show Kd.S k29 29 w22 w0.heap.size (fun k_ => ((fun k_ => P0_ k_)) k_ ∧ ¬ ((fun _ => False)) k_) (.slice (some ⟨go5, 0, none⟩) x0_1.length co14) y308 from u15_3); obtain ⟨oki23, ce23, hcl23, hM23, hcc23, hfr23, hoki23, hH23⟩ := Kd.S_elem HX23.out z29 (x5_1 : Int) (of_decide_eq_true Q3) (by have h_ : (x5_1 : Int) < ((x0_1.length : Int) : Int) := of_decide_eq_true Q3; first | exact h_ | (have e_ := (Kd.S_reads' HO_0.out).1; omega) | simpa using h_); obtain ⟨ve23_8, rfl, ge23_8⟩ := k29_openM hM23; have HP23 := Kd.S_seg hH23 (of_decide_eq_true Q3) (by have h_ : (x5_1 : Int) < ((x0_1.length : Int) : Int) := of_decide_eq_true Q3; first | exact h_ | (have e_ := (Kd.S_reads' HO_0.out).1; omega) | simpa using h_) (seg := [.int .i64 (wrap64 ((wrap64 ((wrap64 ((wrap64 (x1_1 + 1)) + 1)) + 1)) + 1))]) (j := 4) (show 5 ≤ 9 from by decide) (x' := (⟨(rd_T29 y308 x5_1).f0, (rd_T29 y308 x5_1).f1, (rd_T29 y308 x5_1).f2, (rd_T29 y308 x5_1).f3, wrap64 ((wrap64 ((wrap64 ((wrap64 (x1_1 + 1)) + 1)) + 1)) + 1), (rd_T29 y308 x5_1).f5, (rd_T29 y308 x5_1).f6, (rd_T29 y308 x5_1).f7, (rd_T29 y308 x5_1).f8⟩ : S29)) (k29_mkM _ _ _ (⟨(rd_T29 y308 x5_1).f0, (rd_T29 y308 x5_1).f1, (rd_T29 y308 x5_1).f2, (rd_T29 y308 x5_1).f3, wrap64 ((wrap64 ((wrap64 ((wrap64 (x1_1 + 1)) + 1)) + 1)) + 1), (rd_T29 y308 x5_1).f5, (rd_T29 y308 x5_1).f6, (rd_T29 y308 x5_1).f7, (rd_T29 y308 x5_1).f8⟩ : S29) (Kd.R_mono ge23_8 (fun _ h_ => Or.inl h_))) (fun _ hk => hk) (fun k_ hk_ => hk_.elim); have hx23_4 := hcc23 4 _ rfl; (try simp only [show (k29).sz = 9 from rfl, Nat.mul_one, Nat.add_zero] at hx23_4); have hf23_4 := hfr23 4; (try simp only [show (k29).sz = 9 from rfl, Nat.mul_one, Nat.add_zero] at hf23_4); clear hcl23 hcc23 hfr23 hM23 hoki23 hH23) | ((with_reducible refine gate_store (t := 3) (p := 44) rfl ?_); refine store_event (t := 3) (p := 44) (v := ?vo_w24) (w1 := (w22.setCell ⟨go5, (x5_1 : Int).toNat * 9 + 4, none⟩ (.int .i64 (wrap64 ((wrap64 ((wrap64 ((wrap64 (x1_1 + 1)) + 1)) + 1)) + 1))))) ?hg ?ho ?hn ?hr ?_; (case ho => rfl); (case hg => rfl); (case hn => rfl); (case hr => first | (go_simp; done) | (go_simp; rfl)); intro w24 hw; have hg : w22.grownBy w24 (some go5) := (by rw [hw]; exact HP23.2); have hp_ : Kd.S k29 29 w24 w0.heap.size (fun k_ => P0_ k_) (.slice (some ⟨go5, 0, none⟩) x0_1.length co14) y309 := (by rw [hw, Ny309.out]; exact HP23.1); clear HP23; replace HO_0 := am (hp_); replace HB := am ((by rw [hw]; exact below_set (HB.out) GB5.out : Below w0.heap.size w0 w24)); replace HK := am (Kept.of_grown (S := (fun k_ => PK_ k_)) hg Q5 (fun k_ e_ => .inl (HPK.out k_ e_))); clear hg hw hp_; have p10 : 0 ≤ (x5_1 : Int) := of_decide_eq_true Q3; have q10 : (x5_1 : Int) < ((x0_1.length : Int) : Int) := of_decide_eq_true Q3; obtain ⟨_, ce10, hcl10, hM10, hcc10, hfr10, _, _⟩ := Kd.S_elem HO_0.out z29 (x5_1 : Int) p10 q10; obtain ⟨ve10_8, rfl, ge10_8⟩ := k29_openM hM10; have hx10_0 : w24.cell? ⟨go5, (x5_1 : Int).toNat * 9, none⟩ = some (.int .i64 ((rd_T29 y309 x5_1).f0)) := hcc10 0 _ rfl; have hx10_1 : w24.cell? ⟨go5, (x5_1 : Int).toNat * 9 + 1, none⟩ = some (.int .i64 ((rd_T29 y309 x5_1).f1)) := hcc10 1 _ rfl; have hx10_2 : w24.cell? ⟨go5, (x5_1 : Int).toNat * 9 + 2, none⟩ = some (.int .i64 ((rd_T29 y309 x5_1).f2)) := hcc10 2 _ rfl; have hx10_3 : w24.cell? ⟨go5, (x5_1 : Int).toNat * 9 + 3, none⟩ = some (.int .i64 ((rd_T29 y309 x5_1).f3)) := hcc10 3 _ rfl; have hx10_4 : w24.cell? ⟨go5, (x5_1 : Int).toNat * 9 + 4, none⟩ = some (.int .i64 ((rd_T29 y309 x5_1).f4)) := hcc10 4 _ rfl; have hx10_5 : w24.cell? ⟨go5, (x5_1 : Int).toNat * 9 + 5, none⟩ = some (.int .i64 ((rd_T29 y309 x5_1).f5)) := hcc10 5 _ rfl; have hx10_6 : w24.cell? ⟨go5, (x5_1 : Int).toNat * 9 + 6, none⟩ = some (.int .i64 ((rd_T29 y309 x5_1).f6)) := hcc10 6 _ rfl; have hx10_7 : w24.cell? ⟨go5, (x5_1 : Int).toNat * 9 + 7, none⟩ = some (.bool ((rd_T29 y309 x5_1).f7)) := hcc10 7 _ rfl; have hx10_8 : w24.cell? ⟨go5, (x5_1 : Int).toNat * 9 + 8, none⟩ = some (ve10_8) := hcc10 8 _ rfl; have hf10_0 : w24.frozen? ⟨go5, (x5_1 : Int).toNat * 9, none⟩ = false := hfr10 0; have hf10_1 : w24.frozen? ⟨go5, (x5_1 : Int).toNat * 9 + 1, none⟩ = false := hfr10 1; have hf10_2 : w24.frozen? ⟨go5, (x5_1 : Int).toNat * 9 + 2, none⟩ = false := hfr10 2; have hf10_3 : w24.frozen? ⟨go5, (x5_1 : Int).toNat * 9 + 3, none⟩ = false := hfr10 3; have hf10_4 : w24.frozen? ⟨go5, (x5_1 : Int).toNat * 9 + 4, none⟩ = false := hfr10 4; have hf10_5 : w24.frozen? ⟨go5, (x5_1 : Int).toNat * 9 + 5, none⟩ = false := hfr10 5; have hf10_6 : w24.frozen? ⟨go5, (x5_1 : Int).toNat * 9 + 6, none⟩ = false := hfr10 6; have hf10_7 : w24.frozen? ⟨go5, (x5_1 : Int).toNat * 9 + 7, none⟩ = false := hfr10 7; have hf10_8 : w24.frozen? ⟨go5, (x5_1 : Int).toNat * 9 + 8, none⟩ = false := hfr10 8; clear hcl10 hcc10 hfr10 hM10; replace p10 := eq_true p10; replace q10 := eq_true q10; have HX25 := am (show Kd.S k29 29 w24 w0.heap.size (fun k_ => ((fun k_ => P0_ k_)) k_ ∧ ¬ ((fun _ => False)) k_) (.slice (some ⟨go5, 0, none⟩) x0_1.length co14) y309 from u15_3); obtain ⟨oki25, ce25, hcl25, hM25, hcc25, hfr25, hoki25, hH25⟩ := Kd.S_elem HX25.out z29 (x5_1 : Int) (of_decide_eq_true Q3) (by have h_ : (x5_1 : Int) < ((x0_1.length : Int) : Int) := of_decide_eq_true Q3; first | exact h_ | (have e_ := (Kd.S_reads' HO_0.out).1; omega) | simpa using h_); obtain ⟨ve25_8, rfl, ge25_8⟩ := k29_openM hM25; have HP25 := Kd.S_seg hH25 (of_decide_eq_true Q3) (by have h_ : (x5_1 : Int) < ((x0_1.length : Int) : Int) := of_decide_eq_true Q3; first | exact h_ | (have e_ := (Kd.S_reads' HO_0.out).1; omega) | simpa using h_) (seg := [.int .i64 (wrap64 ((wrap64 ((wrap64 ((wrap64 ((wrap64 (x1_1 + 1)) + 1)) + 1)) + 1)) + 1))]) (j := 5) (show 6 ≤ 9 from by decide) (x' := (⟨(rd_T29 y309 x5_1).f0, (rd_T29 y309 x5_1).f1, (rd_T29 y309 x5_1).f2, (rd_T29 y309 x5_1).f3, (rd_T29 y309 x5_1).f4, wrap64 ((wrap64 ((wrap64 ((wrap64 ((wrap64 (x1_1 + 1)) + 1)) + 1)) + 1)) + 1), (rd_T29 y309 x5_1).f6, (rd_T29 y309 x5_1).f7, (rd_T29 y309 x5_1).f8⟩ : S29)) (k29_mkM _ _ _ (⟨(rd_T29 y309 x5_1).f0, (rd_T29 y309 x5_1).f1, (rd_T29 y309 x5_1).f2, (rd_T29 y309 x5_1).f3, (rd_T29 y309 x5_1).f4, wrap64 ((wrap64 ((wrap64 ((wrap64 ((wrap64 (x1_1 + 1)) + 1)) + 1)) + 1)) + 1), (rd_T29 y309 x5_1).f6, (rd_T29 y309 x5_1).f7, (rd_T29 y309 x5_1).f8⟩ : S29) (Kd.R_mono ge25_8 (fun _ h_ => Or.inl h_))) (fun _ hk => hk) (fun k_ hk_ => hk_.elim); have hx25_5 := hcc25 5 _ rfl; (try simp only [show (k29).sz = 9 from rfl, Nat.mul_one, Nat.add_zero] at hx25_5); have hf25_5 := hfr25 5; (try simp only [show (k29).sz = 9 from rfl, Nat.mul_one, Nat.add_zero] at hf25_5); clear hcl25 hcc25 hfr25 hM25 hoki25 hH25) | ((with_reducible refine gate_store (t := 3) (p := 51) rfl ?_); refine store_event (t := 3) (p := 51) (v := ?vo_w26) (w1 := (w24.setCell ⟨go5, (x5_1 : Int).toNat * 9 + 5, none⟩ (.int .i64 (wrap64 ((wrap64 ((wrap64 ((wrap64 ((wrap64 (x1_1 + 1)) + 1)) + 1)) + 1)) + 1))))) ?hg ?ho ?hn ?hr ?_; (case ho => rfl); (case hg => rfl); (case hn => rfl); (case hr => first | (go_simp; done) | (go_simp; rfl)); intro w26 hw; have hg : w24.grownBy w26 (some go5) := (by rw [hw]; exact HP25.2); have hp_ : Kd.S k29 29 w26 w0.heap.size (fun k_ => P0_ k_) (.slice (some ⟨go5, 0, none⟩) x0_1.length co14) y310 := (by rw [hw, Ny310.out]; exact HP25.1); clear HP25; replace HO_0 := am (hp_); replace HB := am ((by rw [hw]; exact below_set (HB.out) GB5.out : Below w0.heap.size w0 w26)); replace HK := am (Kept.of_grown (S := (fun k_ => PK_ k_)) hg Q5 (fun k_ e_ => .inl (HPK.out k_ e_))); clear hg hw hp_; have p11 : 0 ≤ (x5_1 : Int) := of_decide_eq_true Q3; have q11 : (x5_1 : Int) < ((x0_1.length : Int) : Int) := of_decide_eq_true Q3; obtain ⟨_, ce11, hcl11, hM11, hcc11, hfr11, _, _⟩ := Kd.S_elem HO_0.out z29 (x5_1 : Int) p11 q11; obtain ⟨ve11_8, rfl, ge11_8⟩ := k29_openM hM11; have hx11_0 : w26.cell? ⟨go5, (x5_1 : Int).toNat * 9, none⟩ = some (.int .i64 ((rd_T29 y310 x5_1).f0)) := hcc11 0 _ rfl; have hx11_1 : w26.cell? ⟨go5, (x5_1 : Int).toNat * 9 + 1, none⟩ = some (.int .i64 ((rd_T29 y310 x5_1).f1)) := hcc11 1 _ rfl; have hx11_2 : w26.cell? ⟨go5, (x5_1 : Int).toNat * 9 + 2, none⟩ = some (.int .i64 ((rd_T29 y310 x5_1).f2)) := hcc11 2 _ rfl; have hx11_3 : w26.cell? ⟨go5, (x5_1 : Int).toNat * 9 + 3, none⟩ = some (.int .i64 ((rd_T29 y310 x5_1).f3)) := hcc11 3 _ rfl; have hx11_4 : w26.cell? ⟨go5, (x5_1 : Int).toNat * 9 + 4, none⟩ = some (.int .i64 ((rd_T29 y310 x5_1).f4)) := hcc11 4 _ rfl; have hx11_5 : w26.cell? ⟨go5, (x5_1 : Int).toNat * 9 + 5, none⟩ = some (.int .i64 ((rd_T29 y310 x5_1).f5)) := hcc11 5 _ rfl; have hx11_6 : w26.cell? ⟨go5, (x5_1 : Int).toNat * 9 + 6, none⟩ = some (.int .i64 ((rd_T29 y310 x5_1).f6)) := hcc11 6 _ rfl; have hx11_7 : w26.cell? ⟨go5, (x5_1 : Int).toNat * 9 + 7, none⟩ = some (.bool ((rd_T29 y310 x5_1).f7)) := hcc11 7 _ rfl; have hx11_8 : w26.cell? ⟨go5, (x5_1 : Int).toNat * 9 + 8, none⟩ = some (ve11_8) := hcc11 8 _ rfl; have hf11_0 : w26.frozen? ⟨go5, (x5_1 : Int).toNat * 9, none⟩ = false := hfr11 0; have hf11_1 : w26.frozen? ⟨go5, (x5_1 : Int).toNat * 9 + 1, none⟩ = false := hfr11 1; have hf11_2 : w26.frozen? ⟨go5, (x5_1 : Int).toNat * 9 + 2, none⟩ = false := hfr11 2; have hf11_3 : w26.frozen? ⟨go5, (x5_1 : Int).toNat * 9 + 3, none⟩ = false := hfr11 3; have hf11_4 : w26.frozen? ⟨go5, (x5_1 : Int).toNat * 9 + 4, none⟩ = false := hfr11 4; have hf11_5 : w26.frozen? ⟨go5, (x5_1 : Int).toNat * 9 + 5, none⟩ = false := hfr11 5; have hf11_6 : w26.frozen? ⟨go5, (x5_1 : Int).toNat * 9 + 6, none⟩ = false := hfr11 6; have hf11_7 : w26.frozen? ⟨go5, (x5_1 : Int).toNat * 9 + 7, none⟩ = false := hfr11 7; have hf11_8 : w26.frozen? ⟨go5, (x5_1 : Int).toNat * 9 + 8, none⟩ = false := hfr11 8; clear hcl11 hcc11 hfr11 hM11; replace p11 := eq_true p11; replace q11 := eq_true q11; have HX27 := am (show Kd.S k29 29 w26 w0.heap.size (fun k_ => ((fun k_ => P0_ k_)) k_ ∧ ¬ ((fun _ => False)) k_) (.slice (some ⟨go5, 0, none⟩) x0_1.length co14) y310 from u15_3); obtain ⟨oki27, ce27, hcl27, hM27, hcc27, hfr27, hoki27, hH27⟩ := Kd.S_elem HX27.out z29 (x5_1 : Int) (of_decide_eq_true Q3) (by have h_ : (x5_1 : Int) < ((x0_1.length : Int) : Int) := of_decide_eq_true Q3; first | exact h_ | (have e_ := (Kd.S_reads' HO_0.out).1; omega) | simpa using h_); obtain ⟨ve27_8, rfl, ge27_8⟩ := k29_openM hM27; have HP27 := Kd.S_seg hH27 (of_decide_eq_true Q3) (by have h_ : (x5_1 : Int) < ((x0_1.length : Int) : Int) := of_decide_eq_true Q3; first | exact h_ | (have e_ := (Kd.S_reads' HO_0.out).1; omega) | simpa using h_) (seg := [.int .i64 (wrap64 ((wrap64 ((wrap64 ((wrap64 ((wrap64 ((wrap64 (x1_1 + 1)) + 1)) + 1)) + 1)) + 1)) + 1))]) (j := 6) (show 7 ≤ 9 from by decide) (x' := (⟨(rd_T29 y310 x5_1).f0, (rd_T29 y310 x5_1).f1, (rd_T29 y310 x5_1).f2, (rd_T29 y310 x5_1).f3, (rd_T29 y310 x5_1).f4, (rd_T29 y310 x5_1).f5, wrap64 ((wrap64 ((wrap64 ((wrap64 ((wrap64 ((wrap64 (x1_1 + 1)) + 1)) + 1)) + 1)) + 1)) + 1), (rd_T29 y310 x5_1).f7, (rd_T29 y310 x5_1).f8⟩ : S29)) (k29_mkM _ _ _ (⟨(rd_T29 y310 x5_1).f0, (rd_T29 y310 x5_1).f1, (rd_T29 y310 x5_1).f2, (rd_T29 y310 x5_1).f3, (rd_T29 y310 x5_1).f4, (rd_T29 y310 x5_1).f5, wrap64 ((wrap64 ((wrap64 ((wrap64 ((wrap64 ((wrap64 (x1_1 + 1)) + 1)) + 1)) + 1)) + 1)) + 1), (rd_T29 y310 x5_1).f7, (rd_T29 y310 x5_1).f8⟩ : S29) (Kd.R_mono ge27_8 (fun _ h_ => Or.inl h_))) (fun _ hk => hk) (fun k_ hk_ => hk_.elim); have hx27_6 := hcc27 6 _ rfl; (try simp only [show (k29).sz = 9 from rfl, Nat.mul_one, Nat.add_zero] at hx27_6); have hf27_6 := hfr27 6; (try simp only [show (k29).sz = 9 from rfl, Nat.mul_one, Nat.add_zero] at hf27_6); clear hcl27 hcc27 hfr27 hM27 hoki27 hH27) | ((with_reducible refine gate_store (t := 3) (p := 58) rfl ?_); refine store_event (t := 3) (p := 58) (v := ?vo_w28) (w1 := (w26.setCell ⟨go5, (x5_1 : Int).toNat * 9 + 6, none⟩ (.int .i64 (wrap64 ((wrap64 ((wrap64 ((wrap64 ((wrap64 ((wrap64 (x1_1 + 1)) + 1)) + 1)) + 1)) + 1)) + 1))))) ?hg ?ho ?hn ?hr ?_; (case ho => rfl); (case hg => rfl); (case hn => rfl); (case hr => first | (go_simp; done) | (go_simp; rfl)); intro w28 hw; have hg : w26.grownBy w28 (some go5) := (by rw [hw]; exact HP27.2); have hp_ : Kd.S k29 29 w28 w0.heap.size (fun k_ => P0_ k_) (.slice (some ⟨go5, 0, none⟩) x0_1.length co14) y311 := (by rw [hw, Ny311.out]; exact HP27.1); clear HP27; replace HO_0 := am (hp_); replace HB := am ((by rw [hw]; exact below_set (HB.out) GB5.out : Below w0.heap.size w0 w28)); replace HK := am (Kept.of_grown (S := (fun k_ => PK_ k_)) hg Q5 (fun k_ e_ => .inl (HPK.out k_ e_))); clear hg hw hp_; have p12 : 0 ≤ (x5_1 : Int) := of_decide_eq_true Q3; have q12 : (x5_1 : Int) < ((x0_1.length : Int) : Int) := of_decide_eq_true Q3; obtain ⟨_, ce12, hcl12, hM12, hcc12, hfr12, _, _⟩ := Kd.S_elem HO_0.out z29 (x5_1 : Int) p12 q12; obtain ⟨ve12_8, rfl, ge12_8⟩ := k29_openM hM12; have hx12_0 : w28.cell? ⟨go5, (x5_1 : Int).toNat * 9, none⟩ = some (.int .i64 ((rd_T29 y311 x5_1).f0)) := hcc12 0 _ rfl; have hx12_1 : w28.cell? ⟨go5, (x5_1 : Int).toNat * 9 + 1, none⟩ = some (.int .i64 ((rd_T29 y311 x5_1).f1)) := hcc12 1 _ rfl; have hx12_2 : w28.cell? ⟨go5, (x5_1 : Int).toNat * 9 + 2, none⟩ = some (.int .i64 ((rd_T29 y311 x5_1).f2)) := hcc12 2 _ rfl; have hx12_3 : w28.cell? ⟨go5, (x5_1 : Int).toNat * 9 + 3, none⟩ = some (.int .i64 ((rd_T29 y311 x5_1).f3)) := hcc12 3 _ rfl; have hx12_4 : w28.cell? ⟨go5, (x5_1 : Int).toNat * 9 + 4, none⟩ = some (.int .i64 ((rd_T29 y311 x5_1).f4)) := hcc12 4 _ rfl; have hx12_5 : w28.cell? ⟨go5, (x5_1 : Int).toNat * 9 + 5, none⟩ = some (.int .i64 ((rd_T29 y311 x5_1).f5)) := hcc12 5 _ rfl; have hx12_6 : w28.cell? ⟨go5, (x5_1 : Int).toNat * 9 + 6, none⟩ = some (.int .i64 ((rd_T29 y311 x5_1).f6)) := hcc12 6 _ rfl; have hx12_7 : w28.cell? ⟨go5, (x5_1 : Int).toNat * 9 + 7, none⟩ = some (.bool ((rd_T29 y311 x5_1).f7)) := hcc12 7 _ rfl; have hx12_8 : w28.cell? ⟨go5, (x5_1 : Int).toNat * 9 + 8, none⟩ = some (ve12_8) := hcc12 8 _ rfl; have hf12_0 : w28.frozen? ⟨go5, (x5_1 : Int).toNat * 9, none⟩ = false := hfr12 0; have hf12_1 : w28.frozen? ⟨go5, (x5_1 : Int).toNat * 9 + 1, none⟩ = false := hfr12 1; have hf12_2 : w28.frozen? ⟨go5, (x5_1 : Int).toNat * 9 + 2, none⟩ = false := hfr12 2; have hf12_3 : w28.frozen? ⟨go5, (x5_1 : Int).toNat * 9 + 3, none⟩ = false := hfr12 3; have hf12_4 : w28.frozen? ⟨go5, (x5_1 : Int).toNat * 9 + 4, none⟩ = false := hfr12 4; have hf12_5 : w28.frozen? ⟨go5, (x5_1 : Int).toNat * 9 + 5, none⟩ = false := hfr12 5; have hf12_6 : w28.frozen? ⟨go5, (x5_1 : Int).toNat * 9 + 6, none⟩ = false := hfr12 6; have hf12_7 : w28.frozen? ⟨go5, (x5_1 : Int).toNat * 9 + 7, none⟩ = false := hfr12 7; have hf12_8 : w28.frozen? ⟨go5, (x5_1 : Int).toNat * 9 + 8, none⟩ = false := hfr12 8; clear hcl12 hcc12 hfr12 hM12; replace p12 := eq_true p12; replace q12 := eq_true q12; have HX29 := am (show Kd.S k29 29 w28 w0.heap.size (fun k_ => ((fun k_ => P0_ k_)) k_ ∧ ¬ ((fun _ => False)) k_) (.slice (some ⟨go5, 0, none⟩) x0_1.length co14) y311 from u15_3); obtain ⟨oki29, ce29, hcl29, hM29, hcc29, hfr29, hoki29, hH29⟩ := Kd.S_elem HX29.out z29 (x5_1 : Int) (of_decide_eq_true Q3) (by have h_ : (x5_1 : Int) < ((x0_1.length : Int) : Int) := of_decide_eq_true Q3; first | exact h_ | (have e_ := (Kd.S_reads' HO_0.out).1; omega) | simpa using h_); obtain ⟨ve29_8, rfl, ge29_8⟩ := k29_openM hM29; have HP29 := Kd.S_seg hH29 (of_decide_eq_true Q3) (by have h_ : (x5_1 : Int) < ((x0_1.length : Int) : Int) := of_decide_eq_true Q3; first | exact h_ | (have e_ := (Kd.S_reads' HO_0.out).1; omega) | simpa using h_) (seg := [.bool ((Int.tmod (wrap64 ((wrap64 ((wrap64 ((wrap64 ((wrap64 ((wrap64 ((wrap64 (x1_1 + 1)) + 1)) + 1)) + 1)) + 1)) + 1)) + 1)) 3) == 0)]) (j := 7) (show 8 ≤ 9 from by decide) (x' := (⟨(rd_T29 y311 x5_1).f0, (rd_T29 y311 x5_1).f1, (rd_T29 y311 x5_1).f2, (rd_T29 y311 x5_1).f3, (rd_T29 y311 x5_1).f4, (rd_T29 y311 x5_1).f5, (rd_T29 y311 x5_1).f6, ((Int.tmod (wrap64 ((wrap64 ((wrap64 ((wrap64 ((wrap64 ((wrap64 ((wrap64 (x1_1 + 1)) + 1)) + 1)) + 1)) + 1)) + 1)) + 1)) 3) == 0), (rd_T29 y311 x5_1).f8⟩ : S29)) (k29_mkM _ _ _ (⟨(rd_T29 y311 x5_1).f0, (rd_T29 y311 x5_1).f1, (rd_T29 y311 x5_1).f2, (rd_T29 y311 x5_1).f3, (rd_T29 y311 x5_1).f4, (rd_T29 y311 x5_1).f5, (rd_T29 y311 x5_1).f6, ((Int.tmod (wrap64 ((wrap64 ((wrap64 ((wrap64 ((wrap64 ((wrap64 ((wrap64 (x1_1 + 1)) + 1)) + 1)) + 1)) + 1)) + 1)) + 1)) 3) == 0), (rd_T29 y311 x5_1).f8⟩ : S29) (Kd.R_mono ge29_8 (fun _ h_ => Or.inl h_))) (fun _ hk => hk) (fun k_ hk_ => hk_.elim); have hx29_7 := hcc29 7 _ rfl; (try simp only [show (k29).sz = 9 from rfl, Nat.mul_one, Nat.add_zero] at hx29_7); have hf29_7 := hfr29 7; (try simp only [show (k29).sz = 9 from rfl, Nat.mul_one, Nat.add_zero] at hf29_7); clear hcl29 hcc29 hfr29 hM29 hoki29 hH29) | ((with_reducible refine gate_store (t := 4) (p := 67) rfl ?_); refine store_event (t := 4) (p := 67) (v := ?vo_w30) (w1 := (w28.setCell ⟨go5, (x5_1 : Int).toNat * 9 + 7, none⟩ (.bool ((Int.tmod (wrap64 ((wrap64 ((wrap64 ((wrap64 ((wrap64 ((wrap64 ((wrap64 (x1_1 + 1)) + 1)) + 1)) + 1)) + 1)) + 1)) + 1)) 3) == 0)))) ?hg ?ho ?hn ?hr ?_; (case ho => rfl); (case hg => rfl); (case hn => rfl); (case hr => first | (go_simp; done) | (go_simp; rfl)); intro w30 hw; have hg : w28.grownBy w30 (some go5) := (by rw [hw]; exact HP29.2); have hp_ : Kd.S k29 29 w30 w0.heap.size (fun k_ => P0_ k_) (.slice (some ⟨go5, 0, none⟩) x0_1.length co14) y312 := (by rw [hw, Ny312.out]; exact HP29.1); clear HP29; replace HO_0 := am (hp_); replace HB := am ((by rw [hw]; exact below_set (HB.out) GB5.out : Below w0.heap.size w0 w30)); replace HK := am (Kept.of_grown (S := (fun k_ => PK_ k_)) hg Q5 (fun k_ e_ => .inl (HPK.out k_ e_))); clear hg hw hp_; have p313 : 0 ≤ (x5_1 : Int) := of_decide_eq_true Q3; have q313 : x5_1 < (y312.length : Int) := (by have h_ : (x5_1 : Int) < ((x0_1.length : Int) : Int) := of_decide_eq_true Q3; first | (have e_ := (Kd.S_reads' HO_0.out).1; omega) | simpa only [Ny305.out, Ny306.out, Ny307.out, Ny308.out, Ny309.out, Ny310.out, Ny311.out, Ny312.out, List.length_set] using h_); have ql313 : ((x5_1 : Int) < ((x0_1.length : Int) : Int)) = True := eq_true (of_decide_eq_true Q3); obtain ⟨ad313, A313_8, c313_8, e313, hx313_0, hx313_1, hx313_2, hx313_3, hx313_4, hx313_5, hx313_6, hx313_7, hx313_8, hl313_8, hi313_8⟩ := at_T29 (Kd.S_reads' HO_0.out).2.2 x5_1 p313 q313; obtain rfl : (⟨go5, 0, none⟩ : Addr) = ad313 := (by injection e313); obtain ⟨ce313, hce313, hMe313, hcc313⟩ := Kd.S_get HO_0.out z29 x5_1 p313 (by first | exact q313 | exact of_decide_eq_true Q3 | (have e_ := (Kd.S_reads' HO_0.out).1; omega)); obtain ⟨ve313_8, rfl, ge313_8⟩ := k29_openM hMe313; have hv313_8 := hcc313 8 _ rfl; rw [add_field _ _ 8 (by omega)] at hv313_8; replace hv313_8 := Option.some.inj (hv313_8.symm.trans hx313_8); rw [hv313_8] at ge313_8; have HL313_8 := am (show Kd.R k85 85 _ _ _ _ ((rd_T29 y312 x5_1).f8) from ge313_8); clear hv313_8 ge313_8; clear hcc313 hce313; (first | simp only [add_plain] at hx313_0 | simp only [add_at] at hx313_0 | simp only [Addr.add, Nat.zero_add] at hx313_0 | skip); (first | simp only [add_plain] at hx313_1 | simp only [add_at] at hx313_1 | simp only [Addr.add, Nat.zero_add] at hx313_1 | skip); (first | simp only [add_plain] at hx313_2 | simp only [add_at] at hx313_2 | simp only [Addr.add, Nat.zero_add] at hx313_2 | skip); (first | simp only [add_plain] at hx313_3 | simp only [add_at] at hx313_3 | simp only [Addr.add, Nat.zero_add] at hx313_3 | skip); (first | simp only [add_plain] at hx313_4 | simp only [add_at] at hx313_4 | simp only [Addr.add, Nat.zero_add] at hx313_4 | skip); (first | simp only [add_plain] at hx313_5 | simp only [add_at] at hx313_5 | simp only [Addr.add, Nat.zero_add] at hx313_5 | skip); (first | simp only [add_plain] at hx313_6 | simp only [add_at] at hx313_6 | simp only [Addr.add, Nat.zero_add] at hx313_6 | skip); (first | simp only [add_plain] at hx313_7 | simp only [add_at] at hx313_7 | simp only [Addr.add, Nat.zero_add] at hx313_7 | skip); (first | simp only [add_plain] at hx313_8 | simp only [add_at] at hx313_8 | simp only [Addr.add, Nat.zero_add] at hx313_8 | skip); have HR313_8 := am hi313_8; have HC313_8 := am hl313_8; clear hi313_8 hl313_8; replace p313 := eq_true p313; replace q313 := eq_true q313) | ((with_reducible refine gate_callee (f := 59) rfl ?_); refine goesL_ (some 76) rfl rfl Try.func59 kr rfl #[.slice A313_8 ((rd_T29 y312 x5_1).f8).length c313_8, .int .i64 (wrap64 ((wrap64 ((wrap64 ((wrap64 ((wrap64 ((wrap64 ((wrap64 ((wrap64 (x1_1 + 1)) + 1)) + 1)) + 1)) + 1)) + 1)) + 1)) + 1))] rfl Q0 ?_; (with_reducible refine (laws_markEntryS.calls k1 (fun k_ => some k_ = ((.slice A313_8 ((rd_T29 y312 x5_1).f8).length c313_8) : Value).ownBlock) (.slice A313_8 ((rd_T29 y312 x5_1).f8).length c313_8) ((rd_T29 y312 x5_1).f8) (wrap64 ((wrap64 ((wrap64 ((wrap64 ((wrap64 ((wrap64 ((wrap64 ((wrap64 (x1_1 + 1)) + 1)) + 1)) + 1)) + 1)) + 1)) + 1)) + 1)) t314 t314b w0 _ ?side1 ?side2 A13.out).mono ?_); (case side1 => exact Q1); (case side2 => exact (by exact Kd.R_tight rfl (by (with_reducible repeat (first | apply Kd.R_alloc | apply Kd.R_drewN | apply Kd.R_drew)); exact HL313_8.out))); rintro e w31 ⟨rfl, hy_, hb, hkp_⟩; refine ⟨_, rfl, ?_⟩; have hp_ : 0 ≤ (x5_1 : Int) := of_eq_true p313; have hq_ := of_eq_true q313; have n0_ := am (S_lent_ (x' := (⟨(rd_T29 y312 x5_1).f0, (rd_T29 y312 x5_1).f1, (rd_T29 y312 x5_1).f2, (rd_T29 y312 x5_1).f3, (rd_T29 y312 x5_1).f4, (rd_T29 y312 x5_1).f5, (rd_T29 y312 x5_1).f6, (rd_T29 y312 x5_1).f7, t314b⟩ : S29)) u15_6 z29 (x5_1 : Int) hp_ (by first | exact hq_ | exact of_decide_eq_true Q3 | (have e_ := (Kd.S_reads' HO_0.out).1; omega)) hkp_ (fun okq_ cq_ hcl_ hM_ hcc_ => by obtain ⟨vq_, rfl, gq_⟩ := k29_openM hM_; have hv_ := hcc_ 8 _ rfl; (try simp only [show (k29).sz = 9 from rfl] at hv_); obtain rfl : vq_ = (.slice A313_8 ((rd_T29 y312 x5_1).f8).length c313_8) := Option.some.inj (hv_.symm.trans (by first | exact hx313_8 | (simpa using hx313_8))); exact ⟨fun k_ e_ => gq_.1 k_ e_.symm, _, k29_mkM _ _ _ (⟨(rd_T29 y312 x5_1).f0, (rd_T29 y312 x5_1).f1, (rd_T29 y312 x5_1).f2, (rd_T29 y312 x5_1).f3, (rd_T29 y312 x5_1).f4, (rd_T29 y312 x5_1).f5, (rd_T29 y312 x5_1).f6, (rd_T29 y312 x5_1).f7, t314b⟩ : S29) (Kd.R_tight rfl hy_), fun k_ e_ => gq_.1 k_ e_.symm⟩)); have n3_ := am (Kept.then_ (S := (fun k_ => PK_ k_)) Q5 hkp_ (fun k_ e_ => .inl (HPI.out k_ ((Kd.R_mono (ok' := P0_) HL313_8.out (fun k_ h_ => h_.1)).1 k_ e_.symm)))); have n4_ := am (hb); clear HO_0; clear HL313_8; clear HR313_8; clear HK; clear HB; have HO_0 := n0_; have HK := n3_; have HB := n4_; clear n0_ n3_ n4_; (try clear hb); (try clear hb2); (try clear hkp_); (try clear hy_)))
   go_roundg k1
   case measure => have := HK1.out; omega
   case rel => exact ⟨(y312.set (x5_1 : Int).toNat (⟨(rd_T29 y312 x5_1).f0, (rd_T29 y312 x5_1).f1, (rd_T29 y312 x5_1).f2, (rd_T29 y312 x5_1).f3, (rd_T29 y312 x5_1).f4, (rd_T29 y312 x5_1).f5, (rd_T29 y312 x5_1).f6, (rd_T29 y312 x5_1).f7, t314b⟩ : S29)), (t314), (wrap64 (x5_1 + 1)), Q4, Q4, H', ⟨by have := HK1.out; omega⟩, ⟨u15_6⟩, ⟨Q5⟩, ⟨Q1⟩⟩
theorem laws_markMsgS.calls (k : Nat) (P0_ : Nat → Prop) (u9000_ : Value) (l0 : List (S29)) (a1 : Int) (r1 : Int) (r2 : List (S29)) (w0 w : World) (hB : Below w0.heap.size w0 w) (ho0 : Kd.S k29 29 w w0.heap.size P0_ u9000_ l0) (h : laws_markMsgS.f k l0 a1 = some (r1, r2)) :
   Calls Try.prog 41 #[u9000_, .int .i64 a1] w fun e w' => e = .returned (.int .i64 r1) ∧ Kd.S k29 29 w' w0.heap.size (fun k_ => P0_ k_) u9000_ r2 ∧ Below w0.heap.size w0 w' ∧ Kept w w' (fun k_ => P0_ k_) :=
 laws_markMsgS.calls0 (fun k_ => P0_ k_) k P0_ u9000_ l0 a1 r1 r2 w0 w hB ho0 (fun k_ e_ => (Kd.S_R ho0).1 k_ e_) (fun k_ e_ => e_) h


/-! ### laws_heldEntryS: function 60 -/
def laws_heldEntryS.l0 : Nat → List (S85) → Int → Int → Option (Int)
 | 0, _, _, _ => none
 | k + 1, x0, x1, x5 => if x5 < (x0.length : Int) then (if 0 ≤ x5 then (if ((rd_T85 x0 x5).f0) = x1 then ((laws_markText.f k (wrap64 (x1 + 1))).bind fun t317 => (if ((rd_T85 x0 x5).f1).toList = t317.toList then (laws_heldEntryS.l0 k x0 (wrap64 ((wrap64 (x1 + 1)) + 1)) (wrap64 (x5 + 1))) else (some (-1)))) else (some (-1))) else (none)) else (some x1)
def laws_heldEntryS.f (k : Nat) (l0 : List (S85)) (a1 : Int) : Option (Int) := laws_heldEntryS.l0 k l0 a1 0
theorem laws_heldEntryS.mono_l : ∀ k, (∀ y0 y1 y2, LeO (laws_heldEntryS.l0 k y0 y1 y2) (laws_heldEntryS.l0 (k + 1) y0 y1 y2))
 | 0 => fun _ _ _ r h => by simp [laws_heldEntryS.l0] at h
 | k + 1 => by
   have ih0 := laws_heldEntryS.mono_l k
   · intro y0 y1 y2
     unfold laws_heldEntryS.l0
     repeat' first
     | (with_reducible exact ih0 _ _ _)
     | (with_reducible exact laws_markText.mono _ _)
     | (with_reducible exact LeO.refl _)
     | (with_reducible exact LeO.none _)
     | (with_reducible refine LeO.ite ?_ ?_)
     | (with_reducible refine LeO.bind ?_ (fun _ => ?_))
     | exact ih0 _ _ _
     | exact laws_markText.mono _ _
     | exact LeO.none _
     | refine LeO.ite ?_ ?_
     | refine LeO.bind ?_ (fun _ => ?_)
theorem laws_heldEntryS.mono : ∀ a0 a1 k, LeO (laws_heldEntryS.f k a0 a1) (laws_heldEntryS.f (k + 1) a0 a1) := by
 intro a0 a1 k
 have ih0 := laws_heldEntryS.mono_l k
 unfold laws_heldEntryS.f
 repeat' first
     | (with_reducible exact ih0 _ _ _)
     | (with_reducible exact laws_markText.mono _ _)
     | (with_reducible exact LeO.refl _)
     | (with_reducible exact LeO.none _)
     | (with_reducible refine LeO.ite ?_ ?_)
     | (with_reducible refine LeO.bind ?_ (fun _ => ?_))
     | exact ih0 _ _ _
     | exact laws_markText.mono _ _
     | exact LeO.none _
     | refine LeO.ite ?_ ?_
     | refine LeO.bind ?_ (fun _ => ?_)
def laws_heldEntryS.T7 : Bool × List (List Nat × List Nat) := (true, [([], []), ([], []), ([0, 1], [0, 1]), ([2], [2]), ([3], [3]), ([], []), ([5], [5]), ([4, 6], [4, 6])])
def laws_heldEntryS.B7 : List Nat := [0, 0, 3, 7, 15, 0, 32, 127]
theorem laws_heldEntryS.tab7 : rtab .any (opsOf Try.f60 7) = laws_heldEntryS.T7 := by kernel_rfl
theorem laws_heldEntryS.bits7 : waitsOk laws_heldEntryS.T7.2 laws_heldEntryS.B7 = true := by kernel_rfl
set_option maxHeartbeats 8000000 in
set_option maxRecDepth 100000 in
theorem laws_heldEntryS.calls (k : Nat) (A0 : Option Addr) (c0 : Nat) (l0 : List (S85)) (a1 : Int) (r : Int) (w : World) (hr0 : Kd.C k85 w A0 l0.length l0) (hc0 : l0.length ≤ c0) (h : laws_heldEntryS.f k l0 a1 = some r) :
   Calls Try.prog 60 #[.slice A0 l0.length c0, .int .i64 a1] w fun e w' => e = .returned (.int .i64 r) ∧ Below w.heap.size w w' := by
 have HR0 := am hr0
 have HC0 := am hc0
 clear hr0 hc0
 have HB := am (Below.refl w.heap.size w)
 have H : (laws_heldEntryS.l0 k l0 a1 0) = some r := h
 clear h
 have H' := am H
 clear H
 go_enter Try.func60, Try.ntmps60
 go_wp2
 go_loopg [1, 5] k (fun kq v1 v5 w' => ∃ (x1_1 : Int) (x5_1 : Int), v1 = .int .i64 x1_1 ∧ v5 = .int .i64 x5_1 ∧ Aside0 (laws_heldEntryS.l0 kq l0 x1_1 x5_1 = some r) ∧ Aside0 (kq ≤ k) ∧ Aside0 (Below w.heap.size w w'))
 case atStart => exact ⟨(a1), (0), Q4, Q4, H', ⟨Nat.le_refl _⟩, ⟨Q1⟩⟩
 clear H'
 obtain ⟨x1_1, x5_1, rfl, rfl, HA, HK1, HB⟩ := hrel
 cases gk with
 | zero => exact absurd HA.out (by simp [laws_heldEntryS.l0])
 | succ k1 =>
   have H := HA.out
   clear HA
   simp only [laws_heldEntryS.l0] at H
   by_cases c3 : x5_1 < (l0.length : Int)
   rotate_left
   · rw [if_neg c3] at H
     have c3b0 : decide (x5_1 < (l0.length : Int)) = false := decide_eq_false c3
     clear c3
     obtain rfl := sj H
     go_wp2
     go_ret
     exact ⟨er, Q1⟩
   rw [if_pos c3] at H
   have c3b0 : decide (x5_1 < (l0.length : Int)) = true := decide_eq_true c3
   clear c3
   by_cases c4 : 0 ≤ x5_1
   rotate_left
   · rw [if_neg c4] at H
     exact absurd H (by simp)
   rw [if_pos c4] at H
   have c4b0 : decide (0 ≤ x5_1) = true := decide_eq_true c4
   clear c4
   have H9 := am H
   clear H
   have p315 : 0 ≤ (x5_1 : Int) := of_decide_eq_true Q3
   have q315 : x5_1 < (l0.length : Int) := of_decide_eq_true Q3
   obtain ⟨ad315, e315, hx315_0, hx315_1⟩ := at_T85 HR0.out x5_1 p315 q315
   cases e315
   replace hx315_0 := cm HB.out hx315_0
   replace hx315_1 := cm HB.out hx315_1
   replace p315 := eq_true p315
   replace q315 := eq_true q315
   go_upto_if 18 with (fail)
   have H := H9.out
   clear H9
   by_cases c5 : ((rd_T85 l0 x5_1).f0) = x1_1
   rotate_left
   · rw [if_neg c5] at H
     have c5b0 : (((rd_T85 l0 x5_1).f0) == x1_1) = false := beq_eq_false_iff_ne.mpr c5
     have c5b1 : (((rd_T85 l0 x5_1).f0) != x1_1) = true := bne_iff_ne.mpr c5
     (first | rw [c5b0] | (simp only [i64_w, i32_w]; rw [c5b0]) | skip)
     obtain rfl := sj H
     go_wp2
     go_ret
     exact ⟨er, Q1⟩
   rw [if_pos c5] at H
   have c5b0 : (((rd_T85 l0 x5_1).f0) == x1_1) = true := beq_iff_eq.mpr c5
   have c5b1 : (((rd_T85 l0 x5_1).f0) != x1_1) = false := bne_eq_false_iff_eq.mpr c5
   clear c5
   (first | rw [c5b0] | (simp only [i64_w, i32_w]; rw [c5b0]) | skip)
   replace H := Option.bind_eq_some_iff.mp H
   obtain ⟨t317, A60, H⟩ := H
   have A6 := am A60
   clear A60
   have H9 := am H
   clear H
   try go_wp2
   replace HB := am (below_drew1 HB.out)
   have p316 : 0 ≤ (x5_1 : Int) := of_decide_eq_true Q3
   have q316 : x5_1 < (l0.length : Int) := of_decide_eq_true Q3
   obtain ⟨ad316, e316, hx316_0, hx316_1⟩ := at_T85 HR0.out x5_1 p316 q316
   have hw316_1 := hx316_1
   have hw316_0 := hx316_0
   obtain rfl : ad315 = ad316 := (by injection e316)
   replace hx316_0 := cm HB.out hx316_0
   replace hx316_1 := cm HB.out hx316_1
   replace p316 := eq_true p316
   replace q316 := eq_true q316
   refine start_ (n := 8) (S := fun w' => w'.cell? (ad315.add ((x5_1).toNat * 2)) = some (.int .i64 ((rd_T85 l0 x5_1).f0)) ∧ w'.cell? ⟨(ad315.add ((x5_1).toNat * 2)).block, (ad315.add ((x5_1).toNat * 2)).off + 1, none⟩ = some (.string ((rd_T85 l0 x5_1).f1))) (ds := []) #[false, false, false, false, false, false, false, false] kr rfl rfl ⟨(cm HB.out hw316_0), (cm HB.out hw316_1)⟩ (fun hHeld => ?_); refine with_tabW laws_heldEntryS.tab7 laws_heldEntryS.bits7 (fun HT_ HW_ => ?_)
   generalize wr.drew = w7 at HB hx316_0 hx316_1 hHeld ⊢
   refine pV 0 21 (bt 1 8) ?_
   refine pV 1 22 (bt 2 8) ?_
   refine pV 2 23 (bt 3 8) ?_
   refine pV 3 24 (bt 4 8) ?_
   refine pV 5 26 #[true, true, true, true, false, true, false, false] ?_
   refine tV 4 25 (bt 6 8) ?_
   refine one_ (i := 6) (N := some 27) #[true, true, true, true, true, true, true, false] rfl rfl (one_of HT_.out kr) (by decide) (fun K hK => ?_)
   refine goes_ Try.func106 kr rfl #[.int .i64 (wrap64 (x1_1 + 1))] (by rfl) rfl rfl Q0 ?_
   with_reducible refine (laws_markText.calls k1 (wrap64 (x1_1 + 1)) t317 _ A6.out).mono ?_
   rintro e w8 ⟨rfl, hb⟩
   refine ⟨_, rfl, ?_⟩
   replace HB := am (below_step Q1 hb)
   (try clear hb)
   (try clear hb2)
   (try clear hk)
   (try clear hi)
   refine hK.out _ _ ⟨(cm HB.out hw316_0), (cm HB.out hw316_1)⟩ (fun hHeld => ?_)
   clear hK K
   refine norm_ (a' := ?_) ?_ ?_
   rotate_left
   · show Act.put _ (some 27) _ = _
     simp only [Act.put, la, lb, lc, i64_w, i32_w]
     rfl
   refine pV 7 28 (bt 8 8) ?_
   refine done_ (done_of HT_.out kr) ?_
   go_upto_if 28 with (fail)
   have H := H9.out
   clear H9
   by_cases c9 : ((rd_T85 l0 x5_1).f1).toList = t317.toList
   rotate_left
   · rw [if_neg c9] at H
     have c9b0 : (((rd_T85 l0 x5_1).f1).toList == t317.toList) = false := beq_eq_false_iff_ne.mpr c9
     have c9b1 : (((rd_T85 l0 x5_1).f1).toList != t317.toList) = true := bne_iff_ne.mpr c9
     (first | rw [c9b0] | (simp only [i64_w, i32_w]; rw [c9b0]) | skip)
     obtain rfl := sj H
     go_wp2
     go_ret
     exact ⟨er, Q1⟩
   rw [if_pos c9] at H
   have c9b0 : (((rd_T85 l0 x5_1).f1).toList == t317.toList) = true := beq_iff_eq.mpr c9
   have c9b1 : (((rd_T85 l0 x5_1).f1).toList != t317.toList) = false := bne_eq_false_iff_eq.mpr c9
   clear c9
   (first | rw [c9b0] | (simp only [i64_w, i32_w]; rw [c9b0]) | skip)
   have H' := am H
   clear H
   go_wp2
   go_roundg k1
   case measure => have := HK1.out; omega
   case rel => exact ⟨(wrap64 ((wrap64 (x1_1 + 1)) + 1)), (wrap64 (x5_1 + 1)), Q4, Q4, H', ⟨by have := HK1.out; omega⟩, ⟨Q1⟩⟩

/-! ### laws_heldMsgS: function 42 -/
def laws_heldMsgS.l0 : Nat → List (S29) → Int → Int → Option (Int)
 | 0, _, _, _ => none
 | k + 1, x0, x1, x5 => if x5 < (x0.length : Int) then (if 0 ≤ x5 then (if ((rd_T29 x0 x5).f0) = x1 then (if ((rd_T29 x0 x5).f1) = (wrap64 (x1 + 1)) then (if ((rd_T29 x0 x5).f2) = (wrap64 ((wrap64 (x1 + 1)) + 1)) then (if ((rd_T29 x0 x5).f3) = (wrap64 ((wrap64 ((wrap64 (x1 + 1)) + 1)) + 1)) then (if ((rd_T29 x0 x5).f4) = (wrap64 ((wrap64 ((wrap64 ((wrap64 (x1 + 1)) + 1)) + 1)) + 1)) then (if ((rd_T29 x0 x5).f5) = (wrap64 ((wrap64 ((wrap64 ((wrap64 ((wrap64 (x1 + 1)) + 1)) + 1)) + 1)) + 1)) then (if ((rd_T29 x0 x5).f6) = (wrap64 ((wrap64 ((wrap64 ((wrap64 ((wrap64 ((wrap64 (x1 + 1)) + 1)) + 1)) + 1)) + 1)) + 1)) then (if (((rd_T29 x0 x5).f7) != ((Int.tmod (wrap64 ((wrap64 ((wrap64 ((wrap64 ((wrap64 ((wrap64 ((wrap64 (x1 + 1)) + 1)) + 1)) + 1)) + 1)) + 1)) + 1)) 3) == 0)) = true then (some (-1)) else ((laws_heldEntryS.f k ((rd_T29 x0 x5).f8) (wrap64 ((wrap64 ((wrap64 ((wrap64 ((wrap64 ((wrap64 ((wrap64 ((wrap64 (x1 + 1)) + 1)) + 1)) + 1)) + 1)) + 1)) + 1)) + 1))).bind fun t327 => (if t327 < 0 then (some (-1)) else (laws_heldMsgS.l0 k x0 t327 (wrap64 (x5 + 1)))))) else (some (-1))) else (some (-1))) else (some (-1))) else (some (-1))) else (some (-1))) else (some (-1))) else (some (-1))) else (none)) else (some x1)
def laws_heldMsgS.f (k : Nat) (l0 : List (S29)) (a1 : Int) : Option (Int) := laws_heldMsgS.l0 k l0 a1 0
theorem laws_heldMsgS.mono_l : ∀ k, (∀ y0 y1 y2, LeO (laws_heldMsgS.l0 k y0 y1 y2) (laws_heldMsgS.l0 (k + 1) y0 y1 y2))
 | 0 => fun _ _ _ r h => by simp [laws_heldMsgS.l0] at h
 | k + 1 => by
   have ih0 := laws_heldMsgS.mono_l k
   · intro y0 y1 y2
     unfold laws_heldMsgS.l0
     repeat' first
     | (with_reducible exact ih0 _ _ _)
     | (with_reducible exact laws_heldEntryS.mono _ _ _)
     | (with_reducible exact LeO.refl _)
     | (with_reducible exact LeO.none _)
     | (with_reducible refine LeO.ite ?_ ?_)
     | (with_reducible refine LeO.bind ?_ (fun _ => ?_))
     | exact ih0 _ _ _
     | exact laws_heldEntryS.mono _ _ _
     | exact LeO.none _
     | refine LeO.ite ?_ ?_
     | refine LeO.bind ?_ (fun _ => ?_)
theorem laws_heldMsgS.mono : ∀ a0 a1 k, LeO (laws_heldMsgS.f k a0 a1) (laws_heldMsgS.f (k + 1) a0 a1) := by
 intro a0 a1 k
 have ih0 := laws_heldMsgS.mono_l k
 unfold laws_heldMsgS.f
 repeat' first
     | (with_reducible exact ih0 _ _ _)
     | (with_reducible exact laws_heldEntryS.mono _ _ _)
     | (with_reducible exact LeO.refl _)
     | (with_reducible exact LeO.none _)
     | (with_reducible refine LeO.ite ?_ ?_)
     | (with_reducible refine LeO.bind ?_ (fun _ => ?_))
     | exact ih0 _ _ _
     | exact laws_heldEntryS.mono _ _ _
     | exact LeO.none _
     | refine LeO.ite ?_ ?_
     | refine LeO.bind ?_ (fun _ => ?_)
set_option maxHeartbeats 8000000 in
set_option maxRecDepth 100000 in
theorem laws_heldMsgS.calls (k : Nat) (A0 : Option Addr) (c0 : Nat) (l0 : List (S29)) (a1 : Int) (r : Int) (w : World) (hr0 : Kd.C k29 w A0 l0.length l0) (hc0 : l0.length ≤ c0) (h : laws_heldMsgS.f k l0 a1 = some r) :
   Calls Try.prog 42 #[.slice A0 l0.length c0, .int .i64 a1] w fun e w' => e = .returned (.int .i64 r) ∧ Below w.heap.size w w' := by
 have HR0 := am hr0
 have HC0 := am hc0
 clear hr0 hc0
 have HB := am (Below.refl w.heap.size w)
 have H : (laws_heldMsgS.l0 k l0 a1 0) = some r := h
 clear h
 have H' := am H
 clear H
 go_enter Try.func42, Try.ntmps42
 go_wp2
 go_loopg [1, 5] k (fun kq v1 v5 w' => ∃ (x1_1 : Int) (x5_1 : Int), v1 = .int .i64 x1_1 ∧ v5 = .int .i64 x5_1 ∧ Aside0 (laws_heldMsgS.l0 kq l0 x1_1 x5_1 = some r) ∧ Aside0 (kq ≤ k) ∧ Aside0 (Below w.heap.size w w'))
 case atStart => exact ⟨(a1), (0), Q4, Q4, H', ⟨Nat.le_refl _⟩, ⟨Q1⟩⟩
 clear H'
 obtain ⟨x1_1, x5_1, rfl, rfl, HA, HK1, HB⟩ := hrel
 cases gk with
 | zero => exact absurd HA.out (by simp [laws_heldMsgS.l0])
 | succ k1 =>
   have H := HA.out
   clear HA
   simp only [laws_heldMsgS.l0] at H
   by_cases c3 : x5_1 < (l0.length : Int)
   rotate_left
   · rw [if_neg c3] at H
     have c3b0 : decide (x5_1 < (l0.length : Int)) = false := decide_eq_false c3
     clear c3
     obtain rfl := sj H
     go_wp2
     go_ret
     exact ⟨er, Q1⟩
   rw [if_pos c3] at H
   have c3b0 : decide (x5_1 < (l0.length : Int)) = true := decide_eq_true c3
   clear c3
   by_cases c4 : 0 ≤ x5_1
   rotate_left
   · rw [if_neg c4] at H
     exact absurd H (by simp)
   rw [if_pos c4] at H
   have c4b0 : decide (0 ≤ x5_1) = true := decide_eq_true c4
   clear c4
   have H9 := am H
   clear H
   have p318 : 0 ≤ (x5_1 : Int) := of_decide_eq_true Q3
   have q318 : x5_1 < (l0.length : Int) := of_decide_eq_true Q3
   obtain ⟨ad318, A318_8, c318_8, e318, hx318_0, hx318_1, hx318_2, hx318_3, hx318_4, hx318_5, hx318_6, hx318_7, hx318_8, hl318_8, hi318_8⟩ := at_T29 HR0.out x5_1 p318 q318
   cases e318
   replace hx318_0 := cm HB.out hx318_0
   replace hx318_1 := cm HB.out hx318_1
   replace hx318_2 := cm HB.out hx318_2
   replace hx318_3 := cm HB.out hx318_3
   replace hx318_4 := cm HB.out hx318_4
   replace hx318_5 := cm HB.out hx318_5
   replace hx318_6 := cm HB.out hx318_6
   replace hx318_7 := cm HB.out hx318_7
   replace hx318_8 := cm HB.out hx318_8
   have HR318_8 := am hi318_8
   have HC318_8 := am hl318_8
   clear hi318_8 hl318_8
   replace p318 := eq_true p318
   replace q318 := eq_true q318
   go_upto_if 18 with (fail)
   have H := H9.out
   clear H9
   by_cases c5 : ((rd_T29 l0 x5_1).f0) = x1_1
   rotate_left
   · rw [if_neg c5] at H
     have c5b0 : (((rd_T29 l0 x5_1).f0) == x1_1) = false := beq_eq_false_iff_ne.mpr c5
     have c5b1 : (((rd_T29 l0 x5_1).f0) != x1_1) = true := bne_iff_ne.mpr c5
     (first | rw [c5b0] | (simp only [i64_w, i32_w]; rw [c5b0]) | skip)
     obtain rfl := sj H
     go_wp2
     go_ret
     exact ⟨er, Q1⟩
   rw [if_pos c5] at H
   have c5b0 : (((rd_T29 l0 x5_1).f0) == x1_1) = true := beq_iff_eq.mpr c5
   have c5b1 : (((rd_T29 l0 x5_1).f0) != x1_1) = false := bne_eq_false_iff_eq.mpr c5
   clear c5
   (first | rw [c5b0] | (simp only [i64_w, i32_w]; rw [c5b0]) | skip)
   have H9 := am H
   clear H
   have p319 : 0 ≤ (x5_1 : Int) := of_decide_eq_true Q3
   have q319 : x5_1 < (l0.length : Int) := of_decide_eq_true Q3
   obtain ⟨ad319, A319_8, c319_8, e319, hx319_0, hx319_1, hx319_2, hx319_3, hx319_4, hx319_5, hx319_6, hx319_7, hx319_8, hl319_8, hi319_8⟩ := at_T29 HR0.out x5_1 p319 q319
   (try clear hx318_8)
   obtain rfl : ad318 = ad319 := (by injection e319)
   replace hx319_0 := cm HB.out hx319_0
   replace hx319_1 := cm HB.out hx319_1
   replace hx319_2 := cm HB.out hx319_2
   replace hx319_3 := cm HB.out hx319_3
   replace hx319_4 := cm HB.out hx319_4
   replace hx319_5 := cm HB.out hx319_5
   replace hx319_6 := cm HB.out hx319_6
   replace hx319_7 := cm HB.out hx319_7
   replace hx319_8 := cm HB.out hx319_8
   have HR319_8 := am hi319_8
   have HC319_8 := am hl319_8
   clear hi319_8 hl319_8
   replace p319 := eq_true p319
   replace q319 := eq_true q319
   go_upto_if 27 with (fail)
   have H := H9.out
   clear H9
   by_cases c6 : ((rd_T29 l0 x5_1).f1) = (wrap64 (x1_1 + 1))
   rotate_left
   · rw [if_neg c6] at H
     have c6b0 : (((rd_T29 l0 x5_1).f1) == (wrap64 (x1_1 + 1))) = false := beq_eq_false_iff_ne.mpr c6
     have c6b1 : (((rd_T29 l0 x5_1).f1) != (wrap64 (x1_1 + 1))) = true := bne_iff_ne.mpr c6
     (first | rw [c6b0] | (simp only [i64_w, i32_w]; rw [c6b0]) | skip)
     obtain rfl := sj H
     go_wp2
     go_ret
     exact ⟨er, Q1⟩
   rw [if_pos c6] at H
   have c6b0 : (((rd_T29 l0 x5_1).f1) == (wrap64 (x1_1 + 1))) = true := beq_iff_eq.mpr c6
   have c6b1 : (((rd_T29 l0 x5_1).f1) != (wrap64 (x1_1 + 1))) = false := bne_eq_false_iff_eq.mpr c6
   clear c6
   (first | rw [c6b0] | (simp only [i64_w, i32_w]; rw [c6b0]) | skip)
   have H9 := am H
   clear H
   have p320 : 0 ≤ (x5_1 : Int) := of_decide_eq_true Q3
   have q320 : x5_1 < (l0.length : Int) := of_decide_eq_true Q3
   obtain ⟨ad320, A320_8, c320_8, e320, hx320_0, hx320_1, hx320_2, hx320_3, hx320_4, hx320_5, hx320_6, hx320_7, hx320_8, hl320_8, hi320_8⟩ := at_T29 HR0.out x5_1 p320 q320
   (try clear hx319_8)
   obtain rfl : ad318 = ad320 := (by injection e320)
   replace hx320_0 := cm HB.out hx320_0
   replace hx320_1 := cm HB.out hx320_1
   replace hx320_2 := cm HB.out hx320_2
   replace hx320_3 := cm HB.out hx320_3
   replace hx320_4 := cm HB.out hx320_4
   replace hx320_5 := cm HB.out hx320_5
   replace hx320_6 := cm HB.out hx320_6
   replace hx320_7 := cm HB.out hx320_7
   replace hx320_8 := cm HB.out hx320_8
   have HR320_8 := am hi320_8
   have HC320_8 := am hl320_8
   clear hi320_8 hl320_8
   replace p320 := eq_true p320
   replace q320 := eq_true q320
   go_upto_if 36 with (fail)
   have H := H9.out
   clear H9
   by_cases c7 : ((rd_T29 l0 x5_1).f2) = (wrap64 ((wrap64 (x1_1 + 1)) + 1))
   rotate_left
   · rw [if_neg c7] at H
     have c7b0 : (((rd_T29 l0 x5_1).f2) == (wrap64 ((wrap64 (x1_1 + 1)) + 1))) = false := beq_eq_false_iff_ne.mpr c7
     have c7b1 : (((rd_T29 l0 x5_1).f2) != (wrap64 ((wrap64 (x1_1 + 1)) + 1))) = true := bne_iff_ne.mpr c7
     (first | rw [c7b0] | (simp only [i64_w, i32_w]; rw [c7b0]) | skip)
     obtain rfl := sj H
     go_wp2
     go_ret
     exact ⟨er, Q1⟩
   rw [if_pos c7] at H
   have c7b0 : (((rd_T29 l0 x5_1).f2) == (wrap64 ((wrap64 (x1_1 + 1)) + 1))) = true := beq_iff_eq.mpr c7
   have c7b1 : (((rd_T29 l0 x5_1).f2) != (wrap64 ((wrap64 (x1_1 + 1)) + 1))) = false := bne_eq_false_iff_eq.mpr c7
   clear c7
   (first | rw [c7b0] | (simp only [i64_w, i32_w]; rw [c7b0]) | skip)
   have H9 := am H
   clear H
   have p321 : 0 ≤ (x5_1 : Int) := of_decide_eq_true Q3
   have q321 : x5_1 < (l0.length : Int) := of_decide_eq_true Q3
   obtain ⟨ad321, A321_8, c321_8, e321, hx321_0, hx321_1, hx321_2, hx321_3, hx321_4, hx321_5, hx321_6, hx321_7, hx321_8, hl321_8, hi321_8⟩ := at_T29 HR0.out x5_1 p321 q321
   (try clear hx320_8)
   obtain rfl : ad318 = ad321 := (by injection e321)
   replace hx321_0 := cm HB.out hx321_0
   replace hx321_1 := cm HB.out hx321_1
   replace hx321_2 := cm HB.out hx321_2
   replace hx321_3 := cm HB.out hx321_3
   replace hx321_4 := cm HB.out hx321_4
   replace hx321_5 := cm HB.out hx321_5
   replace hx321_6 := cm HB.out hx321_6
   replace hx321_7 := cm HB.out hx321_7
   replace hx321_8 := cm HB.out hx321_8
   have HR321_8 := am hi321_8
   have HC321_8 := am hl321_8
   clear hi321_8 hl321_8
   replace p321 := eq_true p321
   replace q321 := eq_true q321
   go_upto_if 45 with (fail)
   have H := H9.out
   clear H9
   by_cases c8 : ((rd_T29 l0 x5_1).f3) = (wrap64 ((wrap64 ((wrap64 (x1_1 + 1)) + 1)) + 1))
   rotate_left
   · rw [if_neg c8] at H
     have c8b0 : (((rd_T29 l0 x5_1).f3) == (wrap64 ((wrap64 ((wrap64 (x1_1 + 1)) + 1)) + 1))) = false := beq_eq_false_iff_ne.mpr c8
     have c8b1 : (((rd_T29 l0 x5_1).f3) != (wrap64 ((wrap64 ((wrap64 (x1_1 + 1)) + 1)) + 1))) = true := bne_iff_ne.mpr c8
     (first | rw [c8b0] | (simp only [i64_w, i32_w]; rw [c8b0]) | skip)
     obtain rfl := sj H
     go_wp2
     go_ret
     exact ⟨er, Q1⟩
   rw [if_pos c8] at H
   have c8b0 : (((rd_T29 l0 x5_1).f3) == (wrap64 ((wrap64 ((wrap64 (x1_1 + 1)) + 1)) + 1))) = true := beq_iff_eq.mpr c8
   have c8b1 : (((rd_T29 l0 x5_1).f3) != (wrap64 ((wrap64 ((wrap64 (x1_1 + 1)) + 1)) + 1))) = false := bne_eq_false_iff_eq.mpr c8
   clear c8
   (first | rw [c8b0] | (simp only [i64_w, i32_w]; rw [c8b0]) | skip)
   have H9 := am H
   clear H
   have p322 : 0 ≤ (x5_1 : Int) := of_decide_eq_true Q3
   have q322 : x5_1 < (l0.length : Int) := of_decide_eq_true Q3
   obtain ⟨ad322, A322_8, c322_8, e322, hx322_0, hx322_1, hx322_2, hx322_3, hx322_4, hx322_5, hx322_6, hx322_7, hx322_8, hl322_8, hi322_8⟩ := at_T29 HR0.out x5_1 p322 q322
   (try clear hx321_8)
   obtain rfl : ad318 = ad322 := (by injection e322)
   replace hx322_0 := cm HB.out hx322_0
   replace hx322_1 := cm HB.out hx322_1
   replace hx322_2 := cm HB.out hx322_2
   replace hx322_3 := cm HB.out hx322_3
   replace hx322_4 := cm HB.out hx322_4
   replace hx322_5 := cm HB.out hx322_5
   replace hx322_6 := cm HB.out hx322_6
   replace hx322_7 := cm HB.out hx322_7
   replace hx322_8 := cm HB.out hx322_8
   have HR322_8 := am hi322_8
   have HC322_8 := am hl322_8
   clear hi322_8 hl322_8
   replace p322 := eq_true p322
   replace q322 := eq_true q322
   go_upto_if 54 with (fail)
   have H := H9.out
   clear H9
   by_cases c9 : ((rd_T29 l0 x5_1).f4) = (wrap64 ((wrap64 ((wrap64 ((wrap64 (x1_1 + 1)) + 1)) + 1)) + 1))
   rotate_left
   · rw [if_neg c9] at H
     have c9b0 : (((rd_T29 l0 x5_1).f4) == (wrap64 ((wrap64 ((wrap64 ((wrap64 (x1_1 + 1)) + 1)) + 1)) + 1))) = false := beq_eq_false_iff_ne.mpr c9
     have c9b1 : (((rd_T29 l0 x5_1).f4) != (wrap64 ((wrap64 ((wrap64 ((wrap64 (x1_1 + 1)) + 1)) + 1)) + 1))) = true := bne_iff_ne.mpr c9
     (first | rw [c9b0] | (simp only [i64_w, i32_w]; rw [c9b0]) | skip)
     obtain rfl := sj H
     go_wp2
     go_ret
     exact ⟨er, Q1⟩
   rw [if_pos c9] at H
   have c9b0 : (((rd_T29 l0 x5_1).f4) == (wrap64 ((wrap64 ((wrap64 ((wrap64 (x1_1 + 1)) + 1)) + 1)) + 1))) = true := beq_iff_eq.mpr c9
   have c9b1 : (((rd_T29 l0 x5_1).f4) != (wrap64 ((wrap64 ((wrap64 ((wrap64 (x1_1 + 1)) + 1)) + 1)) + 1))) = false := bne_eq_false_iff_eq.mpr c9
   clear c9
   (first | rw [c9b0] | (simp only [i64_w, i32_w]; rw [c9b0]) | skip)
   have H9 := am H
   clear H
   have p323 : 0 ≤ (x5_1 : Int) := of_decide_eq_true Q3
   have q323 : x5_1 < (l0.length : Int) := of_decide_eq_true Q3
   obtain ⟨ad323, A323_8, c323_8, e323, hx323_0, hx323_1, hx323_2, hx323_3, hx323_4, hx323_5, hx323_6, hx323_7, hx323_8, hl323_8, hi323_8⟩ := at_T29 HR0.out x5_1 p323 q323
   (try clear hx322_8)
   obtain rfl : ad318 = ad323 := (by injection e323)
   replace hx323_0 := cm HB.out hx323_0
   replace hx323_1 := cm HB.out hx323_1
   replace hx323_2 := cm HB.out hx323_2
   replace hx323_3 := cm HB.out hx323_3
   replace hx323_4 := cm HB.out hx323_4
   replace hx323_5 := cm HB.out hx323_5
   replace hx323_6 := cm HB.out hx323_6
   replace hx323_7 := cm HB.out hx323_7
   replace hx323_8 := cm HB.out hx323_8
   have HR323_8 := am hi323_8
   have HC323_8 := am hl323_8
   clear hi323_8 hl323_8
   replace p323 := eq_true p323
   replace q323 := eq_true q323
   go_upto_if 63 with (fail)
   have H := H9.out
   clear H9
   by_cases c10 : ((rd_T29 l0 x5_1).f5) = (wrap64 ((wrap64 ((wrap64 ((wrap64 ((wrap64 (x1_1 + 1)) + 1)) + 1)) + 1)) + 1))
   rotate_left
   · rw [if_neg c10] at H
     have c10b0 : (((rd_T29 l0 x5_1).f5) == (wrap64 ((wrap64 ((wrap64 ((wrap64 ((wrap64 (x1_1 + 1)) + 1)) + 1)) + 1)) + 1))) = false := beq_eq_false_iff_ne.mpr c10
     have c10b1 : (((rd_T29 l0 x5_1).f5) != (wrap64 ((wrap64 ((wrap64 ((wrap64 ((wrap64 (x1_1 + 1)) + 1)) + 1)) + 1)) + 1))) = true := bne_iff_ne.mpr c10
     (first | rw [c10b0] | (simp only [i64_w, i32_w]; rw [c10b0]) | skip)
     obtain rfl := sj H
     go_wp2
     go_ret
     exact ⟨er, Q1⟩
   rw [if_pos c10] at H
   have c10b0 : (((rd_T29 l0 x5_1).f5) == (wrap64 ((wrap64 ((wrap64 ((wrap64 ((wrap64 (x1_1 + 1)) + 1)) + 1)) + 1)) + 1))) = true := beq_iff_eq.mpr c10
   have c10b1 : (((rd_T29 l0 x5_1).f5) != (wrap64 ((wrap64 ((wrap64 ((wrap64 ((wrap64 (x1_1 + 1)) + 1)) + 1)) + 1)) + 1))) = false := bne_eq_false_iff_eq.mpr c10
   clear c10
   (first | rw [c10b0] | (simp only [i64_w, i32_w]; rw [c10b0]) | skip)
   have H9 := am H
   clear H
   have p324 : 0 ≤ (x5_1 : Int) := of_decide_eq_true Q3
   have q324 : x5_1 < (l0.length : Int) := of_decide_eq_true Q3
   obtain ⟨ad324, A324_8, c324_8, e324, hx324_0, hx324_1, hx324_2, hx324_3, hx324_4, hx324_5, hx324_6, hx324_7, hx324_8, hl324_8, hi324_8⟩ := at_T29 HR0.out x5_1 p324 q324
   (try clear hx323_8)
   obtain rfl : ad318 = ad324 := (by injection e324)
   replace hx324_0 := cm HB.out hx324_0
   replace hx324_1 := cm HB.out hx324_1
   replace hx324_2 := cm HB.out hx324_2
   replace hx324_3 := cm HB.out hx324_3
   replace hx324_4 := cm HB.out hx324_4
   replace hx324_5 := cm HB.out hx324_5
   replace hx324_6 := cm HB.out hx324_6
   replace hx324_7 := cm HB.out hx324_7
   replace hx324_8 := cm HB.out hx324_8
   have HR324_8 := am hi324_8
   have HC324_8 := am hl324_8
   clear hi324_8 hl324_8
   replace p324 := eq_true p324
   replace q324 := eq_true q324
   go_upto_if 72 with (fail)
   have H := H9.out
   clear H9
   by_cases c11 : ((rd_T29 l0 x5_1).f6) = (wrap64 ((wrap64 ((wrap64 ((wrap64 ((wrap64 ((wrap64 (x1_1 + 1)) + 1)) + 1)) + 1)) + 1)) + 1))
   rotate_left
   · rw [if_neg c11] at H
     have c11b0 : (((rd_T29 l0 x5_1).f6) == (wrap64 ((wrap64 ((wrap64 ((wrap64 ((wrap64 ((wrap64 (x1_1 + 1)) + 1)) + 1)) + 1)) + 1)) + 1))) = false := beq_eq_false_iff_ne.mpr c11
     have c11b1 : (((rd_T29 l0 x5_1).f6) != (wrap64 ((wrap64 ((wrap64 ((wrap64 ((wrap64 ((wrap64 (x1_1 + 1)) + 1)) + 1)) + 1)) + 1)) + 1))) = true := bne_iff_ne.mpr c11
     (first | rw [c11b0] | (simp only [i64_w, i32_w]; rw [c11b0]) | skip)
     obtain rfl := sj H
     go_wp2
     go_ret
     exact ⟨er, Q1⟩
   rw [if_pos c11] at H
   have c11b0 : (((rd_T29 l0 x5_1).f6) == (wrap64 ((wrap64 ((wrap64 ((wrap64 ((wrap64 ((wrap64 (x1_1 + 1)) + 1)) + 1)) + 1)) + 1)) + 1))) = true := beq_iff_eq.mpr c11
   have c11b1 : (((rd_T29 l0 x5_1).f6) != (wrap64 ((wrap64 ((wrap64 ((wrap64 ((wrap64 ((wrap64 (x1_1 + 1)) + 1)) + 1)) + 1)) + 1)) + 1))) = false := bne_eq_false_iff_eq.mpr c11
   clear c11
   (first | rw [c11b0] | (simp only [i64_w, i32_w]; rw [c11b0]) | skip)
   have H9 := am H
   clear H
   have p325 : 0 ≤ (x5_1 : Int) := of_decide_eq_true Q3
   have q325 : x5_1 < (l0.length : Int) := of_decide_eq_true Q3
   obtain ⟨ad325, A325_8, c325_8, e325, hx325_0, hx325_1, hx325_2, hx325_3, hx325_4, hx325_5, hx325_6, hx325_7, hx325_8, hl325_8, hi325_8⟩ := at_T29 HR0.out x5_1 p325 q325
   (try clear hx324_8)
   obtain rfl : ad318 = ad325 := (by injection e325)
   replace hx325_0 := cm HB.out hx325_0
   replace hx325_1 := cm HB.out hx325_1
   replace hx325_2 := cm HB.out hx325_2
   replace hx325_3 := cm HB.out hx325_3
   replace hx325_4 := cm HB.out hx325_4
   replace hx325_5 := cm HB.out hx325_5
   replace hx325_6 := cm HB.out hx325_6
   replace hx325_7 := cm HB.out hx325_7
   replace hx325_8 := cm HB.out hx325_8
   have HR325_8 := am hi325_8
   have HC325_8 := am hl325_8
   clear hi325_8 hl325_8
   replace p325 := eq_true p325
   replace q325 := eq_true q325
   go_upto_if 83 with (fail)
   have H := H9.out
   clear H9
   by_cases c12 : (((rd_T29 l0 x5_1).f7) != ((Int.tmod (wrap64 ((wrap64 ((wrap64 ((wrap64 ((wrap64 ((wrap64 ((wrap64 (x1_1 + 1)) + 1)) + 1)) + 1)) + 1)) + 1)) + 1)) 3) == 0)) = true
   · rw [if_pos c12] at H
     have c12b0 : (((rd_T29 l0 x5_1).f7) != ((Int.tmod (wrap64 ((wrap64 ((wrap64 ((wrap64 ((wrap64 ((wrap64 ((wrap64 (x1_1 + 1)) + 1)) + 1)) + 1)) + 1)) + 1)) + 1)) 3) == 0)) = true := c12
     (try (have c12b1 : decide (((rd_T29 l0 x5_1).f7) = ((Int.tmod (wrap64 ((wrap64 ((wrap64 ((wrap64 ((wrap64 ((wrap64 ((wrap64 (x1_1 + 1)) + 1)) + 1)) + 1)) + 1)) + 1)) + 1)) 3) == 0)) = false := by simpa using c12))
     (try (have c12b2 : (((rd_T29 l0 x5_1).f7) == ((Int.tmod (wrap64 ((wrap64 ((wrap64 ((wrap64 ((wrap64 ((wrap64 ((wrap64 (x1_1 + 1)) + 1)) + 1)) + 1)) + 1)) + 1)) + 1)) 3) == 0)) = false := by simpa using c12))
     (try (have c12b3 : ¬ (((rd_T29 l0 x5_1).f7) = ((Int.tmod (wrap64 ((wrap64 ((wrap64 ((wrap64 ((wrap64 ((wrap64 ((wrap64 (x1_1 + 1)) + 1)) + 1)) + 1)) + 1)) + 1)) + 1)) 3) == 0)) := by simpa using c12))
     clear c12
     (first | rw [c12b0] | (simp only [i64_w, i32_w]; rw [c12b0]) | rw [show (!(_ == _)) = _ from c12b0] | skip)
     obtain rfl := sj H
     go_wp2
     go_ret
     exact ⟨er, Q1⟩
   rw [if_neg c12] at H
   have c12b0 : (((rd_T29 l0 x5_1).f7) != ((Int.tmod (wrap64 ((wrap64 ((wrap64 ((wrap64 ((wrap64 ((wrap64 ((wrap64 (x1_1 + 1)) + 1)) + 1)) + 1)) + 1)) + 1)) + 1)) 3) == 0)) = false := by simpa using c12
   (try (have c12b1 : decide (((rd_T29 l0 x5_1).f7) = ((Int.tmod (wrap64 ((wrap64 ((wrap64 ((wrap64 ((wrap64 ((wrap64 ((wrap64 (x1_1 + 1)) + 1)) + 1)) + 1)) + 1)) + 1)) + 1)) 3) == 0)) = true := by simpa using c12))
   (try (have c12b2 : (((rd_T29 l0 x5_1).f7) == ((Int.tmod (wrap64 ((wrap64 ((wrap64 ((wrap64 ((wrap64 ((wrap64 ((wrap64 (x1_1 + 1)) + 1)) + 1)) + 1)) + 1)) + 1)) + 1)) 3) == 0)) = true := by simpa using c12))
   clear c12
   (first | rw [c12b0] | (simp only [i64_w, i32_w]; rw [c12b0]) | rw [show (!(_ == _)) = _ from c12b0] | skip)
   replace H := Option.bind_eq_some_iff.mp H
   obtain ⟨t327, A130, H⟩ := H
   replace H : (if t327 < 0 then (some (-1)) else (laws_heldMsgS.l0 k1 l0 t327 (wrap64 (x5_1 + 1)))) = some r := H
   have A13 := am A130
   clear A130
   have H9 := am H
   clear H
   have p326 : 0 ≤ (x5_1 : Int) := of_decide_eq_true Q3
   have q326 : x5_1 < (l0.length : Int) := of_decide_eq_true Q3
   obtain ⟨ad326, A326_8, c326_8, e326, hx326_0, hx326_1, hx326_2, hx326_3, hx326_4, hx326_5, hx326_6, hx326_7, hx326_8, hl326_8, hi326_8⟩ := at_T29 HR0.out x5_1 p326 q326
   (try clear hx325_8)
   obtain rfl : ad318 = ad326 := (by injection e326)
   replace hx326_0 := cm HB.out hx326_0
   replace hx326_1 := cm HB.out hx326_1
   replace hx326_2 := cm HB.out hx326_2
   replace hx326_3 := cm HB.out hx326_3
   replace hx326_4 := cm HB.out hx326_4
   replace hx326_5 := cm HB.out hx326_5
   replace hx326_6 := cm HB.out hx326_6
   replace hx326_7 := cm HB.out hx326_7
   replace hx326_8 := cm HB.out hx326_8
   have HR326_8 := am hi326_8
   have HC326_8 := am hl326_8
   clear hi326_8 hl326_8
   replace p326 := eq_true p326
   replace q326 := eq_true q326
   go_upto_if 94 with (first | ((with_reducible refine gate_callee (f := 60) rfl ?_); refine goesL_ (some 92) rfl rfl Try.func60 kr rfl #[.slice A326_8 ((rd_T29 l0 x5_1).f8).length c326_8, .int .i64 (wrap64 ((wrap64 ((wrap64 ((wrap64 ((wrap64 ((wrap64 ((wrap64 ((wrap64 (x1_1 + 1)) + 1)) + 1)) + 1)) + 1)) + 1)) + 1)) + 1))] rfl Q0 ?_; (with_reducible refine (laws_heldEntryS.calls k1 _ _ ((rd_T29 l0 x5_1).f8) (wrap64 ((wrap64 ((wrap64 ((wrap64 ((wrap64 ((wrap64 ((wrap64 ((wrap64 (x1_1 + 1)) + 1)) + 1)) + 1)) + 1)) + 1)) + 1)) + 1)) t327 _ ?side1 ?side2 A13.out).mono ?_); (case side1 => exact (by repeat (first | exact (Kd.C_below HR326_8.out HB.out) | (with_reducible refine Kd.C_alloc ?_ _) | (with_reducible refine Kd.C_drewN ?_ _) | (with_reducible refine Kd.C_drew ?_)))); (case side2 => exact HC326_8.out); rintro e w14 ⟨rfl, hb⟩; refine ⟨_, rfl, ?_⟩; replace HB := am (below_step Q1 hb); (try clear hb); (try clear hb2); (try clear hk); (try clear hi)))
   have H := H9.out
   clear H9
   by_cases c15 : t327 < 0
   · rw [if_pos c15] at H
     have c15b0 : decide (t327 < 0) = true := decide_eq_true c15
     clear c15
     (first | rw [c15b0] | (simp only [i64_w, i32_w]; rw [c15b0]) | skip)
     obtain rfl := sj H
     go_wp2
     go_ret
     exact ⟨er, Q1⟩
   rw [if_neg c15] at H
   have c15b0 : decide (t327 < 0) = false := decide_eq_false c15
   clear c15
   (first | rw [c15b0] | (simp only [i64_w, i32_w]; rw [c15b0]) | skip)
   have H' := am H
   clear H
   go_wp2
   go_roundg k1
   case measure => have := HK1.out; omega
   case rel => exact ⟨(t327), (wrap64 (x5_1 + 1)), Q4, Q4, H', ⟨by have := HK1.out; omega⟩, ⟨Q1⟩⟩

end Go.Proofs.Ytkcadcoohmofcaa.QFnExactBeat
