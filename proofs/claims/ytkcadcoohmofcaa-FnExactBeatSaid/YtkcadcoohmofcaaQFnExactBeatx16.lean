-- Printed by the session's own program wip/prx.py.
import Derived.Test.YtkcadcoohmofcaaSqFnExactBeat
import Derived.Test.YtkcadcoohmofcaaQFnExactBeatx0
import Derived.Test.YtkcadcoohmofcaaQFnExactBeatx2
import Derived.Test.YtkcadcoohmofcaaQFnExactBeatx3
import Derived.Test.YtkcadcoohmofcaaQFnExactBeatx8
import Derived.Test.YtkcadcoohmofcaaQFnExactBeatx13
import Derived.Test.YtkcadcoohmofcaaQFnExactBeatx14
import Derived.Test.YtkcadcoohmofcaaQFnExactBeatx15
namespace Go.Proofs.Ytkcadcoohmofcaa.QFnExactBeat
open Go.RowKit Go.Proofs.YtkcadcoohmofcaaW.PrintWords Go.Proofs.YtkcadcoohmofcaaW.PrintLast Go.Proofs.YtkcadcoohmofcaaW.PrintMore Go.Proofs.Ytkcadcoohmofcaa.SqFnExactBeat
attribute [local go_sem] max2_int min2_int max_two min_two max_three min_three max_four min_four Go.Proofs.Ytkcadcoohmofcaa.Set.isSome_setCell
set_option linter.unusedVariables false
set_option linter.unusedSimpArgs false

-- squeezed
theorem u16_2 {P : Prop} (h : P := by (with_reducible repeat (first | refine blk_drewN ?_ _ | refine blk_drew ?_ | refine blk_alloc ?_ _)); exact BK328.out) : P := h
theorem u16_3 {P : Prop} (h : P := by (with_reducible repeat (first | apply Kd.R_alloc | apply Kd.R_drewN | apply Kd.R_drew)); exact (Kd.R_mono (Kd.R_far (p := ⟨gb365, 9, none⟩) (Kd.R_far (p := ⟨gb365, 8, none⟩) (Kd.R_far (p := ⟨gb365, 7, none⟩) (Kd.R_far (p := ⟨gb365, 6, none⟩) (Kd.R_far (p := ⟨gb365, 5, none⟩) (Kd.R_far (p := ⟨gb365, 4, none⟩) (Kd.R_far (p := ⟨gb365, 3, none⟩) (Kd.R_far (p := ⟨gb365, 2, none⟩) (Kd.R_far (p := ⟨gb365, 1, none⟩) (Kd.R_far (p := ⟨gb365, 0, none⟩) (Kd.R_types HO358.out BK365.out (by decide)) (fun _ hk => hk.2) (.int .i64 t349)) (fun _ hk => hk.2) (.int .i64 t350)) (fun _ hk => hk.2) (.int .i64 t351)) (fun _ hk => hk.2) (.int .i64 t352)) (fun _ hk => hk.2) (.int .i64 t353)) (fun _ hk => hk.2) (.int .i64 t354)) (fun _ hk => hk.2) (.int .i64 t355)) (fun _ hk => hk.2) (.slice Ao43 t356.length co43)) (fun _ hk => hk.2) (.slice Ao44 t359.length co44)) (fun _ hk => hk.2) (.slice Ao45 t362.length co45)) (fun _ h_ => h_.1))) : P := h
theorem u16_5 {P : Prop} (h : P := by (with_reducible repeat (first | refine blk_drewN ?_ _ | refine blk_drew ?_ | refine blk_alloc ?_ _)); exact BK365.out) : P := h
theorem u16_6 {P : Prop} (h : P := by (with_reducible repeat (first | apply Kd.S_alloc | apply Kd.S_drewN | apply Kd.S_drew)); exact HO348.out) : P := h
theorem u16_7 {P : Prop} (h : P := by (with_reducible repeat (first | apply Kd.R_alloc | apply Kd.R_drewN | apply Kd.R_drew)); exact (Kd.R_mono (Kd.R_far (p := ⟨gb365, 9, none⟩) (Kd.R_far (p := ⟨gb365, 8, none⟩) (Kd.R_far (p := ⟨gb365, 7, none⟩) (Kd.R_far (p := ⟨gb365, 6, none⟩) (Kd.R_far (p := ⟨gb365, 5, none⟩) (Kd.R_far (p := ⟨gb365, 4, none⟩) (Kd.R_far (p := ⟨gb365, 3, none⟩) (Kd.R_far (p := ⟨gb365, 2, none⟩) (Kd.R_far (p := ⟨gb365, 1, none⟩) (Kd.R_far (p := ⟨gb365, 0, none⟩) (Kd.R_types HO361.out BK365.out (by decide)) (fun _ hk => hk.2) (.int .i64 t349)) (fun _ hk => hk.2) (.int .i64 t350)) (fun _ hk => hk.2) (.int .i64 t351)) (fun _ hk => hk.2) (.int .i64 t352)) (fun _ hk => hk.2) (.int .i64 t353)) (fun _ hk => hk.2) (.int .i64 t354)) (fun _ hk => hk.2) (.int .i64 t355)) (fun _ hk => hk.2) (.slice Ao43 t356.length co43)) (fun _ hk => hk.2) (.slice Ao44 t359.length co44)) (fun _ hk => hk.2) (.slice Ao45 t362.length co45)) (fun _ h_ => h_.1))) : P := h
theorem u16_8 {P : Prop} (h : P := by (with_reducible repeat (first | apply Kd.R_alloc | apply Kd.R_drewN | apply Kd.R_drew)); exact (Kd.R_mono (Kd.R_far (p := ⟨gb365, 9, none⟩) (Kd.R_far (p := ⟨gb365, 8, none⟩) (Kd.R_far (p := ⟨gb365, 7, none⟩) (Kd.R_far (p := ⟨gb365, 6, none⟩) (Kd.R_far (p := ⟨gb365, 5, none⟩) (Kd.R_far (p := ⟨gb365, 4, none⟩) (Kd.R_far (p := ⟨gb365, 3, none⟩) (Kd.R_far (p := ⟨gb365, 2, none⟩) (Kd.R_far (p := ⟨gb365, 1, none⟩) (Kd.R_far (p := ⟨gb365, 0, none⟩) (Kd.R_types HO364.out BK365.out (by decide)) (fun _ hk => hk.2) (.int .i64 t349)) (fun _ hk => hk.2) (.int .i64 t350)) (fun _ hk => hk.2) (.int .i64 t351)) (fun _ hk => hk.2) (.int .i64 t352)) (fun _ hk => hk.2) (.int .i64 t353)) (fun _ hk => hk.2) (.int .i64 t354)) (fun _ hk => hk.2) (.int .i64 t355)) (fun _ hk => hk.2) (.slice Ao43 t356.length co43)) (fun _ hk => hk.2) (.slice Ao44 t359.length co44)) (fun _ hk => hk.2) (.slice Ao45 t362.length co45)) (fun _ h_ => h_.1))) : P := h
theorem u16_9 {P : Prop} (h : P := by (with_reducible repeat (first | apply Kd.S_alloc | apply Kd.S_drewN | apply Kd.S_drew)); exact (Kd.S_mono (Kd.S_far (p := ⟨gb365, 9, none⟩) (Kd.S_far (p := ⟨gb365, 8, none⟩) (Kd.S_far (p := ⟨gb365, 7, none⟩) (Kd.S_far (p := ⟨gb365, 6, none⟩) (Kd.S_far (p := ⟨gb365, 5, none⟩) (Kd.S_far (p := ⟨gb365, 4, none⟩) (Kd.S_far (p := ⟨gb365, 3, none⟩) (Kd.S_far (p := ⟨gb365, 2, none⟩) (Kd.S_far (p := ⟨gb365, 1, none⟩) (Kd.S_far (p := ⟨gb365, 0, none⟩) (Kd.S_types HO348.out BK365.out (by decide)) (fun _ hk => hk.2) (.int .i64 t349)) (fun _ hk => hk.2) (.int .i64 t350)) (fun _ hk => hk.2) (.int .i64 t351)) (fun _ hk => hk.2) (.int .i64 t352)) (fun _ hk => hk.2) (.int .i64 t353)) (fun _ hk => hk.2) (.int .i64 t354)) (fun _ hk => hk.2) (.int .i64 t355)) (fun _ hk => hk.2) (.slice Ao43 t356.length co43)) (fun _ hk => hk.2) (.slice Ao44 t359.length co44)) (fun _ hk => hk.2) (.slice Ao45 t362.length co45)) (fun _ h_ => h_.1))) : P := h
theorem u16_10 {P : Prop} (h : P := by (with_reducible repeat (first | apply Kd.S_alloc | apply Kd.S_drewN | apply Kd.S_drew)); exact HO368.out) : P := h
theorem u16_14 {P : Prop} (h : P := by repeat (first | exact (Kd.S_reads' HO368.out).2.2 | (with_reducible refine Kd.C_alloc ?_ _) | (with_reducible refine Kd.C_drewN ?_ _) | (with_reducible refine Kd.C_drew ?_))) : P := h
theorem u16_15 {P : Prop} (h : P := by (with_reducible repeat (first | apply Kd.R_alloc | apply Kd.R_drewN | apply Kd.R_drew)); exact HO361.out) : P := h
theorem u16_16 {P : Prop} (h : P := by (with_reducible repeat (first | apply Kd.R_alloc | apply Kd.R_drewN | apply Kd.R_drew)); exact HO364.out) : P := h
theorem u16_17 {P : Prop} (h : P := by (with_reducible repeat (first | apply Kd.R_alloc | apply Kd.R_drewN | apply Kd.R_drew)); exact HO358.out) : P := h
theorem u16_18 {P : Prop} (h : P := by repeat (first | exact (Kd.S_reads' HO348.out).2.2 | (with_reducible refine Kd.C_alloc ?_ _) | (with_reducible refine Kd.C_drewN ?_ _) | (with_reducible refine Kd.C_drew ?_))) : P := h
theorem u16_20 {P : Prop} (h : P := by (try simp only [List.map_toArray, List.map_cons, List.map_nil]); first | done | (rw [show t393.length = t366.length from (Kd.S_reads' HO368.out).1.symm] <;> rfl) | rfl | (simp only [List.length_drop, List.length_take]; rfl)) : P := h
theorem u16_21 {P : Prop} (h : P := by rw [show t393.length = t366.length from (Kd.S_reads' HO368.out).1.symm]; exact (Kd.S_reads' HO368.out).2.1) : P := h
theorem u16_22 {P : Prop} (h : P := by (with_reducible repeat (first | apply Kd.R_alloc | apply Kd.R_drewN | apply Kd.R_drew)); exact HO339.out) : P := h
theorem u16_23 {P : Prop} (h : P := by (with_reducible repeat (first | apply Kd.R_alloc | apply Kd.R_drewN | apply Kd.R_drew)); exact HO404.out) : P := h
theorem untyped_ {w : World} {k t : Nat} {L : List Nat} (h : ∃ q_, q_ ∈ L ∧ ∃ cells_, w.heap[k]? = some (.cells cells_ q_ (0, 0))) (h2 : ∃ cells_, w.heap[k]? = some (.cells cells_ t (0, 0))) (hn : ∀ q ∈ L, q ≠ t) : False := by
 obtain ⟨q, hq, c, e⟩ := h
 obtain ⟨c2, e2⟩ := h2
 rw [e] at e2
 injection e2 with e2
 injection e2 with _ e3
 exact hn q hq e3
theorem split_ {α : Type} {d : Kd α} {e base b0 : Nat} {W w1 : World} {okA okB : Nat → Prop} {u v : Value} {xs ys : List α} (hA : Kd.S d e W base okA u xs) (hB : Kd.S d e w1 W.heap.size okB v ys) (hb : Below W.heap.size W w1) (hl : b0 ≤ W.heap.size) : ∃ N : Nat, Kd.S d e w1 base (fun k => okA k ∧ k < N) u xs ∧ Kd.S d e w1 b0 (fun k => okB k ∧ N ≤ k) v ys :=
 ⟨W.heap.size, Kd.S_old hA hb, Kd.S_lower (Kd.S_mono (Kd.S_bound hB) (fun k h => ⟨h.1, h.2.1⟩)) hl⟩
/-! ### laws_FnExactBeat: function 9 -/
def laws_FnExactBeat.f (k : Nat) (a0_0 : Int) (a0_1 : Int) (a0_2 : Int) (a0_3 : Int) (a0_4 : Int) (a0_5 : Int) (a0_6 : Int) (l0_7 : List (S112)) (l0_8 : List Int) (l0_9 : List Int) (a1 : Int) : Option (Bool) := (laws_szNode.f k a0_0 a0_1 a0_2 a0_3 a0_4 a0_5 a0_6 l0_7 l0_8 l0_9 1048576).bind fun t329 => (if t329 < 0 then (some true) else ((laws_toNode.f k a0_0 a0_1 a0_2 a0_3 a0_4 a0_5 a0_6 l0_7 l0_8 l0_9).bind fun bt330 => ((spec_Beat.f k bt330.1 bt330.2.1 bt330.2.2.1 bt330.2.2.2.1 bt330.2.2.2.2.1 bt330.2.2.2.2.2.1 bt330.2.2.2.2.2.2.1 bt330.2.2.2.2.2.2.2.1 bt330.2.2.2.2.2.2.2.2.1 bt330.2.2.2.2.2.2.2.2.2 a1).bind fun t346 => ((laws_toNode.f k a0_0 a0_1 a0_2 a0_3 a0_4 a0_5 a0_6 l0_7 l0_8 l0_9).bind fun bt349 => ((impl_Beat.f k bt349.1 bt349.2.1 bt349.2.2.1 bt349.2.2.2.1 bt349.2.2.2.2.1 bt349.2.2.2.2.2.1 bt349.2.2.2.2.2.2.1 bt349.2.2.2.2.2.2.2.1 bt349.2.2.2.2.2.2.2.2.1 bt349.2.2.2.2.2.2.2.2.2 a1).bind fun t366 => ((laws_eqMsgS.f k t366 t346).bind fun t369 => (if t369 = true then ((laws_toNode.f k a0_0 a0_1 a0_2 a0_3 a0_4 a0_5 a0_6 l0_7 l0_8 l0_9).bind fun bt370 => ((laws_eqNode.f k bt349.1 bt349.2.1 bt349.2.2.1 bt349.2.2.2.1 bt349.2.2.2.2.1 bt349.2.2.2.2.2.1 bt349.2.2.2.2.2.2.1 bt349.2.2.2.2.2.2.2.1 bt349.2.2.2.2.2.2.2.2.1 bt349.2.2.2.2.2.2.2.2.2 bt370.1 bt370.2.1 bt370.2.2.1 bt370.2.2.2.1 bt370.2.2.2.2.1 bt370.2.2.2.2.2.1 bt370.2.2.2.2.2.2.1 bt370.2.2.2.2.2.2.2.1 bt370.2.2.2.2.2.2.2.2.1 bt370.2.2.2.2.2.2.2.2.2).bind fun t386 => (if t386 = true then ((laws_markNode.f k bt349.1 bt349.2.1 bt349.2.2.1 bt349.2.2.2.1 bt349.2.2.2.2.1 bt349.2.2.2.2.2.1 bt349.2.2.2.2.2.2.1 bt349.2.2.2.2.2.2.2.1 bt349.2.2.2.2.2.2.2.2.1 bt349.2.2.2.2.2.2.2.2.2 1).bind fun bt387 => (if bt387.1 < 0 then (some false) else ((laws_eqMsgS.f k t366 t346).bind fun t391 => (if t391 = true then ((laws_markMsgS.f k t366 1).bind fun bt392 => ((laws_heldMsgS.f k bt392.2 1).bind fun t394 => (if t394 < 0 then (some false) else (if t394 = bt392.1 then ((laws_toNode.f k a0_0 a0_1 a0_2 a0_3 a0_4 a0_5 a0_6 l0_7 l0_8 l0_9).bind fun bt395 => ((impl_Beat.f k bt395.1 bt395.2.1 bt395.2.2.1 bt395.2.2.2.1 bt395.2.2.2.2.1 bt395.2.2.2.2.2.1 bt395.2.2.2.2.2.2.1 bt395.2.2.2.2.2.2.2.1 bt395.2.2.2.2.2.2.2.2.1 bt395.2.2.2.2.2.2.2.2.2 a1).bind fun t411 => ((laws_eqMsgS.f k t411 t346).bind fun t414 => (if t414 = true then ((laws_heldMsgS.f k bt392.2 1).bind fun t415 => (if t415 < 0 then (some false) else (if t415 = bt392.1 then (some true) else (some false)))) else (some false))))) else (some false))))) else (some false))))) else (some false)))) else (some false))))))))
theorem laws_FnExactBeat.mono : ∀ a0 a1 a2 a3 a4 a5 a6 a7 a8 a9 a10 k, LeO (laws_FnExactBeat.f k a0 a1 a2 a3 a4 a5 a6 a7 a8 a9 a10) (laws_FnExactBeat.f (k + 1) a0 a1 a2 a3 a4 a5 a6 a7 a8 a9 a10) := by
 intro a0 a1 a2 a3 a4 a5 a6 a7 a8 a9 a10 k
 unfold laws_FnExactBeat.f
 repeat' first
     | (with_reducible exact impl_Beat.mono _ _ _ _ _ _ _ _ _ _ _ _)
     | (with_reducible exact laws_eqMsgS.mono _ _ _)
     | (with_reducible exact laws_eqNode.mono _ _ _ _ _ _ _ _ _ _ _ _ _ _ _ _ _ _ _ _ _)
     | (with_reducible exact laws_heldMsgS.mono _ _ _)
     | (with_reducible exact laws_markMsgS.mono _ _ _)
     | (with_reducible exact laws_markNode.mono _ _ _ _ _ _ _ _ _ _ _ _)
     | (with_reducible exact laws_szNode.mono _ _ _ _ _ _ _ _ _ _ _ _)
     | (with_reducible exact laws_toNode.mono _ _ _ _ _ _ _ _ _ _ _)
     | (with_reducible exact spec_Beat.mono _ _ _ _ _ _ _ _ _ _ _ _)
     | (with_reducible exact LeO.refl _)
     | (with_reducible exact LeO.none _)
     | (with_reducible refine LeO.ite ?_ ?_)
     | (with_reducible refine LeO.bind ?_ (fun _ => ?_))
     | exact impl_Beat.mono _ _ _ _ _ _ _ _ _ _ _ _
     | exact laws_eqMsgS.mono _ _ _
     | exact laws_eqNode.mono _ _ _ _ _ _ _ _ _ _ _ _ _ _ _ _ _ _ _ _ _
     | exact laws_heldMsgS.mono _ _ _
     | exact laws_markMsgS.mono _ _ _
     | exact laws_markNode.mono _ _ _ _ _ _ _ _ _ _ _ _
     | exact laws_szNode.mono _ _ _ _ _ _ _ _ _ _ _ _
     | exact laws_toNode.mono _ _ _ _ _ _ _ _ _ _ _
     | exact spec_Beat.mono _ _ _ _ _ _ _ _ _ _ _ _
     | exact LeO.none _
     | refine LeO.ite ?_ ?_
     | refine LeO.bind ?_ (fun _ => ?_)
set_option maxHeartbeats 8000000 in
set_option maxRecDepth 100000 in
theorem laws_FnExactBeat.calls (k : Nat) (a0_0 : Int) (a0_1 : Int) (a0_2 : Int) (a0_3 : Int) (a0_4 : Int) (a0_5 : Int) (a0_6 : Int) (A0_7 : Option Addr) (c0_7 : Nat) (l0_7 : List (S112)) (A0_8 : Option Addr) (c0_8 : Nat) (l0_8 : List Int) (A0_9 : Option Addr) (c0_9 : Nat) (l0_9 : List Int) (a1 : Int) (r : Bool) (w : World) (hr0_7 : Kd.C k112 w A0_7 l0_7.length l0_7) (hc0_7 : l0_7.length ≤ c0_7) (hr0_8 : Kd.C (Kd.int .i64) w A0_8 l0_8.length l0_8) (hc0_8 : l0_8.length ≤ c0_8) (hr0_9 : Kd.C (Kd.int .i64) w A0_9 l0_9.length l0_9) (hc0_9 : l0_9.length ≤ c0_9) (h : laws_FnExactBeat.f k a0_0 a0_1 a0_2 a0_3 a0_4 a0_5 a0_6 l0_7 l0_8 l0_9 a1 = some r) (hr_ : Aside0 (r = true)) :
   Calls Try.prog 9 #[.agg #[.int .i64 a0_0, .int .i64 a0_1, .int .i64 a0_2, .int .i64 a0_3, .int .i64 a0_4, .int .i64 a0_5, .int .i64 a0_6, .slice A0_7 l0_7.length c0_7, .slice A0_8 l0_8.length c0_8, .slice A0_9 l0_9.length c0_9], .int .i64 a1] w fun e w' => e = .returned (.bool r) ∧ Below w.heap.size w w' := by
 have hu45 := Try.underlying45
 have hu37 := Try.underlying37
 have HR0_7 := am hr0_7
 have HC0_7 := am hc0_7
 clear hr0_7 hc0_7
 have HR0_8 := am hr0_8
 have HC0_8 := am hc0_8
 clear hr0_8 hc0_8
 have HR0_9 := am hr0_9
 have HC0_9 := am hc0_9
 clear hr0_9 hc0_9
 have HB := am (Below.refl w.heap.size w)
 have H : ((laws_szNode.f k a0_0 a0_1 a0_2 a0_3 a0_4 a0_5 a0_6 l0_7 l0_8 l0_9 1048576).bind fun t329 => (if t329 < 0 then (some true) else ((laws_toNode.f k a0_0 a0_1 a0_2 a0_3 a0_4 a0_5 a0_6 l0_7 l0_8 l0_9).bind fun bt330 => ((spec_Beat.f k bt330.1 bt330.2.1 bt330.2.2.1 bt330.2.2.2.1 bt330.2.2.2.2.1 bt330.2.2.2.2.2.1 bt330.2.2.2.2.2.2.1 bt330.2.2.2.2.2.2.2.1 bt330.2.2.2.2.2.2.2.2.1 bt330.2.2.2.2.2.2.2.2.2 a1).bind fun t346 => ((laws_toNode.f k a0_0 a0_1 a0_2 a0_3 a0_4 a0_5 a0_6 l0_7 l0_8 l0_9).bind fun bt349 => ((impl_Beat.f k bt349.1 bt349.2.1 bt349.2.2.1 bt349.2.2.2.1 bt349.2.2.2.2.1 bt349.2.2.2.2.2.1 bt349.2.2.2.2.2.2.1 bt349.2.2.2.2.2.2.2.1 bt349.2.2.2.2.2.2.2.2.1 bt349.2.2.2.2.2.2.2.2.2 a1).bind fun t366 => ((laws_eqMsgS.f k t366 t346).bind fun t369 => (if t369 = true then ((laws_toNode.f k a0_0 a0_1 a0_2 a0_3 a0_4 a0_5 a0_6 l0_7 l0_8 l0_9).bind fun bt370 => ((laws_eqNode.f k bt349.1 bt349.2.1 bt349.2.2.1 bt349.2.2.2.1 bt349.2.2.2.2.1 bt349.2.2.2.2.2.1 bt349.2.2.2.2.2.2.1 bt349.2.2.2.2.2.2.2.1 bt349.2.2.2.2.2.2.2.2.1 bt349.2.2.2.2.2.2.2.2.2 bt370.1 bt370.2.1 bt370.2.2.1 bt370.2.2.2.1 bt370.2.2.2.2.1 bt370.2.2.2.2.2.1 bt370.2.2.2.2.2.2.1 bt370.2.2.2.2.2.2.2.1 bt370.2.2.2.2.2.2.2.2.1 bt370.2.2.2.2.2.2.2.2.2).bind fun t386 => (if t386 = true then ((laws_markNode.f k bt349.1 bt349.2.1 bt349.2.2.1 bt349.2.2.2.1 bt349.2.2.2.2.1 bt349.2.2.2.2.2.1 bt349.2.2.2.2.2.2.1 bt349.2.2.2.2.2.2.2.1 bt349.2.2.2.2.2.2.2.2.1 bt349.2.2.2.2.2.2.2.2.2 1).bind fun bt387 => (if bt387.1 < 0 then (some false) else ((laws_eqMsgS.f k t366 t346).bind fun t391 => (if t391 = true then ((laws_markMsgS.f k t366 1).bind fun bt392 => ((laws_heldMsgS.f k bt392.2 1).bind fun t394 => (if t394 < 0 then (some false) else (if t394 = bt392.1 then ((laws_toNode.f k a0_0 a0_1 a0_2 a0_3 a0_4 a0_5 a0_6 l0_7 l0_8 l0_9).bind fun bt395 => ((impl_Beat.f k bt395.1 bt395.2.1 bt395.2.2.1 bt395.2.2.2.1 bt395.2.2.2.2.1 bt395.2.2.2.2.2.1 bt395.2.2.2.2.2.2.1 bt395.2.2.2.2.2.2.2.1 bt395.2.2.2.2.2.2.2.2.1 bt395.2.2.2.2.2.2.2.2.2 a1).bind fun t411 => ((laws_eqMsgS.f k t411 t346).bind fun t414 => (if t414 = true then ((laws_heldMsgS.f k bt392.2 1).bind fun t415 => (if t415 < 0 then (some false) else (if t415 = bt392.1 then (some true) else (some false)))) else (some false))))) else (some false))))) else (some false))))) else (some false)))) else (some false))))))))) = some r := h
 clear h
 replace H := Option.bind_eq_some_iff.mp H
 obtain ⟨t329, A30, H⟩ := H
 have A3 := am A30
 clear A30
 have H9 := am H
 clear H
 go_enter Try.func9, Try.ntmps9
 go_upto_if 17 with (first | ((with_reducible refine gate_dst (N := 2) rfl ?_); refine box_event ?hg (N := 2) ?hd (cs := #[.int .i64 a0_0, .int .i64 a0_1, .int .i64 a0_2, .int .i64 a0_3, .int .i64 a0_4, .int .i64 a0_5, .int .i64 a0_6, .slice A0_7 l0_7.length c0_7, .slice A0_8 l0_8.length c0_8, .slice A0_9 l0_9.length c0_9]) (t := 45) ?hr ?_; (case hd => rfl); (case hg => rfl); (case hr => first | (go_simp; done) | (go_simp; rfl)); intro gb328 hg w4 hbox hb; have BK328 := am (hbox); have GW328 := am ((by rw [hg]; exact (below_size Q1) : w.heap.size ≤ gb328)); have GE328 := am ((by rw [hg]; exact (below_size Q1) : w.heap.size ≤ gb328)); replace HB := am (below_step Q1 hb); clear hb hbox hg; obtain ⟨hcz5_0, hcz5_1, hcz5_2, hcz5_3, hcz5_4, hcz5_5, hcz5_6, hcz5_7, hcz5_8, hcz5_9, hfz5_0, hfz5_1, hfz5_2, hfz5_3, hfz5_4, hfz5_5, hfz5_6, hfz5_7, hfz5_8, hfz5_9⟩ := bc10f w4 BK328.out) | ((with_reducible refine gate_callee (f := 25) rfl ?_); refine goesL_ (some 15) rfl rfl Try.func25 kr rfl #[.agg #[.int .i64 a0_0, .int .i64 a0_1, .int .i64 a0_2, .int .i64 a0_3, .int .i64 a0_4, .int .i64 a0_5, .int .i64 a0_6, .slice A0_7 l0_7.length c0_7, .slice A0_8 l0_8.length c0_8, .slice A0_9 l0_9.length c0_9], .int .i64 1048576] rfl Q0 ?_; (with_reducible refine (laws_szNode.calls k a0_0 a0_1 a0_2 a0_3 a0_4 a0_5 a0_6 _ _ l0_7 _ _ l0_8 _ _ l0_9 1048576 t329 _ ?side1 ?side2 ?side3 ?side4 ?side5 ?side6 A3.out).mono ?_); (case side1 => exact Q8); (case side2 => exact HC0_7.out); (case side3 => exact Q9); (case side4 => exact HC0_8.out); (case side5 => exact Q11); (case side6 => exact HC0_9.out); rintro e w6 ⟨rfl, hb⟩; refine ⟨_, rfl, ?_⟩; replace BK328 := am (blk_below (g := gb328) (o := .cells #[.int .i64 a0_0, .int .i64 a0_1, .int .i64 a0_2, .int .i64 a0_3, .int .i64 a0_4, .int .i64 a0_5, .int .i64 a0_6, .slice A0_7 l0_7.length c0_7, .slice A0_8 l0_8.length c0_8, .slice A0_9 l0_9.length c0_9] 45 (0, 0)) u16_2 hb); replace HB := am (below_step Q1 hb); (try clear hb); (try clear hb2); (try clear hk); (try clear hi)))
 have H := H9.out
 clear H9
 by_cases c7 : t329 < 0
 · rw [if_pos c7] at H
   have c7b0 : decide (t329 < 0) = true := decide_eq_true c7
   clear c7
   (first | rw [c7b0] | (simp only [i64_w, i32_w]; rw [c7b0]) | skip)
   obtain rfl := sj H
   go_wp2
   go_ret
   exact ⟨er, Q1⟩
 rw [if_neg c7] at H
 have c7b0 : decide (t329 < 0) = false := decide_eq_false c7
 clear c7
 (first | rw [c7b0] | (simp only [i64_w, i32_w]; rw [c7b0]) | skip)
 replace H := Option.bind_eq_some_iff.mp H
 obtain ⟨⟨t330, t331, t332, t333, t334, t335, t336, t337, t340, t343⟩, A80, H⟩ := H
 (try dsimp only at H)
 have A8 := am A80
 clear A80
 replace H := Option.bind_eq_some_iff.mp H
 obtain ⟨t346, A90, H⟩ := H
 have A9 := am A90
 clear A90
 replace H := Option.bind_eq_some_iff.mp H
 obtain ⟨⟨t349, t350, t351, t352, t353, t354, t355, t356, t359, t362⟩, A100, H⟩ := H
 (try dsimp only at H)
 have A10 := am A100
 clear A100
 replace H := Option.bind_eq_some_iff.mp H
 obtain ⟨t366, A110, H⟩ := H
 have A11 := am A110
 clear A110
 replace H := Option.bind_eq_some_iff.mp H
 obtain ⟨t369, A120, H⟩ := H
 have A12 := am A120
 clear A120
 by_cases c13 : t369 = true
 rotate_left
 · replace c13 := Bool.eq_false_iff.mpr c13
   subst c13
   rw [nf] at H
   exact absurd ((Option.some.inj H).trans hr_.out) (by decide)
 subst c13
 rw [if_pos rfl] at H
 replace H := Option.bind_eq_some_iff.mp H
 obtain ⟨⟨t370, t371, t372, t373, t374, t375, t376, t377, t380, t383⟩, A140, H⟩ := H
 (try dsimp only at H)
 have A14 := am A140
 clear A140
 replace H := Option.bind_eq_some_iff.mp H
 obtain ⟨t386, A150, H⟩ := H
 have A15 := am A150
 clear A150
 by_cases c16 : t386 = true
 rotate_left
 · replace c16 := Bool.eq_false_iff.mpr c16
   subst c16
   rw [nf] at H
   exact absurd ((Option.some.inj H).trans hr_.out) (by decide)
 subst c16
 rw [if_pos rfl] at H
 replace H := Option.bind_eq_some_iff.mp H
 obtain ⟨⟨t387, t388, t389, t390⟩, A170, H⟩ := H
 (try dsimp only at H)
 have A17 := am A170
 clear A170
 by_cases c18 : t387 < 0
 · rw [if_pos c18] at H
   have c18b0 : decide (t387 < 0) = true := decide_eq_true c18
   clear c18
   exact absurd ((Option.some.inj H).trans hr_.out) (by decide)
 rw [if_neg c18] at H
 have c18b0 : decide (t387 < 0) = false := decide_eq_false c18
 clear c18
 replace H := Option.bind_eq_some_iff.mp H
 obtain ⟨t391, A190, H⟩ := H
 have A19 := am A190
 clear A190
 by_cases c20 : t391 = true
 rotate_left
 · replace c20 := Bool.eq_false_iff.mpr c20
   subst c20
   rw [nf] at H
   exact absurd ((Option.some.inj H).trans hr_.out) (by decide)
 subst c20
 rw [if_pos rfl] at H
 replace H := Option.bind_eq_some_iff.mp H
 obtain ⟨⟨t392, t393⟩, A210, H⟩ := H
 (try dsimp only at H)
 have A21 := am A210
 clear A210
 replace H := Option.bind_eq_some_iff.mp H
 obtain ⟨t394, A220, H⟩ := H
 have A22 := am A220
 clear A220
 by_cases c23 : t394 < 0
 · rw [if_pos c23] at H
   have c23b0 : decide (t394 < 0) = true := decide_eq_true c23
   clear c23
   exact absurd ((Option.some.inj H).trans hr_.out) (by decide)
 rw [if_neg c23] at H
 have c23b0 : decide (t394 < 0) = false := decide_eq_false c23
 clear c23
 by_cases c24 : t394 = t392
 rotate_left
 · rw [if_neg c24] at H
   have c24b0 : (t394 == t392) = false := beq_eq_false_iff_ne.mpr c24
   have c24b1 : (t394 != t392) = true := bne_iff_ne.mpr c24
   exact absurd ((Option.some.inj H).trans hr_.out) (by decide)
 rw [if_pos c24] at H
 have c24b0 : (t394 == t392) = true := beq_iff_eq.mpr c24
 have c24b1 : (t394 != t392) = false := bne_eq_false_iff_eq.mpr c24
 clear c24
 replace H := Option.bind_eq_some_iff.mp H
 obtain ⟨⟨t395, t396, t397, t398, t399, t400, t401, t402, t405, t408⟩, A250, H⟩ := H
 (try dsimp only at H)
 have A25 := am A250
 clear A250
 replace H := Option.bind_eq_some_iff.mp H
 obtain ⟨t411, A260, H⟩ := H
 have A26 := am A260
 clear A260
 replace H := Option.bind_eq_some_iff.mp H
 obtain ⟨t414, A270, H⟩ := H
 have A27 := am A270
 clear A270
 by_cases c28 : t414 = true
 rotate_left
 · replace c28 := Bool.eq_false_iff.mpr c28
   subst c28
   rw [nf] at H
   exact absurd ((Option.some.inj H).trans hr_.out) (by decide)
 subst c28
 rw [if_pos rfl] at H
 replace H := Option.bind_eq_some_iff.mp H
 obtain ⟨t415, A290, H⟩ := H
 replace H : (if t415 < 0 then (some false) else (if t415 = t392 then (some true) else (some false))) = some r := H
 have A29 := am A290
 clear A290
 by_cases c30 : t415 < 0
 · rw [if_pos c30] at H
   have c30b0 : decide (t415 < 0) = true := decide_eq_true c30
   clear c30
   exact absurd ((Option.some.inj H).trans hr_.out) (by decide)
 rw [if_neg c30] at H
 have c30b0 : decide (t415 < 0) = false := decide_eq_false c30
 clear c30
 by_cases c31 : t415 = t392
 rotate_left
 · rw [if_neg c31] at H
   have c31b0 : (t415 == t392) = false := beq_eq_false_iff_ne.mpr c31
   have c31b1 : (t415 != t392) = true := bne_iff_ne.mpr c31
   exact absurd ((Option.some.inj H).trans hr_.out) (by decide)
 rw [if_pos c31] at H
 have c31b0 : (t415 == t392) = true := beq_iff_eq.mpr c31
 have c31b1 : (t415 != t392) = false := bne_eq_false_iff_eq.mpr c31
 clear c31
 obtain rfl := sj H
 obtain ⟨hcz32_0, hcz32_1, hcz32_2, hcz32_3, hcz32_4, hcz32_5, hcz32_6, hcz32_7, hcz32_8, hcz32_9, hfz32_0, hfz32_1, hfz32_2, hfz32_3, hfz32_4, hfz32_5, hfz32_6, hfz32_7, hfz32_8, hfz32_9⟩ := bc10f w6 BK328.out
 try go_wp2_with (first | ((with_reducible refine gate_callee (f := 27) rfl ?_); refine goesL_ (some 19) rfl rfl Try.func27 kr rfl #[.agg #[.int .i64 a0_0, .int .i64 a0_1, .int .i64 a0_2, .int .i64 a0_3, .int .i64 a0_4, .int .i64 a0_5, .int .i64 a0_6, .slice A0_7 l0_7.length c0_7, .slice A0_8 l0_8.length c0_8, .slice A0_9 l0_9.length c0_9]] rfl Q0 ?_; (with_reducible refine (laws_toNode.calls k a0_0 a0_1 a0_2 a0_3 a0_4 a0_5 a0_6 _ _ l0_7 _ _ l0_8 _ _ l0_9 t330 t331 t332 t333 t334 t335 t336 t337 t340 t343 _ ?side1 ?side2 ?side3 ?side4 ?side5 ?side6 A8.out).mono ?_); (case side1 => exact Q8); (case side2 => exact HC0_7.out); (case side3 => exact Q9); (case side4 => exact HC0_8.out); (case side5 => exact Q11); (case side6 => exact HC0_9.out); rintro e w33 ⟨v338, v341, v344, rfl, ho0, ho1, ho2, hb⟩; refine ⟨_, rfl, ?_⟩; have HO339 := am (Kd.R_lower ho0 (below_size Q1)); have HO342 := am (Kd.R_lower ho1 (below_size Q1)); have HO345 := am (Kd.R_lower ho2 (below_size Q1)); replace BK328 := am (blk_below (g := gb328) (o := .cells #[.int .i64 a0_0, .int .i64 a0_1, .int .i64 a0_2, .int .i64 a0_3, .int .i64 a0_4, .int .i64 a0_5, .int .i64 a0_6, .slice A0_7 l0_7.length c0_7, .slice A0_8 l0_8.length c0_8, .slice A0_9 l0_9.length c0_9] 45 (0, 0)) u16_2 hb); replace HB := am (below_step Q1 hb); (try clear hb); (try clear hb2); (try clear hk); (try clear hi); (try clear ho0); (try clear ho1); (try clear ho2); obtain ⟨Ao34, co34, eo34⟩ := Kd.R_slice HO339.out; subst eo34; obtain ⟨Ao35, co35, eo35⟩ := Kd.R_slice HO342.out; subst eo35; obtain ⟨Ao36, co36, eo36⟩ := Kd.R_slice HO345.out; subst eo36) | ((with_reducible refine gate_callee (f := 38) rfl ?_); refine goesL_ (some 21) rfl rfl Try.func38 kr rfl #[.agg #[.int .i64 t330, .int .i64 t331, .int .i64 t332, .int .i64 t333, .int .i64 t334, .int .i64 t335, .int .i64 t336, .slice Ao34 t337.length co34, .slice Ao35 t340.length co35, .slice Ao36 t343.length co36], .int .i64 a1] rfl Q0 ?_; (with_reducible refine (spec_Beat.calls k t330 t331 t332 t333 t334 t335 t336 _ _ t337 _ _ t340 _ _ t343 a1 t346 _ ?side1 ?side2 ?side3 ?side4 ?side5 ?side6 A9.out).mono ?_); (case side1 => exact (by repeat (first | exact (Kd.R_reads' HO339.out).2.2 | (with_reducible refine Kd.C_alloc ?_ _) | (with_reducible refine Kd.C_drewN ?_ _) | (with_reducible refine Kd.C_drew ?_)))); (case side2 => exact (Kd.R_reads' HO339.out).2.1); (case side3 => exact (by repeat (first | exact (Kd.R_reads' HO342.out).2.2 | (with_reducible refine Kd.C_alloc ?_ _) | (with_reducible refine Kd.C_drewN ?_ _) | (with_reducible refine Kd.C_drew ?_)))); (case side4 => exact (Kd.R_reads' HO342.out).2.1); (case side5 => exact (by repeat (first | exact (Kd.R_reads' HO345.out).2.2 | (with_reducible refine Kd.C_alloc ?_ _) | (with_reducible refine Kd.C_drewN ?_ _) | (with_reducible refine Kd.C_drew ?_)))); (case side6 => exact (Kd.R_reads' HO345.out).2.1); rintro e w37 ⟨v347, rfl, ho0, hb⟩; refine ⟨_, rfl, ?_⟩; replace HO342 := am (Kd.R_below (by (with_reducible repeat (first | apply Kd.R_alloc | apply Kd.R_drewN | apply Kd.R_drew)); exact HO342.out) hb); replace HO345 := am (Kd.R_below (by (with_reducible repeat (first | apply Kd.R_alloc | apply Kd.R_drewN | apply Kd.R_drew)); exact HO345.out) hb); have HO348 := am (Kd.S_lower (Kd.S_new' ho0 (Kd.R_lt u16_22)) (below_size Q1)); replace HO339 := am (Kd.R_below u16_22 hb); replace BK328 := am (blk_below (g := gb328) (o := .cells #[.int .i64 a0_0, .int .i64 a0_1, .int .i64 a0_2, .int .i64 a0_3, .int .i64 a0_4, .int .i64 a0_5, .int .i64 a0_6, .slice A0_7 l0_7.length c0_7, .slice A0_8 l0_8.length c0_8, .slice A0_9 l0_9.length c0_9] 45 (0, 0)) u16_2 hb); replace HB := am (below_step Q1 hb); (try clear hb); (try clear hb2); (try clear hk); (try clear hi); (try clear ho0); obtain ⟨hcz38_0, hcz38_1, hcz38_2, hcz38_3, hcz38_4, hcz38_5, hcz38_6, hcz38_7, hcz38_8, hcz38_9, hfz38_0, hfz38_1, hfz38_2, hfz38_3, hfz38_4, hfz38_5, hfz38_6, hfz38_7, hfz38_8, hfz38_9⟩ := bc10f w37 BK328.out; have n_ := am (Kd.S_mono (ok' := (fun _ => True)) HO348.out (fun k_ hk => trivial)); clear HO348; have HO348 := n_; clear n_; clear HO339 HO342 HO345) | ((with_reducible refine gate_callee (f := 27) rfl ?_); refine goesL_ (some 23) rfl rfl Try.func27 kr rfl #[.agg #[.int .i64 a0_0, .int .i64 a0_1, .int .i64 a0_2, .int .i64 a0_3, .int .i64 a0_4, .int .i64 a0_5, .int .i64 a0_6, .slice A0_7 l0_7.length c0_7, .slice A0_8 l0_8.length c0_8, .slice A0_9 l0_9.length c0_9]] rfl Q0 ?_; (with_reducible refine (laws_toNode.calls k a0_0 a0_1 a0_2 a0_3 a0_4 a0_5 a0_6 _ _ l0_7 _ _ l0_8 _ _ l0_9 t349 t350 t351 t352 t353 t354 t355 t356 t359 t362 _ ?side1 ?side2 ?side3 ?side4 ?side5 ?side6 A10.out).mono ?_); (case side1 => exact Q8); (case side2 => exact HC0_7.out); (case side3 => exact Q9); (case side4 => exact HC0_8.out); (case side5 => exact Q11); (case side6 => exact HC0_9.out); rintro e w39 ⟨v357, v360, v363, rfl, ho0, ho1, ho2, hb⟩; refine ⟨_, rfl, ?_⟩; replace HO348 := am (Kd.S_elder' u16_6 (Kd.R_base ho0) hb); have HO358 := am (Kd.R_lower ho0 (below_size Q1)); have HO361 := am (Kd.R_lower ho1 (below_size Q1)); have HO364 := am (Kd.R_lower ho2 (below_size Q1)); replace BK328 := am (blk_below (g := gb328) (o := .cells #[.int .i64 a0_0, .int .i64 a0_1, .int .i64 a0_2, .int .i64 a0_3, .int .i64 a0_4, .int .i64 a0_5, .int .i64 a0_6, .slice A0_7 l0_7.length c0_7, .slice A0_8 l0_8.length c0_8, .slice A0_9 l0_9.length c0_9] 45 (0, 0)) u16_2 hb); replace HB := am (below_step Q1 hb); (try clear hb); (try clear hb2); (try clear hk); (try clear hi); (try clear ho0); (try clear ho1); (try clear ho2)) | ((with_reducible refine gate_dst (N := 7) rfl ?_); refine box_event ?hg (N := 7) ?hd (cs := #[.int .i64 0, .int .i64 0, .int .i64 0, .int .i64 0, .int .i64 0, .int .i64 0, .int .i64 0, .slice none 0 0, .slice none 0 0, .slice none 0 0]) (t := 37) ?hr ?_; (case hd => rfl); (case hg => rfl); (case hr => first | (go_simp; done) | (go_simp; rfl)); intro gb365 hg w40 hbox hb; replace HO348 := am (Kd.S_below u16_6 hb); replace HO358 := am (Kd.R_below u16_17 hb); replace HO361 := am (Kd.R_below u16_15 hb); replace HO364 := am (Kd.R_below u16_16 hb); have BK365 := am (hbox); have GW365 := am ((by rw [hg]; exact (below_size Q1) : w.heap.size ≤ gb365)); have GE365 := am ((by rw [hg]; exact (below_size Q1) : w.heap.size ≤ gb365)); replace HB := am (below_step Q1 hb); have NB328_365 := am ((by rw [hg]; exact Nat.ne_of_lt (blk_lt (g := gb328) (o := .cells #[.int .i64 a0_0, .int .i64 a0_1, .int .i64 a0_2, .int .i64 a0_3, .int .i64 a0_4, .int .i64 a0_5, .int .i64 a0_6, .slice A0_7 l0_7.length c0_7, .slice A0_8 l0_8.length c0_8, .slice A0_9 l0_9.length c0_9] 45 (0, 0)) u16_2) : gb328 ≠ gb365)); have NB365_328 := am ((by rw [hg]; exact Nat.ne_of_gt (blk_lt (g := gb328) (o := .cells #[.int .i64 a0_0, .int .i64 a0_1, .int .i64 a0_2, .int .i64 a0_3, .int .i64 a0_4, .int .i64 a0_5, .int .i64 a0_6, .slice A0_7 l0_7.length c0_7, .slice A0_8 l0_8.length c0_8, .slice A0_9 l0_9.length c0_9] 45 (0, 0)) u16_2) : gb365 ≠ gb328)); replace BK328 := am (blk_below (g := gb328) (o := .cells #[.int .i64 a0_0, .int .i64 a0_1, .int .i64 a0_2, .int .i64 a0_3, .int .i64 a0_4, .int .i64 a0_5, .int .i64 a0_6, .slice A0_7 l0_7.length c0_7, .slice A0_8 l0_8.length c0_8, .slice A0_9 l0_9.length c0_9] 45 (0, 0)) u16_2 hb); clear hb hbox hg; have hnb41 := NB365_328.out; have hnc41 := NB328_365.out; obtain ⟨hcz42_0, hcz42_1, hcz42_2, hcz42_3, hcz42_4, hcz42_5, hcz42_6, hcz42_7, hcz42_8, hcz42_9, hfz42_0, hfz42_1, hfz42_2, hfz42_3, hfz42_4, hfz42_5, hfz42_6, hfz42_7, hfz42_8, hfz42_9⟩ := bc10f w40 BK365.out; obtain ⟨Ao43, co43, eo43⟩ := Kd.R_slice HO358.out; subst eo43; obtain ⟨Ao44, co44, eo44⟩ := Kd.R_slice HO361.out; subst eo44; obtain ⟨Ao45, co45, eo45⟩ := Kd.R_slice HO364.out; subst eo45) | ((with_reducible refine gate_callee (f := 39) rfl ?_); refine goesL_ (some 26) rfl rfl Try.func39 kr rfl #[.agg #[.int .i64 t349, .int .i64 t350, .int .i64 t351, .int .i64 t352, .int .i64 t353, .int .i64 t354, .int .i64 t355, .slice Ao43 t356.length co43, .slice Ao44 t359.length co44, .slice Ao45 t362.length co45], .int .i64 a1] rfl Q0 ?_; (with_reducible refine (impl_Beat.calls k t349 t350 t351 t352 t353 t354 t355 _ _ t356 _ _ t359 _ _ t362 a1 t366 _ ?side1 ?side2 ?side3 ?side4 ?side5 ?side6 A11.out).mono ?_); (case side1 => exact (by refine (Kd.R_reads' (e := 85) (base := w.heap.size) (ok := fun k_ => True) (n := t356.length) (c := co43) ?_).2.2; exact u16_3)); (case side2 => exact (Kd.R_reads' HO358.out).2.1); (case side3 => exact (by refine (Kd.R_reads' (e := 3) (base := w.heap.size) (ok := fun k_ => some k_ ≠ (.slice Ao45 t362.length co45 : Value).ownBlock) (n := t359.length) (c := co44) ?_).2.2; exact u16_7)); (case side4 => exact (Kd.R_reads' HO361.out).2.1); (case side5 => exact (by refine (Kd.R_reads' (e := 3) (base := w.heap.size) (ok := fun k_ => some k_ ≠ (.slice Ao44 t359.length co44 : Value).ownBlock) (n := t362.length) (c := co45) ?_).2.2; exact u16_8)); (case side6 => exact (Kd.R_reads' HO364.out).2.1); rintro e w46 ⟨v367, rfl, ho0, hb⟩; refine ⟨_, rfl, ?_⟩; have n0_ := am (Kd.S_elder' u16_9 (Kd.S_base ho0) hb); have n1_ := am (Kd.R_below u16_3 hb); have n2_ := am (Kd.R_below u16_7 hb); have n3_ := am (Kd.R_below u16_8 hb); have n4_ := am (Kd.S_lower (Kd.S_new' (Kd.S_new' ho0 (Kd.S_lt u16_9)) (Kd.R_lt u16_3)) (below_size Q1)); have n5_ := am (blk_below (g := gb328) (o := .cells #[.int .i64 a0_0, .int .i64 a0_1, .int .i64 a0_2, .int .i64 a0_3, .int .i64 a0_4, .int .i64 a0_5, .int .i64 a0_6, .slice A0_7 l0_7.length c0_7, .slice A0_8 l0_8.length c0_8, .slice A0_9 l0_9.length c0_9] 45 (0, 0)) (by (with_reducible repeat (first | refine blk_drewN ?_ _ | refine blk_drew ?_ | refine blk_alloc ?_ _)); refine blk_far ?_ NB328_365.out _; (with_reducible repeat (first | refine blk_drewN ?_ _ | refine blk_drew ?_ | refine blk_alloc ?_ _)); refine blk_far ?_ NB328_365.out _; (with_reducible repeat (first | refine blk_drewN ?_ _ | refine blk_drew ?_ | refine blk_alloc ?_ _)); refine blk_far ?_ NB328_365.out _; (with_reducible repeat (first | refine blk_drewN ?_ _ | refine blk_drew ?_ | refine blk_alloc ?_ _)); refine blk_far ?_ NB328_365.out _; (with_reducible repeat (first | refine blk_drewN ?_ _ | refine blk_drew ?_ | refine blk_alloc ?_ _)); refine blk_far ?_ NB328_365.out _; (with_reducible repeat (first | refine blk_drewN ?_ _ | refine blk_drew ?_ | refine blk_alloc ?_ _)); refine blk_far ?_ NB328_365.out _; (with_reducible repeat (first | refine blk_drewN ?_ _ | refine blk_drew ?_ | refine blk_alloc ?_ _)); refine blk_far ?_ NB328_365.out _; (with_reducible repeat (first | refine blk_drewN ?_ _ | refine blk_drew ?_ | refine blk_alloc ?_ _)); refine blk_far ?_ NB328_365.out _; (with_reducible repeat (first | refine blk_drewN ?_ _ | refine blk_drew ?_ | refine blk_alloc ?_ _)); refine blk_far ?_ NB328_365.out _; (with_reducible repeat (first | refine blk_drewN ?_ _ | refine blk_drew ?_ | refine blk_alloc ?_ _)); refine blk_far ?_ NB328_365.out _; (with_reducible repeat (first | refine blk_drewN ?_ _ | refine blk_drew ?_ | refine blk_alloc ?_ _)); exact BK328.out) hb); have n6_ := am (blk_below (g := gb365) (o := .cells #[.int .i64 t349, .int .i64 t350, .int .i64 t351, .int .i64 t352, .int .i64 t353, .int .i64 t354, .int .i64 t355, .slice Ao43 t356.length co43, .slice Ao44 t359.length co44, .slice Ao45 t362.length co45] 37 (0, 0)) (by (with_reducible repeat (first | refine blk_drewN ?_ _ | refine blk_drew ?_ | refine blk_alloc ?_ _)); refine blk_put (cs := #[.int .i64 t349, .int .i64 t350, .int .i64 t351, .int .i64 t352, .int .i64 t353, .int .i64 t354, .int .i64 t355, .slice Ao43 t356.length co43, .slice Ao44 t359.length co44, .slice none 0 0]) ?_ 9 _ rfl; (with_reducible repeat (first | refine blk_drewN ?_ _ | refine blk_drew ?_ | refine blk_alloc ?_ _)); refine blk_put (cs := #[.int .i64 t349, .int .i64 t350, .int .i64 t351, .int .i64 t352, .int .i64 t353, .int .i64 t354, .int .i64 t355, .slice Ao43 t356.length co43, .slice none 0 0, .slice none 0 0]) ?_ 8 _ rfl; (with_reducible repeat (first | refine blk_drewN ?_ _ | refine blk_drew ?_ | refine blk_alloc ?_ _)); refine blk_put (cs := #[.int .i64 t349, .int .i64 t350, .int .i64 t351, .int .i64 t352, .int .i64 t353, .int .i64 t354, .int .i64 t355, .slice none 0 0, .slice none 0 0, .slice none 0 0]) ?_ 7 _ rfl; (with_reducible repeat (first | refine blk_drewN ?_ _ | refine blk_drew ?_ | refine blk_alloc ?_ _)); refine blk_put (cs := #[.int .i64 t349, .int .i64 t350, .int .i64 t351, .int .i64 t352, .int .i64 t353, .int .i64 t354, .int .i64 0, .slice none 0 0, .slice none 0 0, .slice none 0 0]) ?_ 6 _ rfl; (with_reducible repeat (first | refine blk_drewN ?_ _ | refine blk_drew ?_ | refine blk_alloc ?_ _)); refine blk_put (cs := #[.int .i64 t349, .int .i64 t350, .int .i64 t351, .int .i64 t352, .int .i64 t353, .int .i64 0, .int .i64 0, .slice none 0 0, .slice none 0 0, .slice none 0 0]) ?_ 5 _ rfl; (with_reducible repeat (first | refine blk_drewN ?_ _ | refine blk_drew ?_ | refine blk_alloc ?_ _)); refine blk_put (cs := #[.int .i64 t349, .int .i64 t350, .int .i64 t351, .int .i64 t352, .int .i64 0, .int .i64 0, .int .i64 0, .slice none 0 0, .slice none 0 0, .slice none 0 0]) ?_ 4 _ rfl; (with_reducible repeat (first | refine blk_drewN ?_ _ | refine blk_drew ?_ | refine blk_alloc ?_ _)); refine blk_put (cs := #[.int .i64 t349, .int .i64 t350, .int .i64 t351, .int .i64 0, .int .i64 0, .int .i64 0, .int .i64 0, .slice none 0 0, .slice none 0 0, .slice none 0 0]) ?_ 3 _ rfl; (with_reducible repeat (first | refine blk_drewN ?_ _ | refine blk_drew ?_ | refine blk_alloc ?_ _)); refine blk_put (cs := #[.int .i64 t349, .int .i64 t350, .int .i64 0, .int .i64 0, .int .i64 0, .int .i64 0, .int .i64 0, .slice none 0 0, .slice none 0 0, .slice none 0 0]) ?_ 2 _ rfl; (with_reducible repeat (first | refine blk_drewN ?_ _ | refine blk_drew ?_ | refine blk_alloc ?_ _)); refine blk_put (cs := #[.int .i64 t349, .int .i64 0, .int .i64 0, .int .i64 0, .int .i64 0, .int .i64 0, .int .i64 0, .slice none 0 0, .slice none 0 0, .slice none 0 0]) ?_ 1 _ rfl; (with_reducible repeat (first | refine blk_drewN ?_ _ | refine blk_drew ?_ | refine blk_alloc ?_ _)); refine blk_put (cs := #[.int .i64 0, .int .i64 0, .int .i64 0, .int .i64 0, .int .i64 0, .int .i64 0, .int .i64 0, .slice none 0 0, .slice none 0 0, .slice none 0 0]) ?_ 0 _ rfl; (with_reducible repeat (first | refine blk_drewN ?_ _ | refine blk_drew ?_ | refine blk_alloc ?_ _)); exact BK365.out) hb); have n7_ := am (below_step Q1 hb); obtain ⟨N_, q0_, q1_⟩ := split_ u16_9 (Kd.S_new' ho0 (Kd.R_lt u16_3)) hb (below_size Q1); have HQ348 := am q0_; have HQ368 := am q1_; clear q0_ q1_; clear HO348; clear HO358; clear HO361; clear HO364; clear BK328; clear BK365; clear HB; have HO348 := n0_; have HO358 := n1_; have HO361 := n2_; have HO364 := n3_; have HO368 := n4_; have BK328 := n5_; have BK365 := n6_; have HB := n7_; clear n0_ n1_ n2_ n3_ n4_ n5_ n6_ n7_; (try clear hb); (try clear hb2); (try clear hk); (try clear hi); (try clear ho0); obtain ⟨Ao47, co47, eo47⟩ := Kd.S_slice HO368.out; subst eo47; obtain ⟨Ao48, co48, eo48⟩ := Kd.S_slice HO348.out; subst eo48) | ((with_reducible refine gate_callee (f := 40) rfl ?_); refine goesL_ (some 29) rfl rfl Try.func40 kr rfl #[.slice Ao47 t366.length co47, .slice Ao48 t346.length co48] rfl Q0 ?_; (with_reducible refine (laws_eqMsgS.calls k _ _ t366 _ _ t346 true _ ?side1 ?side2 ?side3 ?side4 A12.out).mono ?_); (case side1 => exact u16_14); (case side2 => exact (Kd.S_reads' HO368.out).2.1); (case side3 => exact u16_18); (case side4 => exact (Kd.S_reads' HO348.out).2.1); rintro e w49 ⟨rfl, hb⟩; refine ⟨_, rfl, ?_⟩; have n0_ := am (Kd.S_below u16_6 hb); have n1_ := am (Kd.R_below u16_17 hb); have n2_ := am (Kd.R_below u16_15 hb); have n3_ := am (Kd.R_below u16_16 hb); have n4_ := am (Kd.S_below u16_10 hb); have n5_ := am (blk_below (g := gb328) (o := .cells #[.int .i64 a0_0, .int .i64 a0_1, .int .i64 a0_2, .int .i64 a0_3, .int .i64 a0_4, .int .i64 a0_5, .int .i64 a0_6, .slice A0_7 l0_7.length c0_7, .slice A0_8 l0_8.length c0_8, .slice A0_9 l0_9.length c0_9] 45 (0, 0)) u16_2 hb); have n6_ := am (blk_below (g := gb365) (o := .cells #[.int .i64 t349, .int .i64 t350, .int .i64 t351, .int .i64 t352, .int .i64 t353, .int .i64 t354, .int .i64 t355, .slice Ao43 t356.length co43, .slice Ao44 t359.length co44, .slice Ao45 t362.length co45] 37 (0, 0)) u16_5 hb); have n7_ := am (below_step Q1 hb); have q0_ := am (Kd.S_below (by (with_reducible repeat (first | apply Kd.S_alloc | apply Kd.S_drewN | apply Kd.S_drew)); exact HQ348.out) hb); have q1_ := am (Kd.S_below (by (with_reducible repeat (first | apply Kd.S_alloc | apply Kd.S_drewN | apply Kd.S_drew)); exact HQ368.out) hb); clear HQ348 HQ368; have HQ348 := q0_; have HQ368 := q1_; clear q0_ q1_; clear HO348; clear HO358; clear HO361; clear HO364; clear HO368; clear BK328; clear BK365; clear HB; have HO348 := n0_; have HO358 := n1_; have HO361 := n2_; have HO364 := n3_; have HO368 := n4_; have BK328 := n5_; have BK365 := n6_; have HB := n7_; clear n0_ n1_ n2_ n3_ n4_ n5_ n6_ n7_; (try clear hb); (try clear hb2); (try clear hk); (try clear hi)))
 have n0_ := am (Kd.S_drew HO348.out)
 have n1_ := am (Kd.R_drew HO358.out)
 have n2_ := am (Kd.R_drew HO361.out)
 have n3_ := am (Kd.R_drew HO364.out)
 have n4_ := am (Kd.S_drew HO368.out)
 have n5_ := am (blk_drew BK328.out)
 have n6_ := am (blk_drew BK365.out)
 have n7_ := am (below_drew1 HB.out)
 have q0_ := am (Kd.S_drew HQ348.out)
 have q1_ := am (Kd.S_drew HQ368.out)
 clear HQ348 HQ368
 have HQ348 := q0_
 have HQ368 := q1_
 clear q0_ q1_
 clear HO348
 clear HO358
 clear HO361
 clear HO364
 clear HO368
 clear BK328
 clear BK365
 clear HB
 have HO348 := n0_
 have HO358 := n1_
 have HO361 := n2_
 have HO364 := n3_
 have HO368 := n4_
 have BK328 := n5_
 have BK365 := n6_
 have HB := n7_
 clear n0_ n1_ n2_ n3_ n4_ n5_ n6_ n7_
 refine start_ (n := 5) (S := fun w' => w'.cell? ⟨gb365, 0, none⟩ = some (.int .i64 t349) ∧ w'.cell? ⟨gb365, 1, none⟩ = some (.int .i64 t350) ∧ w'.cell? ⟨gb365, 2, none⟩ = some (.int .i64 t351) ∧ w'.cell? ⟨gb365, 3, none⟩ = some (.int .i64 t352) ∧ w'.cell? ⟨gb365, 4, none⟩ = some (.int .i64 t353) ∧ w'.cell? ⟨gb365, 5, none⟩ = some (.int .i64 t354) ∧ w'.cell? ⟨gb365, 6, none⟩ = some (.int .i64 t355) ∧ w'.cell? ⟨gb365, 7, none⟩ = some (.slice Ao43 t356.length co43) ∧ w'.cell? ⟨gb365, 8, none⟩ = some (.slice Ao44 t359.length co44) ∧ w'.cell? ⟨gb365, 9, none⟩ = some (.slice Ao45 t362.length co45) ∧ w'.cell? ⟨gb328, 0, none⟩ = some (.int .i64 a0_0) ∧ w'.cell? ⟨gb328, 1, none⟩ = some (.int .i64 a0_1) ∧ w'.cell? ⟨gb328, 2, none⟩ = some (.int .i64 a0_2) ∧ w'.cell? ⟨gb328, 3, none⟩ = some (.int .i64 a0_3) ∧ w'.cell? ⟨gb328, 4, none⟩ = some (.int .i64 a0_4) ∧ w'.cell? ⟨gb328, 5, none⟩ = some (.int .i64 a0_5) ∧ w'.cell? ⟨gb328, 6, none⟩ = some (.int .i64 a0_6) ∧ w'.cell? ⟨gb328, 7, none⟩ = some (.slice A0_7 l0_7.length c0_7) ∧ w'.cell? ⟨gb328, 8, none⟩ = some (.slice A0_8 l0_8.length c0_8) ∧ w'.cell? ⟨gb328, 9, none⟩ = some (.slice A0_9 l0_9.length c0_9)) (ds := []) #[false, false, false, false, false] kr rfl rfl ⟨(blk_cell BK365.out 0).trans rfl, (blk_cell BK365.out 1).trans rfl, (blk_cell BK365.out 2).trans rfl, (blk_cell BK365.out 3).trans rfl, (blk_cell BK365.out 4).trans rfl, (blk_cell BK365.out 5).trans rfl, (blk_cell BK365.out 6).trans rfl, (blk_cell BK365.out 7).trans rfl, (blk_cell BK365.out 8).trans rfl, (blk_cell BK365.out 9).trans rfl, (blk_cell BK328.out 0).trans rfl, (blk_cell BK328.out 1).trans rfl, (blk_cell BK328.out 2).trans rfl, (blk_cell BK328.out 3).trans rfl, (blk_cell BK328.out 4).trans rfl, (blk_cell BK328.out 5).trans rfl, (blk_cell BK328.out 6).trans rfl, (blk_cell BK328.out 7).trans rfl, (blk_cell BK328.out 8).trans rfl, (blk_cell BK328.out 9).trans rfl⟩ (fun hHeld => ?_)
 generalize w49.drew = w50 at HO348 HO358 HO361 HO364 HO368 HQ348 HQ368 BK328 BK365 HB hHeld ⊢
 refine take_ (i := 0) (N := some 31) (v := ?_) (a' := ?_) #[true, false, false, false, false] rfl rfl kr (fun _ _ _ h => h) (Or.inl ⟨by rfl, ?_⟩) hHeld ?_ ?_
 rotate_left
 · rintro w' ⟨s0, s1, s2, s3, s4, s5, s6, s7, s8, s9, s10, s11, s12, s13, s14, s15, s16, s17, s18, s19⟩
   go_simp
   with_reducible rfl
 rotate_left
 · simp only [Act.put, la, lb, lc, i64_w, i32_w]
   rfl
 refine take_ (i := 1) (N := some 32) (v := ?_) (a' := ?_) #[true, true, false, false, false] rfl rfl kr (fun _ _ _ h => h) (Or.inl ⟨by rfl, ?_⟩) hHeld ?_ ?_
 rotate_left
 · rintro w' ⟨s0, s1, s2, s3, s4, s5, s6, s7, s8, s9, s10, s11, s12, s13, s14, s15, s16, s17, s18, s19⟩
   go_simp
   with_reducible rfl
 rotate_left
 · simp only [Act.put, la, lb, lc, i64_w, i32_w]
   rfl
 refine one_ (i := 2) (N := some 33) #[true, true, true, false, false] rfl rfl kr (by decide) (fun K hK => ?_)
 refine goes_ Try.func27 kr rfl #[.agg #[.int .i64 a0_0, .int .i64 a0_1, .int .i64 a0_2, .int .i64 a0_3, .int .i64 a0_4, .int .i64 a0_5, .int .i64 a0_6, .slice A0_7 l0_7.length c0_7, .slice A0_8 l0_8.length c0_8, .slice A0_9 l0_9.length c0_9]] (by rfl) rfl rfl Q0 ?_
 with_reducible refine (laws_toNode.calls k a0_0 a0_1 a0_2 a0_3 a0_4 a0_5 a0_6 _ _ l0_7 _ _ l0_8 _ _ l0_9 t370 t371 t372 t373 t374 t375 t376 t377 t380 t383 _ ?side1 ?side2 ?side3 ?side4 ?side5 ?side6 A14.out).mono ?_
 (case side1 => exact Q8)
 (case side2 => exact HC0_7.out)
 (case side3 => exact Q9)
 (case side4 => exact HC0_8.out)
 (case side5 => exact Q11)
 (case side6 => exact HC0_9.out)
 rintro e w51 ⟨v378, v381, v384, rfl, ho0, ho1, ho2, hb⟩
 refine ⟨_, rfl, ?_⟩
 have n0_ := am (Kd.S_elder' u16_6 (Kd.R_base ho0) hb)
 have n1_ := am (Kd.R_elder' u16_17 (Kd.R_base ho0) hb)
 have n2_ := am (Kd.R_mono (Kd.R_told (Kd.R_told (Kd.R_old u16_15 hb) (Kd.R_base ho1)) (Kd.R_base ho2)) (fun _ h_ => h_.1))
 have n3_ := am (Kd.R_mono (Kd.R_told (Kd.R_told (Kd.R_old u16_16 hb) (Kd.R_base ho1)) (Kd.R_base ho2)) (fun _ h_ => h_.1))
 have n4_ := am (Kd.S_elder' u16_10 (Kd.R_base ho0) hb)
 have n5_ := am (Kd.R_lower (Kd.R_new' ho0 (Kd.R_lt u16_17)) (below_size Q1))
 have n6_ := am (Kd.R_lower (Kd.R_new' (Kd.R_new' ho1 (Kd.R_lt u16_15)) (Kd.R_lt u16_16)) (below_size Q1))
 have n7_ := am (Kd.R_lower (Kd.R_new' (Kd.R_new' ho2 (Kd.R_lt u16_15)) (Kd.R_lt u16_16)) (below_size Q1))
 have n8_ := am (blk_below (g := gb328) (o := .cells #[.int .i64 a0_0, .int .i64 a0_1, .int .i64 a0_2, .int .i64 a0_3, .int .i64 a0_4, .int .i64 a0_5, .int .i64 a0_6, .slice A0_7 l0_7.length c0_7, .slice A0_8 l0_8.length c0_8, .slice A0_9 l0_9.length c0_9] 45 (0, 0)) u16_2 hb)
 have n9_ := am (blk_below (g := gb365) (o := .cells #[.int .i64 t349, .int .i64 t350, .int .i64 t351, .int .i64 t352, .int .i64 t353, .int .i64 t354, .int .i64 t355, .slice Ao43 t356.length co43, .slice Ao44 t359.length co44, .slice Ao45 t362.length co45] 37 (0, 0)) u16_5 hb)
 have n10_ := am (below_step Q1 hb)
 have q0_ := am (Kd.S_below (by (with_reducible repeat (first | apply Kd.S_alloc | apply Kd.S_drewN | apply Kd.S_drew)); exact HQ348.out) hb)
 have q1_ := am (Kd.S_below (by (with_reducible repeat (first | apply Kd.S_alloc | apply Kd.S_drewN | apply Kd.S_drew)); exact HQ368.out) hb)
 clear HQ348 HQ368
 have HQ348 := q0_
 have HQ368 := q1_
 clear q0_ q1_
 clear HO348
 clear HO358
 clear HO361
 clear HO364
 clear HO368
 clear BK328
 clear BK365
 clear HB
 have HO348 := n0_
 have HO358 := n1_
 have HO361 := n2_
 have HO364 := n3_
 have HO368 := n4_
 have HO379 := n5_
 have HO382 := n6_
 have HO385 := n7_
 have BK328 := n8_
 have BK365 := n9_
 have HB := n10_
 clear n0_ n1_ n2_ n3_ n4_ n5_ n6_ n7_ n8_ n9_ n10_
 (try clear hb)
 (try clear hb2)
 (try clear hk)
 (try clear hi)
 (try clear ho0)
 (try clear ho1)
 (try clear ho2)
 obtain ⟨Ao52, co52, eo52⟩ := Kd.R_slice HO379.out
 (first | subst eo52 | (injection eo52 with f1_ f2_ f3_; have f4_ := f1_.symm; have f5_ := f3_.symm; clear f1_ f2_ f3_; subst f4_; subst f5_))
 obtain ⟨Ao53, co53, eo53⟩ := Kd.R_slice HO382.out
 (first | subst eo53 | (injection eo53 with f1_ f2_ f3_; have f4_ := f1_.symm; have f5_ := f3_.symm; clear f1_ f2_ f3_; subst f4_; subst f5_))
 obtain ⟨Ao54, co54, eo54⟩ := Kd.R_slice HO385.out
 (first | subst eo54 | (injection eo54 with f1_ f2_ f3_; have f4_ := f1_.symm; have f5_ := f3_.symm; clear f1_ f2_ f3_; subst f4_; subst f5_))
 refine hK.out _ _ ⟨(blk_cell BK365.out 0).trans rfl, (blk_cell BK365.out 1).trans rfl, (blk_cell BK365.out 2).trans rfl, (blk_cell BK365.out 3).trans rfl, (blk_cell BK365.out 4).trans rfl, (blk_cell BK365.out 5).trans rfl, (blk_cell BK365.out 6).trans rfl, (blk_cell BK365.out 7).trans rfl, (blk_cell BK365.out 8).trans rfl, (blk_cell BK365.out 9).trans rfl, (blk_cell BK328.out 0).trans rfl, (blk_cell BK328.out 1).trans rfl, (blk_cell BK328.out 2).trans rfl, (blk_cell BK328.out 3).trans rfl, (blk_cell BK328.out 4).trans rfl, (blk_cell BK328.out 5).trans rfl, (blk_cell BK328.out 6).trans rfl, (blk_cell BK328.out 7).trans rfl, (blk_cell BK328.out 8).trans rfl, (blk_cell BK328.out 9).trans rfl⟩ (fun hHeld => ?_)
 clear hK K
 refine norm_ (a' := ?_) ?_ ?_
 rotate_left
 · show Act.put _ (some 33) _ = _
   simp only [Act.put, la, lb, lc, i64_w, i32_w]
   rfl
 refine one_ (i := 3) (N := some 34) #[true, true, true, true, false] rfl rfl kr (by decide) (fun K hK => ?_)
 refine goes_ Try.func22 kr rfl #[.agg #[.int .i64 t349, .int .i64 t350, .int .i64 t351, .int .i64 t352, .int .i64 t353, .int .i64 t354, .int .i64 t355, .slice Ao43 t356.length co43, .slice Ao44 t359.length co44, .slice Ao45 t362.length co45], .agg #[.int .i64 t370, .int .i64 t371, .int .i64 t372, .int .i64 t373, .int .i64 t374, .int .i64 t375, .int .i64 t376, .slice Ao52 t377.length co52, .slice Ao53 t380.length co53, .slice Ao54 t383.length co54]] (by rfl) rfl rfl Q0 ?_
 with_reducible refine (laws_eqNode.calls k t349 t350 t351 t352 t353 t354 t355 _ _ t356 _ _ t359 _ _ t362 t370 t371 t372 t373 t374 t375 t376 _ _ t377 _ _ t380 _ _ t383 true _ ?side1 ?side2 ?side3 ?side4 ?side5 ?side6 ?side7 ?side8 ?side9 ?side10 ?side11 ?side12 A15.out).mono ?_
 (case side1 => exact (by repeat (first | exact (Kd.R_reads' HO358.out).2.2 | (with_reducible refine Kd.C_alloc ?_ _) | (with_reducible refine Kd.C_drewN ?_ _) | (with_reducible refine Kd.C_drew ?_))))
 (case side2 => exact (Kd.R_reads' HO358.out).2.1)
 (case side3 => exact (by repeat (first | exact (Kd.R_reads' HO361.out).2.2 | (with_reducible refine Kd.C_alloc ?_ _) | (with_reducible refine Kd.C_drewN ?_ _) | (with_reducible refine Kd.C_drew ?_))))
 (case side4 => exact (Kd.R_reads' HO361.out).2.1)
 (case side5 => exact (by repeat (first | exact (Kd.R_reads' HO364.out).2.2 | (with_reducible refine Kd.C_alloc ?_ _) | (with_reducible refine Kd.C_drewN ?_ _) | (with_reducible refine Kd.C_drew ?_))))
 (case side6 => exact (Kd.R_reads' HO364.out).2.1)
 (case side7 => exact (by repeat (first | exact (Kd.R_reads' HO379.out).2.2 | (with_reducible refine Kd.C_alloc ?_ _) | (with_reducible refine Kd.C_drewN ?_ _) | (with_reducible refine Kd.C_drew ?_))))
 (case side8 => exact (Kd.R_reads' HO379.out).2.1)
 (case side9 => exact (by repeat (first | exact (Kd.R_reads' HO382.out).2.2 | (with_reducible refine Kd.C_alloc ?_ _) | (with_reducible refine Kd.C_drewN ?_ _) | (with_reducible refine Kd.C_drew ?_))))
 (case side10 => exact (Kd.R_reads' HO382.out).2.1)
 (case side11 => exact (by repeat (first | exact (Kd.R_reads' HO385.out).2.2 | (with_reducible refine Kd.C_alloc ?_ _) | (with_reducible refine Kd.C_drewN ?_ _) | (with_reducible refine Kd.C_drew ?_))))
 (case side12 => exact (Kd.R_reads' HO385.out).2.1)
 rintro e w55 ⟨rfl, hb⟩
 refine ⟨_, rfl, ?_⟩
 have n0_ := am (Kd.S_below u16_6 hb)
 have n1_ := am (Kd.R_below u16_17 hb)
 have n2_ := am (Kd.R_below u16_15 hb)
 have n3_ := am (Kd.R_below u16_16 hb)
 have n4_ := am (Kd.S_below u16_10 hb)
 have n5_ := am (Kd.R_below (by (with_reducible repeat (first | apply Kd.R_alloc | apply Kd.R_drewN | apply Kd.R_drew)); exact HO379.out) hb)
 have n6_ := am (Kd.R_below (by (with_reducible repeat (first | apply Kd.R_alloc | apply Kd.R_drewN | apply Kd.R_drew)); exact HO382.out) hb)
 have n7_ := am (Kd.R_below (by (with_reducible repeat (first | apply Kd.R_alloc | apply Kd.R_drewN | apply Kd.R_drew)); exact HO385.out) hb)
 have n8_ := am (blk_below (g := gb328) (o := .cells #[.int .i64 a0_0, .int .i64 a0_1, .int .i64 a0_2, .int .i64 a0_3, .int .i64 a0_4, .int .i64 a0_5, .int .i64 a0_6, .slice A0_7 l0_7.length c0_7, .slice A0_8 l0_8.length c0_8, .slice A0_9 l0_9.length c0_9] 45 (0, 0)) u16_2 hb)
 have n9_ := am (blk_below (g := gb365) (o := .cells #[.int .i64 t349, .int .i64 t350, .int .i64 t351, .int .i64 t352, .int .i64 t353, .int .i64 t354, .int .i64 t355, .slice Ao43 t356.length co43, .slice Ao44 t359.length co44, .slice Ao45 t362.length co45] 37 (0, 0)) u16_5 hb)
 have n10_ := am (below_step Q1 hb)
 have q0_ := am (Kd.S_below (by (with_reducible repeat (first | apply Kd.S_alloc | apply Kd.S_drewN | apply Kd.S_drew)); exact HQ348.out) hb)
 have q1_ := am (Kd.S_below (by (with_reducible repeat (first | apply Kd.S_alloc | apply Kd.S_drewN | apply Kd.S_drew)); exact HQ368.out) hb)
 clear HQ348 HQ368
 have HQ348 := q0_
 have HQ368 := q1_
 clear q0_ q1_
 clear HO348
 clear HO358
 clear HO361
 clear HO364
 clear HO368
 clear HO379
 clear HO382
 clear HO385
 clear BK328
 clear BK365
 clear HB
 have HO348 := n0_
 have HO358 := n1_
 have HO361 := n2_
 have HO364 := n3_
 have HO368 := n4_
 have HO379 := n5_
 have HO382 := n6_
 have HO385 := n7_
 have BK328 := n8_
 have BK365 := n9_
 have HB := n10_
 clear n0_ n1_ n2_ n3_ n4_ n5_ n6_ n7_ n8_ n9_ n10_
 (try clear hb)
 (try clear hb2)
 (try clear hk)
 (try clear hi)
 refine hK.out _ _ ⟨(blk_cell BK365.out 0).trans rfl, (blk_cell BK365.out 1).trans rfl, (blk_cell BK365.out 2).trans rfl, (blk_cell BK365.out 3).trans rfl, (blk_cell BK365.out 4).trans rfl, (blk_cell BK365.out 5).trans rfl, (blk_cell BK365.out 6).trans rfl, (blk_cell BK365.out 7).trans rfl, (blk_cell BK365.out 8).trans rfl, (blk_cell BK365.out 9).trans rfl, (blk_cell BK328.out 0).trans rfl, (blk_cell BK328.out 1).trans rfl, (blk_cell BK328.out 2).trans rfl, (blk_cell BK328.out 3).trans rfl, (blk_cell BK328.out 4).trans rfl, (blk_cell BK328.out 5).trans rfl, (blk_cell BK328.out 6).trans rfl, (blk_cell BK328.out 7).trans rfl, (blk_cell BK328.out 8).trans rfl, (blk_cell BK328.out 9).trans rfl⟩ (fun hHeld => ?_)
 clear hK K
 refine norm_ (a' := ?_) ?_ ?_
 rotate_left
 · show Act.put _ (some 34) _ = _
   simp only [Act.put, la, lb, lc, i64_w, i32_w]
   rfl
 refine pure_ (i := 4) (N := some 35) (v := ?_) (a' := ?_) #[true, true, true, true, true] rfl rfl kr (fun _ _ _ h => h) (Or.inl ⟨by rfl, ?_⟩) ?_ ?_
 rotate_left; (intro w'; go_simp; with_reducible rfl); rotate_left; (simp only [Act.put, la, lb, lc, i64_w, i32_w]; rfl)
 refine done_ kr ?_
 obtain ⟨hcz56_0, hcz56_1, hcz56_2, hcz56_3, hcz56_4, hcz56_5, hcz56_6, hcz56_7, hcz56_8, hcz56_9, hfz56_0, hfz56_1, hfz56_2, hfz56_3, hfz56_4, hfz56_5, hfz56_6, hfz56_7, hfz56_8, hfz56_9⟩ := bc10f w55 BK365.out
 have n_ := am (Kd.S_mono (ok' := (fun k_ => some k_ ≠ (.slice Ao43 t356.length co43 : Value).ownBlock ∧ some k_ ≠ (.slice Ao47 t366.length co47 : Value).ownBlock)) HO348.out (fun k_ hk => ⟨hk.1.1.2, hk.1.2⟩))
 clear HO348
 have HO348 := n_
 clear n_
 have n_ := am (Kd.R_mono (ok' := (fun _ => True)) HO358.out (fun k_ hk => trivial))
 clear HO358
 have HO358 := n_
 clear n_
 have n_ := am (Kd.R_mono (ok' := (fun k_ => some k_ ≠ (.slice Ao45 t362.length co45 : Value).ownBlock)) HO361.out (fun k_ hk => hk.1.1))
 clear HO361
 have HO361 := n_
 clear n_
 have n_ := am (Kd.R_mono (ok' := (fun k_ => some k_ ≠ (.slice Ao44 t359.length co44 : Value).ownBlock)) HO364.out (fun k_ hk => hk.1.1))
 clear HO364
 have HO364 := n_
 clear n_
 have n_ := am (Kd.S_mono (ok' := (fun k_ => some k_ ≠ (.slice Ao48 t346.length co48 : Value).ownBlock ∧ some k_ ≠ (.slice Ao43 t356.length co43 : Value).ownBlock)) HO368.out (fun k_ hk => ⟨hk.1.1.2, hk.1.2⟩))
 clear HO368
 have HO368 := n_
 clear n_
 clear HO379 HO382 HO385
 try go_wp2_with (first | ((with_reducible refine gate_callee (f := 23) rfl ?_); refine goesL_ (some 38) rfl rfl Try.func23 kr rfl #[.agg #[.int .i64 t349, .int .i64 t350, .int .i64 t351, .int .i64 t352, .int .i64 t353, .int .i64 t354, .int .i64 t355, .slice Ao43 t356.length co43, .slice Ao44 t359.length co44, .slice Ao45 t362.length co45], .int .i64 1] rfl Q0 ?_; (with_reducible refine (laws_markNode.calls k t349 t350 t351 t352 t353 t354 t355 (fun k_ => some k_ = (.slice Ao43 t356.length co43 : Value).ownBlock) (.slice Ao43 t356.length co43) t356 (fun k_ => some k_ = (.slice Ao44 t359.length co44 : Value).ownBlock) (.slice Ao44 t359.length co44) t359 (fun k_ => some k_ = (.slice Ao45 t362.length co45 : Value).ownBlock) (.slice Ao45 t362.length co45) t362 1 t387 t388 t389 t390 w _ ?side1 ?side2 ?side3 ?side4 ?side5 ?side6 A17.out).mono ?_); (case side1 => exact Q1); (case side2 => exact Kd.R_tight rfl HO358.out); (case side3 => exact Kd.R_tight rfl HO361.out); (case side4 => exact fun k_ e_ => (HO361.out.1 k_ e_.symm)); (case side5 => exact Kd.R_tight rfl HO364.out); (case side6 => exact fun k_ e_ => (HO364.out.1 k_ e_.symm)); rintro e w57 ⟨rfl, hy0, hy1, hy2, hb, hkp⟩; refine ⟨_, rfl, ?_⟩; have n0_ := am (blk_kept u16_2 hkp (fun hs_ => Or.elim hs_ (fun e_ => (fun e_ => (Kd.R_ne HO358.out BK328.out (by decide)) e_) e_) (fun e_ => Or.elim e_ (fun e_ => (fun e_ => (Kd.R_ne HO361.out BK328.out (by decide)) e_) e_) (fun e_ => (fun e_ => (Kd.R_ne HO364.out BK328.out (by decide)) e_) e_)))); have n1_ := am (Kd.S_mono (ok' := fun k_ => some k_ ≠ (.slice Ao43 t356.length co43 : Value).ownBlock ∧ some k_ ≠ (.slice Ao47 t366.length co47 : Value).ownBlock) (Kd.S_keptB ((Kd.S_apart' (Kd.S_apart' HO348.out (Kd.R_typed HO361.out) (by decide)) (Kd.R_typed HO364.out) (by decide))) hkp (fun k_ hk_ hs_ => Or.elim hs_ (fun e_ => (hk_.1.1.1) e_) (fun e_ => Or.elim e_ (fun e_ => (hk_.1.2) e_) (fun e_ => (hk_.2) e_)))) (fun k_ hk_ => ⟨hk_.1.1.1.1, hk_.1.1.1.2⟩)); have n2_ := am (Kd.R_reok rfl hy0 (fun k_ e_ => HO358.out.1 k_ e_)); have n3_ := am (Kd.R_reok rfl hy1 (fun k_ e_ => HO361.out.1 k_ e_)); have n4_ := am (Kd.R_reok rfl hy2 (fun k_ e_ => HO364.out.1 k_ e_)); have n5_ := am (blk_kept u16_5 hkp (fun hs_ => Or.elim hs_ (fun e_ => (fun e_ => (Kd.R_ne HO358.out BK365.out (by decide)) e_) e_) (fun e_ => Or.elim e_ (fun e_ => (fun e_ => (Kd.R_ne HO361.out BK365.out (by decide)) e_) e_) (fun e_ => (fun e_ => (Kd.R_ne HO364.out BK365.out (by decide)) e_) e_)))); have n6_ := am (Kd.S_mono (ok' := fun k_ => some k_ ≠ (.slice Ao48 t346.length co48 : Value).ownBlock ∧ some k_ ≠ (.slice Ao43 t356.length co43 : Value).ownBlock) (Kd.S_keptB ((Kd.S_apart' (Kd.S_apart' HO368.out (Kd.R_typed HO361.out) (by decide)) (Kd.R_typed HO364.out) (by decide))) hkp (fun k_ hk_ hs_ => Or.elim hs_ (fun e_ => (hk_.1.1.2) e_) (fun e_ => Or.elim e_ (fun e_ => (hk_.1.2) e_) (fun e_ => (hk_.2) e_)))) (fun k_ hk_ => ⟨hk_.1.1.1.1, hk_.1.1.1.2⟩)); have n7_ := am (hb); clear BK328; have q0_ := am (Kd.S_drop (Kd.S_drop (Kd.S_kept (Kd.S_apart' (Kd.S_apart' (by (with_reducible repeat (first | apply Kd.S_alloc | apply Kd.S_drewN | apply Kd.S_drew)); exact HQ348.out) (Kd.R_typed HO361.out) (by decide)) (Kd.R_typed HO364.out) (by decide)) hkp (fun k_ hk_ hs_ => Or.elim hs_ (fun e_ => by first | exact hk_.1.1.1.2 e_ | exact hk_.1.1.1 e_ | exact hk_.1.1.1.1.2 e_ | exact hk_.1.1.1.2.1 e_ | exact hk_.1.1.1.1 e_) (fun e_ => Or.elim e_ (fun e_ => (hk_.1.2) e_) (fun e_ => (hk_.2) e_)))))); have q1_ := am (Kd.S_drop (Kd.S_drop (Kd.S_kept (Kd.S_apart' (Kd.S_apart' (by (with_reducible repeat (first | apply Kd.S_alloc | apply Kd.S_drewN | apply Kd.S_drew)); exact HQ368.out) (Kd.R_typed HO361.out) (by decide)) (Kd.R_typed HO364.out) (by decide)) hkp (fun k_ hk_ hs_ => Or.elim hs_ (fun e_ => by first | exact hk_.1.1.1.2 e_ | exact hk_.1.1.1 e_ | exact hk_.1.1.1.1.2 e_ | exact hk_.1.1.1.2.1 e_ | exact hk_.1.1.1.1 e_) (fun e_ => Or.elim e_ (fun e_ => (hk_.1.2) e_) (fun e_ => (hk_.2) e_)))))); clear HQ348 HQ368; have HQ348 := q0_; have HQ368 := q1_; clear q0_ q1_; clear HO348; clear HO358; clear HO361; clear HO364; clear BK365; clear HO368; clear HB; have BK328 := n0_; have HO348 := n1_; have HO358 := n2_; have HO361 := n3_; have HO364 := n4_; have BK365 := n5_; have HO368 := n6_; have HB := n7_; clear n0_ n1_ n2_ n3_ n4_ n5_ n6_ n7_; (try clear hb); (try clear hkp); (try clear hy0); (try clear hy1); (try clear hy2); have n_ := am (Kd.S_mono (ok' := (fun k_ => some k_ ≠ (.slice Ao47 t366.length co47 : Value).ownBlock)) HO348.out (fun k_ hk => hk.2)); clear HO348; have HO348 := n_; clear n_; have n_ := am (Kd.S_mono (ok' := (fun k_ => some k_ ≠ (.slice Ao48 t346.length co48 : Value).ownBlock)) HO368.out (fun k_ hk => hk.1)); clear HO368; have HO368 := n_; clear n_; clear HO358 HO361 HO364) | (go_at_call 40; (with_reducible refine (laws_eqMsgS.calls k _ _ t366 _ _ t346 true _ ?side1 ?side2 ?side3 ?side4 A19.out).mono ?_); (case side1 => exact u16_14); (case side2 => exact (Kd.S_reads' HO368.out).2.1); (case side3 => exact u16_18); (case side4 => exact (Kd.S_reads' HO348.out).2.1); rintro e w58 ⟨rfl, hb⟩; have n0_ := am (Kd.S_below u16_6 hb); have n1_ := am (Kd.S_below u16_10 hb); have n2_ := am (blk_below (g := gb328) (o := .cells #[.int .i64 a0_0, .int .i64 a0_1, .int .i64 a0_2, .int .i64 a0_3, .int .i64 a0_4, .int .i64 a0_5, .int .i64 a0_6, .slice A0_7 l0_7.length c0_7, .slice A0_8 l0_8.length c0_8, .slice A0_9 l0_9.length c0_9] 45 (0, 0)) u16_2 hb); have n3_ := am (blk_below (g := gb365) (o := .cells #[.int .i64 t349, .int .i64 t350, .int .i64 t351, .int .i64 t352, .int .i64 t353, .int .i64 t354, .int .i64 t355, .slice Ao43 t356.length co43, .slice Ao44 t359.length co44, .slice Ao45 t362.length co45] 37 (0, 0)) u16_5 hb); have n4_ := am (below_step Q1 hb); have q0_ := am (Kd.S_below (by (with_reducible repeat (first | apply Kd.S_alloc | apply Kd.S_drewN | apply Kd.S_drew)); exact HQ348.out) hb); have q1_ := am (Kd.S_below (by (with_reducible repeat (first | apply Kd.S_alloc | apply Kd.S_drewN | apply Kd.S_drew)); exact HQ368.out) hb); clear HQ348 HQ368; have HQ348 := q0_; have HQ368 := q1_; clear q0_ q1_; clear HO348; clear HO368; clear BK328; clear BK365; clear HB; have HO348 := n0_; have HO368 := n1_; have BK328 := n2_; have BK365 := n3_; have HB := n4_; clear n0_ n1_ n2_ n3_ n4_; (try clear hb); (try clear hb2); (try clear hk); (try clear hi)) | ((with_reducible refine gate_callee (f := 41) rfl ?_); refine goesL_ (some 49) rfl rfl Try.func41 kr rfl #[.slice Ao47 t366.length co47, .int .i64 1] rfl Q0 ?_; (with_reducible refine (laws_markMsgS.calls k (fun k_ => N_ ≤ k_ ∧ ∃ q_, q_ ∈ (29 :: Kd.E k29) ∧ ∃ cells_, w58.heap[k_]? = some (.cells cells_ q_ (0, 0))) (.slice Ao47 t366.length co47) t366 1 t392 t393 w _ ?side1 ?side2 A21.out).mono ?_); (case side1 => exact Q1); (case side2 => exact Kd.S_mono (Kd.S_bound HQ368.out) (fun _ h_ => ⟨h_.1.2, h_.2.2.2⟩)); rintro e w59 ⟨rfl, hy0, hb, hkp⟩; refine ⟨_, rfl, ?_⟩; replace BK328 := am (blk_kept u16_2 hkp (fun hs_ => untyped_ hs_.2 ⟨_, BK328.out⟩ (by decide))); replace HO348 := am (Kd.S_mono (ok' := fun k_ => some k_ ≠ (.slice Ao47 t366.length co47 : Value).ownBlock) (Kd.S_keptB (HQ348.out) hkp (fun k_ hk_ hs_ => Nat.lt_irrefl _ (Nat.lt_of_lt_of_le hk_.2 hs_.1))) (fun k_ hk_ e_ => Nat.lt_irrefl _ (Nat.lt_of_lt_of_le hk_.1.2 ((Kd.S_R HQ368.out).1 k_ e_.symm).2))); replace BK365 := am (blk_kept u16_5 hkp (fun hs_ => untyped_ hs_.2 ⟨_, BK365.out⟩ (by decide))); replace HO368 := am (Kd.S_mono (ok' := fun k_ => some k_ ≠ (.slice Ao48 t346.length co48 : Value).ownBlock) hy0 (fun k_ hk_ e_ => Nat.lt_irrefl _ (Nat.lt_of_lt_of_le ((Kd.S_R HQ348.out).1 k_ e_.symm).2 hk_.1))); replace HB := am (hb); (try clear hb); (try clear hkp); (try clear hy0); clear HQ348 HQ368) | ((with_reducible refine gate_callee (f := 42) rfl ?_); refine goesL_ (some 52) rfl rfl Try.func42 kr rfl #[.slice Ao47 t393.length co47, .int .i64 1] rfl u16_20 ?_; (with_reducible refine (laws_heldMsgS.calls k _ _ t393 1 t394 _ ?side1 ?side2 A22.out).mono ?_); (case side1 => exact u16_14); (case side2 => exact u16_21); rintro e w60 ⟨rfl, hb⟩; refine ⟨_, rfl, ?_⟩; replace HO348 := am (Kd.S_below u16_6 hb); replace HO368 := am (Kd.S_below u16_10 hb); replace BK328 := am (blk_below (g := gb328) (o := .cells #[.int .i64 a0_0, .int .i64 a0_1, .int .i64 a0_2, .int .i64 a0_3, .int .i64 a0_4, .int .i64 a0_5, .int .i64 a0_6, .slice A0_7 l0_7.length c0_7, .slice A0_8 l0_8.length c0_8, .slice A0_9 l0_9.length c0_9] 45 (0, 0)) u16_2 hb); replace BK365 := am (blk_below (g := gb365) (o := .cells #[.int .i64 t349, .int .i64 t350, .int .i64 t351, .int .i64 t352, .int .i64 t353, .int .i64 t354, .int .i64 t355, .slice Ao43 t356.length co43, .slice Ao44 t359.length co44, .slice Ao45 t362.length co45] 37 (0, 0)) u16_5 hb); replace HB := am (below_step Q1 hb); (try clear hb); (try clear hb2); (try clear hk); (try clear hi); obtain ⟨hcz61_0, hcz61_1, hcz61_2, hcz61_3, hcz61_4, hcz61_5, hcz61_6, hcz61_7, hcz61_8, hcz61_9, hfz61_0, hfz61_1, hfz61_2, hfz61_3, hfz61_4, hfz61_5, hfz61_6, hfz61_7, hfz61_8, hfz61_9⟩ := bc10f w60 BK328.out) | ((with_reducible refine gate_callee (f := 27) rfl ?_); refine goesL_ (some 59) rfl rfl Try.func27 kr rfl #[.agg #[.int .i64 a0_0, .int .i64 a0_1, .int .i64 a0_2, .int .i64 a0_3, .int .i64 a0_4, .int .i64 a0_5, .int .i64 a0_6, .slice A0_7 l0_7.length c0_7, .slice A0_8 l0_8.length c0_8, .slice A0_9 l0_9.length c0_9]] rfl Q0 ?_; (with_reducible refine (laws_toNode.calls k a0_0 a0_1 a0_2 a0_3 a0_4 a0_5 a0_6 _ _ l0_7 _ _ l0_8 _ _ l0_9 t395 t396 t397 t398 t399 t400 t401 t402 t405 t408 _ ?side1 ?side2 ?side3 ?side4 ?side5 ?side6 A25.out).mono ?_); (case side1 => exact Q8); (case side2 => exact HC0_7.out); (case side3 => exact Q9); (case side4 => exact HC0_8.out); (case side5 => exact Q11); (case side6 => exact HC0_9.out); rintro e w62 ⟨v403, v406, v409, rfl, ho0, ho1, ho2, hb⟩; refine ⟨_, rfl, ?_⟩; replace HO348 := am (Kd.S_elder' u16_6 (Kd.R_base ho0) hb); replace HO368 := am (Kd.S_elder' u16_10 (Kd.R_base ho0) hb); have HO404 := am (Kd.R_lower ho0 (below_size Q1)); have HO407 := am (Kd.R_lower ho1 (below_size Q1)); have HO410 := am (Kd.R_lower ho2 (below_size Q1)); replace BK328 := am (blk_below (g := gb328) (o := .cells #[.int .i64 a0_0, .int .i64 a0_1, .int .i64 a0_2, .int .i64 a0_3, .int .i64 a0_4, .int .i64 a0_5, .int .i64 a0_6, .slice A0_7 l0_7.length c0_7, .slice A0_8 l0_8.length c0_8, .slice A0_9 l0_9.length c0_9] 45 (0, 0)) u16_2 hb); replace BK365 := am (blk_below (g := gb365) (o := .cells #[.int .i64 t349, .int .i64 t350, .int .i64 t351, .int .i64 t352, .int .i64 t353, .int .i64 t354, .int .i64 t355, .slice Ao43 t356.length co43, .slice Ao44 t359.length co44, .slice Ao45 t362.length co45] 37 (0, 0)) u16_5 hb); replace HB := am (below_step Q1 hb); (try clear hb); (try clear hb2); (try clear hk); (try clear hi); (try clear ho0); (try clear ho1); (try clear ho2); obtain ⟨Ao63, co63, eo63⟩ := Kd.R_slice HO404.out; subst eo63; obtain ⟨Ao64, co64, eo64⟩ := Kd.R_slice HO407.out; subst eo64; obtain ⟨Ao65, co65, eo65⟩ := Kd.R_slice HO410.out; subst eo65) | ((with_reducible refine gate_callee (f := 39) rfl ?_); refine goesL_ (some 61) rfl rfl Try.func39 kr rfl #[.agg #[.int .i64 t395, .int .i64 t396, .int .i64 t397, .int .i64 t398, .int .i64 t399, .int .i64 t400, .int .i64 t401, .slice Ao63 t402.length co63, .slice Ao64 t405.length co64, .slice Ao65 t408.length co65], .int .i64 a1] rfl Q0 ?_; (with_reducible refine (impl_Beat.calls k t395 t396 t397 t398 t399 t400 t401 _ _ t402 _ _ t405 _ _ t408 a1 t411 _ ?side1 ?side2 ?side3 ?side4 ?side5 ?side6 A26.out).mono ?_); (case side1 => exact (by repeat (first | exact (Kd.R_reads' HO404.out).2.2 | (with_reducible refine Kd.C_alloc ?_ _) | (with_reducible refine Kd.C_drewN ?_ _) | (with_reducible refine Kd.C_drew ?_)))); (case side2 => exact (Kd.R_reads' HO404.out).2.1); (case side3 => exact (by repeat (first | exact (Kd.R_reads' HO407.out).2.2 | (with_reducible refine Kd.C_alloc ?_ _) | (with_reducible refine Kd.C_drewN ?_ _) | (with_reducible refine Kd.C_drew ?_)))); (case side4 => exact (Kd.R_reads' HO407.out).2.1); (case side5 => exact (by repeat (first | exact (Kd.R_reads' HO410.out).2.2 | (with_reducible refine Kd.C_alloc ?_ _) | (with_reducible refine Kd.C_drewN ?_ _) | (with_reducible refine Kd.C_drew ?_)))); (case side6 => exact (Kd.R_reads' HO410.out).2.1); rintro e w66 ⟨v412, rfl, ho0, hb⟩; refine ⟨_, rfl, ?_⟩; replace HO407 := am (Kd.R_below (by (with_reducible repeat (first | apply Kd.R_alloc | apply Kd.R_drewN | apply Kd.R_drew)); exact HO407.out) hb); replace HO410 := am (Kd.R_below (by (with_reducible repeat (first | apply Kd.R_alloc | apply Kd.R_drewN | apply Kd.R_drew)); exact HO410.out) hb); have HO413 := am (Kd.S_lower (Kd.S_new' (Kd.S_new' (Kd.S_new' ho0 (Kd.S_lt u16_6)) (Kd.S_lt u16_10)) (Kd.R_lt u16_23)) (below_size Q1)); replace HO348 := am (Kd.S_elder' u16_6 (Kd.S_base ho0) hb); replace HO368 := am (Kd.S_elder' u16_10 (Kd.S_base ho0) hb); replace HO404 := am (Kd.R_below u16_23 hb); replace BK328 := am (blk_below (g := gb328) (o := .cells #[.int .i64 a0_0, .int .i64 a0_1, .int .i64 a0_2, .int .i64 a0_3, .int .i64 a0_4, .int .i64 a0_5, .int .i64 a0_6, .slice A0_7 l0_7.length c0_7, .slice A0_8 l0_8.length c0_8, .slice A0_9 l0_9.length c0_9] 45 (0, 0)) u16_2 hb); replace BK365 := am (blk_below (g := gb365) (o := .cells #[.int .i64 t349, .int .i64 t350, .int .i64 t351, .int .i64 t352, .int .i64 t353, .int .i64 t354, .int .i64 t355, .slice Ao43 t356.length co43, .slice Ao44 t359.length co44, .slice Ao45 t362.length co45] 37 (0, 0)) u16_5 hb); replace HB := am (below_step Q1 hb); (try clear hb); (try clear hb2); (try clear hk); (try clear hi); (try clear ho0); have n_ := am (Kd.S_mono (ok' := (fun k_ => some k_ ≠ (.slice Ao47 t366.length co47 : Value).ownBlock ∧ some k_ ≠ (v412 : Value).ownBlock)) HO348.out (fun k_ hk => ⟨hk.1.1, hk.2⟩)); clear HO348; have HO348 := n_; clear n_; have n_ := am (Kd.S_mono (ok' := (fun k_ => some k_ ≠ (.slice Ao48 t346.length co48 : Value).ownBlock ∧ some k_ ≠ (v412 : Value).ownBlock)) HO368.out (fun k_ hk => ⟨hk.1.1, hk.2⟩)); clear HO368; have HO368 := n_; clear n_; have n_ := am (Kd.S_mono (ok' := (fun k_ => some k_ ≠ (.slice Ao48 t346.length co48 : Value).ownBlock ∧ some k_ ≠ (.slice Ao47 t366.length co47 : Value).ownBlock)) HO413.out (fun k_ hk => ⟨hk.1.1.2, hk.1.2⟩)); clear HO413; have HO413 := n_; clear n_; clear HO404 HO407 HO410; obtain ⟨Ao67, co67, eo67⟩ := Kd.S_slice HO413.out; subst eo67) | ((with_reducible refine gate_callee (f := 40) rfl ?_); refine goesL_ (some 64) rfl rfl Try.func40 kr rfl #[.slice Ao67 t411.length co67, .slice Ao48 t346.length co48] rfl Q0 ?_; (with_reducible refine (laws_eqMsgS.calls k _ _ t411 _ _ t346 true _ ?side1 ?side2 ?side3 ?side4 A27.out).mono ?_); (case side1 => exact (by repeat (first | exact (Kd.S_reads' HO413.out).2.2 | (with_reducible refine Kd.C_alloc ?_ _) | (with_reducible refine Kd.C_drewN ?_ _) | (with_reducible refine Kd.C_drew ?_)))); (case side2 => exact (Kd.S_reads' HO413.out).2.1); (case side3 => exact u16_18); (case side4 => exact (Kd.S_reads' HO348.out).2.1); rintro e w68 ⟨rfl, hb⟩; refine ⟨_, rfl, ?_⟩; replace HO348 := am (Kd.S_below u16_6 hb); replace HO368 := am (Kd.S_below u16_10 hb); replace HO413 := am (Kd.S_below (by (with_reducible repeat (first | apply Kd.S_alloc | apply Kd.S_drewN | apply Kd.S_drew)); exact HO413.out) hb); replace BK328 := am (blk_below (g := gb328) (o := .cells #[.int .i64 a0_0, .int .i64 a0_1, .int .i64 a0_2, .int .i64 a0_3, .int .i64 a0_4, .int .i64 a0_5, .int .i64 a0_6, .slice A0_7 l0_7.length c0_7, .slice A0_8 l0_8.length c0_8, .slice A0_9 l0_9.length c0_9] 45 (0, 0)) u16_2 hb); replace BK365 := am (blk_below (g := gb365) (o := .cells #[.int .i64 t349, .int .i64 t350, .int .i64 t351, .int .i64 t352, .int .i64 t353, .int .i64 t354, .int .i64 t355, .slice Ao43 t356.length co43, .slice Ao44 t359.length co44, .slice Ao45 t362.length co45] 37 (0, 0)) u16_5 hb); replace HB := am (below_step Q1 hb); (try clear hb); (try clear hb2); (try clear hk); (try clear hi); have n_ := am (Kd.S_mono (ok' := (fun _ => True)) HO368.out (fun k_ hk => trivial)); clear HO368; have HO368 := n_; clear n_; clear HO348 HO413) | ((with_reducible refine gate_callee (f := 42) rfl ?_); refine goesL_ (some 68) rfl rfl Try.func42 kr rfl #[.slice Ao47 t393.length co47, .int .i64 1] rfl u16_20 ?_; (with_reducible refine (laws_heldMsgS.calls k _ _ t393 1 t415 _ ?side1 ?side2 A29.out).mono ?_); (case side1 => exact u16_14); (case side2 => exact u16_21); rintro e w69 ⟨rfl, hb⟩; refine ⟨_, rfl, ?_⟩; replace HO368 := am (Kd.S_below u16_10 hb); replace BK328 := am (blk_below (g := gb328) (o := .cells #[.int .i64 a0_0, .int .i64 a0_1, .int .i64 a0_2, .int .i64 a0_3, .int .i64 a0_4, .int .i64 a0_5, .int .i64 a0_6, .slice A0_7 l0_7.length c0_7, .slice A0_8 l0_8.length c0_8, .slice A0_9 l0_9.length c0_9] 45 (0, 0)) u16_2 hb); replace BK365 := am (blk_below (g := gb365) (o := .cells #[.int .i64 t349, .int .i64 t350, .int .i64 t351, .int .i64 t352, .int .i64 t353, .int .i64 t354, .int .i64 t355, .slice Ao43 t356.length co43, .slice Ao44 t359.length co44, .slice Ao45 t362.length co45] 37 (0, 0)) u16_5 hb); replace HB := am (below_step Q1 hb); (try clear hb); (try clear hb2); (try clear hk); (try clear hi)))
 go_ret
 exact ⟨er, Q1⟩

end Go.Proofs.Ytkcadcoohmofcaa.QFnExactBeat
