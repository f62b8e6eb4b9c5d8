-- Printed by the session's own program wip/prx.py.
import Derived.Test.YtkcadcoohmofcaaSqFnExactSafeGroup
import Derived.Test.YtkcadcoohmofcaaQFnExactSafeGroupx0
import Derived.Test.YtkcadcoohmofcaaQFnExactSafeGroupx20
import Derived.Test.YtkcadcoohmofcaaQFnExactSafeGroupx21
namespace Go.Proofs.Ytkcadcoohmofcaa.QFnExactSafeGroup
open Go.RowKit Go.Proofs.YtkcadcoohmofcaaW.PrintWords Go.Proofs.YtkcadcoohmofcaaW.PrintLast Go.Proofs.YtkcadcoohmofcaaW.PrintMore Go.Proofs.Ytkcadcoohmofcaa.SqFnExactSafeGroup
attribute [local go_sem] max2_int min2_int max_two min_two max_three min_three max_four min_four Go.Proofs.Ytkcadcoohmofcaa.Set.isSome_setCell
set_option linter.unusedVariables false
set_option linter.unusedSimpArgs false

-- squeezed
theorem u22_1 {P : Prop} (h : P := by (with_reducible repeat (first | refine blk_drewN ?_ _ | refine blk_drew ?_ | refine blk_alloc ?_ _)); exact BK348.out) : P := h
theorem u22_4 {P : Prop} (h : P := by (with_reducible repeat (first | refine blk_drewN ?_ _ | refine blk_drew ?_ | refine blk_alloc ?_ _)); exact BK351.out) : P := h
theorem u22_7 {P : Prop} (h : P := by (with_reducible repeat (first | refine blk_drewN ?_ _ | refine blk_drew ?_ | refine blk_alloc ?_ _)); exact BK357.out) : P := h
theorem u22_10 {P : Prop} (h : P := by repeat (first | exact (Kd.C_below HR362.out HB.out) | (with_reducible refine Kd.C_alloc ?_ _) | (with_reducible refine Kd.C_drewN ?_ _) | (with_reducible refine Kd.C_drew ?_))) : P := h
theorem u22_11 {P : Prop} (h : P := by repeat (first | exact (Kd.C_below HR366.out HB.out) | (with_reducible refine Kd.C_alloc ?_ _) | (with_reducible refine Kd.C_drewN ?_ _) | (with_reducible refine Kd.C_drew ?_))) : P := h
/-! ### impl_SafeGroup: function 50 -/
mutual
def impl_SafeGroup.l0 : Nat → List (S37) → Int → Int → Int → List (S37) → List (S29) → Option (Bool)
 | 0, _, _, _, _, _, _ => none
 | k + 1, x13, x14, x15, x349000, x349001, x349002 => if x15 < x14 then (if 0 ≤ x15 then (if x15 < (x13.length : Int) then (if x15 ≤ (x349001.length : Int) then ((some (x349001.take (x15 : Int).toNat : List (S37))).bind fun y352 => (impl_SafeGroup.l1 k x13 x14 x15 y352 (y352.length : Int) 0 x349000 x349001 x349002 ((rd_T37 x13 x15).f0) ((rd_T37 x13 x15).f1) ((rd_T37 x13 x15).f2) ((rd_T37 x13 x15).f3) ((rd_T37 x13 x15).f4) ((rd_T37 x13 x15).f5.f0) ((rd_T37 x13 x15).f5.f1) ((rd_T37 x13 x15).f5.f2) ((rd_T37 x13 x15).f6) ((rd_T37 x13 x15).f7))) else (none)) else (none)) else (none)) else (some true)
def impl_SafeGroup.l1 : Nat → List (S37) → Int → Int → List (S37) → Int → Int → Int → List (S37) → List (S29) → Int → Int → Int → Int → Int → Int → Int → List (S85) → List Int → List Int → Option (Bool)
 | 0, _, _, _, _, _, _, _, _, _, _, _, _, _, _, _, _, _, _, _ => none
 | k + 1, x13, x14, x15, x23, x24, x25, x349000, x349001, x349002, x352000, x352001, x352002, x352003, x352004, x352005, x352006, x352007, x352008, x352009 => if x25 < x24 then (if 0 ≤ x25 then (if x25 < (x23.length : Int) then ((impl_Agree.f k x352005 x352006 x352007 ((rd_T37 x23 x25).f5.f0) ((rd_T37 x23 x25).f5.f1) ((rd_T37 x23 x25).f5.f2)).bind fun t358 => (if x352003 = 2 then (if ((rd_T37 x23 x25).f3) = 2 then (impl_SafeGroup.j2 k t358 (mn x352004 ((rd_T37 x23 x25).f4)) x13 x14 x15 x23 x24 x25 (x352001 == ((rd_T37 x23 x25).f1)) x349000 x349001 x349002 x352000 x352001 x352002 x352003 x352004 x352005 x352006 x352007 x352008 x352009 ((rd_T37 x23 x25).f0) ((rd_T37 x23 x25).f1) ((rd_T37 x23 x25).f2) ((rd_T37 x23 x25).f3) ((rd_T37 x23 x25).f4) ((rd_T37 x23 x25).f5.f0) ((rd_T37 x23 x25).f5.f1) ((rd_T37 x23 x25).f5.f2) ((rd_T37 x23 x25).f6) ((rd_T37 x23 x25).f7)) else (impl_SafeGroup.j2 k t358 (mn x352004 ((rd_T37 x23 x25).f4)) x13 x14 x15 x23 x24 x25 false x349000 x349001 x349002 x352000 x352001 x352002 x352003 x352004 x352005 x352006 x352007 x352008 x352009 ((rd_T37 x23 x25).f0) ((rd_T37 x23 x25).f1) ((rd_T37 x23 x25).f2) ((rd_T37 x23 x25).f3) ((rd_T37 x23 x25).f4) ((rd_T37 x23 x25).f5.f0) ((rd_T37 x23 x25).f5.f1) ((rd_T37 x23 x25).f5.f2) ((rd_T37 x23 x25).f6) ((rd_T37 x23 x25).f7))) else (impl_SafeGroup.j2 k t358 (mn x352004 ((rd_T37 x23 x25).f4)) x13 x14 x15 x23 x24 x25 false x349000 x349001 x349002 x352000 x352001 x352002 x352003 x352004 x352005 x352006 x352007 x352008 x352009 ((rd_T37 x23 x25).f0) ((rd_T37 x23 x25).f1) ((rd_T37 x23 x25).f2) ((rd_T37 x23 x25).f3) ((rd_T37 x23 x25).f4) ((rd_T37 x23 x25).f5.f0) ((rd_T37 x23 x25).f5.f1) ((rd_T37 x23 x25).f5.f2) ((rd_T37 x23 x25).f6) ((rd_T37 x23 x25).f7)))) else (none)) else (none)) else (impl_SafeGroup.l0 k x13 x14 (wrap64 (x15 + 1)) x349000 x349001 x349002)
def impl_SafeGroup.j2 : Nat → Int → Int → List (S37) → Int → Int → List (S37) → Int → Int → Bool → Int → List (S37) → List (S29) → Int → Int → Int → Int → Int → Int → Int → List (S85) → List Int → List Int → Int → Int → Int → Int → Int → Int → Int → List (S85) → List Int → List Int → Option (Bool)
 | 0, _, _, _, _, _, _, _, _, _, _, _, _, _, _, _, _, _, _, _, _, _, _, _, _, _, _, _, _, _, _, _, _ => none
 | k + 1, x7, x8, x13, x14, x15, x23, x24, x25, x53, x349000, x349001, x349002, x352000, x352001, x352002, x352003, x352004, x352005, x352006, x352007, x352008, x352009, x358000, x358001, x358002, x358003, x358004, x358005, x358006, x358007, x358008, x358009 => if x53 = true then (some false) else (if 0 ≤ x7 then (if x7 ≤ (x352007.length : Int) then (if x7 ≤ (x358007.length : Int) then ((impl_Entry_103.f k (x352007.take (x7 : Int).toNat) (x358007.take (x7 : Int).toNat)).bind fun t367 => (if t367 = true then (if 0 ≤ x8 then (if x8 ≤ (x352007.length : Int) then (if x8 ≤ (x358007.length : Int) then ((impl_Entry_103.f k (x352007.take (x8 : Int).toNat) (x358007.take (x8 : Int).toNat)).bind fun t376 => (if t376 = true then (impl_SafeGroup.l1 k x13 x14 x15 x23 x24 (wrap64 (x25 + 1)) x349000 x349001 x349002 x352000 x352001 x352002 x352003 x352004 x352005 x352006 x352007 x352008 x352009) else (some false))) else (none)) else (none)) else (none)) else (some false))) else (none)) else (none)) else (none))
end
def impl_SafeGroup.f (k : Nat) (a0_0 : Int) (l0_1 : List (S37)) (l0_2 : List (S29)) : Option (Bool) := (impl_isGroup.f k a0_0 l0_1 l0_2).bind fun t349 => (if t349 = true then (impl_SafeGroup.l0 k l0_1 (l0_1.length : Int) 0 a0_0 l0_1 l0_2) else (some false))
theorem impl_SafeGroup.mono_l : ∀ k, (∀ y0 y1 y2 y3 y4 y5, LeO (impl_SafeGroup.l0 k y0 y1 y2 y3 y4 y5) (impl_SafeGroup.l0 (k + 1) y0 y1 y2 y3 y4 y5)) ∧ (∀ y0 y1 y2 y3 y4 y5 y6 y7 y8 y9 y10 y11 y12 y13 y14 y15 y16 y17 y18, LeO (impl_SafeGroup.l1 k y0 y1 y2 y3 y4 y5 y6 y7 y8 y9 y10 y11 y12 y13 y14 y15 y16 y17 y18) (impl_SafeGroup.l1 (k + 1) y0 y1 y2 y3 y4 y5 y6 y7 y8 y9 y10 y11 y12 y13 y14 y15 y16 y17 y18)) ∧ (∀ y0 y1 y2 y3 y4 y5 y6 y7 y8 y9 y10 y11 y12 y13 y14 y15 y16 y17 y18 y19 y20 y21 y22 y23 y24 y25 y26 y27 y28 y29 y30 y31, LeO (impl_SafeGroup.j2 k y0 y1 y2 y3 y4 y5 y6 y7 y8 y9 y10 y11 y12 y13 y14 y15 y16 y17 y18 y19 y20 y21 y22 y23 y24 y25 y26 y27 y28 y29 y30 y31) (impl_SafeGroup.j2 (k + 1) y0 y1 y2 y3 y4 y5 y6 y7 y8 y9 y10 y11 y12 y13 y14 y15 y16 y17 y18 y19 y20 y21 y22 y23 y24 y25 y26 y27 y28 y29 y30 y31))
 | 0 => ⟨fun _ _ _ _ _ _ r h => by simp [impl_SafeGroup.l0] at h, fun _ _ _ _ _ _ _ _ _ _ _ _ _ _ _ _ _ _ _ r h => by simp [impl_SafeGroup.l1] at h, fun _ _ _ _ _ _ _ _ _ _ _ _ _ _ _ _ _ _ _ _ _ _ _ _ _ _ _ _ _ _ _ _ r h => by simp [impl_SafeGroup.j2] at h⟩
 | k + 1 => by
   obtain ⟨ih0, ih1, ih2⟩ := impl_SafeGroup.mono_l k
   refine ⟨?_, ?_, ?_⟩ <;> intros <;> (first | unfold impl_SafeGroup.l0 | unfold impl_SafeGroup.l1 | unfold impl_SafeGroup.j2) <;> repeat' first
   | (with_reducible exact ih0 _ _ _ _ _ _)
   | (with_reducible exact ih1 _ _ _ _ _ _ _ _ _ _ _ _ _ _ _ _ _ _ _)
   | (with_reducible exact ih2 _ _ _ _ _ _ _ _ _ _ _ _ _ _ _ _ _ _ _ _ _ _ _ _ _ _ _ _ _ _ _ _)
   | (with_reducible exact impl_Agree.mono _ _ _ _ _ _ _)
   | (with_reducible exact impl_Entry_103.mono _ _ _)
   | (with_reducible exact impl_isGroup.mono _ _ _ _)
   | (with_reducible exact LeO.refl _)
   | (with_reducible exact LeO.none _)
   | (with_reducible refine LeO.ite ?_ ?_)
   | (with_reducible refine LeO.bind ?_ (fun _ => ?_))
   | exact ih0 _ _ _ _ _ _
   | exact ih1 _ _ _ _ _ _ _ _ _ _ _ _ _ _ _ _ _ _ _
   | exact ih2 _ _ _ _ _ _ _ _ _ _ _ _ _ _ _ _ _ _ _ _ _ _ _ _ _ _ _ _ _ _ _ _
   | exact impl_Agree.mono _ _ _ _ _ _ _
   | exact impl_Entry_103.mono _ _ _
   | exact impl_isGroup.mono _ _ _ _
   | exact LeO.none _
   | refine LeO.ite ?_ ?_
   | refine LeO.bind ?_ (fun _ => ?_)
theorem impl_SafeGroup.mono : ∀ a0 a1 a2 k, LeO (impl_SafeGroup.f k a0 a1 a2) (impl_SafeGroup.f (k + 1) a0 a1 a2) := by
 intro a0 a1 a2 k
 obtain ⟨ih0, ih1, ih2⟩ := impl_SafeGroup.mono_l k
 unfold impl_SafeGroup.f
 repeat' first
     | (with_reducible exact ih0 _ _ _ _ _ _)
     | (with_reducible exact ih1 _ _ _ _ _ _ _ _ _ _ _ _ _ _ _ _ _ _ _)
     | (with_reducible exact ih2 _ _ _ _ _ _ _ _ _ _ _ _ _ _ _ _ _ _ _ _ _ _ _ _ _ _ _ _ _ _ _ _)
     | (with_reducible exact impl_Agree.mono _ _ _ _ _ _ _)
     | (with_reducible exact impl_Entry_103.mono _ _ _)
     | (with_reducible exact impl_isGroup.mono _ _ _ _)
     | (with_reducible exact LeO.refl _)
     | (with_reducible exact LeO.none _)
     | (with_reducible refine LeO.ite ?_ ?_)
     | (with_reducible refine LeO.bind ?_ (fun _ => ?_))
     | exact ih0 _ _ _ _ _ _
     | exact ih1 _ _ _ _ _ _ _ _ _ _ _ _ _ _ _ _ _ _ _
     | exact ih2 _ _ _ _ _ _ _ _ _ _ _ _ _ _ _ _ _ _ _ _ _ _ _ _ _ _ _ _ _ _ _ _
     | exact impl_Agree.mono _ _ _ _ _ _ _
     | exact impl_Entry_103.mono _ _ _
     | exact impl_isGroup.mono _ _ _ _
     | exact LeO.none _
     | refine LeO.ite ?_ ?_
     | refine LeO.bind ?_ (fun _ => ?_)
def impl_SafeGroup.T9 : Bool × List (List Nat × List Nat) := (true, [([], []), ([0], [0]), ([], []), ([2], [2]), ([1, 3], [1, 3]), ([], []), ([5], [5]), ([], []), ([7], [7]), ([6, 8], [6, 8]), ([4, 4, 0, 1, 2, 3, 4], [4]), ([9, 10, 0, 1, 2, 3, 4, 5, 6, 7, 8, 9, 10], [9])])
def impl_SafeGroup.B9 : List Nat := [0, 1, 0, 4, 15, 0, 32, 0, 128, 480, 31, 2047]
theorem impl_SafeGroup.tab9 : rtab .any (opsOf Try.f50 9) = impl_SafeGroup.T9 := by kernel_rfl
theorem impl_SafeGroup.bits9 : waitsOk impl_SafeGroup.T9.2 impl_SafeGroup.B9 = true := by kernel_rfl
def impl_SafeGroup.T12 : Bool × List (List Nat × List Nat) := (true, [([], []), ([0], [0]), ([1], [1]), ([], []), ([2, 3], [2, 3]), ([], []), ([5], [5]), ([6], [6]), ([], []), ([7, 8], [7, 8]), ([4, 9], [4, 9]), ([10], [10]), ([11, 10], [11]), ([12], [12]), ([13, 12], [12, 13]), ([14, 12], [12, 14]), ([12], [12]), ([15, 16, 12], [12, 15, 16]), ([12], [12]), ([18, 12], [12, 18]), ([19, 12], [12, 19]), ([12], [12]), ([20, 21, 12], [12, 20, 21]), ([17, 22, 12, 12], [12, 17, 22]), ([23, 12], [12, 23]), ([12, 24], [12, 24])])
def impl_SafeGroup.B12 : List Nat := [0, 1, 3, 0, 15, 0, 32, 96, 0, 480, 1023, 2047, 4095, 8191, 16383, 32767, 8191, 131071, 8191, 270335, 794623, 8191, 3940351, 8388607, 16777215, 33554431]
theorem impl_SafeGroup.tab12 : rtab .any (opsOf Try.f50 12) = impl_SafeGroup.T12 := by kernel_rfl
theorem impl_SafeGroup.bits12 : waitsOk impl_SafeGroup.T12.2 impl_SafeGroup.B12 = true := by kernel_rfl
theorem stc_ {w : World} {g : Nat} {e : TypeId} {cur : Array Value} {ρ : Operand → Value} {o : Oper} (t : TypeId) (p x : Operand) (u : Value) (seg : List Value) (hh : w.heap[g]? = some (.cells cur e (0, 0))) (ho : o.op = .store t p x) (hp : ρ p = .pointer (some ⟨g, 0, none⟩)) (hx : ρ x = u) (hu : u.cells.toList = seg) (ht : (Try.prog.info? t).map (·.size) = some seg.length) (hfit : seg.length ≤ cur.size) (h1 : ∀ q ∈ seg, q.oneCell' = true) : (execOp ρ o).run Try.prog w = .ok .skip (w.setCells g 0 seg) := by
  obtain ⟨i, hi, hsz⟩ := Option.map_eq_some_iff.1 ht
  have hc : u.cells.size = i.size := by rw [hsz, ← hu, Array.length_toList]
  have hst := run_storeCells_cells (P := Try.prog) g 0 seg 0 w (fun j hj => by rw [cell_of_row w g _ cur e (0, 0) hh]; simp; omega) (fun j _ => blk_frozen hh _) h1
  simp only [Nat.add_zero] at hst
  have hrun : (Instr.storeAt t (.pointer (some ⟨g, 0, none⟩)) u).run Try.prog w = .ok () (w.setCells g 0 seg) := by simp [Instr.storeAt, Instr.sureAddr, storeVar, sizeOf, typeInfo, hi, hc, hu, hst]
  unfold execOp
  simp only [ho, hp, hx, Sem.run_bind, Sem.run_pure, Result.andThen_ok, hrun]
theorem st10_ {w : World} {g : Nat} {e : TypeId} {cur : Array Value} {ρ : Operand → Value} {o : Oper} {v0 v1 v2 v3 v4 v5 v6 v7 v8 v9 : Value} (t : TypeId) (p x : Operand) (u : Value) (hh : w.heap[g]? = some (.cells cur e (0, 0))) (ho : o.op = .store t p x) (hp : ρ p = .pointer (some ⟨g, 0, none⟩)) (hx : ρ x = u) (hu : u.cells.toList = [v0, v1, v2, v3, v4, v5, v6, v7, v8, v9]) (ht : (Try.prog.info? t).map (·.size) = some 10) (hfit : 10 ≤ cur.size) (h1 : ∀ q ∈ [v0, v1, v2, v3, v4, v5, v6, v7, v8, v9], q.oneCell' = true) : (execOp ρ o).run Try.prog w = .ok .skip ((((((((((w.setCell ⟨g, 0, none⟩ v0).setCell ⟨g, 1, none⟩ v1).setCell ⟨g, 2, none⟩ v2).setCell ⟨g, 3, none⟩ v3).setCell ⟨g, 4, none⟩ v4).setCell ⟨g, 5, none⟩ v5).setCell ⟨g, 6, none⟩ v6).setCell ⟨g, 7, none⟩ v7).setCell ⟨g, 8, none⟩ v8).setCell ⟨g, 9, none⟩ v9) := by have h := stc_ t p x u _ hh ho hp hx hu ht hfit h1; simp only [World.setCells, Nat.zero_add, Nat.reduceAdd] at h; exact h
set_option maxHeartbeats 8000000 in
set_option maxRecDepth 100000 in
theorem impl_SafeGroup.calls (k : Nat) (a0_0 : Int) (A0_1 : Option Addr) (c0_1 : Nat) (l0_1 : List (S37)) (A0_2 : Option Addr) (c0_2 : Nat) (l0_2 : List (S29)) (r : Bool) (w : World) (hr0_1 : Kd.C k37 w A0_1 l0_1.length l0_1) (hc0_1 : l0_1.length ≤ c0_1) (hr0_2 : Kd.C k29 w A0_2 l0_2.length l0_2) (hc0_2 : l0_2.length ≤ c0_2) (h : impl_SafeGroup.f k a0_0 l0_1 l0_2 = some r) :
   Calls Try.prog 50 #[.agg #[.int .i64 a0_0, .slice A0_1 l0_1.length c0_1, .slice A0_2 l0_2.length c0_2]] w fun e w' => e = .returned (.bool r) ∧ Below w.heap.size w w' := by
 have hu53 := Try.underlying53
 have hu37 := Try.underlying37
 have hu34 := Try.underlying34
 have HR0_1 := am hr0_1
 have HC0_1 := am hc0_1
 clear hr0_1 hc0_1
 have HR0_2 := am hr0_2
 have HC0_2 := am hc0_2
 clear hr0_2 hc0_2
 have HB := am (Below.refl w.heap.size w)
 have H : ((impl_isGroup.f k a0_0 l0_1 l0_2).bind fun t349 => (if t349 = true then (impl_SafeGroup.l0 k l0_1 (l0_1.length : Int) 0 a0_0 l0_1 l0_2) else (some false))) = some r := h
 clear h
 replace H := Option.bind_eq_some_iff.mp H
 obtain ⟨t349, A20, H⟩ := H
 have A2 := am A20
 clear A20
 have H9 := am H
 clear H
 go_enter Try.func50, Try.ntmps50
 go_upto_if 11 with (first | ((with_reducible refine gate_dst (N := 1) rfl ?_); refine box_event ?hg (N := 1) ?hd (cs := #[.int .i64 a0_0, .slice A0_1 l0_1.length c0_1, .slice A0_2 l0_2.length c0_2]) (t := 53) ?hr ?_; (case hd => rfl); (case hg => rfl); (case hr => first | (go_simp; done) | (go_simp; rfl)); intro gb348 hg w3 hbox hb; have BK348 := am (hbox); have GW348 := am ((by rw [hg]; exact (below_size q2) : w.heap.size ≤ gb348)); have GE348 := am ((by rw [hg]; exact (below_size q2) : w.heap.size ≤ gb348)); replace HB := am (below_step q2 hb); clear hb hbox hg; obtain ⟨hcz4_0, hcz4_1, hcz4_2, hfz4_0, hfz4_1, hfz4_2⟩ := bc3f w3 BK348.out) | ((with_reducible refine gate_callee (f := 98) rfl ?_); refine goesL_ (some 10) rfl rfl Try.func98 kr rfl #[.agg #[.int .i64 a0_0, .slice A0_1 l0_1.length c0_1, .slice A0_2 l0_2.length c0_2]] rfl q0 ?_; (with_reducible refine (impl_isGroup.calls k a0_0 _ _ l0_1 _ _ l0_2 t349 _ ?side1 ?side2 ?side3 ?side4 A2.out).mono ?_); (case side1 => exact (by repeat (first | exact (Kd.C_below HR0_1.out HB.out) | (with_reducible refine Kd.C_alloc ?_ _) | (with_reducible refine Kd.C_drewN ?_ _) | (with_reducible refine Kd.C_drew ?_)))); (case side2 => exact HC0_1.out); (case side3 => exact (by repeat (first | exact (Kd.C_below HR0_2.out HB.out) | (with_reducible refine Kd.C_alloc ?_ _) | (with_reducible refine Kd.C_drewN ?_ _) | (with_reducible refine Kd.C_drew ?_)))); (case side4 => exact HC0_2.out); rintro e w5 ⟨rfl, hb⟩; refine ⟨_, rfl, ?_⟩; replace BK348 := am (blk_below (g := gb348) (o := .cells #[.int .i64 a0_0, .slice A0_1 l0_1.length c0_1, .slice A0_2 l0_2.length c0_2] 53 (0, 0)) u22_1 hb); replace HB := am (below_step q2 hb); (try clear hb); (try clear hb2); (try clear hk); (try clear hi)))
 have H := H9.out
 clear H9
 by_cases c6 : t349 = true
 rotate_left
 · replace c6 := Bool.eq_false_iff.mpr c6
   subst c6
   rw [nf] at H
   obtain rfl := sj H
   go_wp2
   go_ret
   exact ⟨er, q2⟩
 subst c6
 rw [if_pos rfl] at H
 have H' := am H
 clear H
 obtain ⟨hcz7_0, hcz7_1, hcz7_2, hfz7_0, hfz7_1, hfz7_2⟩ := bc3f w5 BK348.out
 go_wp2
 go_loopg [15] k (fun kq v15 w' => ∃ (x15_1 : Int), v15 = .int .i64 x15_1 ∧ Aside0 (impl_SafeGroup.l0 kq l0_1 (l0_1.length : Int) x15_1 a0_0 l0_1 l0_2 = some r) ∧ Aside0 (kq ≤ k) ∧ Aside0 (w'.heap[gb348]? = some (.cells #[.int .i64 a0_0, (.slice A0_1 l0_1.length c0_1), (.slice A0_2 l0_2.length c0_2)] 53 (0, 0))) ∧ Aside0 (Below w.heap.size w w'))
 case atStart => exact ⟨(0), q3, H', ⟨Nat.le_refl _⟩, ⟨u22_1⟩, ⟨q2⟩⟩
 clear H'
 try clear c6
 try clear hcz4_0
 try clear hcz4_1
 try clear hcz4_2
 try clear hcz7_0
 try clear hcz7_1
 try clear hcz7_2
 try clear hfz4_0
 try clear hfz4_1
 try clear hfz4_2
 try clear hfz7_0
 try clear hfz7_1
 try clear hfz7_2
 obtain ⟨x15_1, rfl, HA, HK1, BK348, HB⟩ := hrel
 cases gk with
 | zero => exact absurd HA.out (by simp [impl_SafeGroup.l0])
 | succ k1 =>
   have H := HA.out
   clear HA
   simp only [impl_SafeGroup.l0] at H
   by_cases c8 : x15_1 < (l0_1.length : Int)
   rotate_left
   · rw [if_neg c8] at H
     have c8b0 : decide (x15_1 < (l0_1.length : Int)) = false := decide_eq_false c8
     clear c8
     (first | rw [c8b0] | (simp only [i64_w, i32_w]; rw [c8b0]) | skip)
     obtain rfl := sj H
     go_wp2
     go_ret
     exact ⟨er, q2⟩
   rw [if_pos c8] at H
   have c8b0 : decide (x15_1 < (l0_1.length : Int)) = true := decide_eq_true c8
   clear c8
   (first | rw [c8b0] | (simp only [i64_w, i32_w]; rw [c8b0]) | skip)
   by_cases c9 : 0 ≤ x15_1
   rotate_left
   · rw [if_neg c9] at H
     exact absurd H (by simp)
   rw [if_pos c9] at H
   have c9b0 : decide (0 ≤ x15_1) = true := decide_eq_true c9
   clear c9
   by_cases c10 : x15_1 < (l0_1.length : Int)
   rotate_left
   · rw [if_neg c10] at H
     exact absurd H (by simp)
   rw [if_pos c10] at H
   have c10b0 : decide (x15_1 < (l0_1.length : Int)) = true := decide_eq_true c10
   clear c10
   have c11b0 := eq_true (of_decide_eq_true q1 : 0 ≤ x15_1)
   by_cases c12 : x15_1 ≤ (l0_1.length : Int)
   rotate_left
   · rw [if_neg c12] at H
     exact absurd H (by simp)
   rw [if_pos c12] at H
   have c12b0 := eq_true c12
   have c12b1 : decide (x15_1 ≤ (l0_1.length : Int)) = true := decide_eq_true c12
   clear c12
   obtain ⟨y352, hy352⟩ : ∃ y_ : List (S37), y_ = (l0_1.take (x15_1 : Int).toNat) := ⟨_, rfl⟩
   replace H : (impl_SafeGroup.l1 k1 l0_1 (l0_1.length : Int) x15_1 y352 (y352.length : Int) 0 a0_0 l0_1 l0_2 ((rd_T37 l0_1 x15_1).f0) ((rd_T37 l0_1 x15_1).f1) ((rd_T37 l0_1 x15_1).f2) ((rd_T37 l0_1 x15_1).f3) ((rd_T37 l0_1 x15_1).f4) ((rd_T37 l0_1 x15_1).f5.f0) ((rd_T37 l0_1 x15_1).f5.f1) ((rd_T37 l0_1 x15_1).f5.f2) ((rd_T37 l0_1 x15_1).f6) ((rd_T37 l0_1 x15_1).f7)) = some r := by first | (rw [hy352]; with_reducible exact H) | (have H2_ := (Option.bind_some _ _).symm.trans H; rw [hy352]; with_reducible exact H2_) | (have H2_ := (Option.bind_some _ _).symm.trans H; with_reducible exact H2_) | with_reducible exact H | (rw [hy352]; exact H) | exact H
   have Ny352 := am hy352
   clear hy352
   have H' := am H
   clear H
   have p350 : 0 ≤ (x15_1 : Int) := of_decide_eq_true q1
   have q350 : x15_1 < (l0_1.length : Int) := of_decide_eq_true q1
   obtain ⟨ad350, A350_7, c350_7, A350_8, c350_8, A350_9, c350_9, e350, hx350_0, hx350_1, hx350_2, hx350_3, hx350_4, hx350_5, hx350_6, hx350_7, hx350_8, hx350_9, hl350_7, hi350_7, hl350_8, hi350_8, hl350_9, hi350_9⟩ := at_T37 HR0_1.out x15_1 p350 q350
   cases e350
   replace hx350_0 := cm HB.out hx350_0
   replace hx350_1 := cm HB.out hx350_1
   replace hx350_2 := cm HB.out hx350_2
   replace hx350_3 := cm HB.out hx350_3
   replace hx350_4 := cm HB.out hx350_4
   replace hx350_5 := cm HB.out hx350_5
   replace hx350_6 := cm HB.out hx350_6
   replace hx350_7 := cm HB.out hx350_7
   replace hx350_8 := cm HB.out hx350_8
   replace hx350_9 := cm HB.out hx350_9
   have HR350_7 := am hi350_7
   have HC350_7 := am hl350_7
   clear hi350_7 hl350_7
   have HR350_8 := am hi350_8
   have HC350_8 := am hl350_8
   clear hi350_8 hl350_8
   have HR350_9 := am hi350_9
   have HC350_9 := am hl350_9
   clear hi350_9 hl350_9
   replace p350 := eq_true p350
   replace q350 := eq_true q350
   go_wp2_with (first | ((with_reducible refine gate_dst (N := 4) rfl ?_); refine box_event ?hg (N := 4) ?hd (cs := #[.int .i64 0, .int .i64 0, .int .i64 0, .int .i64 0, .int .i64 0, .int .i64 0, .int .i64 0, .slice none 0 0, .slice none 0 0, .slice none 0 0]) (t := 37) ?hr ?_; (case hd => rfl); (case hg => rfl); (case hr => first | (go_simp; done) | (go_simp; rfl)); intro gb351 hg w13 hbox hb; have BK351 := am (hbox); have GW351 := am ((by rw [hg]; exact (below_size q2) : w.heap.size ≤ gb351)); have GE351 := am ((by rw [hg]; exact (below_size q2) : w.heap.size ≤ gb351)); replace HB := am (below_step q2 hb); have NB348_351 := am ((by rw [hg]; exact Nat.ne_of_lt (blk_lt (g := gb348) (o := .cells #[.int .i64 a0_0, .slice (some ad350) l0_1.length c0_1, .slice A0_2 l0_2.length c0_2] 53 (0, 0)) u22_1) : gb348 ≠ gb351)); have NB351_348 := am ((by rw [hg]; exact Nat.ne_of_gt (blk_lt (g := gb348) (o := .cells #[.int .i64 a0_0, .slice (some ad350) l0_1.length c0_1, .slice A0_2 l0_2.length c0_2] 53 (0, 0)) u22_1) : gb351 ≠ gb348)); replace BK348 := am (blk_below (g := gb348) (o := .cells #[.int .i64 a0_0, .slice (some ad350) l0_1.length c0_1, .slice A0_2 l0_2.length c0_2] 53 (0, 0)) u22_1 hb); clear hb hbox hg; have hnb14 := NB351_348.out; have hnc14 := NB348_351.out; obtain ⟨hcz15_0, hcz15_1, hcz15_2, hcz15_3, hcz15_4, hcz15_5, hcz15_6, hcz15_7, hcz15_8, hcz15_9, hfz15_0, hfz15_1, hfz15_2, hfz15_3, hfz15_4, hfz15_5, hfz15_6, hfz15_7, hfz15_8, hfz15_9⟩ := bc10f w13 BK351.out) | ((with_reducible refine gate_store (t := 37) (p := 4) rfl ?_); refine store_event (t := 37) (p := 4) (v := ?vo_w16) (w1 := ((((((((((w13.setCell ⟨gb351, 0, none⟩ (.int .i64 ((rd_T37 l0_1 x15_1).f0))).setCell ⟨gb351, 1, none⟩ (.int .i64 ((rd_T37 l0_1 x15_1).f1))).setCell ⟨gb351, 2, none⟩ (.int .i64 ((rd_T37 l0_1 x15_1).f2))).setCell ⟨gb351, 3, none⟩ (.int .i64 ((rd_T37 l0_1 x15_1).f3))).setCell ⟨gb351, 4, none⟩ (.int .i64 ((rd_T37 l0_1 x15_1).f4))).setCell ⟨gb351, 5, none⟩ (.int .i64 ((rd_T37 l0_1 x15_1).f5.f0))).setCell ⟨gb351, 6, none⟩ (.int .i64 ((rd_T37 l0_1 x15_1).f5.f1))).setCell ⟨gb351, 7, none⟩ (.slice A350_7 ((rd_T37 l0_1 x15_1).f5.f2).length c350_7)).setCell ⟨gb351, 8, none⟩ (.slice A350_8 ((rd_T37 l0_1 x15_1).f6).length c350_8)).setCell ⟨gb351, 9, none⟩ (.slice A350_9 ((rd_T37 l0_1 x15_1).f7).length c350_9))) ?hg ?ho ?hn ?hr ?_; (case ho => rfl); (case hg => rfl); (case hn => rfl); (case hr => first | (go_simp; done) | (go_simp; rfl)); intro w16 hw; have n0_ : Aside0 (w16.heap[gb348]? = some (.cells #[.int .i64 a0_0, .slice (some ad350) l0_1.length c0_1, .slice A0_2 l0_2.length c0_2] 53 (0, 0))) := ⟨(by rw [hw]; exact (by (with_reducible repeat (first | refine blk_drewN ?_ _ | refine blk_drew ?_ | refine blk_alloc ?_ _)); refine blk_far ?_ NB348_351.out _; (with_reducible repeat (first | refine blk_drewN ?_ _ | refine blk_drew ?_ | refine blk_alloc ?_ _)); refine blk_far ?_ NB348_351.out _; (with_reducible repeat (first | refine blk_drewN ?_ _ | refine blk_drew ?_ | refine blk_alloc ?_ _)); refine blk_far ?_ NB348_351.out _; (with_reducible repeat (first | refine blk_drewN ?_ _ | refine blk_drew ?_ | refine blk_alloc ?_ _)); refine blk_far ?_ NB348_351.out _; (with_reducible repeat (first | refine blk_drewN ?_ _ | refine blk_drew ?_ | refine blk_alloc ?_ _)); refine blk_far ?_ NB348_351.out _; (with_reducible repeat (first | refine blk_drewN ?_ _ | refine blk_drew ?_ | refine blk_alloc ?_ _)); refine blk_far ?_ NB348_351.out _; (with_reducible repeat (first | refine blk_drewN ?_ _ | refine blk_drew ?_ | refine blk_alloc ?_ _)); refine blk_far ?_ NB348_351.out _; (with_reducible repeat (first | refine blk_drewN ?_ _ | refine blk_drew ?_ | refine blk_alloc ?_ _)); refine blk_far ?_ NB348_351.out _; (with_reducible repeat (first | refine blk_drewN ?_ _ | refine blk_drew ?_ | refine blk_alloc ?_ _)); refine blk_far ?_ NB348_351.out _; (with_reducible repeat (first | refine blk_drewN ?_ _ | refine blk_drew ?_ | refine blk_alloc ?_ _)); refine blk_far ?_ NB348_351.out _; (with_reducible repeat (first | refine blk_drewN ?_ _ | refine blk_drew ?_ | refine blk_alloc ?_ _)); exact BK348.out))⟩; have n1_ : Aside0 (w16.heap[gb351]? = some (.cells #[.int .i64 ((rd_T37 l0_1 x15_1).f0), .int .i64 ((rd_T37 l0_1 x15_1).f1), .int .i64 ((rd_T37 l0_1 x15_1).f2), .int .i64 ((rd_T37 l0_1 x15_1).f3), .int .i64 ((rd_T37 l0_1 x15_1).f4), .int .i64 ((rd_T37 l0_1 x15_1).f5.f0), .int .i64 ((rd_T37 l0_1 x15_1).f5.f1), .slice A350_7 ((rd_T37 l0_1 x15_1).f5.f2).length c350_7, .slice A350_8 ((rd_T37 l0_1 x15_1).f6).length c350_8, .slice A350_9 ((rd_T37 l0_1 x15_1).f7).length c350_9] 37 (0, 0))) := ⟨(by rw [hw]; exact (by (with_reducible repeat (first | refine blk_drewN ?_ _ | refine blk_drew ?_ | refine blk_alloc ?_ _)); refine blk_put (cs := #[.int .i64 ((rd_T37 l0_1 x15_1).f0), .int .i64 ((rd_T37 l0_1 x15_1).f1), .int .i64 ((rd_T37 l0_1 x15_1).f2), .int .i64 ((rd_T37 l0_1 x15_1).f3), .int .i64 ((rd_T37 l0_1 x15_1).f4), .int .i64 ((rd_T37 l0_1 x15_1).f5.f0), .int .i64 ((rd_T37 l0_1 x15_1).f5.f1), .slice A350_7 ((rd_T37 l0_1 x15_1).f5.f2).length c350_7, .slice A350_8 ((rd_T37 l0_1 x15_1).f6).length c350_8, .slice none 0 0]) ?_ 9 _ rfl; (with_reducible repeat (first | refine blk_drewN ?_ _ | refine blk_drew ?_ | refine blk_alloc ?_ _)); refine blk_put (cs := #[.int .i64 ((rd_T37 l0_1 x15_1).f0), .int .i64 ((rd_T37 l0_1 x15_1).f1), .int .i64 ((rd_T37 l0_1 x15_1).f2), .int .i64 ((rd_T37 l0_1 x15_1).f3), .int .i64 ((rd_T37 l0_1 x15_1).f4), .int .i64 ((rd_T37 l0_1 x15_1).f5.f0), .int .i64 ((rd_T37 l0_1 x15_1).f5.f1), .slice A350_7 ((rd_T37 l0_1 x15_1).f5.f2).length c350_7, .slice none 0 0, .slice none 0 0]) ?_ 8 _ rfl; (with_reducible repeat (first | refine blk_drewN ?_ _ | refine blk_drew ?_ | refine blk_alloc ?_ _)); refine blk_put (cs := #[.int .i64 ((rd_T37 l0_1 x15_1).f0), .int .i64 ((rd_T37 l0_1 x15_1).f1), .int .i64 ((rd_T37 l0_1 x15_1).f2), .int .i64 ((rd_T37 l0_1 x15_1).f3), .int .i64 ((rd_T37 l0_1 x15_1).f4), .int .i64 ((rd_T37 l0_1 x15_1).f5.f0), .int .i64 ((rd_T37 l0_1 x15_1).f5.f1), .slice none 0 0, .slice none 0 0, .slice none 0 0]) ?_ 7 _ rfl; (with_reducible repeat (first | refine blk_drewN ?_ _ | refine blk_drew ?_ | refine blk_alloc ?_ _)); refine blk_put (cs := #[.int .i64 ((rd_T37 l0_1 x15_1).f0), .int .i64 ((rd_T37 l0_1 x15_1).f1), .int .i64 ((rd_T37 l0_1 x15_1).f2), .int .i64 ((rd_T37 l0_1 x15_1).f3), .int .i64 ((rd_T37 l0_1 x15_1).f4), .int .i64 ((rd_T37 l0_1 x15_1).f5.f0), .int .i64 0, .slice none 0 0, .slice none 0 0, .slice none 0 0]) ?_ 6 _ rfl; (with_reducible repeat (first | refine blk_drewN ?_ _ | refine blk_drew ?_ | refine blk_alloc ?_ _)); refine blk_put (cs := #[.int .i64 ((rd_T37 l0_1 x15_1).f0), .int .i64 ((rd_T37 l0_1 x15_1).f1), .int .i64 ((rd_T37 l0_1 x15_1).f2), .int .i64 ((rd_T37 l0_1 x15_1).f3), .int .i64 ((rd_T37 l0_1 x15_1).f4), .int .i64 0, .int .i64 0, .slice none 0 0, .slice none 0 0, .slice none 0 0]) ?_ 5 _ rfl; (with_reducible repeat (first | refine blk_drewN ?_ _ | refine blk_drew ?_ | refine blk_alloc ?_ _)); refine blk_put (cs := #[.int .i64 ((rd_T37 l0_1 x15_1).f0), .int .i64 ((rd_T37 l0_1 x15_1).f1), .int .i64 ((rd_T37 l0_1 x15_1).f2), .int .i64 ((rd_T37 l0_1 x15_1).f3), .int .i64 0, .int .i64 0, .int .i64 0, .slice none 0 0, .slice none 0 0, .slice none 0 0]) ?_ 4 _ rfl; (with_reducible repeat (first | refine blk_drewN ?_ _ | refine blk_drew ?_ | refine blk_alloc ?_ _)); refine blk_put (cs := #[.int .i64 ((rd_T37 l0_1 x15_1).f0), .int .i64 ((rd_T37 l0_1 x15_1).f1), .int .i64 ((rd_T37 l0_1 x15_1).f2), .int .i64 0, .int .i64 0, .int .i64 0, .int .i64 0, .slice none 0 0, .slice none 0 0, .slice none 0 0]) ?_ 3 _ rfl; (with_reducible repeat (first | refine blk_drewN ?_ _ | refine blk_drew ?_ | refine blk_alloc ?_ _)); refine blk_put (cs := #[.int .i64 ((rd_T37 l0_1 x15_1).f0), .int .i64 ((rd_T37 l0_1 x15_1).f1), .int .i64 0, .int .i64 0, .int .i64 0, .int .i64 0, .int .i64 0, .slice none 0 0, .slice none 0 0, .slice none 0 0]) ?_ 2 _ rfl; (with_reducible repeat (first | refine blk_drewN ?_ _ | refine blk_drew ?_ | refine blk_alloc ?_ _)); refine blk_put (cs := #[.int .i64 ((rd_T37 l0_1 x15_1).f0), .int .i64 0, .int .i64 0, .int .i64 0, .int .i64 0, .int .i64 0, .int .i64 0, .slice none 0 0, .slice none 0 0, .slice none 0 0]) ?_ 1 _ rfl; (with_reducible repeat (first | refine blk_drewN ?_ _ | refine blk_drew ?_ | refine blk_alloc ?_ _)); refine blk_put (cs := #[.int .i64 0, .int .i64 0, .int .i64 0, .int .i64 0, .int .i64 0, .int .i64 0, .int .i64 0, .slice none 0 0, .slice none 0 0, .slice none 0 0]) ?_ 0 _ rfl; (with_reducible repeat (first | refine blk_drewN ?_ _ | refine blk_drew ?_ | refine blk_alloc ?_ _)); exact BK351.out))⟩; have n2_ : Aside0 (Below w.heap.size w w16) := ⟨(by rw [hw]; exact q2)⟩; clear hw; clear BK348; clear BK351; clear HB; have BK348 := n0_; have BK351 := n1_; have HB := n2_; clear n0_ n1_ n2_; obtain ⟨hcz17_0, hcz17_1, hcz17_2, hfz17_0, hfz17_1, hfz17_2⟩ := bc3f w16 BK348.out; have q18 : (x15_1 : Int) ≤ ((l0_1.length : Int) : Int) := of_decide_eq_true q1; obtain ⟨i018, hi018, _, hsz18, _⟩ := info_parts info37; have hroom18 : l0_1.length ≤ c0_1 := HC0_1.out; have hC18 : Kd.C k37 _ (some ad350) l0_1.length l0_1 := HR0_1.out; have hcut18 := cut_to (P := Try.prog) 50 37 .i64 Try.underlying50 hi018 (some ad350) l0_1.length c0_1 x15_1 (of_decide_eq_true q1) q18 hroom18; have hr18 := Kd.C_take (m := (x15_1 : Int).toNat) hC18 (by omega); have hy18 : y352.length = (x15_1 : Int).toNat := (by rw [Ny352.out, List.length_take]; omega); rw [← Ny352.out] at hr18; rw [← hy18] at hcut18; have HR355 := am hr18; have HC355 := am (show y352.length ≤ c0_1 from by omega); clear hr18 hC18 hroom18 hi018 hsz18; have KY18 := am hy18; clear hy18; replace q18 := eq_true q18))
   go_loopg [25] k1 (fun kq v25 w' => ∃ (x25_2 : Int), v25 = .int .i64 x25_2 ∧ Aside0 (impl_SafeGroup.l1 kq l0_1 (l0_1.length : Int) x15_1 y352 (y352.length : Int) x25_2 a0_0 l0_1 l0_2 ((rd_T37 l0_1 x15_1).f0) ((rd_T37 l0_1 x15_1).f1) ((rd_T37 l0_1 x15_1).f2) ((rd_T37 l0_1 x15_1).f3) ((rd_T37 l0_1 x15_1).f4) ((rd_T37 l0_1 x15_1).f5.f0) ((rd_T37 l0_1 x15_1).f5.f1) ((rd_T37 l0_1 x15_1).f5.f2) ((rd_T37 l0_1 x15_1).f6) ((rd_T37 l0_1 x15_1).f7) = some r) ∧ Aside0 (kq ≤ k1) ∧ Aside0 (w'.heap[gb348]? = some (.cells #[.int .i64 a0_0, (.slice (some ad350) l0_1.length c0_1), (.slice A0_2 l0_2.length c0_2)] 53 (0, 0))) ∧ Aside0 (w'.heap[gb351]? = some (.cells #[.int .i64 ((rd_T37 l0_1 x15_1).f0), .int .i64 ((rd_T37 l0_1 x15_1).f1), .int .i64 ((rd_T37 l0_1 x15_1).f2), .int .i64 ((rd_T37 l0_1 x15_1).f3), .int .i64 ((rd_T37 l0_1 x15_1).f4), .int .i64 ((rd_T37 l0_1 x15_1).f5.f0), .int .i64 ((rd_T37 l0_1 x15_1).f5.f1), (.slice A350_7 ((rd_T37 l0_1 x15_1).f5.f2).length c350_7), (.slice A350_8 ((rd_T37 l0_1 x15_1).f6).length c350_8), (.slice A350_9 ((rd_T37 l0_1 x15_1).f7).length c350_9)] 37 (0, 0))) ∧ Aside0 (Below w.heap.size w w'))
   case atStart => exact ⟨(0), q3, H', ⟨Nat.le_refl _⟩, ⟨u22_1⟩, ⟨u22_4⟩, ⟨q2⟩⟩
   clear H'
   try clear c6
   try clear c8
   try clear c8b0
   try clear c9
   try clear c9b0
   try clear c10
   try clear c10b0
   try clear c11b0
   try clear c12
   try clear c12b0
   try clear c12b1
   try clear q18
   try clear hcz15_0
   try clear hcz15_1
   try clear hcz15_2
   try clear hcz15_3
   try clear hcz15_4
   try clear hcz15_5
   try clear hcz15_6
   try clear hcz15_7
   try clear hcz15_8
   try clear hcz15_9
   try clear hcz17_0
   try clear hcz17_1
   try clear hcz17_2
   try clear hcz4_0
   try clear hcz4_1
   try clear hcz4_2
   try clear hcz7_0
   try clear hcz7_1
   try clear hcz7_2
   try clear hfz15_0
   try clear hfz15_1
   try clear hfz15_2
   try clear hfz15_3
   try clear hfz15_4
   try clear hfz15_5
   try clear hfz15_6
   try clear hfz15_7
   try clear hfz15_8
   try clear hfz15_9
   try clear hfz17_0
   try clear hfz17_1
   try clear hfz17_2
   try clear hfz4_0
   try clear hfz4_1
   try clear hfz4_2
   try clear hfz7_0
   try clear hfz7_1
   try clear hfz7_2
   try clear hx350_0
   try clear hx350_1
   try clear hx350_2
   try clear hx350_3
   try clear hx350_4
   try clear hx350_5
   try clear hx350_6
   try clear hx350_7
   try clear hx350_8
   try clear hx350_9
   try clear p350
   try clear q18
   try clear q350
   obtain ⟨x25_2, rfl, HA, HK2, BK348, BK351, HB⟩ := hrel
   cases gk with
   | zero => exact absurd HA.out (by simp [impl_SafeGroup.l1])
   | succ k2 =>
     have H := HA.out
     clear HA
     simp only [impl_SafeGroup.l1] at H
     as_aux_lemma =>
      by_cases c19 : x25_2 < (y352.length : Int)
      rotate_left
      · rw [if_neg c19] at H
        have c19b0 : decide (x25_2 < (y352.length : Int)) = false := decide_eq_false c19
        clear c19
        have H' := am H
        clear H
        go_wp2
        go_roundg k2
        case measure => have := HK1.out; have := HK2.out; omega
        case rel => exact ⟨(wrap64 (x15_1 + 1)), q3, H', ⟨(by have := HK1.out; have := HK2.out; omega)⟩, ⟨u22_1⟩, ⟨q2⟩⟩
      rw [if_pos c19] at H
      have c19b0 : decide (x25_2 < (y352.length : Int)) = true := decide_eq_true c19
      clear c19
      by_cases c20 : 0 ≤ x25_2
      rotate_left
      · rw [if_neg c20] at H
        exact absurd H (by simp)
      rw [if_pos c20] at H
      have c20b0 : decide (0 ≤ x25_2) = true := decide_eq_true c20
      clear c20
      by_cases c21 : x25_2 < (y352.length : Int)
      rotate_left
      · rw [if_neg c21] at H
        exact absurd H (by simp)
      rw [if_pos c21] at H
      have c21b0 : decide (x25_2 < (y352.length : Int)) = true := decide_eq_true c21
      clear c21
      replace H := Option.bind_eq_some_iff.mp H
      obtain ⟨t358, A220, H⟩ := H
      have A22 := am A220
      clear A220
      obtain ⟨ji23, hji23⟩ : ∃ j_ : Int, (mn ((rd_T37 l0_1 x15_1).f4) ((rd_T37 y352 x25_2).f4)) = j_ := ⟨_, rfl⟩
      replace H : (if ((rd_T37 l0_1 x15_1).f3) = 2 then (if ((rd_T37 y352 x25_2).f3) = 2 then (impl_SafeGroup.j2 k2 t358 ji23 l0_1 (l0_1.length : Int) x15_1 y352 (y352.length : Int) x25_2 (((rd_T37 l0_1 x15_1).f1) == ((rd_T37 y352 x25_2).f1)) a0_0 l0_1 l0_2 ((rd_T37 l0_1 x15_1).f0) ((rd_T37 l0_1 x15_1).f1) ((rd_T37 l0_1 x15_1).f2) ((rd_T37 l0_1 x15_1).f3) ((rd_T37 l0_1 x15_1).f4) ((rd_T37 l0_1 x15_1).f5.f0) ((rd_T37 l0_1 x15_1).f5.f1) ((rd_T37 l0_1 x15_1).f5.f2) ((rd_T37 l0_1 x15_1).f6) ((rd_T37 l0_1 x15_1).f7) ((rd_T37 y352 x25_2).f0) ((rd_T37 y352 x25_2).f1) ((rd_T37 y352 x25_2).f2) ((rd_T37 y352 x25_2).f3) ((rd_T37 y352 x25_2).f4) ((rd_T37 y352 x25_2).f5.f0) ((rd_T37 y352 x25_2).f5.f1) ((rd_T37 y352 x25_2).f5.f2) ((rd_T37 y352 x25_2).f6) ((rd_T37 y352 x25_2).f7)) else (impl_SafeGroup.j2 k2 t358 ji23 l0_1 (l0_1.length : Int) x15_1 y352 (y352.length : Int) x25_2 false a0_0 l0_1 l0_2 ((rd_T37 l0_1 x15_1).f0) ((rd_T37 l0_1 x15_1).f1) ((rd_T37 l0_1 x15_1).f2) ((rd_T37 l0_1 x15_1).f3) ((rd_T37 l0_1 x15_1).f4) ((rd_T37 l0_1 x15_1).f5.f0) ((rd_T37 l0_1 x15_1).f5.f1) ((rd_T37 l0_1 x15_1).f5.f2) ((rd_T37 l0_1 x15_1).f6) ((rd_T37 l0_1 x15_1).f7) ((rd_T37 y352 x25_2).f0) ((rd_T37 y352 x25_2).f1) ((rd_T37 y352 x25_2).f2) ((rd_T37 y352 x25_2).f3) ((rd_T37 y352 x25_2).f4) ((rd_T37 y352 x25_2).f5.f0) ((rd_T37 y352 x25_2).f5.f1) ((rd_T37 y352 x25_2).f5.f2) ((rd_T37 y352 x25_2).f6) ((rd_T37 y352 x25_2).f7))) else (impl_SafeGroup.j2 k2 t358 ji23 l0_1 (l0_1.length : Int) x15_1 y352 (y352.length : Int) x25_2 false a0_0 l0_1 l0_2 ((rd_T37 l0_1 x15_1).f0) ((rd_T37 l0_1 x15_1).f1) ((rd_T37 l0_1 x15_1).f2) ((rd_T37 l0_1 x15_1).f3) ((rd_T37 l0_1 x15_1).f4) ((rd_T37 l0_1 x15_1).f5.f0) ((rd_T37 l0_1 x15_1).f5.f1) ((rd_T37 l0_1 x15_1).f5.f2) ((rd_T37 l0_1 x15_1).f6) ((rd_T37 l0_1 x15_1).f7) ((rd_T37 y352 x25_2).f0) ((rd_T37 y352 x25_2).f1) ((rd_T37 y352 x25_2).f2) ((rd_T37 y352 x25_2).f3) ((rd_T37 y352 x25_2).f4) ((rd_T37 y352 x25_2).f5.f0) ((rd_T37 y352 x25_2).f5.f1) ((rd_T37 y352 x25_2).f5.f2) ((rd_T37 y352 x25_2).f6) ((rd_T37 y352 x25_2).f7))) = some r := by first | (rw [hji23] at H; exact H) | (simp only [hji23] at H ⊢; exact H)
      (try rw [hji23] at A22)
      have hji23_ : (if ((rd_T37 y352 x25_2).f4) < ((rd_T37 l0_1 x15_1).f4) then ((rd_T37 y352 x25_2).f4) else ((rd_T37 l0_1 x15_1).f4)) = ji23 := hji23
      have HC24 := am H
      clear H
      have p356 : 0 ≤ (x25_2 : Int) := of_decide_eq_true q1
      have q356 : x25_2 < (y352.length : Int) := of_decide_eq_true q1
      obtain ⟨ad356, A356_7, c356_7, A356_8, c356_8, A356_9, c356_9, e356, hx356_0, hx356_1, hx356_2, hx356_3, hx356_4, hx356_5, hx356_6, hx356_7, hx356_8, hx356_9, hl356_7, hi356_7, hl356_8, hi356_8, hl356_9, hi356_9⟩ := at_T37 HR355.out x25_2 p356 q356
      obtain rfl : ad350 = ad356 := (by injection e356)
      replace hx356_0 := cm HB.out hx356_0
      replace hx356_1 := cm HB.out hx356_1
      replace hx356_2 := cm HB.out hx356_2
      replace hx356_3 := cm HB.out hx356_3
      replace hx356_4 := cm HB.out hx356_4
      replace hx356_5 := cm HB.out hx356_5
      replace hx356_6 := cm HB.out hx356_6
      replace hx356_7 := cm HB.out hx356_7
      replace hx356_8 := cm HB.out hx356_8
      replace hx356_9 := cm HB.out hx356_9
      have HR356_7 := am hi356_7
      have HC356_7 := am hl356_7
      clear hi356_7 hl356_7
      have HR356_8 := am hi356_8
      have HC356_8 := am hl356_8
      clear hi356_8 hl356_8
      have HR356_9 := am hi356_9
      have HC356_9 := am hl356_9
      clear hi356_9 hl356_9
      replace p356 := eq_true p356
      replace q356 := eq_true q356
      go_wp2_with (first | ((with_reducible refine gate_dst (N := 6) rfl ?_); refine box_event ?hg (N := 6) ?hd (cs := #[.int .i64 0, .int .i64 0, .int .i64 0, .int .i64 0, .int .i64 0, .int .i64 0, .int .i64 0, .slice none 0 0, .slice none 0 0, .slice none 0 0]) (t := 37) ?hr ?_; (case hd => rfl); (case hg => rfl); (case hr => first | (go_simp; done) | (go_simp; rfl)); intro gb357 hg w25 hbox hb; have BK357 := am (hbox); have GW357 := am ((by rw [hg]; exact (below_size q2) : w.heap.size ≤ gb357)); have GE357 := am ((by rw [hg]; exact (below_size q2) : w.heap.size ≤ gb357)); replace HB := am (below_step q2 hb); have NB348_357 := am ((by rw [hg]; exact Nat.ne_of_lt (blk_lt (g := gb348) (o := .cells #[.int .i64 a0_0, .slice (some ad350) l0_1.length c0_1, .slice A0_2 l0_2.length c0_2] 53 (0, 0)) u22_1) : gb348 ≠ gb357)); have NB357_348 := am ((by rw [hg]; exact Nat.ne_of_gt (blk_lt (g := gb348) (o := .cells #[.int .i64 a0_0, .slice (some ad350) l0_1.length c0_1, .slice A0_2 l0_2.length c0_2] 53 (0, 0)) u22_1) : gb357 ≠ gb348)); replace BK348 := am (blk_below (g := gb348) (o := .cells #[.int .i64 a0_0, .slice (some ad350) l0_1.length c0_1, .slice A0_2 l0_2.length c0_2] 53 (0, 0)) u22_1 hb); have NB351_357 := am ((by rw [hg]; exact Nat.ne_of_lt (blk_lt (g := gb351) (o := .cells #[.int .i64 ((rd_T37 l0_1 x15_1).f0), .int .i64 ((rd_T37 l0_1 x15_1).f1), .int .i64 ((rd_T37 l0_1 x15_1).f2), .int .i64 ((rd_T37 l0_1 x15_1).f3), .int .i64 ((rd_T37 l0_1 x15_1).f4), .int .i64 ((rd_T37 l0_1 x15_1).f5.f0), .int .i64 ((rd_T37 l0_1 x15_1).f5.f1), .slice A350_7 ((rd_T37 l0_1 x15_1).f5.f2).length c350_7, .slice A350_8 ((rd_T37 l0_1 x15_1).f6).length c350_8, .slice A350_9 ((rd_T37 l0_1 x15_1).f7).length c350_9] 37 (0, 0)) u22_4) : gb351 ≠ gb357)); have NB357_351 := am ((by rw [hg]; exact Nat.ne_of_gt (blk_lt (g := gb351) (o := .cells #[.int .i64 ((rd_T37 l0_1 x15_1).f0), .int .i64 ((rd_T37 l0_1 x15_1).f1), .int .i64 ((rd_T37 l0_1 x15_1).f2), .int .i64 ((rd_T37 l0_1 x15_1).f3), .int .i64 ((rd_T37 l0_1 x15_1).f4), .int .i64 ((rd_T37 l0_1 x15_1).f5.f0), .int .i64 ((rd_T37 l0_1 x15_1).f5.f1), .slice A350_7 ((rd_T37 l0_1 x15_1).f5.f2).length c350_7, .slice A350_8 ((rd_T37 l0_1 x15_1).f6).length c350_8, .slice A350_9 ((rd_T37 l0_1 x15_1).f7).length c350_9] 37 (0, 0)) u22_4) : gb357 ≠ gb351)); replace BK351 := am (blk_below (g := gb351) (o := .cells #[.int .i64 ((rd_T37 l0_1 x15_1).f0), .int .i64 ((rd_T37 l0_1 x15_1).f1), .int .i64 ((rd_T37 l0_1 x15_1).f2), .int .i64 ((rd_T37 l0_1 x15_1).f3), .int .i64 ((rd_T37 l0_1 x15_1).f4), .int .i64 ((rd_T37 l0_1 x15_1).f5.f0), .int .i64 ((rd_T37 l0_1 x15_1).f5.f1), .slice A350_7 ((rd_T37 l0_1 x15_1).f5.f2).length c350_7, .slice A350_8 ((rd_T37 l0_1 x15_1).f6).length c350_8, .slice A350_9 ((rd_T37 l0_1 x15_1).f7).length c350_9] 37 (0, 0)) u22_4 hb); clear hb hbox hg; have hnb26 := NB357_348.out; have hnc26 := NB348_357.out; have hnb27 := NB357_351.out; have hnc27 := NB351_357.out; obtain ⟨hcz28_0, hcz28_1, hcz28_2, hcz28_3, hcz28_4, hcz28_5, hcz28_6, hcz28_7, hcz28_8, hcz28_9, hfz28_0, hfz28_1, hfz28_2, hfz28_3, hfz28_4, hfz28_5, hfz28_6, hfz28_7, hfz28_8, hfz28_9⟩ := bc10f w25 BK357.out) | ((with_reducible refine gate_store (t := 37) (p := 6) rfl ?_); refine store_event (t := 37) (p := 6) (v := ?vo_w29) (w1 := ((((((((((w25.setCell ⟨gb357, 0, none⟩ (.int .i64 ((rd_T37 y352 x25_2).f0))).setCell ⟨gb357, 1, none⟩ (.int .i64 ((rd_T37 y352 x25_2).f1))).setCell ⟨gb357, 2, none⟩ (.int .i64 ((rd_T37 y352 x25_2).f2))).setCell ⟨gb357, 3, none⟩ (.int .i64 ((rd_T37 y352 x25_2).f3))).setCell ⟨gb357, 4, none⟩ (.int .i64 ((rd_T37 y352 x25_2).f4))).setCell ⟨gb357, 5, none⟩ (.int .i64 ((rd_T37 y352 x25_2).f5.f0))).setCell ⟨gb357, 6, none⟩ (.int .i64 ((rd_T37 y352 x25_2).f5.f1))).setCell ⟨gb357, 7, none⟩ (.slice A356_7 ((rd_T37 y352 x25_2).f5.f2).length c356_7)).setCell ⟨gb357, 8, none⟩ (.slice A356_8 ((rd_T37 y352 x25_2).f6).length c356_8)).setCell ⟨gb357, 9, none⟩ (.slice A356_9 ((rd_T37 y352 x25_2).f7).length c356_9))) ?hg ?ho ?hn ?hr ?_; (case ho => rfl); (case hg => rfl); (case hn => rfl); (case hr => refine st10_ 37 (.tmp 6) (.tmp 28) _ BK357.out rfl rfl rfl (by first | rfl | (simp [Value.cells]; done)) (by first | rfl | decide) (by first | decide | (simp; done)) (by intro q hq; simp only [List.mem_cons, List.not_mem_nil, or_false] at hq; rcases hq with rfl | rfl | rfl | rfl | rfl | rfl | rfl | rfl | rfl | rfl <;> rfl)); intro w29 hw; have n0_ : Aside0 (w29.heap[gb348]? = some (.cells #[.int .i64 a0_0, .slice (some ad350) l0_1.length c0_1, .slice A0_2 l0_2.length c0_2] 53 (0, 0))) := ⟨(by rw [hw]; exact (by (with_reducible repeat (first | refine blk_drewN ?_ _ | refine blk_drew ?_ | refine blk_alloc ?_ _)); refine blk_far ?_ NB348_357.out _; (with_reducible repeat (first | refine blk_drewN ?_ _ | refine blk_drew ?_ | refine blk_alloc ?_ _)); refine blk_far ?_ NB348_357.out _; (with_reducible repeat (first | refine blk_drewN ?_ _ | refine blk_drew ?_ | refine blk_alloc ?_ _)); refine blk_far ?_ NB348_357.out _; (with_reducible repeat (first | refine blk_drewN ?_ _ | refine blk_drew ?_ | refine blk_alloc ?_ _)); refine blk_far ?_ NB348_357.out _; (with_reducible repeat (first | refine blk_drewN ?_ _ | refine blk_drew ?_ | refine blk_alloc ?_ _)); refine blk_far ?_ NB348_357.out _; (with_reducible repeat (first | refine blk_drewN ?_ _ | refine blk_drew ?_ | refine blk_alloc ?_ _)); refine blk_far ?_ NB348_357.out _; (with_reducible repeat (first | refine blk_drewN ?_ _ | refine blk_drew ?_ | refine blk_alloc ?_ _)); refine blk_far ?_ NB348_357.out _; (with_reducible repeat (first | refine blk_drewN ?_ _ | refine blk_drew ?_ | refine blk_alloc ?_ _)); refine blk_far ?_ NB348_357.out _; (with_reducible repeat (first | refine blk_drewN ?_ _ | refine blk_drew ?_ | refine blk_alloc ?_ _)); refine blk_far ?_ NB348_357.out _; (with_reducible repeat (first | refine blk_drewN ?_ _ | refine blk_drew ?_ | refine blk_alloc ?_ _)); refine blk_far ?_ NB348_357.out _; (with_reducible repeat (first | refine blk_drewN ?_ _ | refine blk_drew ?_ | refine blk_alloc ?_ _)); exact BK348.out))⟩; have n1_ : Aside0 (w29.heap[gb351]? = some (.cells #[.int .i64 ((rd_T37 l0_1 x15_1).f0), .int .i64 ((rd_T37 l0_1 x15_1).f1), .int .i64 ((rd_T37 l0_1 x15_1).f2), .int .i64 ((rd_T37 l0_1 x15_1).f3), .int .i64 ((rd_T37 l0_1 x15_1).f4), .int .i64 ((rd_T37 l0_1 x15_1).f5.f0), .int .i64 ((rd_T37 l0_1 x15_1).f5.f1), .slice A350_7 ((rd_T37 l0_1 x15_1).f5.f2).length c350_7, .slice A350_8 ((rd_T37 l0_1 x15_1).f6).length c350_8, .slice A350_9 ((rd_T37 l0_1 x15_1).f7).length c350_9] 37 (0, 0))) := ⟨(by rw [hw]; exact (by (with_reducible repeat (first | refine blk_drewN ?_ _ | refine blk_drew ?_ | refine blk_alloc ?_ _)); refine blk_far ?_ NB351_357.out _; (with_reducible repeat (first | refine blk_drewN ?_ _ | refine blk_drew ?_ | refine blk_alloc ?_ _)); refine blk_far ?_ NB351_357.out _; (with_reducible repeat (first | refine blk_drewN ?_ _ | refine blk_drew ?_ | refine blk_alloc ?_ _)); refine blk_far ?_ NB351_357.out _; (with_reducible repeat (first | refine blk_drewN ?_ _ | refine blk_drew ?_ | refine blk_alloc ?_ _)); refine blk_far ?_ NB351_357.out _; (with_reducible repeat (first | refine blk_drewN ?_ _ | refine blk_drew ?_ | refine blk_alloc ?_ _)); refine blk_far ?_ NB351_357.out _; (with_reducible repeat (first | refine blk_drewN ?_ _ | refine blk_drew ?_ | refine blk_alloc ?_ _)); refine blk_far ?_ NB351_357.out _; (with_reducible repeat (first | refine blk_drewN ?_ _ | refine blk_drew ?_ | refine blk_alloc ?_ _)); refine blk_far ?_ NB351_357.out _; (with_reducible repeat (first | refine blk_drewN ?_ _ | refine blk_drew ?_ | refine blk_alloc ?_ _)); refine blk_far ?_ NB351_357.out _; (with_reducible repeat (first | refine blk_drewN ?_ _ | refine blk_drew ?_ | refine blk_alloc ?_ _)); refine blk_far ?_ NB351_357.out _; (with_reducible repeat (first | refine blk_drewN ?_ _ | refine blk_drew ?_ | refine blk_alloc ?_ _)); refine blk_far ?_ NB351_357.out _; (with_reducible repeat (first | refine blk_drewN ?_ _ | refine blk_drew ?_ | refine blk_alloc ?_ _)); exact BK351.out))⟩; have n2_ : Aside0 (w29.heap[gb357]? = some (.cells #[.int .i64 ((rd_T37 y352 x25_2).f0), .int .i64 ((rd_T37 y352 x25_2).f1), .int .i64 ((rd_T37 y352 x25_2).f2), .int .i64 ((rd_T37 y352 x25_2).f3), .int .i64 ((rd_T37 y352 x25_2).f4), .int .i64 ((rd_T37 y352 x25_2).f5.f0), .int .i64 ((rd_T37 y352 x25_2).f5.f1), .slice A356_7 ((rd_T37 y352 x25_2).f5.f2).length c356_7, .slice A356_8 ((rd_T37 y352 x25_2).f6).length c356_8, .slice A356_9 ((rd_T37 y352 x25_2).f7).length c356_9] 37 (0, 0))) := ⟨(by rw [hw]; exact (by (with_reducible repeat (first | refine blk_drewN ?_ _ | refine blk_drew ?_ | refine blk_alloc ?_ _)); refine blk_put (cs := #[.int .i64 ((rd_T37 y352 x25_2).f0), .int .i64 ((rd_T37 y352 x25_2).f1), .int .i64 ((rd_T37 y352 x25_2).f2), .int .i64 ((rd_T37 y352 x25_2).f3), .int .i64 ((rd_T37 y352 x25_2).f4), .int .i64 ((rd_T37 y352 x25_2).f5.f0), .int .i64 ((rd_T37 y352 x25_2).f5.f1), .slice A356_7 ((rd_T37 y352 x25_2).f5.f2).length c356_7, .slice A356_8 ((rd_T37 y352 x25_2).f6).length c356_8, .slice none 0 0]) ?_ 9 _ rfl; (with_reducible repeat (first | refine blk_drewN ?_ _ | refine blk_drew ?_ | refine blk_alloc ?_ _)); refine blk_put (cs := #[.int .i64 ((rd_T37 y352 x25_2).f0), .int .i64 ((rd_T37 y352 x25_2).f1), .int .i64 ((rd_T37 y352 x25_2).f2), .int .i64 ((rd_T37 y352 x25_2).f3), .int .i64 ((rd_T37 y352 x25_2).f4), .int .i64 ((rd_T37 y352 x25_2).f5.f0), .int .i64 ((rd_T37 y352 x25_2).f5.f1), .slice A356_7 ((rd_T37 y352 x25_2).f5.f2).length c356_7, .slice none 0 0, .slice none 0 0]) ?_ 8 _ rfl; (with_reducible repeat (first | refine blk_drewN ?_ _ | refine blk_drew ?_ | refine blk_alloc ?_ _)); refine blk_put (cs := #[.int .i64 ((rd_T37 y352 x25_2).f0), .int .i64 ((rd_T37 y352 x25_2).f1), .int .i64 ((rd_T37 y352 x25_2).f2), .int .i64 ((rd_T37 y352 x25_2).f3), .int .i64 ((rd_T37 y352 x25_2).f4), .int .i64 ((rd_T37 y352 x25_2).f5.f0), .int .i64 ((rd_T37 y352 x25_2).f5.f1), .slice none 0 0, .slice none 0 0, .slice none 0 0]) ?_ 7 _ rfl; (with_reducible repeat (first | refine blk_drewN ?_ _ | refine blk_drew ?_ | refine blk_alloc ?_ _)); refine blk_put (cs := #[.int .i64 ((rd_T37 y352 x25_2).f0), .int .i64 ((rd_T37 y352 x25_2).f1), .int .i64 ((rd_T37 y352 x25_2).f2), .int .i64 ((rd_T37 y352 x25_2).f3), .int .i64 ((rd_T37 y352 x25_2).f4), .int .i64 ((rd_T37 y352 x25_2).f5.f0), .int .i64 0, .slice none 0 0, .slice none 0 0, .slice none 0 0]) ?_ 6 _ rfl; (with_reducible repeat (first | refine blk_drewN ?_ _ | refine blk_drew ?_ | refine blk_alloc ?_ _)); refine blk_put (cs := #[.int .i64 ((rd_T37 y352 x25_2).f0), .int .i64 ((rd_T37 y352 x25_2).f1), .int .i64 ((rd_T37 y352 x25_2).f2), .int .i64 ((rd_T37 y352 x25_2).f3), .int .i64 ((rd_T37 y352 x25_2).f4), .int .i64 0, .int .i64 0, .slice none 0 0, .slice none 0 0, .slice none 0 0]) ?_ 5 _ rfl; (with_reducible repeat (first | refine blk_drewN ?_ _ | refine blk_drew ?_ | refine blk_alloc ?_ _)); refine blk_put (cs := #[.int .i64 ((rd_T37 y352 x25_2).f0), .int .i64 ((rd_T37 y352 x25_2).f1), .int .i64 ((rd_T37 y352 x25_2).f2), .int .i64 ((rd_T37 y352 x25_2).f3), .int .i64 0, .int .i64 0, .int .i64 0, .slice none 0 0, .slice none 0 0, .slice none 0 0]) ?_ 4 _ rfl; (with_reducible repeat (first | refine blk_drewN ?_ _ | refine blk_drew ?_ | refine blk_alloc ?_ _)); refine blk_put (cs := #[.int .i64 ((rd_T37 y352 x25_2).f0), .int .i64 ((rd_T37 y352 x25_2).f1), .int .i64 ((rd_T37 y352 x25_2).f2), .int .i64 0, .int .i64 0, .int .i64 0, .int .i64 0, .slice none 0 0, .slice none 0 0, .slice none 0 0]) ?_ 3 _ rfl; (with_reducible repeat (first | refine blk_drewN ?_ _ | refine blk_drew ?_ | refine blk_alloc ?_ _)); refine blk_put (cs := #[.int .i64 ((rd_T37 y352 x25_2).f0), .int .i64 ((rd_T37 y352 x25_2).f1), .int .i64 0, .int .i64 0, .int .i64 0, .int .i64 0, .int .i64 0, .slice none 0 0, .slice none 0 0, .slice none 0 0]) ?_ 2 _ rfl; (with_reducible repeat (first | refine blk_drewN ?_ _ | refine blk_drew ?_ | refine blk_alloc ?_ _)); refine blk_put (cs := #[.int .i64 ((rd_T37 y352 x25_2).f0), .int .i64 0, .int .i64 0, .int .i64 0, .int .i64 0, .int .i64 0, .int .i64 0, .slice none 0 0, .slice none 0 0, .slice none 0 0]) ?_ 1 _ rfl; (with_reducible repeat (first | refine blk_drewN ?_ _ | refine blk_drew ?_ | refine blk_alloc ?_ _)); refine blk_put (cs := #[.int .i64 0, .int .i64 0, .int .i64 0, .int .i64 0, .int .i64 0, .int .i64 0, .int .i64 0, .slice none 0 0, .slice none 0 0, .slice none 0 0]) ?_ 0 _ rfl; (with_reducible repeat (first | refine blk_drewN ?_ _ | refine blk_drew ?_ | refine blk_alloc ?_ _)); exact BK357.out))⟩; have n3_ : Aside0 (Below w.heap.size w w29) := ⟨(by rw [hw]; exact (by repeat (first | (with_reducible first | exact HB.out | apply below_alloc | apply pw_below_drewN | apply below_drew1 | refine below_set ?_ GE348.out | refine below_set ?_ GE351.out | refine below_set ?_ GE357.out) | exact HB.out)))⟩; clear hw; clear BK348 BK351 BK357 HB; have BK348 := n0_; have BK351 := n1_; have BK357 := n2_; have HB := n3_; clear n0_ n1_ n2_ n3_))
      replace BK348 := am (blk_drew BK348.out)
      replace BK351 := am (blk_drew BK351.out)
      replace BK357 := am (blk_drew BK357.out)
      replace HB := am (below_drew1 HB.out)
      refine start_ (n := 12) (S := fun w' => w'.cell? ⟨gb351, 0, none⟩ = some (.int .i64 ((rd_T37 l0_1 x15_1).f0)) ∧ w'.cell? ⟨gb351, 1, none⟩ = some (.int .i64 ((rd_T37 l0_1 x15_1).f1)) ∧ w'.cell? ⟨gb351, 2, none⟩ = some (.int .i64 ((rd_T37 l0_1 x15_1).f2)) ∧ w'.cell? ⟨gb351, 3, none⟩ = some (.int .i64 ((rd_T37 l0_1 x15_1).f3)) ∧ w'.cell? ⟨gb351, 4, none⟩ = some (.int .i64 ((rd_T37 l0_1 x15_1).f4)) ∧ w'.cell? ⟨gb351, 5, none⟩ = some (.int .i64 ((rd_T37 l0_1 x15_1).f5.f0)) ∧ w'.cell? ⟨gb351, 6, none⟩ = some (.int .i64 ((rd_T37 l0_1 x15_1).f5.f1)) ∧ w'.cell? ⟨gb351, 7, none⟩ = some (.slice A350_7 ((rd_T37 l0_1 x15_1).f5.f2).length c350_7) ∧ w'.cell? ⟨gb351, 8, none⟩ = some (.slice A350_8 ((rd_T37 l0_1 x15_1).f6).length c350_8) ∧ w'.cell? ⟨gb351, 9, none⟩ = some (.slice A350_9 ((rd_T37 l0_1 x15_1).f7).length c350_9) ∧ w'.cell? ⟨gb357, 0, none⟩ = some (.int .i64 ((rd_T37 y352 x25_2).f0)) ∧ w'.cell? ⟨gb357, 1, none⟩ = some (.int .i64 ((rd_T37 y352 x25_2).f1)) ∧ w'.cell? ⟨gb357, 2, none⟩ = some (.int .i64 ((rd_T37 y352 x25_2).f2)) ∧ w'.cell? ⟨gb357, 3, none⟩ = some (.int .i64 ((rd_T37 y352 x25_2).f3)) ∧ w'.cell? ⟨gb357, 4, none⟩ = some (.int .i64 ((rd_T37 y352 x25_2).f4)) ∧ w'.cell? ⟨gb357, 5, none⟩ = some (.int .i64 ((rd_T37 y352 x25_2).f5.f0)) ∧ w'.cell? ⟨gb357, 6, none⟩ = some (.int .i64 ((rd_T37 y352 x25_2).f5.f1)) ∧ w'.cell? ⟨gb357, 7, none⟩ = some (.slice A356_7 ((rd_T37 y352 x25_2).f5.f2).length c356_7) ∧ w'.cell? ⟨gb357, 8, none⟩ = some (.slice A356_8 ((rd_T37 y352 x25_2).f6).length c356_8) ∧ w'.cell? ⟨gb357, 9, none⟩ = some (.slice A356_9 ((rd_T37 y352 x25_2).f7).length c356_9)) (ds := []) #[false, false, false, false, false, false, false, false, false, false, false, false] kr rfl rfl ⟨(blk_cell BK351.out 0).trans rfl, (blk_cell BK351.out 1).trans rfl, (blk_cell BK351.out 2).trans rfl, (blk_cell BK351.out 3).trans rfl, (blk_cell BK351.out 4).trans rfl, (blk_cell BK351.out 5).trans rfl, (blk_cell BK351.out 6).trans rfl, (blk_cell BK351.out 7).trans rfl, (blk_cell BK351.out 8).trans rfl, (blk_cell BK351.out 9).trans rfl, (blk_cell BK357.out 0).trans rfl, (blk_cell BK357.out 1).trans rfl, (blk_cell BK357.out 2).trans rfl, (blk_cell BK357.out 3).trans rfl, (blk_cell BK357.out 4).trans rfl, (blk_cell BK357.out 5).trans rfl, (blk_cell BK357.out 6).trans rfl, (blk_cell BK357.out 7).trans rfl, (blk_cell BK357.out 8).trans rfl, (blk_cell BK357.out 9).trans rfl⟩ (fun hHeld => ?_); refine with_tabW impl_SafeGroup.tab9 impl_SafeGroup.bits9 (fun HT_ HW_ => ?_)
      generalize w29.drew = w30 at BK348 BK351 BK357 HB hHeld ⊢
      refine pV 0 29 (bt 1 12) ?_
      refine pV 2 31 #[true, false, true, false, false, false, false, false, false, false, false, false] ?_
      refine pV 5 34 #[true, false, true, false, false, true, false, false, false, false, false, false] ?_
      refine pV 7 36 #[true, false, true, false, false, true, false, true, false, false, false, false] ?_
      refine tV 1 30 #[true, true, true, false, false, true, false, true, false, false, false, false] ?_
      refine tV 3 32 #[true, true, true, true, false, true, false, true, false, false, false, false] ?_
      refine tV 6 35 #[true, true, true, true, false, true, true, true, false, false, false, false] ?_
      refine tV 8 37 #[true, true, true, true, false, true, true, true, true, false, false, false] ?_
      refine pV 9 38 #[true, true, true, true, false, true, true, true, true, true, false, false] ?_
      refine one_ (i := 4) (N := some 33) #[true, true, true, true, true, true, true, true, true, true, false, false] rfl rfl (one_of HT_.out kr) (by decide) (fun K hK => ?_)
      refine goes_ Try.func102 kr rfl #[.agg #[.int .i64 ((rd_T37 l0_1 x15_1).f5.f0), .int .i64 ((rd_T37 l0_1 x15_1).f5.f1), .slice A350_7 ((rd_T37 l0_1 x15_1).f5.f2).length c350_7], .agg #[.int .i64 ((rd_T37 y352 x25_2).f5.f0), .int .i64 ((rd_T37 y352 x25_2).f5.f1), .slice A356_7 ((rd_T37 y352 x25_2).f5.f2).length c356_7]] (by rfl) rfl rfl q0 ?_
      with_reducible refine (impl_Agree.calls k2 ((rd_T37 l0_1 x15_1).f5.f0) ((rd_T37 l0_1 x15_1).f5.f1) _ _ ((rd_T37 l0_1 x15_1).f5.f2) ((rd_T37 y352 x25_2).f5.f0) ((rd_T37 y352 x25_2).f5.f1) _ _ ((rd_T37 y352 x25_2).f5.f2) t358 _ ?side1 ?side2 ?side3 ?side4 A22.out).mono ?_
      (case side1 => exact (by repeat (first | exact (Kd.C_below HR350_7.out HB.out) | (with_reducible refine Kd.C_alloc ?_ _) | (with_reducible refine Kd.C_drewN ?_ _) | (with_reducible refine Kd.C_drew ?_))))
      (case side2 => exact HC350_7.out)
      (case side3 => exact (by repeat (first | exact (Kd.C_below HR356_7.out HB.out) | (with_reducible refine Kd.C_alloc ?_ _) | (with_reducible refine Kd.C_drewN ?_ _) | (with_reducible refine Kd.C_drew ?_))))
      (case side4 => exact HC356_7.out)
      rintro e w31 ⟨rfl, hb⟩
      refine ⟨_, rfl, ?_⟩
      replace BK348 := am (blk_below (g := gb348) (o := .cells #[.int .i64 a0_0, .slice (some ad350) l0_1.length c0_1, .slice A0_2 l0_2.length c0_2] 53 (0, 0)) u22_1 hb)
      replace BK351 := am (blk_below (g := gb351) (o := .cells #[.int .i64 ((rd_T37 l0_1 x15_1).f0), .int .i64 ((rd_T37 l0_1 x15_1).f1), .int .i64 ((rd_T37 l0_1 x15_1).f2), .int .i64 ((rd_T37 l0_1 x15_1).f3), .int .i64 ((rd_T37 l0_1 x15_1).f4), .int .i64 ((rd_T37 l0_1 x15_1).f5.f0), .int .i64 ((rd_T37 l0_1 x15_1).f5.f1), .slice A350_7 ((rd_T37 l0_1 x15_1).f5.f2).length c350_7, .slice A350_8 ((rd_T37 l0_1 x15_1).f6).length c350_8, .slice A350_9 ((rd_T37 l0_1 x15_1).f7).length c350_9] 37 (0, 0)) u22_4 hb)
      replace BK357 := am (blk_below (g := gb357) (o := .cells #[.int .i64 ((rd_T37 y352 x25_2).f0), .int .i64 ((rd_T37 y352 x25_2).f1), .int .i64 ((rd_T37 y352 x25_2).f2), .int .i64 ((rd_T37 y352 x25_2).f3), .int .i64 ((rd_T37 y352 x25_2).f4), .int .i64 ((rd_T37 y352 x25_2).f5.f0), .int .i64 ((rd_T37 y352 x25_2).f5.f1), .slice A356_7 ((rd_T37 y352 x25_2).f5.f2).length c356_7, .slice A356_8 ((rd_T37 y352 x25_2).f6).length c356_8, .slice A356_9 ((rd_T37 y352 x25_2).f7).length c356_9] 37 (0, 0)) u22_7 hb)
      replace HB := am (below_step q2 hb)
      (try clear hb)
      (try clear hb2)
      (try clear hk)
      (try clear hi)
      refine hK.out _ _ ⟨(blk_cell BK351.out 0).trans rfl, (blk_cell BK351.out 1).trans rfl, (blk_cell BK351.out 2).trans rfl, (blk_cell BK351.out 3).trans rfl, (blk_cell BK351.out 4).trans rfl, (blk_cell BK351.out 5).trans rfl, (blk_cell BK351.out 6).trans rfl, (blk_cell BK351.out 7).trans rfl, (blk_cell BK351.out 8).trans rfl, (blk_cell BK351.out 9).trans rfl, (blk_cell BK357.out 0).trans rfl, (blk_cell BK357.out 1).trans rfl, (blk_cell BK357.out 2).trans rfl, (blk_cell BK357.out 3).trans rfl, (blk_cell BK357.out 4).trans rfl, (blk_cell BK357.out 5).trans rfl, (blk_cell BK357.out 6).trans rfl, (blk_cell BK357.out 7).trans rfl, (blk_cell BK357.out 8).trans rfl, (blk_cell BK357.out 9).trans rfl⟩ (fun hHeld => ?_)
      clear hK K
      refine norm_ (a' := ?_) ?_ ?_
      rotate_left
      · show Act.put _ (some 33) _ = _
        simp only [Act.put, la, lb, lc, i64_w, i32_w]
        rfl
      refine pV 10 7 (bt 11 12) ?_
      refine pV 11 8 (bt 12 12) ?_
      refine done_ (done_of HT_.out kr) ?_
      go_upto_region 10 with (fail)
      go_cut [53] (fun v53 wc => ∃ (kq : Nat) (x53_23 : Bool), v53 = .bool x53_23 ∧ Aside0 (impl_SafeGroup.j2 kq t358 ji23 l0_1 (l0_1.length : Int) x15_1 y352 (y352.length : Int) x25_2 x53_23 a0_0 l0_1 l0_2 ((rd_T37 l0_1 x15_1).f0) ((rd_T37 l0_1 x15_1).f1) ((rd_T37 l0_1 x15_1).f2) ((rd_T37 l0_1 x15_1).f3) ((rd_T37 l0_1 x15_1).f4) ((rd_T37 l0_1 x15_1).f5.f0) ((rd_T37 l0_1 x15_1).f5.f1) ((rd_T37 l0_1 x15_1).f5.f2) ((rd_T37 l0_1 x15_1).f6) ((rd_T37 l0_1 x15_1).f7) ((rd_T37 y352 x25_2).f0) ((rd_T37 y352 x25_2).f1) ((rd_T37 y352 x25_2).f2) ((rd_T37 y352 x25_2).f3) ((rd_T37 y352 x25_2).f4) ((rd_T37 y352 x25_2).f5.f0) ((rd_T37 y352 x25_2).f5.f1) ((rd_T37 y352 x25_2).f5.f2) ((rd_T37 y352 x25_2).f6) ((rd_T37 y352 x25_2).f7) = some r) ∧ Aside0 (kq ≤ k2) ∧ Aside0 (wc.heap[gb348]? = some (.cells #[.int .i64 a0_0, (.slice (some ad350) l0_1.length c0_1), (.slice A0_2 l0_2.length c0_2)] 53 (0, 0))) ∧ Aside0 (wc.heap[gb351]? = some (.cells #[.int .i64 ((rd_T37 l0_1 x15_1).f0), .int .i64 ((rd_T37 l0_1 x15_1).f1), .int .i64 ((rd_T37 l0_1 x15_1).f2), .int .i64 ((rd_T37 l0_1 x15_1).f3), .int .i64 ((rd_T37 l0_1 x15_1).f4), .int .i64 ((rd_T37 l0_1 x15_1).f5.f0), .int .i64 ((rd_T37 l0_1 x15_1).f5.f1), (.slice A350_7 ((rd_T37 l0_1 x15_1).f5.f2).length c350_7), (.slice A350_8 ((rd_T37 l0_1 x15_1).f6).length c350_8), (.slice A350_9 ((rd_T37 l0_1 x15_1).f7).length c350_9)] 37 (0, 0))) ∧ Aside0 (wc.heap[gb357]? = some (.cells #[.int .i64 ((rd_T37 y352 x25_2).f0), .int .i64 ((rd_T37 y352 x25_2).f1), .int .i64 ((rd_T37 y352 x25_2).f2), .int .i64 ((rd_T37 y352 x25_2).f3), .int .i64 ((rd_T37 y352 x25_2).f4), .int .i64 ((rd_T37 y352 x25_2).f5.f0), .int .i64 ((rd_T37 y352 x25_2).f5.f1), (.slice A356_7 ((rd_T37 y352 x25_2).f5.f2).length c356_7), (.slice A356_8 ((rd_T37 y352 x25_2).f6).length c356_8), (.slice A356_9 ((rd_T37 y352 x25_2).f7).length c356_9)] 37 (0, 0))) ∧ Aside0 (Below w.heap.size w wc))
      case first =>
        have H := HC24.out
        clear HC24
        by_cases c32 : ((rd_T37 l0_1 x15_1).f3) = 2
        rotate_left
        · rw [if_neg c32] at H
          have c32b0 : (((rd_T37 l0_1 x15_1).f3) == 2) = false := beq_eq_false_iff_ne.mpr c32
          have c32b1 : (((rd_T37 l0_1 x15_1).f3) != 2) = true := bne_iff_ne.mpr c32
          (first | rw [c32b0] | (simp only [i64_w, i32_w]; rw [c32b0]) | skip)
          have H' := am H
          clear H
          have hnb44 := NB351_348.out
          have hnc44 := NB348_351.out
          have hnb45 := NB351_357.out
          have hnc45 := NB357_351.out
          obtain ⟨hcz46_0, hcz46_1, hcz46_2, hcz46_3, hcz46_4, hcz46_5, hcz46_6, hcz46_7, hcz46_8, hcz46_9, hfz46_0, hfz46_1, hfz46_2, hfz46_3, hfz46_4, hfz46_5, hfz46_6, hfz46_7, hfz46_8, hfz46_9⟩ := bc10f w31 BK351.out
          go_wp2
          go_meet
          case rel => exact ⟨_, (false), q3, H', ⟨q10⟩, ⟨u22_1⟩, ⟨u22_4⟩, ⟨u22_7⟩, ⟨q2⟩⟩
        rw [if_pos c32] at H
        have c32b0 : (((rd_T37 l0_1 x15_1).f3) == 2) = true := beq_iff_eq.mpr c32
        have c32b1 : (((rd_T37 l0_1 x15_1).f3) != 2) = false := bne_eq_false_iff_eq.mpr c32
        clear c32
        (first | rw [c32b0] | (simp only [i64_w, i32_w]; rw [c32b0]) | skip)
        by_cases c33 : ((rd_T37 y352 x25_2).f3) = 2
        rotate_left
        · rw [if_neg c33] at H
          have c33b0 : (((rd_T37 y352 x25_2).f3) == 2) = false := beq_eq_false_iff_ne.mpr c33
          have c33b1 : (((rd_T37 y352 x25_2).f3) != 2) = true := bne_iff_ne.mpr c33
          have H' := am H
          clear H
          have hnb39 := NB351_348.out
          have hnc39 := NB348_351.out
          have hnb40 := NB351_357.out
          have hnc40 := NB357_351.out
          obtain ⟨hcz41_0, hcz41_1, hcz41_2, hcz41_3, hcz41_4, hcz41_5, hcz41_6, hcz41_7, hcz41_8, hcz41_9, hfz41_0, hfz41_1, hfz41_2, hfz41_3, hfz41_4, hfz41_5, hfz41_6, hfz41_7, hfz41_8, hfz41_9⟩ := bc10f w31 BK351.out
          have hnb42 := NB357_348.out
          have hnc42 := NB348_357.out
          obtain ⟨hcz43_0, hcz43_1, hcz43_2, hcz43_3, hcz43_4, hcz43_5, hcz43_6, hcz43_7, hcz43_8, hcz43_9, hfz43_0, hfz43_1, hfz43_2, hfz43_3, hfz43_4, hfz43_5, hfz43_6, hfz43_7, hfz43_8, hfz43_9⟩ := bc10f w31 BK357.out
          go_wp2
          go_meet
          case rel => exact ⟨_, (false), q3, H', ⟨q10⟩, ⟨u22_1⟩, ⟨u22_4⟩, ⟨u22_7⟩, ⟨q2⟩⟩
        rw [if_pos c33] at H
        have c33b0 : (((rd_T37 y352 x25_2).f3) == 2) = true := beq_iff_eq.mpr c33
        have c33b1 : (((rd_T37 y352 x25_2).f3) != 2) = false := bne_eq_false_iff_eq.mpr c33
        clear c33
        have H' := am H
        clear H
        have hnb34 := NB351_348.out
        have hnc34 := NB348_351.out
        have hnb35 := NB351_357.out
        have hnc35 := NB357_351.out
        obtain ⟨hcz36_0, hcz36_1, hcz36_2, hcz36_3, hcz36_4, hcz36_5, hcz36_6, hcz36_7, hcz36_8, hcz36_9, hfz36_0, hfz36_1, hfz36_2, hfz36_3, hfz36_4, hfz36_5, hfz36_6, hfz36_7, hfz36_8, hfz36_9⟩ := bc10f w31 BK351.out
        have hnb37 := NB357_348.out
        have hnc37 := NB348_357.out
        obtain ⟨hcz38_0, hcz38_1, hcz38_2, hcz38_3, hcz38_4, hcz38_5, hcz38_6, hcz38_7, hcz38_8, hcz38_9, hfz38_0, hfz38_1, hfz38_2, hfz38_3, hfz38_4, hfz38_5, hfz38_6, hfz38_7, hfz38_8, hfz38_9⟩ := bc10f w31 BK357.out
        go_wp2
        go_meet
        case rel => exact ⟨_, ((((rd_T37 l0_1 x15_1).f1) == ((rd_T37 y352 x25_2).f1))), q3, H', ⟨q10⟩, ⟨u22_1⟩, ⟨u22_4⟩, ⟨u22_7⟩, ⟨q2⟩⟩
      clear HC24
      try clear c6
      try clear c8
      try clear c8b0
      try clear c9
      try clear c9b0
      try clear c10
      try clear c10b0
      try clear c11b0
      try clear c12
      try clear c12b0
      try clear c12b1
      try clear q18
      try clear c19
      try clear c19b0
      try clear c20
      try clear c20b0
      try clear c21
      try clear c21b0
      try clear hcz15_0
      try clear hcz15_1
      try clear hcz15_2
      try clear hcz15_3
      try clear hcz15_4
      try clear hcz15_5
      try clear hcz15_6
      try clear hcz15_7
      try clear hcz15_8
      try clear hcz15_9
      try clear hcz17_0
      try clear hcz17_1
      try clear hcz17_2
      try clear hcz28_0
      try clear hcz28_1
      try clear hcz28_2
      try clear hcz28_3
      try clear hcz28_4
      try clear hcz28_5
      try clear hcz28_6
      try clear hcz28_7
      try clear hcz28_8
      try clear hcz28_9
      try clear hcz4_0
      try clear hcz4_1
      try clear hcz4_2
      try clear hcz7_0
      try clear hcz7_1
      try clear hcz7_2
      try clear hfz15_0
      try clear hfz15_1
      try clear hfz15_2
      try clear hfz15_3
      try clear hfz15_4
      try clear hfz15_5
      try clear hfz15_6
      try clear hfz15_7
      try clear hfz15_8
      try clear hfz15_9
      try clear hfz17_0
      try clear hfz17_1
      try clear hfz17_2
      try clear hfz28_0
      try clear hfz28_1
      try clear hfz28_2
      try clear hfz28_3
      try clear hfz28_4
      try clear hfz28_5
      try clear hfz28_6
      try clear hfz28_7
      try clear hfz28_8
      try clear hfz28_9
      try clear hfz4_0
      try clear hfz4_1
      try clear hfz4_2
      try clear hfz7_0
      try clear hfz7_1
      try clear hfz7_2
      try clear hx350_0
      try clear hx350_1
      try clear hx350_2
      try clear hx350_3
      try clear hx350_4
      try clear hx350_5
      try clear hx350_6
      try clear hx350_7
      try clear hx350_8
      try clear hx350_9
      try clear hx356_0
      try clear hx356_1
      try clear hx356_2
      try clear hx356_3
      try clear hx356_4
      try clear hx356_5
      try clear hx356_6
      try clear hx356_7
      try clear hx356_8
      try clear hx356_9
      try clear p350
      try clear p356
      try clear q18
      try clear q350
      try clear q356
      obtain ⟨kq, x53_23, rfl, HA, HJ23, BK348, BK351, BK357, HB⟩ := hcut
      cases kq with
      | zero => exact absurd HA.out (by simp [impl_SafeGroup.j2])
      | succ kj23 =>
        have H := HA.out
        clear HA
        simp only [impl_SafeGroup.j2] at H
        as_aux_lemma =>
         by_cases c47 : x53_23 = true
         · subst c47
           rw [if_pos rfl] at H
           obtain rfl := sj H
           go_wp2
           go_ret
           exact ⟨by first | rfl | (simp [errW_none, errW_some] <;> rfl) | (simp only [← hji23]; first | rfl | (simp [errW_none, errW_some] <;> rfl)) | (simp [*, errW_none, errW_some] <;> rfl), q2⟩
         replace c47 := Bool.eq_false_iff.mpr c47
         subst c47
         rw [nf] at H
         by_cases c48 : 0 ≤ t358
         rotate_left
         · rw [if_neg c48] at H
           exact absurd H (by simp)
         rw [if_pos c48] at H
         have c48b0 := eq_true c48
         have c48b1 : decide (0 ≤ t358) = true := decide_eq_true c48
         clear c48
         by_cases c49 : t358 ≤ (((rd_T37 l0_1 x15_1).f5.f2).length : Int)
         rotate_left
         · rw [if_neg c49] at H
           exact absurd H (by simp)
         rw [if_pos c49] at H
         have c49b0 := eq_true c49
         have c49b1 : decide (t358 ≤ (((rd_T37 l0_1 x15_1).f5.f2).length : Int)) = true := decide_eq_true c49
         clear c49
         obtain ⟨y359, hy359⟩ : ∃ y_ : List (S85), y_ = (((rd_T37 l0_1 x15_1).f5.f2).take (t358 : Int).toNat) := ⟨_, rfl⟩
         replace H : (if t358 ≤ (((rd_T37 y352 x25_2).f5.f2).length : Int) then ((impl_Entry_103.f kj23 y359 (((rd_T37 y352 x25_2).f5.f2).take (t358 : Int).toNat)).bind fun t367 => (if t367 = true then (if 0 ≤ ji23 then (if ji23 ≤ (((rd_T37 l0_1 x15_1).f5.f2).length : Int) then (if ji23 ≤ (((rd_T37 y352 x25_2).f5.f2).length : Int) then ((impl_Entry_103.f kj23 (((rd_T37 l0_1 x15_1).f5.f2).take (ji23 : Int).toNat) (((rd_T37 y352 x25_2).f5.f2).take (ji23 : Int).toNat)).bind fun t376 => (if t376 = true then (impl_SafeGroup.l1 kj23 l0_1 (l0_1.length : Int) x15_1 y352 (y352.length : Int) (wrap64 (x25_2 + 1)) a0_0 l0_1 l0_2 ((rd_T37 l0_1 x15_1).f0) ((rd_T37 l0_1 x15_1).f1) ((rd_T37 l0_1 x15_1).f2) ((rd_T37 l0_1 x15_1).f3) ((rd_T37 l0_1 x15_1).f4) ((rd_T37 l0_1 x15_1).f5.f0) ((rd_T37 l0_1 x15_1).f5.f1) ((rd_T37 l0_1 x15_1).f5.f2) ((rd_T37 l0_1 x15_1).f6) ((rd_T37 l0_1 x15_1).f7)) else (some false))) else (none)) else (none)) else (none)) else (some false))) else (none)) = some r := by first | (rw [hy359]; with_reducible exact H) | (have H2_ := (Option.bind_some _ _).symm.trans H; rw [hy359]; with_reducible exact H2_) | (have H2_ := (Option.bind_some _ _).symm.trans H; with_reducible exact H2_) | with_reducible exact H | (rw [hy359]; exact H) | exact H
         have Ny359 := am hy359
         clear hy359
         have c50b0 := eq_true (of_decide_eq_true q1 : 0 ≤ t358)
         by_cases c51 : t358 ≤ (((rd_T37 y352 x25_2).f5.f2).length : Int)
         rotate_left
         · rw [if_neg c51] at H
           exact absurd H (by simp)
         rw [if_pos c51] at H
         have c51b0 := eq_true c51
         have c51b1 : decide (t358 ≤ (((rd_T37 y352 x25_2).f5.f2).length : Int)) = true := decide_eq_true c51
         clear c51
         obtain ⟨y363, hy363⟩ : ∃ y_ : List (S85), y_ = (((rd_T37 y352 x25_2).f5.f2).take (t358 : Int).toNat) := ⟨_, rfl⟩
         replace H : ((impl_Entry_103.f kj23 y359 y363).bind fun t367 => (if t367 = true then (if 0 ≤ ji23 then (if ji23 ≤ (((rd_T37 l0_1 x15_1).f5.f2).length : Int) then (if ji23 ≤ (((rd_T37 y352 x25_2).f5.f2).length : Int) then ((impl_Entry_103.f kj23 (((rd_T37 l0_1 x15_1).f5.f2).take (ji23 : Int).toNat) (((rd_T37 y352 x25_2).f5.f2).take (ji23 : Int).toNat)).bind fun t376 => (if t376 = true then (impl_SafeGroup.l1 kj23 l0_1 (l0_1.length : Int) x15_1 y352 (y352.length : Int) (wrap64 (x25_2 + 1)) a0_0 l0_1 l0_2 ((rd_T37 l0_1 x15_1).f0) ((rd_T37 l0_1 x15_1).f1) ((rd_T37 l0_1 x15_1).f2) ((rd_T37 l0_1 x15_1).f3) ((rd_T37 l0_1 x15_1).f4) ((rd_T37 l0_1 x15_1).f5.f0) ((rd_T37 l0_1 x15_1).f5.f1) ((rd_T37 l0_1 x15_1).f5.f2) ((rd_T37 l0_1 x15_1).f6) ((rd_T37 l0_1 x15_1).f7)) else (some false))) else (none)) else (none)) else (none)) else (some false))) = some r := by first | (rw [hy363]; with_reducible exact H) | (have H2_ := (Option.bind_some _ _).symm.trans H; rw [hy363]; with_reducible exact H2_) | (have H2_ := (Option.bind_some _ _).symm.trans H; with_reducible exact H2_) | with_reducible exact H | (rw [hy363]; exact H) | exact H
         have Ny363 := am hy363
         clear hy363
         replace H := Option.bind_eq_some_iff.mp H
         obtain ⟨t367, A520, H⟩ := H
         have A52 := am A520
         clear A520
         by_cases c53 : t367 = true
         rotate_left
         · replace c53 := Bool.eq_false_iff.mpr c53
           subst c53
           rw [nf] at H
           obtain rfl := sj H
           try go_wp2
           replace BK348 := am (blk_drew BK348.out)
           replace BK351 := am (blk_drew BK351.out)
           replace BK357 := am (blk_drew BK357.out)
           replace HB := am (below_drew1 HB.out)
           have q66 : (t358 : Int) ≤ ((((rd_T37 l0_1 x15_1).f5.f2).length : Int) : Int) := of_decide_eq_true q1
           obtain ⟨i066, hi066, _, hsz66, _⟩ := info_parts info85
           have hroom66 : ((rd_T37 l0_1 x15_1).f5.f2).length ≤ c350_7 := HC350_7.out
           have hC66 : Kd.C k85 _ A350_7 ((rd_T37 l0_1 x15_1).f5.f2).length ((rd_T37 l0_1 x15_1).f5.f2) := HR350_7.out
           have hcut66 := cut_to (P := Try.prog) 27 85 .i64 Try.underlying27 hi066 A350_7 ((rd_T37 l0_1 x15_1).f5.f2).length c350_7 t358 (of_decide_eq_true q1) q66 hroom66
           have hr66 := Kd.C_take (m := (t358 : Int).toNat) hC66 (by omega)
           have hy66 : y359.length = (t358 : Int).toNat := (by rw [Ny359.out, List.length_take]; omega)
           rw [← Ny359.out] at hr66
           rw [← hy66] at hcut66
           have HR362 := am hr66
           have HC362 := am (show y359.length ≤ c350_7 from by omega)
           clear hr66 hC66 hroom66 hi066 hsz66
           have KY66 := am hy66
           clear hy66
           replace q66 := eq_true q66
           have q67 : (t358 : Int) ≤ ((((rd_T37 y352 x25_2).f5.f2).length : Int) : Int) := of_decide_eq_true q1
           obtain ⟨i067, hi067, _, hsz67, _⟩ := info_parts info85
           have hroom67 : ((rd_T37 y352 x25_2).f5.f2).length ≤ c356_7 := HC356_7.out
           have hC67 : Kd.C k85 _ A356_7 ((rd_T37 y352 x25_2).f5.f2).length ((rd_T37 y352 x25_2).f5.f2) := HR356_7.out
           have hcut67 := cut_to (P := Try.prog) 27 85 .i64 Try.underlying27 hi067 A356_7 ((rd_T37 y352 x25_2).f5.f2).length c356_7 t358 (of_decide_eq_true q1) q67 hroom67
           have hr67 := Kd.C_take (m := (t358 : Int).toNat) hC67 (by omega)
           have hy67 : y363.length = (t358 : Int).toNat := (by rw [Ny363.out, List.length_take]; omega)
           rw [← Ny363.out] at hr67
           rw [← hy67] at hcut67
           have HR366 := am hr67
           have HC366 := am (show y363.length ≤ c356_7 from by omega)
           clear hr67 hC67 hroom67 hi067 hsz67
           have KY67 := am hy67
           clear hy67
           replace q67 := eq_true q67
           refine start_ (n := 26) (S := fun w' => w'.cell? ⟨gb351, 0, none⟩ = some (.int .i64 ((rd_T37 l0_1 x15_1).f0)) ∧ w'.cell? ⟨gb351, 1, none⟩ = some (.int .i64 ((rd_T37 l0_1 x15_1).f1)) ∧ w'.cell? ⟨gb351, 2, none⟩ = some (.int .i64 ((rd_T37 l0_1 x15_1).f2)) ∧ w'.cell? ⟨gb351, 3, none⟩ = some (.int .i64 ((rd_T37 l0_1 x15_1).f3)) ∧ w'.cell? ⟨gb351, 4, none⟩ = some (.int .i64 ((rd_T37 l0_1 x15_1).f4)) ∧ w'.cell? ⟨gb351, 5, none⟩ = some (.int .i64 ((rd_T37 l0_1 x15_1).f5.f0)) ∧ w'.cell? ⟨gb351, 6, none⟩ = some (.int .i64 ((rd_T37 l0_1 x15_1).f5.f1)) ∧ w'.cell? ⟨gb351, 7, none⟩ = some (.slice A350_7 ((rd_T37 l0_1 x15_1).f5.f2).length c350_7) ∧ w'.cell? ⟨gb351, 8, none⟩ = some (.slice A350_8 ((rd_T37 l0_1 x15_1).f6).length c350_8) ∧ w'.cell? ⟨gb351, 9, none⟩ = some (.slice A350_9 ((rd_T37 l0_1 x15_1).f7).length c350_9) ∧ w'.cell? ⟨gb357, 0, none⟩ = some (.int .i64 ((rd_T37 y352 x25_2).f0)) ∧ w'.cell? ⟨gb357, 1, none⟩ = some (.int .i64 ((rd_T37 y352 x25_2).f1)) ∧ w'.cell? ⟨gb357, 2, none⟩ = some (.int .i64 ((rd_T37 y352 x25_2).f2)) ∧ w'.cell? ⟨gb357, 3, none⟩ = some (.int .i64 ((rd_T37 y352 x25_2).f3)) ∧ w'.cell? ⟨gb357, 4, none⟩ = some (.int .i64 ((rd_T37 y352 x25_2).f4)) ∧ w'.cell? ⟨gb357, 5, none⟩ = some (.int .i64 ((rd_T37 y352 x25_2).f5.f0)) ∧ w'.cell? ⟨gb357, 6, none⟩ = some (.int .i64 ((rd_T37 y352 x25_2).f5.f1)) ∧ w'.cell? ⟨gb357, 7, none⟩ = some (.slice A356_7 ((rd_T37 y352 x25_2).f5.f2).length c356_7) ∧ w'.cell? ⟨gb357, 8, none⟩ = some (.slice A356_8 ((rd_T37 y352 x25_2).f6).length c356_8) ∧ w'.cell? ⟨gb357, 9, none⟩ = some (.slice A356_9 ((rd_T37 y352 x25_2).f7).length c356_9)) (ds := []) #[false, false, false, false, false, false, false, false, false, false, false, false, false, false, false, false, false, false, false, false, false, false, false, false, false, false] kr rfl rfl ⟨(blk_cell BK351.out 0).trans rfl, (blk_cell BK351.out 1).trans rfl, (blk_cell BK351.out 2).trans rfl, (blk_cell BK351.out 3).trans rfl, (blk_cell BK351.out 4).trans rfl, (blk_cell BK351.out 5).trans rfl, (blk_cell BK351.out 6).trans rfl, (blk_cell BK351.out 7).trans rfl, (blk_cell BK351.out 8).trans rfl, (blk_cell BK351.out 9).trans rfl, (blk_cell BK357.out 0).trans rfl, (blk_cell BK357.out 1).trans rfl, (blk_cell BK357.out 2).trans rfl, (blk_cell BK357.out 3).trans rfl, (blk_cell BK357.out 4).trans rfl, (blk_cell BK357.out 5).trans rfl, (blk_cell BK357.out 6).trans rfl, (blk_cell BK357.out 7).trans rfl, (blk_cell BK357.out 8).trans rfl, (blk_cell BK357.out 9).trans rfl⟩ (fun hHeld => ?_); refine with_tabW impl_SafeGroup.tab12 impl_SafeGroup.bits12 (fun HT_ HW_ => ?_)
           generalize wc.drew = w65 at BK348 BK351 BK357 HB HR362 HR366 hHeld ⊢
           refine pV 0 54 (bt 1 26) ?_
           refine pV 1 55 (bt 2 26) ?_
           refine pV 3 57 #[true, true, false, true, false, false, false, false, false, false, false, false, false, false, false, false, false, false, false, false, false, false, false, false, false, false] ?_
           refine pV 5 59 #[true, true, false, true, false, true, false, false, false, false, false, false, false, false, false, false, false, false, false, false, false, false, false, false, false, false] ?_
           refine pV 6 60 #[true, true, false, true, false, true, true, false, false, false, false, false, false, false, false, false, false, false, false, false, false, false, false, false, false, false] ?_
           refine pV 8 62 #[true, true, false, true, false, true, true, false, true, false, false, false, false, false, false, false, false, false, false, false, false, false, false, false, false, false] ?_
           refine tV 2 56 #[true, true, true, true, false, true, true, false, true, false, false, false, false, false, false, false, false, false, false, false, false, false, false, false, false, false] ?_
           refine pV 4 58 #[true, true, true, true, true, true, true, false, true, false, false, false, false, false, false, false, false, false, false, false, false, false, false, false, false, false] ?_
           refine tV 7 61 (bt 9 26) ?_
           refine pV 9 63 (bt 10 26) ?_
           refine one_ (i := 10) (N := some 64) #[true, true, true, true, true, true, true, true, true, true, true, false, false, false, false, false, false, false, false, false, false, false, false, false, false, false] rfl rfl (one_of HT_.out kr) (by decide) (fun K hK => ?_)
           refine goes_ Try.func103 kr rfl #[.slice A350_7 y359.length c350_7, .slice A356_7 y363.length c356_7] (by rfl) rfl rfl q0 ?_
           with_reducible refine (impl_Entry_103.calls kj23 _ _ y359 _ _ y363 false _ ?side1 ?side2 ?side3 ?side4 A52.out).mono ?_
           (case side1 => exact u22_10)
           (case side2 => exact HC362.out)
           (case side3 => exact u22_11)
           (case side4 => exact HC366.out)
           rintro e w' ⟨rfl, ⟨nd, rfl⟩⟩
           refine ⟨_, rfl, ?_⟩
           refine hK.out _ _ ⟨(blk_cell BK351.out 0).trans rfl, (blk_cell BK351.out 1).trans rfl, (blk_cell BK351.out 2).trans rfl, (blk_cell BK351.out 3).trans rfl, (blk_cell BK351.out 4).trans rfl, (blk_cell BK351.out 5).trans rfl, (blk_cell BK351.out 6).trans rfl, (blk_cell BK351.out 7).trans rfl, (blk_cell BK351.out 8).trans rfl, (blk_cell BK351.out 9).trans rfl, (blk_cell BK357.out 0).trans rfl, (blk_cell BK357.out 1).trans rfl, (blk_cell BK357.out 2).trans rfl, (blk_cell BK357.out 3).trans rfl, (blk_cell BK357.out 4).trans rfl, (blk_cell BK357.out 5).trans rfl, (blk_cell BK357.out 6).trans rfl, (blk_cell BK357.out 7).trans rfl, (blk_cell BK357.out 8).trans rfl, (blk_cell BK357.out 9).trans rfl⟩ (fun hHeld => ?_)
           clear hK K
           refine norm_ (a' := ?_) ?_ ?_
           rotate_left
           · show Act.put _ (some 64) _ = _
             simp only [Act.put, la, lb, lc, i64_w, i32_w]
             rfl
           refine pV 11 65 (bt 12 26) ?_
           refine pV 12 66 (bt 13 26) ?_
           refine pU 13 67 (bt 14 26) ?_
           refine pU 14 68 (bt 15 26) ?_
           refine pU 15 69 (bt 16 26) ?_
           refine pU 16 70 (bt 17 26) ?_
           refine pU 17 71 (bt 18 26) ?_
           refine pU 18 72 (bt 19 26) ?_
           refine pU 19 73 (bt 20 26) ?_
           refine pU 20 74 (bt 21 26) ?_
           refine pU 21 75 (bt 22 26) ?_
           refine pU 22 76 (bt 23 26) ?_
           refine pU 23 77 (bt 24 26) ?_
           refine pU 24 78 (bt 25 26) ?_
           refine pV 25 79 (bt 26 26) ?_
           refine done_ (done_of HT_.out kr) ?_
           try go_wp2
           go_ret
           exact ⟨by first | rfl | (simp [errW_none, errW_some] <;> rfl) | (simp only [← hji23]; first | rfl | (simp [errW_none, errW_some] <;> rfl)) | (simp [*, errW_none, errW_some] <;> rfl), q2⟩
         subst c53
         rw [if_pos rfl] at H
         by_cases c54 : 0 ≤ ji23
         rotate_left
         · rw [if_neg c54] at H
           exact absurd H (by simp)
         rw [if_pos c54] at H
         have c54b0 := eq_true c54
         have c54b1 : decide (0 ≤ ji23) = true := decide_eq_true c54
         clear c54
         by_cases c55 : ji23 ≤ (((rd_T37 l0_1 x15_1).f5.f2).length : Int)
         rotate_left
         · rw [if_neg c55] at H
           exact absurd H (by simp)
         rw [if_pos c55] at H
         have c55b0 := eq_true c55
         have c55b1 : decide (ji23 ≤ (((rd_T37 l0_1 x15_1).f5.f2).length : Int)) = true := decide_eq_true c55
         clear c55
         obtain ⟨y368, hy368⟩ : ∃ y_ : List (S85), y_ = (((rd_T37 l0_1 x15_1).f5.f2).take (ji23 : Int).toNat) := ⟨_, rfl⟩
         replace H : (if ji23 ≤ (((rd_T37 y352 x25_2).f5.f2).length : Int) then ((impl_Entry_103.f kj23 y368 (((rd_T37 y352 x25_2).f5.f2).take (ji23 : Int).toNat)).bind fun t376 => (if t376 = true then (impl_SafeGroup.l1 kj23 l0_1 (l0_1.length : Int) x15_1 y352 (y352.length : Int) (wrap64 (x25_2 + 1)) a0_0 l0_1 l0_2 ((rd_T37 l0_1 x15_1).f0) ((rd_T37 l0_1 x15_1).f1) ((rd_T37 l0_1 x15_1).f2) ((rd_T37 l0_1 x15_1).f3) ((rd_T37 l0_1 x15_1).f4) ((rd_T37 l0_1 x15_1).f5.f0) ((rd_T37 l0_1 x15_1).f5.f1) ((rd_T37 l0_1 x15_1).f5.f2) ((rd_T37 l0_1 x15_1).f6) ((rd_T37 l0_1 x15_1).f7)) else (some false))) else (none)) = some r := by first | (rw [hy368]; with_reducible exact H) | (have H2_ := (Option.bind_some _ _).symm.trans H; rw [hy368]; with_reducible exact H2_) | (have H2_ := (Option.bind_some _ _).symm.trans H; with_reducible exact H2_) | with_reducible exact H | (rw [hy368]; exact H) | exact H
         have Ny368 := am hy368
         clear hy368
         have c56b0 := eq_true (of_decide_eq_true q1 : 0 ≤ ji23)
         as_aux_lemma =>
          by_cases c57 : ji23 ≤ (((rd_T37 y352 x25_2).f5.f2).length : Int)
          rotate_left
          · rw [if_neg c57] at H
            exact absurd H (by simp)
          rw [if_pos c57] at H
          have c57b0 := eq_true c57
          have c57b1 : decide (ji23 ≤ (((rd_T37 y352 x25_2).f5.f2).length : Int)) = true := decide_eq_true c57
          clear c57
          obtain ⟨y372, hy372⟩ : ∃ y_ : List (S85), y_ = (((rd_T37 y352 x25_2).f5.f2).take (ji23 : Int).toNat) := ⟨_, rfl⟩
          replace H : ((impl_Entry_103.f kj23 y368 y372).bind fun t376 => (if t376 = true then (impl_SafeGroup.l1 kj23 l0_1 (l0_1.length : Int) x15_1 y352 (y352.length : Int) (wrap64 (x25_2 + 1)) a0_0 l0_1 l0_2 ((rd_T37 l0_1 x15_1).f0) ((rd_T37 l0_1 x15_1).f1) ((rd_T37 l0_1 x15_1).f2) ((rd_T37 l0_1 x15_1).f3) ((rd_T37 l0_1 x15_1).f4) ((rd_T37 l0_1 x15_1).f5.f0) ((rd_T37 l0_1 x15_1).f5.f1) ((rd_T37 l0_1 x15_1).f5.f2) ((rd_T37 l0_1 x15_1).f6) ((rd_T37 l0_1 x15_1).f7)) else (some false))) = some r := by first | (rw [hy372]; with_reducible exact H) | (have H2_ := (Option.bind_some _ _).symm.trans H; rw [hy372]; with_reducible exact H2_) | (have H2_ := (Option.bind_some _ _).symm.trans H; with_reducible exact H2_) | with_reducible exact H | (rw [hy372]; exact H) | exact H
          have Ny372 := am hy372
          clear hy372
          replace H := Option.bind_eq_some_iff.mp H
          obtain ⟨t376, A580, H⟩ := H
          have A58 := am A580
          clear A580
          have H9 := am H
          clear H
          try go_wp2
          replace BK348 := am (blk_drew BK348.out)
          replace BK351 := am (blk_drew BK351.out)
          replace BK357 := am (blk_drew BK357.out)
          replace HB := am (below_drew1 HB.out)
          have q60 : (t358 : Int) ≤ ((((rd_T37 l0_1 x15_1).f5.f2).length : Int) : Int) := of_decide_eq_true q1
          obtain ⟨i060, hi060, _, hsz60, _⟩ := info_parts info85
          have hroom60 : ((rd_T37 l0_1 x15_1).f5.f2).length ≤ c350_7 := HC350_7.out
          have hC60 : Kd.C k85 _ A350_7 ((rd_T37 l0_1 x15_1).f5.f2).length ((rd_T37 l0_1 x15_1).f5.f2) := HR350_7.out
          have hcut60 := cut_to (P := Try.prog) 27 85 .i64 Try.underlying27 hi060 A350_7 ((rd_T37 l0_1 x15_1).f5.f2).length c350_7 t358 (of_decide_eq_true q1) q60 hroom60
          have hr60 := Kd.C_take (m := (t358 : Int).toNat) hC60 (by omega)
          have hy60 : y359.length = (t358 : Int).toNat := (by rw [Ny359.out, List.length_take]; omega)
          rw [← Ny359.out] at hr60
          rw [← hy60] at hcut60
          have HR362 := am hr60
          have HC362 := am (show y359.length ≤ c350_7 from by omega)
          clear hr60 hC60 hroom60 hi060 hsz60
          have KY60 := am hy60
          clear hy60
          replace q60 := eq_true q60
          have q61 : (t358 : Int) ≤ ((((rd_T37 y352 x25_2).f5.f2).length : Int) : Int) := of_decide_eq_true q1
          obtain ⟨i061, hi061, _, hsz61, _⟩ := info_parts info85
          have hroom61 : ((rd_T37 y352 x25_2).f5.f2).length ≤ c356_7 := HC356_7.out
          have hC61 : Kd.C k85 _ A356_7 ((rd_T37 y352 x25_2).f5.f2).length ((rd_T37 y352 x25_2).f5.f2) := HR356_7.out
          have hcut61 := cut_to (P := Try.prog) 27 85 .i64 Try.underlying27 hi061 A356_7 ((rd_T37 y352 x25_2).f5.f2).length c356_7 t358 (of_decide_eq_true q1) q61 hroom61
          have hr61 := Kd.C_take (m := (t358 : Int).toNat) hC61 (by omega)
          have hy61 : y363.length = (t358 : Int).toNat := (by rw [Ny363.out, List.length_take]; omega)
          rw [← Ny363.out] at hr61
          rw [← hy61] at hcut61
          have HR366 := am hr61
          have HC366 := am (show y363.length ≤ c356_7 from by omega)
          clear hr61 hC61 hroom61 hi061 hsz61
          have KY61 := am hy61
          clear hy61
          replace q61 := eq_true q61
          refine start_ (n := 26) (S := fun w' => w'.cell? ⟨gb351, 0, none⟩ = some (.int .i64 ((rd_T37 l0_1 x15_1).f0)) ∧ w'.cell? ⟨gb351, 1, none⟩ = some (.int .i64 ((rd_T37 l0_1 x15_1).f1)) ∧ w'.cell? ⟨gb351, 2, none⟩ = some (.int .i64 ((rd_T37 l0_1 x15_1).f2)) ∧ w'.cell? ⟨gb351, 3, none⟩ = some (.int .i64 ((rd_T37 l0_1 x15_1).f3)) ∧ w'.cell? ⟨gb351, 4, none⟩ = some (.int .i64 ((rd_T37 l0_1 x15_1).f4)) ∧ w'.cell? ⟨gb351, 5, none⟩ = some (.int .i64 ((rd_T37 l0_1 x15_1).f5.f0)) ∧ w'.cell? ⟨gb351, 6, none⟩ = some (.int .i64 ((rd_T37 l0_1 x15_1).f5.f1)) ∧ w'.cell? ⟨gb351, 7, none⟩ = some (.slice A350_7 ((rd_T37 l0_1 x15_1).f5.f2).length c350_7) ∧ w'.cell? ⟨gb351, 8, none⟩ = some (.slice A350_8 ((rd_T37 l0_1 x15_1).f6).length c350_8) ∧ w'.cell? ⟨gb351, 9, none⟩ = some (.slice A350_9 ((rd_T37 l0_1 x15_1).f7).length c350_9) ∧ w'.cell? ⟨gb357, 0, none⟩ = some (.int .i64 ((rd_T37 y352 x25_2).f0)) ∧ w'.cell? ⟨gb357, 1, none⟩ = some (.int .i64 ((rd_T37 y352 x25_2).f1)) ∧ w'.cell? ⟨gb357, 2, none⟩ = some (.int .i64 ((rd_T37 y352 x25_2).f2)) ∧ w'.cell? ⟨gb357, 3, none⟩ = some (.int .i64 ((rd_T37 y352 x25_2).f3)) ∧ w'.cell? ⟨gb357, 4, none⟩ = some (.int .i64 ((rd_T37 y352 x25_2).f4)) ∧ w'.cell? ⟨gb357, 5, none⟩ = some (.int .i64 ((rd_T37 y352 x25_2).f5.f0)) ∧ w'.cell? ⟨gb357, 6, none⟩ = some (.int .i64 ((rd_T37 y352 x25_2).f5.f1)) ∧ w'.cell? ⟨gb357, 7, none⟩ = some (.slice A356_7 ((rd_T37 y352 x25_2).f5.f2).length c356_7) ∧ w'.cell? ⟨gb357, 8, none⟩ = some (.slice A356_8 ((rd_T37 y352 x25_2).f6).length c356_8) ∧ w'.cell? ⟨gb357, 9, none⟩ = some (.slice A356_9 ((rd_T37 y352 x25_2).f7).length c356_9)) (ds := []) #[false, false, false, false, false, false, false, false, false, false, false, false, false, false, false, false, false, false, false, false, false, false, false, false, false, false] kr rfl rfl ⟨(blk_cell BK351.out 0).trans rfl, (blk_cell BK351.out 1).trans rfl, (blk_cell BK351.out 2).trans rfl, (blk_cell BK351.out 3).trans rfl, (blk_cell BK351.out 4).trans rfl, (blk_cell BK351.out 5).trans rfl, (blk_cell BK351.out 6).trans rfl, (blk_cell BK351.out 7).trans rfl, (blk_cell BK351.out 8).trans rfl, (blk_cell BK351.out 9).trans rfl, (blk_cell BK357.out 0).trans rfl, (blk_cell BK357.out 1).trans rfl, (blk_cell BK357.out 2).trans rfl, (blk_cell BK357.out 3).trans rfl, (blk_cell BK357.out 4).trans rfl, (blk_cell BK357.out 5).trans rfl, (blk_cell BK357.out 6).trans rfl, (blk_cell BK357.out 7).trans rfl, (blk_cell BK357.out 8).trans rfl, (blk_cell BK357.out 9).trans rfl⟩ (fun hHeld => ?_); refine with_tabW impl_SafeGroup.tab12 impl_SafeGroup.bits12 (fun HT_ HW_ => ?_)
          generalize wc.drew = w59 at BK348 BK351 BK357 HB HR362 HR366 hHeld ⊢
          refine pV 0 54 (bt 1 26) ?_
          refine pV 1 55 (bt 2 26) ?_
          refine pV 3 57 #[true, true, false, true, false, false, false, false, false, false, false, false, false, false, false, false, false, false, false, false, false, false, false, false, false, false] ?_
          refine pV 5 59 #[true, true, false, true, false, true, false, false, false, false, false, false, false, false, false, false, false, false, false, false, false, false, false, false, false, false] ?_
          refine pV 6 60 #[true, true, false, true, false, true, true, false, false, false, false, false, false, false, false, false, false, false, false, false, false, false, false, false, false, false] ?_
          refine pV 8 62 #[true, true, false, true, false, true, true, false, true, false, false, false, false, false, false, false, false, false, false, false, false, false, false, false, false, false] ?_
          refine tV 2 56 #[true, true, true, true, false, true, true, false, true, false, false, false, false, false, false, false, false, false, false, false, false, false, false, false, false, false] ?_
          refine pV 4 58 #[true, true, true, true, true, true, true, false, true, false, false, false, false, false, false, false, false, false, false, false, false, false, false, false, false, false] ?_
          refine tV 7 61 (bt 9 26) ?_
          refine pV 9 63 (bt 10 26) ?_
          refine one_ (i := 10) (N := some 64) #[true, true, true, true, true, true, true, true, true, true, true, false, false, false, false, false, false, false, false, false, false, false, false, false, false, false] rfl rfl (one_of HT_.out kr) (by decide) (fun K hK => ?_)
          refine goes_ Try.func103 kr rfl #[.slice A350_7 y359.length c350_7, .slice A356_7 y363.length c356_7] (by rfl) rfl rfl q0 ?_
          with_reducible refine (impl_Entry_103.calls kj23 _ _ y359 _ _ y363 true _ ?side1 ?side2 ?side3 ?side4 A52.out).mono ?_
          (case side1 => exact u22_10)
          (case side2 => exact HC362.out)
          (case side3 => exact u22_11)
          (case side4 => exact HC366.out)
          rintro e w' ⟨rfl, ⟨nd, rfl⟩⟩
          refine ⟨_, rfl, ?_⟩
          have q62 : (ji23 : Int) ≤ ((((rd_T37 l0_1 x15_1).f5.f2).length : Int) : Int) := of_decide_eq_true q1
          obtain ⟨i062, hi062, _, hsz62, _⟩ := info_parts info85
          have hroom62 : ((rd_T37 l0_1 x15_1).f5.f2).length ≤ c350_7 := HC350_7.out
          have hC62 : Kd.C k85 _ A350_7 ((rd_T37 l0_1 x15_1).f5.f2).length ((rd_T37 l0_1 x15_1).f5.f2) := HR350_7.out
          have hcut62 := cut_to (P := Try.prog) 27 85 .i64 Try.underlying27 hi062 A350_7 ((rd_T37 l0_1 x15_1).f5.f2).length c350_7 ji23 (of_decide_eq_true q1) q62 hroom62
          have hr62 := Kd.C_take (m := (ji23 : Int).toNat) hC62 (by omega)
          have hy62 : y368.length = (ji23 : Int).toNat := (by rw [Ny368.out, List.length_take]; omega)
          rw [← Ny368.out] at hr62
          rw [← hy62] at hcut62
          have HR371 := am hr62
          have HC371 := am (show y368.length ≤ c350_7 from by omega)
          clear hr62 hC62 hroom62 hi062 hsz62
          have KY62 := am hy62
          clear hy62
          replace q62 := eq_true q62
          have q63 : (ji23 : Int) ≤ ((((rd_T37 y352 x25_2).f5.f2).length : Int) : Int) := of_decide_eq_true q1
          obtain ⟨i063, hi063, _, hsz63, _⟩ := info_parts info85
          have hroom63 : ((rd_T37 y352 x25_2).f5.f2).length ≤ c356_7 := HC356_7.out
          have hC63 : Kd.C k85 _ A356_7 ((rd_T37 y352 x25_2).f5.f2).length ((rd_T37 y352 x25_2).f5.f2) := HR356_7.out
          have hcut63 := cut_to (P := Try.prog) 27 85 .i64 Try.underlying27 hi063 A356_7 ((rd_T37 y352 x25_2).f5.f2).length c356_7 ji23 (of_decide_eq_true q1) q63 hroom63
          have hr63 := Kd.C_take (m := (ji23 : Int).toNat) hC63 (by omega)
          have hy63 : y372.length = (ji23 : Int).toNat := (by rw [Ny372.out, List.length_take]; omega)
          rw [← Ny372.out] at hr63
          rw [← hy63] at hcut63
          have HR375 := am hr63
          have HC375 := am (show y372.length ≤ c356_7 from by omega)
          clear hr63 hC63 hroom63 hi063 hsz63
          have KY63 := am hy63
          clear hy63
          replace q63 := eq_true q63
          refine hK.out _ _ ⟨(blk_cell BK351.out 0).trans rfl, (blk_cell BK351.out 1).trans rfl, (blk_cell BK351.out 2).trans rfl, (blk_cell BK351.out 3).trans rfl, (blk_cell BK351.out 4).trans rfl, (blk_cell BK351.out 5).trans rfl, (blk_cell BK351.out 6).trans rfl, (blk_cell BK351.out 7).trans rfl, (blk_cell BK351.out 8).trans rfl, (blk_cell BK351.out 9).trans rfl, (blk_cell BK357.out 0).trans rfl, (blk_cell BK357.out 1).trans rfl, (blk_cell BK357.out 2).trans rfl, (blk_cell BK357.out 3).trans rfl, (blk_cell BK357.out 4).trans rfl, (blk_cell BK357.out 5).trans rfl, (blk_cell BK357.out 6).trans rfl, (blk_cell BK357.out 7).trans rfl, (blk_cell BK357.out 8).trans rfl, (blk_cell BK357.out 9).trans rfl⟩ (fun hHeld => ?_)
          clear hK K
          refine norm_ (a' := ?_) ?_ ?_
          rotate_left
          · show Act.put _ (some 64) _ = _
            simp only [Act.put, la, lb, lc, i64_w, i32_w]
            rfl
          refine pV 11 65 (bt 12 26) ?_
          refine pV 12 66 (bt 13 26) ?_
          refine pV 13 67 (bt 14 26) ?_
          refine pV 14 68 (bt 15 26) ?_
          refine pV 16 70 #[true, true, true, true, true, true, true, true, true, true, true, true, true, true, true, false, true, false, false, false, false, false, false, false, false, false] ?_
          refine pV 18 72 #[true, true, true, true, true, true, true, true, true, true, true, true, true, true, true, false, true, false, true, false, false, false, false, false, false, false] ?_
          refine pV 19 73 #[true, true, true, true, true, true, true, true, true, true, true, true, true, true, true, false, true, false, true, true, false, false, false, false, false, false] ?_
          refine pV 21 75 #[true, true, true, true, true, true, true, true, true, true, true, true, true, true, true, false, true, false, true, true, false, true, false, false, false, false] ?_
          refine tV 15 69 #[true, true, true, true, true, true, true, true, true, true, true, true, true, true, true, true, true, false, true, true, false, true, false, false, false, false] ?_
          refine pV 17 71 #[true, true, true, true, true, true, true, true, true, true, true, true, true, true, true, true, true, true, true, true, false, true, false, false, false, false] ?_
          refine tV 20 74 (bt 22 26) ?_
          refine pV 22 76 (bt 23 26) ?_
          refine one_ (i := 23) (N := some 77) #[true, true, true, true, true, true, true, true, true, true, true, true, true, true, true, true, true, true, true, true, true, true, true, true, false, false] rfl rfl (one_of HT_.out kr) (by decide) (fun K hK => ?_)
          refine goes_ Try.func103 kr rfl #[.slice A350_7 y368.length c350_7, .slice A356_7 y372.length c356_7] (by rfl) rfl rfl q0 ?_
          with_reducible refine (impl_Entry_103.calls kj23 _ _ y368 _ _ y372 t376 _ ?side1 ?side2 ?side3 ?side4 A58.out).mono ?_
          (case side1 => exact (by repeat (first | exact (Kd.C_below HR371.out q2) | (with_reducible refine Kd.C_alloc ?_ _) | (with_reducible refine Kd.C_drewN ?_ _) | (with_reducible refine Kd.C_drew ?_))))
          (case side2 => exact HC371.out)
          (case side3 => exact (by repeat (first | exact (Kd.C_below HR375.out q2) | (with_reducible refine Kd.C_alloc ?_ _) | (with_reducible refine Kd.C_drewN ?_ _) | (with_reducible refine Kd.C_drew ?_))))
          (case side4 => exact HC375.out)
          rintro e w' ⟨rfl, ⟨nd, rfl⟩⟩
          refine ⟨_, rfl, ?_⟩
          refine hK.out _ _ ⟨(blk_cell BK351.out 0).trans rfl, (blk_cell BK351.out 1).trans rfl, (blk_cell BK351.out 2).trans rfl, (blk_cell BK351.out 3).trans rfl, (blk_cell BK351.out 4).trans rfl, (blk_cell BK351.out 5).trans rfl, (blk_cell BK351.out 6).trans rfl, (blk_cell BK351.out 7).trans rfl, (blk_cell BK351.out 8).trans rfl, (blk_cell BK351.out 9).trans rfl, (blk_cell BK357.out 0).trans rfl, (blk_cell BK357.out 1).trans rfl, (blk_cell BK357.out 2).trans rfl, (blk_cell BK357.out 3).trans rfl, (blk_cell BK357.out 4).trans rfl, (blk_cell BK357.out 5).trans rfl, (blk_cell BK357.out 6).trans rfl, (blk_cell BK357.out 7).trans rfl, (blk_cell BK357.out 8).trans rfl, (blk_cell BK357.out 9).trans rfl⟩ (fun hHeld => ?_)
          clear hK K
          refine norm_ (a' := ?_) ?_ ?_
          rotate_left
          · show Act.put _ (some 77) _ = _
            simp only [Act.put, la, lb, lc, i64_w, i32_w]
            rfl
          refine pV 24 78 (bt 25 26) ?_
          refine pV 25 79 (bt 26 26) ?_
          refine done_ (done_of HT_.out kr) ?_
          go_upto_if 79 with (fail)
          have H := H9.out
          clear H9
          by_cases c64 : t376 = true
          rotate_left
          · replace c64 := Bool.eq_false_iff.mpr c64
            subst c64
            rw [nf] at H
            obtain rfl := sj H
            go_wp2
            go_ret
            exact ⟨by first | rfl | (simp [errW_none, errW_some] <;> rfl) | (simp only [← hji23]; first | rfl | (simp [errW_none, errW_some] <;> rfl)) | (simp [*, errW_none, errW_some] <;> rfl), q2⟩
          subst c64
          rw [if_pos rfl] at H
          have H' := am H
          clear H
          go_wp2
          go_roundg kj23
          case measure => have := HK1.out; have := HK2.out; have := HJ23.out; omega
          case rel => exact ⟨(wrap64 (x25_2 + 1)), q3, H', ⟨(by have := HK1.out; have := HK2.out; have := HJ23.out; omega)⟩, ⟨u22_1⟩, ⟨u22_4⟩, ⟨q2⟩⟩

end Go.Proofs.Ytkcadcoohmofcaa.QFnExactSafeGroup
