-- Printed by the session's own program wip/prx.py.
import Derived.Test.YtfabcjkaoidmeaaQFnExactOwnersx0
import Derived.Test.YtfabcjkaoidmeaaQFnExactOwnersx2
namespace Go.Proofs.Ytfabcjkaoidmeaa.QFnExactOwners
open Go.RowKit Go.Proofs.YtfabcjkaoidmeaaW.PrintWords Go.Proofs.YtfabcjkaoidmeaaW.PrintLast Go.Proofs.YtfabcjkaoidmeaaW.PrintMore
attribute [local go_sem] max2_int min2_int max_two min_two max_three min_three max_four min_four Go.Proofs.Ytfabcjkaoidmeaa.Set.isSome_setCell   -- for this text's walks alone
set_option linter.unusedVariables false
set_option linter.unusedSimpArgs false

-- squeezed
theorem u3_0 {P : Prop} (h : P := by repeat (first | (with_reducible first | exact HB.out | apply below_alloc | apply pw_below_drewN | apply below_drew1) | exact HB.out)) : P := h
theorem u3_1 {P : Prop} (h : P := by repeat (first | (with_reducible first | exact HB.out | apply below_alloc | apply pw_below_drewN | apply below_drew1 | refine below_set ?_ GE131.out) | exact HB.out)) : P := h
theorem u3_2 {P : Prop} (h : P := by (try simp only [List.map_toArray, List.map_cons, List.map_nil]); first | done | rfl | (simp only [List.length_drop, List.length_take]; rfl)) : P := h
/-! ### slices_Sort_int_int: function 64 -/
def slices_Sort_int_int.enc (x : Int) : List Value := [.int .i64 x]
theorem slices_Sort_int_int.flat : Go.Proofs.Ytfabcjkaoidmeaa.Slc.Flat (Kd.int .i64) slices_Sort_int_int.enc := ⟨fun w base ok x => rfl, fun h => h⟩
theorem slices_Sort_int_int.cells (l : List Int) : Go.Proofs.Ytfabcjkaoidmeaa.Slc.cellsOf slices_Sort_int_int.enc l = l.map (Value.int .i64) := by
  induction l with
  | nil => rfl
  | cons x l ih => simpa [Go.Proofs.Ytfabcjkaoidmeaa.Slc.cellsOf, slices_Sort_int_int.enc] using ih
theorem slices_Sort_int_int.holds {w : World} {g n : Nat} {cur : Array Value} {l : List Int} (hb : w.heap[g]? = some (.cells cur 3 (0, 0))) (ht : cur.toList.take (l.length * 1) = Go.Proofs.Ytfabcjkaoidmeaa.Slc.cellsOf slices_Sort_int_int.enc l) : Go.Sort.Holds (Value.int .i64) w g 0 l.toArray := by
  intro j hj
  have hj' : j < l.length := by simpa using hj
  rw [slices_Sort_int_int.cells] at ht
  refine ⟨?_, by rw [Nat.zero_add]; exact blk_frozen hb j⟩
  rw [Nat.zero_add, blk_cell hb]
  have h1 : cur[j]? = (l.map (Value.int .i64))[j]? := by rw [← ht, List.getElem?_take_of_lt (by omega), Array.getElem?_toList]
  rw [h1, List.getElem?_map, List.getElem?_eq_getElem hj', getElem!_pos _ j hj]
  simp
/-- The row when its first cells are written. -/
theorem slices_Sort_int_int.put {w w0 : World} {P : Nat → Prop} {g n c m q : Nat} {cur : Array Value} {ys ws : List Int} {os : Array Obj} (hB : Below w0.heap.size w0 w) (hg : w0.heap.size ≤ g) (hP : P g) (hb : w.heap[g]? = some (.cells cur 3 (0, 0))) (hs : cur.size = c * 1) (hn : n ≤ c) (hm : c ≤ maxLen) (hy : ys.length = n) (hw : ws = ys.take m) (hmn : m ≤ n) :
    Kd.R (Kd.int .i64) 3 (Go.Sort.grow ((w.drewN q).setCells g 0 (ys.map (Value.int .i64))) os) w0.heap.size (fun k_ => (P k_ ∨ w.heap.size ≤ k_)) (.slice (some ⟨g, 0, none⟩) m c) ws ∧ Below w0.heap.size w0 (Go.Sort.grow ((w.drewN q).setCells g 0 (ys.map (Value.int .i64))) os) ∧ Kept w (Go.Sort.grow ((w.drewN q).setCells g 0 (ys.map (Value.int .i64))) os) (fun k_ => P k_) := by
  obtain ⟨W, hW⟩ : ∃ W, W = (w.drewN q).setCells g 0 (ys.map (Value.int .i64)) := ⟨_, rfl⟩
  obtain ⟨cur', h1, h2, h3, h4⟩ := Go.Proofs.Ytfabcjkaoidmeaa.Slc.setCells_blk g 3 (ys.map (Value.int .i64)) 0 (w.drewN q) cur hb
  have hBW : Below w0.heap.size w0 W := by rw [hW]; exact Go.Proofs.Ytfabcjkaoidmeaa.Slc.below_setCells hg _ _ (pw_below_drewN hB q)
  have hKW : Kept w W (fun k_ => P k_) := by rw [hW]; exact Go.Proofs.Ytfabcjkaoidmeaa.Slc.kept_setCells (.inl hP) _ _ (Kept.drewN (Kept.refl w _) q)
  rw [← hW] at h1 ⊢
  have hlt : g < W.heap.size := blk_lt h1
  have up : ∀ i, i < W.heap.size → (Go.Sort.grow W os).heap[i]? = W.heap[i]? := fun i hi => Array.getElem?_append_left hi
  have hsz : W.heap.size ≤ (Go.Sort.grow W os).heap.size := by simp [Go.Sort.grow]
  refine ⟨slices_Sort_int_int.flat.row ((up g hlt).trans h1) hg (.inl hP) (by rw [hw, List.length_take]; omega) (by omega) hm (h2.trans hs) ?_, ⟨hBW.os, hBW.tape, hBW.output, Nat.le_trans hBW.size hsz, fun i hi => (up i (Nat.lt_of_lt_of_le hi hBW.size)).trans (hBW.block i hi)⟩, ⟨Nat.le_trans hKW.1 hsz, fun i hi hn => (up i (Nat.lt_of_lt_of_le hi hKW.1)).trans (hKW.2 i hi hn)⟩⟩
  rw [slices_Sort_int_int.cells, hw]
  show cur'.toList.take (m * 1) = _
  rw [Nat.mul_one]
  apply List.ext_getElem?
  intro j
  by_cases hj : j < m
  rotate_left
  · rw [List.getElem?_eq_none (by rw [List.length_take]; omega), List.getElem?_eq_none (by rw [List.length_map, List.length_take]; omega)]
  have := h4 j (by rw [List.length_map]; omega) (by omega)
  rw [Nat.zero_add] at this
  rw [List.getElem?_take_of_lt hj, Array.getElem?_toList, this, List.map_take, List.getElem?_take_of_lt hj]
def slices_Sort_int_int.f (l0 : List Int) : Option (List Int) := if l0.length < 4611686018427387904 then some (l0.mergeSort fun x y => decide (x ≤ y)) else none
theorem slices_Sort_int_int.calls (P0_ : Nat → Prop) (u9000_ : Value) (l0 : List Int) (r : List Int) (w0 w : World) (hB : Below w0.heap.size w0 w) (ho0 : Kd.R (Kd.int .i64) 3 w w0.heap.size P0_ u9000_ l0) (h : slices_Sort_int_int.f l0 = some r) :
    Calls Try.prog 64 #[u9000_] w fun e w' => e = .returned (.tuple #[]) ∧ Kd.R (Kd.int .i64) 3 w' w0.heap.size (fun k_ => (P0_ k_ ∨ w.heap.size ≤ k_)) u9000_ r ∧ Below w0.heap.size w0 w' ∧ Kept w w' (fun k_ => P0_ k_) := by
  unfold slices_Sort_int_int.f at h
  by_cases hl : l0.length < 4611686018427387904
  rotate_left
  · rw [if_neg hl] at h; cases h
  rw [if_pos hl] at h
  obtain rfl := Option.some.inj h
  by_cases h0 : 0 < l0.length
  rotate_left
  · have hn : l0 = [] := List.eq_nil_of_length_eq_zero (by omega)
    subst hn
    obtain ⟨A0, c0, rfl, _, _⟩ := Kd.R_reads ho0
    refine (Go.Proofs.Ytfabcjkaoidmeaa.Shelf.Try.slices_Sort_int_none A0 c0 w).mono ?_
    rintro e w' ⟨rfl, rfl⟩
    exact ⟨rfl, (by simpa using Kd.R_mono ho0 (fun k hk => .inl hk)), hB, Kept.refl _ _⟩
  obtain ⟨g, c, cur, rfl, hg, hP, hb, hc, hm, hs, ht⟩ := slices_Sort_int_int.flat.block ho0 h0
  have hH := slices_Sort_int_int.holds (n := 0) hb ht
  refine (Go.Proofs.Ytfabcjkaoidmeaa.Shelf.Try.slices_Sort_int g 0 c l0 w hH (blk_lt hb) hl).mono ?_
  rintro e w' ⟨rfl, q, os, rfl⟩
  rw [Lib.putRow_eq_setCells _ w g 0 _ _ q hH (by simp)]
  have hp := slices_Sort_int_int.put (q := q) (os := os) (m := l0.length) hB hg hP hb hs hc hm (ys := l0.mergeSort fun x y => decide (x ≤ y)) (n := l0.length) (by simp) (ws := l0.mergeSort fun x y => decide (x ≤ y)) (by rw [List.take_of_length_le (by simp)]) (Nat.le_refl _)
  exact ⟨rfl, hp⟩


/-! ### slices_Compact_int_int: function 65 -/
def slices_Compact_int_int.enc (x : Int) : List Value := [.int .i64 x]
theorem slices_Compact_int_int.flat : Go.Proofs.Ytfabcjkaoidmeaa.Slc.Flat (Kd.int .i64) slices_Compact_int_int.enc := ⟨fun w base ok x => rfl, fun h => h⟩
theorem slices_Compact_int_int.cells (l : List Int) : Go.Proofs.Ytfabcjkaoidmeaa.Slc.cellsOf slices_Compact_int_int.enc l = l.map (Value.int .i64) := by
  induction l with
  | nil => rfl
  | cons x l ih => simpa [Go.Proofs.Ytfabcjkaoidmeaa.Slc.cellsOf, slices_Compact_int_int.enc] using ih
theorem slices_Compact_int_int.holds {w : World} {g n : Nat} {cur : Array Value} {l : List Int} (hb : w.heap[g]? = some (.cells cur 3 (0, 0))) (ht : cur.toList.take (l.length * 1) = Go.Proofs.Ytfabcjkaoidmeaa.Slc.cellsOf slices_Compact_int_int.enc l) : Go.Sort.Holds (Value.int .i64) w g 0 l.toArray := by
  intro j hj
  have hj' : j < l.length := by simpa using hj
  rw [slices_Compact_int_int.cells] at ht
  refine ⟨?_, by rw [Nat.zero_add]; exact blk_frozen hb j⟩
  rw [Nat.zero_add, blk_cell hb]
  have h1 : cur[j]? = (l.map (Value.int .i64))[j]? := by rw [← ht, List.getElem?_take_of_lt (by omega), Array.getElem?_toList]
  rw [h1, List.getElem?_map, List.getElem?_eq_getElem hj', getElem!_pos _ j hj]
  simp
/-- The row when its first cells are written. -/
theorem slices_Compact_int_int.put {w w0 : World} {P : Nat → Prop} {g n c m q : Nat} {cur : Array Value} {ys ws : List Int} {os : Array Obj} (hB : Below w0.heap.size w0 w) (hg : w0.heap.size ≤ g) (hP : P g) (hb : w.heap[g]? = some (.cells cur 3 (0, 0))) (hs : cur.size = c * 1) (hn : n ≤ c) (hm : c ≤ maxLen) (hy : ys.length = n) (hw : ws = ys.take m) (hmn : m ≤ n) :
    Kd.R (Kd.int .i64) 3 (Go.Sort.grow ((w.drewN q).setCells g 0 (ys.map (Value.int .i64))) os) w0.heap.size (fun k_ => (P k_ ∨ w.heap.size ≤ k_)) (.slice (some ⟨g, 0, none⟩) m c) ws ∧ Below w0.heap.size w0 (Go.Sort.grow ((w.drewN q).setCells g 0 (ys.map (Value.int .i64))) os) ∧ Kept w (Go.Sort.grow ((w.drewN q).setCells g 0 (ys.map (Value.int .i64))) os) (fun k_ => P k_) := by
  obtain ⟨W, hW⟩ : ∃ W, W = (w.drewN q).setCells g 0 (ys.map (Value.int .i64)) := ⟨_, rfl⟩
  obtain ⟨cur', h1, h2, h3, h4⟩ := Go.Proofs.Ytfabcjkaoidmeaa.Slc.setCells_blk g 3 (ys.map (Value.int .i64)) 0 (w.drewN q) cur hb
  have hBW : Below w0.heap.size w0 W := by rw [hW]; exact Go.Proofs.Ytfabcjkaoidmeaa.Slc.below_setCells hg _ _ (pw_below_drewN hB q)
  have hKW : Kept w W (fun k_ => P k_) := by rw [hW]; exact Go.Proofs.Ytfabcjkaoidmeaa.Slc.kept_setCells (.inl hP) _ _ (Kept.drewN (Kept.refl w _) q)
  rw [← hW] at h1 ⊢
  have hlt : g < W.heap.size := blk_lt h1
  have up : ∀ i, i < W.heap.size → (Go.Sort.grow W os).heap[i]? = W.heap[i]? := fun i hi => Array.getElem?_append_left hi
  have hsz : W.heap.size ≤ (Go.Sort.grow W os).heap.size := by simp [Go.Sort.grow]
  refine ⟨slices_Compact_int_int.flat.row ((up g hlt).trans h1) hg (.inl hP) (by rw [hw, List.length_take]; omega) (by omega) hm (h2.trans hs) ?_, ⟨hBW.os, hBW.tape, hBW.output, Nat.le_trans hBW.size hsz, fun i hi => (up i (Nat.lt_of_lt_of_le hi hBW.size)).trans (hBW.block i hi)⟩, ⟨Nat.le_trans hKW.1 hsz, fun i hi hn => (up i (Nat.lt_of_lt_of_le hi hKW.1)).trans (hKW.2 i hi hn)⟩⟩
  rw [slices_Compact_int_int.cells, hw]
  show cur'.toList.take (m * 1) = _
  rw [Nat.mul_one]
  apply List.ext_getElem?
  intro j
  by_cases hj : j < m
  rotate_left
  · rw [List.getElem?_eq_none (by rw [List.length_take]; omega), List.getElem?_eq_none (by rw [List.length_map, List.length_take]; omega)]
  have := h4 j (by rw [List.length_map]; omega) (by omega)
  rw [Nat.zero_add] at this
  rw [List.getElem?_take_of_lt hj, Array.getElem?_toList, this, List.map_take, List.getElem?_take_of_lt hj]
def slices_Compact_int_int.f (l0 : List Int) : Option (List Int) := if l0.length < 4611686018427387904 then some (Lib.compact l0) else none
theorem slices_Compact_int_int.calls (P0_ : Nat → Prop) (u9000_ : Value) (l0 : List Int) (r : List Int) (w0 w : World) (hB : Below w0.heap.size w0 w) (ho0 : Kd.R (Kd.int .i64) 3 w w0.heap.size P0_ u9000_ l0) (h : slices_Compact_int_int.f l0 = some r) :
    Calls Try.prog 65 #[u9000_] w fun e w' => ∃ v0_ : Value, e = .returned (v0_) ∧ Kd.R (Kd.int .i64) 3 w' w0.heap.size (fun k_ => (P0_ k_ ∨ w.heap.size ≤ k_)) v0_ r ∧ Below w0.heap.size w0 w' ∧ Kept w w' (fun k_ => P0_ k_) := by
  unfold slices_Compact_int_int.f at h
  by_cases hl : l0.length < 4611686018427387904
  rotate_left
  · rw [if_neg hl] at h; cases h
  rw [if_pos hl] at h
  obtain rfl := Option.some.inj h
  by_cases h0 : 0 < l0.length
  rotate_left
  · have hn : l0 = [] := List.eq_nil_of_length_eq_zero (by omega)
    subst hn
    obtain ⟨A0, c0, rfl, _, _⟩ := Kd.R_reads ho0
    refine (Go.Proofs.Ytfabcjkaoidmeaa.Shelf.Try.slices_Compact_int_empty A0 c0 w).mono ?_
    rintro e w' ⟨rfl, rfl⟩
    refine ⟨_, rfl, ?_, hB, Kept.refl _ _⟩
    rw [show Lib.compact ([] : List Int) = [] from rfl]
    simpa using Kd.R_mono (ok' := fun k_ => (P0_ k_ ∨ w'.heap.size ≤ k_)) ho0 (fun k hk => .inl hk)
  obtain ⟨g, c, cur, rfl, hg, hP, hb, hc, hm, hs, ht⟩ := slices_Compact_int_int.flat.block ho0 h0
  have hH := slices_Compact_int_int.holds (n := 0) hb ht
  refine (Go.Proofs.Ytfabcjkaoidmeaa.Shelf.Try.slices_Compact_int g 0 c l0 w hH (by omega) hc).mono ?_
  rintro e w' ⟨rfl, q, rfl⟩
  have hcl : (Lib.compact l0).length ≤ l0.length := Lib.compact_length_le l0
  rw [Lib.putRow_eq_setCells _ w g 0 _ _ q hH (by simp; omega)]
  have hp := slices_Compact_int_int.put (q := q) (os := #[]) (m := (Lib.compact l0).length) hB hg hP hb hs hc hm (ys := Lib.compact l0 ++ List.replicate (l0.length - (Lib.compact l0).length) 0) (n := l0.length) (by simp; omega) (ws := Lib.compact l0) (by simp) hcl
  rw [Go.Sort.grow_empty] at hp
  exact ⟨_, rfl, hp⟩


/-! ### impl_Owners: function 37 -/
def impl_Owners.l0 : Nat → List Int → List (S26) → Int → Int → Option (List Int)
  | 0, _, _, _, _ => none
  | k + 1, x3, x10, x11, x12 => if x12 < x11 then (if 0 ≤ x12 then (if x12 < (x10.length : Int) then (if x3.length < 17592186044416 then (impl_Owners.l0 k (x3 ++ [(rd_T26 x10 x12).f2]) x10 x11 (wrap64 (x12 + 1))) else (none)) else (none)) else (none)) else ((slices_Sort_int_int.f x3).bind fun t135 => ((slices_Compact_int_int.f t135).bind fun t136 => (some t136)))
def impl_Owners.f (k : Nat) (l0 : List (S26)) : Option (List Int) := (impl_areRanges.f k l0).bind fun t126 => (if t126 = true then (impl_Owners.l0 k (([] : List Int)) l0 (l0.length : Int) 0) else (some ([] : List Int)))
theorem impl_Owners.mono_l : ∀ k, (∀ y0 y1 y2 y3, LeO (impl_Owners.l0 k y0 y1 y2 y3) (impl_Owners.l0 (k + 1) y0 y1 y2 y3))
  | 0 => fun _ _ _ _ r h => by simp [impl_Owners.l0] at h
  | k + 1 => by
    have ih0 := impl_Owners.mono_l k
    · intro y0 y1 y2 y3
      unfold impl_Owners.l0
      repeat' first
      | (with_reducible exact ih0 _ _ _ _)
      | (with_reducible exact impl_areRanges.mono _ _)
      | (with_reducible exact LeO.refl _)
      | (with_reducible exact LeO.none _)
      | (with_reducible refine LeO.ite ?_ ?_)
      | (with_reducible refine LeO.bind ?_ (fun _ => ?_))
      | exact ih0 _ _ _ _
      | exact impl_areRanges.mono _ _
      | exact LeO.none _
      | refine LeO.ite ?_ ?_
      | refine LeO.bind ?_ (fun _ => ?_)
theorem impl_Owners.mono : ∀ a0 k, LeO (impl_Owners.f k a0) (impl_Owners.f (k + 1) a0) := by
  intro a0 k
  have ih0 := impl_Owners.mono_l k
  unfold impl_Owners.f
  repeat' first
      | (with_reducible exact ih0 _ _ _ _)
      | (with_reducible exact impl_areRanges.mono _ _)
      | (with_reducible exact LeO.refl _)
      | (with_reducible exact LeO.none _)
      | (with_reducible refine LeO.ite ?_ ?_)
      | (with_reducible refine LeO.bind ?_ (fun _ => ?_))
      | exact ih0 _ _ _ _
      | exact impl_areRanges.mono _ _
      | exact LeO.none _
      | refine LeO.ite ?_ ?_
      | refine LeO.bind ?_ (fun _ => ?_)
set_option maxHeartbeats 8000000 in
set_option maxRecDepth 100000 in
theorem impl_Owners.calls (k : Nat) (A0 : Option Addr) (c0 : Nat) (l0 : List (S26)) (r : List Int) (w : World) (hr0 : Kd.C k26 w A0 l0.length l0) (hc0 : l0.length ≤ c0) (h : impl_Owners.f k l0 = some r) :
    Calls Try.prog 37 #[.slice A0 l0.length c0] w fun e w' => ∃ v0_ : Value, e = .returned (v0_) ∧ Kd.R (Kd.int .i64) 3 w' w.heap.size (fun _ => True) v0_ r ∧ Below w.heap.size w w' := by
  have hu26 := Try.underlying26
  have HR0 := Aside0.mk hr0
  have HC0 := Aside0.mk hc0
  clear hr0 hc0
  have HB := Aside0.mk (Below.refl w.heap.size w)
  have H : ((impl_areRanges.f k l0).bind fun t126 => (if t126 = true then (impl_Owners.l0 k (([] : List Int)) l0 (l0.length : Int) 0) else (some ([] : List Int)))) = some r := h
  clear h
  replace H := Option.bind_eq_some_iff.mp H
  obtain ⟨t126, A20, H⟩ := H
  replace H : (if t126 = true then (impl_Owners.l0 k (([] : List Int)) l0 (l0.length : Int) 0) else (some ([] : List Int))) = some r := H
  have A2 := Aside0.mk A20
  clear A20
  have H9 := Aside0.mk H
  clear H
  go_enter Try.func37, Try.ntmps37
  go_upto_if 8 with (first | ((with_reducible refine gate_callee (f := 56) rfl ?_); refine goesL_ (some 7) rfl rfl Try.func56 (by kernel_rfl) rfl #[.slice A0 l0.length c0] rfl u3_2 ?_; (with_reducible refine (impl_areRanges.calls k _ _ l0 t126 _ ?side1 ?side2 A2.out).mono ?_); (case side1 => exact (by repeat (first | exact HR0.out | (with_reducible refine Kd.C_alloc ?_ _) | (with_reducible refine Kd.C_drewN ?_ _) | (with_reducible refine Kd.C_drew ?_)))); (case side2 => exact HC0.out); rintro e w3 ⟨rfl, hb⟩; refine ⟨_, rfl, ?_⟩; have n0_ := Aside0.mk (below_step u3_0 hb); clear HB; have HB := n0_; clear n0_; (try clear hb); (try clear hb2); (try clear hk); (try clear hi)))
  have H := H9.out
  clear H9
  by_cases c4 : t126 = true
  rotate_left
  · replace c4 := Bool.eq_false_iff.mpr c4
    subst c4
    have H1 : (some ([] : List Int)) = some r := by rw [if_neg (show ¬ (false = true) by decide)] at H; exact H
    clear H
    have H := H1
    clear H1
    obtain rfl := Option.some.inj H
    go_wp2
    go_ret
    exact ⟨_, by first | rfl | (simp [errW_none, errW_some] <;> rfl) | (simp [*, errW_none, errW_some] <;> rfl), (by first | exact Kd.R_nil _ _ _ _ _ | exact Kd.N_nil _ _ _ _ _ | exact Kd.V_nil _ _ _ _ _ | exact Kd.Q_nil _ _ _ _ _ | exact Kd.S_nil _ _ _ _ _), u3_0⟩
  subst c4
  have H1 : (impl_Owners.l0 k (([] : List Int)) l0 (l0.length : Int) 0) = some r := by rw [if_pos rfl] at H; exact H
  clear H
  have H := H1
  clear H1
  obtain ⟨y127, hy127⟩ : ∃ y_ : List Int, y_ = (([] : List Int)) := ⟨_, rfl⟩
  replace H : (impl_Owners.l0 k y127 l0 (l0.length : Int) 0) = some r := by first | (rw [hy127]; with_reducible exact H) | (have H2_ := (Option.bind_some _ _).symm.trans H; rw [hy127]; with_reducible exact H2_) | (have H2_ := (Option.bind_some _ _).symm.trans H; with_reducible exact H2_) | with_reducible exact H | (rw [hy127]; exact H) | exact H
  have Ny127 := Aside0.mk hy127
  clear hy127
  have H' := Aside0.mk H
  clear H
  go_wp2_with (first | ((with_reducible refine gate_dst (N := 9) rfl ?_); refine Kd.R_lit (Kd.int .i64) _ 3 ?hg (N := 9) ?hd (xs := ([] : List Int)) (inner := []) (ok := fun _ => True) (okp := fun _ => True) ?hr ?hp (fun _ hk => hk) trivial (Below.refl _ _) (Nat.le_refl _) (by simp) ?_; (case hd => rfl); (case hg => rfl); (case hr => first | (go_simp; done) | (go_simp; rfl)); (case hp => exact (Reps.none _ _)); intro v128 w5 ho6 hb hg_ hnew_; clear hg_ hnew_; (first | rw [← Ny127.out] at ho6 | (simp only [Int.reduceToNat] at ho6; rw [← Ny127.out] at ho6)); have n0_ := Aside0.mk (Kd.R_lower ho6 (below_size u3_0)); have n1_ := Aside0.mk (below_step u3_0 hb); clear HB; have HO129 := n0_; have HB := n1_; clear n0_ n1_; clear hb ho6))
  go_loopg [3, 12] k (fun kq v3 v12 w' => ∃ (x3_1 : List Int) (x12_1 : Int), v12 = .int .i64 x12_1 ∧ Aside0 (impl_Owners.l0 kq x3_1 l0 (l0.length : Int) x12_1 = some r) ∧ Aside0 (kq ≤ k) ∧ Aside0 (Kd.R (Kd.int .i64) 3 w' w.heap.size (fun _ => True) v3 x3_1) ∧ Aside0 (Below w.heap.size w w'))
  case atStart => exact ⟨(y127), (0), (by first | rfl | (simp; done) | (simp [*]; done)), H', ⟨Nat.le_refl _⟩, ⟨(by (with_reducible repeat (first | apply Kd.R_alloc | apply Kd.R_drewN | apply Kd.R_drew)); exact HO129.out)⟩, ⟨u3_0⟩⟩
  clear H'
  try clear p2
  try clear c3
  try clear c4
  try clear c5
  obtain ⟨x3_1, x12_1, rfl, HA, HK1, HO_3, HB⟩ := hrel
  cases gk with
  | zero => exact absurd HA.out (by simp [impl_Owners.l0])
  | succ k1 =>
    have H := HA.out
    clear HA
    simp only [impl_Owners.l0] at H
    by_cases c7 : x12_1 < (l0.length : Int)
    rotate_left
    · rw [if_neg c7] at H
      have c7b0 : decide (x12_1 < (l0.length : Int)) = false := decide_eq_false c7
      clear c7
      (first | rw [c7b0] | (simp only [i64_w, i32_w]; rw [c7b0]) | skip)
      replace H := Option.bind_eq_some_iff.mp H
      obtain ⟨t135, A140, H⟩ := H
      replace H : ((slices_Compact_int_int.f t135).bind fun t136 => (some t136)) = some r := H
      have A14 := Aside0.mk A140
      clear A140
      replace H := Option.bind_eq_some_iff.mp H
      obtain ⟨t136, A150, H⟩ := H
      replace H : (some t136) = some r := H
      have A15 := Aside0.mk A150
      clear A150
      obtain rfl := Option.some.inj H
      obtain ⟨Ao16, co16, eo16⟩ := Kd.R_slice HO_3.out
      subst eo16
      go_wp2_with (first | ((with_reducible refine gate_callee (f := 64) rfl ?_); refine goesL_ (some 23) rfl rfl Try.func64 (by kernel_rfl) rfl #[.slice Ao16 x3_1.length co16] rfl u3_2 ?_; (with_reducible refine (slices_Sort_int_int.calls (fun k_ => some k_ = (.slice Ao16 x3_1.length co16 : Value).ownBlock) (.slice Ao16 x3_1.length co16) x3_1 t135 w _ ?side1 ?side2 A14.out).mono ?_); (case side1 => exact u3_0); (case side2 => exact Kd.R_tight rfl HO_3.out); rintro e w17 ⟨rfl, hy0, hb, hkp⟩; refine ⟨_, rfl, ?_⟩; have n0_ := Aside0.mk (Kd.R_reok rfl hy0 (fun k_ e_ => HO_3.out.1 k_ e_)); have n1_ := Aside0.mk (hb); clear HO_3; clear HB; have HO_3 := n0_; have HB := n1_; clear n0_ n1_; (try clear hb); (try clear hkp); (try clear hy0)) | ((with_reducible refine gate_callee (f := 65) rfl ?_); refine goesL_ (some 25) rfl rfl Try.func65 (by kernel_rfl) rfl #[.slice Ao16 x3_1.length co16] rfl u3_2 ?_; (with_reducible refine (slices_Compact_int_int.calls (fun k_ => some k_ = (.slice Ao16 x3_1.length co16 : Value).ownBlock) (.slice Ao16 x3_1.length co16) t135 t136 w _ ?side1 ?side2 A15.out).mono ?_); (case side1 => exact u3_0); (case side2 => exact Kd.R_tight rfl HO_3.out); rintro e w18 ⟨v137, rfl, ho0, hb, hkp⟩; refine ⟨_, rfl, ?_⟩; have n0_ := Aside0.mk (Kd.R_mono (ok' := fun k_ => True) ho0 (fun k_ hk_ => trivial)); have n1_ := Aside0.mk (hb); clear HB; clear HO_3; have HO138 := n0_; have HB := n1_; clear n0_ n1_; (try clear hb); (try clear hkp); (try clear ho0)))
      go_ret
      exact ⟨_, by first | rfl | (simp [errW_none, errW_some] <;> rfl) | (simp [*, errW_none, errW_some] <;> rfl), (by (with_reducible repeat (first | apply Kd.R_alloc | apply Kd.R_drewN | apply Kd.R_drew)); exact HO138.out), u3_0⟩
    rw [if_pos c7] at H
    have c7b0 : decide (x12_1 < (l0.length : Int)) = true := decide_eq_true c7
    clear c7
    (first | rw [c7b0] | (simp only [i64_w, i32_w]; rw [c7b0]) | skip)
    by_cases c8 : 0 ≤ x12_1
    rotate_left
    · rw [if_neg c8] at H
      exact absurd H (by simp)
    rw [if_pos c8] at H
    have c8b0 : decide (0 ≤ x12_1) = true := decide_eq_true c8
    clear c8
    by_cases c9 : x12_1 < (l0.length : Int)
    rotate_left
    · rw [if_neg c9] at H
      exact absurd H (by simp)
    rw [if_pos c9] at H
    have c9b0 : decide (x12_1 < (l0.length : Int)) = true := decide_eq_true c9
    clear c9
    by_cases c10 : x3_1.length < 17592186044416
    rotate_left
    · rw [if_neg c10] at H
      exact absurd H (by simp)
    rw [if_pos c10] at H
    have LMc10 := Aside0.mk c10
    clear c10
    obtain ⟨y132, hy132⟩ : ∃ y_ : List Int, y_ = (x3_1 ++ [(rd_T26 l0 x12_1).f2]) := ⟨_, rfl⟩
    replace H : (impl_Owners.l0 k1 y132 l0 (l0.length : Int) (wrap64 (x12_1 + 1))) = some r := by first | (rw [hy132]; with_reducible exact H) | (have H2_ := (Option.bind_some _ _).symm.trans H; rw [hy132]; with_reducible exact H2_) | (have H2_ := (Option.bind_some _ _).symm.trans H; with_reducible exact H2_) | with_reducible exact H | (rw [hy132]; exact H) | exact H
    have Ny132 := Aside0.mk hy132
    clear hy132
    have H' := Aside0.mk H
    clear H
    have p130 : 0 ≤ (x12_1 : Int) := of_decide_eq_true (by first | (with_reducible assumption) | assumption)
    have q130 : x12_1 < (l0.length : Int) := of_decide_eq_true (by first | (with_reducible assumption) | assumption)
    obtain ⟨ad130, e130, hx130_0, hx130_1, hx130_2⟩ := at_T26 HR0.out x12_1 p130 q130
    cases e130
    replace hx130_0 := (HB.out.cell (World.block_lt_of_cell? w _ hx130_0)).trans hx130_0
    replace hx130_1 := (HB.out.cell (World.block_lt_of_cell? w _ hx130_1)).trans hx130_1
    replace hx130_2 := (HB.out.cell (World.block_lt_of_cell? w _ hx130_2)).trans hx130_2
    replace p130 := eq_true p130
    replace q130 := eq_true q130
    go_wp2_with (first | ((with_reducible refine gate_dst (N := 5) rfl ?_); refine box_event ?hg (N := 5) ?hd (cs := #[.int .u64 0, .int .u64 0, .int .i64 0]) (t := 26) ?hr ?_; (case hd => rfl); (case hg => rfl); (case hr => first | (go_simp; done) | (go_simp; rfl)); intro gb131 hg w11 hbox hb; have n0_ := Aside0.mk (Kd.R_below (by (with_reducible repeat (first | apply Kd.R_alloc | apply Kd.R_drewN | apply Kd.R_drew)); exact HO_3.out) hb); have n1_ := Aside0.mk (below_step u3_0 hb); have n2_ := Aside0.mk (hbox); have n3_ := Aside0.mk ((by rw [hg]; exact (below_size u3_0) : w.heap.size ≤ gb131)); have n4_ := Aside0.mk ((by rw [hg]; exact (below_size u3_0) : w.heap.size ≤ gb131)); clear HO_3; clear HB; have HO_3 := n0_; have HB := n1_; have BK131 := n2_; have GW131 := n3_; have GE131 := n4_; clear n0_ n1_ n2_ n3_ n4_; clear hb hbox hg; have hcz12_0 : w11.cell? ⟨gb131, 0, none⟩ = some (.int .u64 0) := (blk_cell BK131.out 0).trans rfl; have hcz12_1 : w11.cell? ⟨gb131, 1, none⟩ = some (.int .u64 0) := (blk_cell BK131.out 1).trans rfl; have hcz12_2 : w11.cell? ⟨gb131, 2, none⟩ = some (.int .i64 0) := (blk_cell BK131.out 2).trans rfl; have hfz12_0 := blk_frozen BK131.out 0; have hfz12_1 := blk_frozen BK131.out 1; have hfz12_2 := blk_frozen BK131.out 2) | ((with_reducible refine gate_builtin (b := .append) (xs := #[.tmp 16, .tmp 19]) rfl ?_); at_builtin; refine Kd.R_append (Kd.int .i64) (w0 := w) w.heap.size rfl (.tmp 16) (.tmp 19) 53 3 (.int .i64 0) 8 rfl Try.underlying53 info3 rfl (by decide) (by omega) u3 x3_1 ((rd_T26 l0 x12_1).f2) [.int .i64 ((rd_T26 l0 x12_1).f2)] (fun _ => True) (fun _ => False) rfl (by first | (go_simp; done) | (go_simp; rfl)) ?aP (fun _ hk => hk.elim) ?aF ?aO ?aB ?aS ?aL ?_; (case aP => exact rfl); (case aB => exact u3_1); (case aF => exact (fun _ _ => trivial)); (case aO => exact (by (with_reducible repeat (first | apply Kd.R_alloc | apply Kd.R_drewN | apply Kd.R_drew)); exact Kd.R_mono (Kd.R_far (p := ⟨gb131, 2, none⟩) (Kd.R_far (p := ⟨gb131, 1, none⟩) (Kd.R_far (p := ⟨gb131, 0, none⟩) (Kd.R_types HO_3.out BK131.out (by decide)) (fun _ hk => hk.2) (.int .u64 ((rd_T26 l0 x12_1).f0))) (fun _ hk => hk.2) (.int .u64 ((rd_T26 l0 x12_1).f1))) (fun _ hk => hk.2) (.int .i64 ((rd_T26 l0 x12_1).f2))) (fun _ hk => trivial))); (case aS => exact (below_size u3_1)); (case aL => have := LMc10.out; omega); intro v133 w13 ho hb hg hat; rw [← Ny132.out] at ho; have n0_ := Aside0.mk (blk_grown (g := gb131) (o := .cells #[.int .u64 ((rd_T26 l0 x12_1).f0), .int .u64 ((rd_T26 l0 x12_1).f1), .int .i64 ((rd_T26 l0 x12_1).f2)] 26 (0, 0)) (by (with_reducible repeat (first | refine blk_drewN ?_ _ | refine blk_drew ?_ | refine blk_alloc ?_ _)); refine blk_put (cs := #[.int .u64 ((rd_T26 l0 x12_1).f0), .int .u64 ((rd_T26 l0 x12_1).f1), .int .i64 0]) ?_ 2 _ rfl; (with_reducible repeat (first | refine blk_drewN ?_ _ | refine blk_drew ?_ | refine blk_alloc ?_ _)); refine blk_put (cs := #[.int .u64 ((rd_T26 l0 x12_1).f0), .int .u64 0, .int .i64 0]) ?_ 1 _ rfl; (with_reducible repeat (first | refine blk_drewN ?_ _ | refine blk_drew ?_ | refine blk_alloc ?_ _)); refine blk_put (cs := #[.int .u64 0, .int .u64 0, .int .i64 0]) ?_ 0 _ rfl; (with_reducible repeat (first | refine blk_drewN ?_ _ | refine blk_drew ?_ | refine blk_alloc ?_ _)); exact BK131.out) hg (Kd.R_ne HO_3.out BK131.out (by decide))); have n1_ := Aside0.mk (hb); have n2_ := Aside0.mk (ho); clear BK131; clear HB; clear HO_3; have BK131 := n0_; have HB := n1_; have HO134 := n2_; clear n0_ n1_ n2_; clear ho hb hg hat))
    go_roundg k1
    case measure => have := HK1.out; omega
    case rel => exact ⟨(y132), (wrap64 (x12_1 + 1)), (by first | rfl | (simp; done) | (simp [*]; done)), H', ⟨by have := HK1.out; omega⟩, ⟨(by (with_reducible repeat (first | apply Kd.R_alloc | apply Kd.R_drewN | apply Kd.R_drew)); exact HO134.out)⟩, ⟨u3_1⟩⟩

/-! ### spec_l01In: function 55 -/
def spec_l01In.f (a0 : Int) (a1 : Int) (a2 : Int) : Option (Bool) := if a1 ≤ a0 then (some (decide (a0 ≤ a2))) else (some false)
set_option maxHeartbeats 8000000 in
set_option maxRecDepth 100000 in
theorem spec_l01In.calls (a0 : Int) (a1 : Int) (a2 : Int) (r : Bool) (w : World) (h : spec_l01In.f a0 a1 a2 = some r) :
    Calls Try.prog 55 #[.int .i64 a0, .int .i64 a1, .int .i64 a2] w fun e w' => e = .returned (.bool r) ∧ Drawn0 w w' := by
  have H : (if a1 ≤ a0 then (some (decide (a0 ≤ a2))) else (some false)) = some r := h
  clear h
  by_cases c4 : a1 ≤ a0
  · rw [if_pos c4] at H
    have c4b0 : decide (a1 ≤ a0) = true := decide_eq_true c4
    clear c4
    obtain rfl := Option.some.inj H
    go_enter Try.func55, Try.ntmps55
    go_wp2
    go_ret
    exact ⟨by first | rfl | (simp; done) | (simp [*]; done), (by repeat (first | exact Drawn0.refl _ | apply Drawn0.step))⟩
  rw [if_neg c4] at H
  have c4b0 : decide (a1 ≤ a0) = false := decide_eq_false c4
  clear c4
  obtain rfl := Option.some.inj H
  go_enter Try.func55, Try.ntmps55
  go_wp2
  go_ret
  exact ⟨by first | rfl | (simp; done) | (simp [*]; done), (by repeat (first | exact Drawn0.refl _ | apply Drawn0.step))⟩

end Go.Proofs.Ytfabcjkaoidmeaa.QFnExactOwners
