-- Printed by the session's own program wip/prx.py.
import Derived.Test.YtoemdmjdpikfbaaSqFnQuorums
import Derived.Test.YtoemdmjdpikfbaaQFnQuorumsx0
import Derived.Test.YtoemdmjdpikfbaaQFnQuorumsx8
import Derived.Test.YtoemdmjdpikfbaaQFnQuorumsx9
namespace Go.Proofs.Ytoemdmjdpikfbaa.QFnQuorums
open Go.RowKit Go.Proofs.YtoemdmjdpikfbaaW.PrintWords Go.Proofs.YtoemdmjdpikfbaaW.PrintLast Go.Proofs.YtoemdmjdpikfbaaW.PrintMore Go.Proofs.Ytoemdmjdpikfbaa.SqFnQuorums
attribute [local go_sem] max2_int min2_int max_two min_two max_three min_three max_four min_four Go.Proofs.Ytoemdmjdpikfbaa.Set.isSome_setCell
set_option linter.unusedVariables false
set_option linter.unusedSimpArgs false

-- squeezed
theorem u10_4 {P : Prop} (h : P := by (with_reducible repeat (first | refine blk_drewN ?_ _ | refine blk_drew ?_ | refine blk_alloc ?_ _)); exact BK468.out) : P := h
theorem u10_6 {P : Prop} (h : P := by (with_reducible repeat (first | refine blk_drewN ?_ _ | refine blk_drew ?_ | refine blk_alloc ?_ _)); exact BK469.out) : P := h
theorem u10_7 {P : Prop} (h : P := by (with_reducible repeat (first | refine blk_drewN ?_ _ | refine blk_drew ?_ | refine blk_alloc ?_ _)); exact BK513.out) : P := h
theorem u10_8 {P : Prop} (h : P := by (with_reducible repeat (first | refine blk_drewN ?_ _ | refine blk_drew ?_ | refine blk_alloc ?_ _)); refine blk_put (cs := #[.slice Ao13 t471.length co13, .slice Ao18 t474.length co18, .slice none 0 0]) ?_ 2 _ rfl; (with_reducible repeat (first | refine blk_drewN ?_ _ | refine blk_drew ?_ | refine blk_alloc ?_ _)); refine blk_put (cs := #[.slice Ao13 t471.length co13, .slice none 0 0, .slice none 0 0]) ?_ 1 _ rfl; (with_reducible repeat (first | refine blk_drewN ?_ _ | refine blk_drew ?_ | refine blk_alloc ?_ _)); refine blk_put (cs := #[.slice none 0 0, .slice none 0 0, .slice none 0 0]) ?_ 0 _ rfl; (with_reducible repeat (first | refine blk_drewN ?_ _ | refine blk_drew ?_ | refine blk_alloc ?_ _)); exact BK480.out) : P := h
theorem u10_10 {P : Prop} (h : P := by (with_reducible repeat (first | refine blk_drewN ?_ _ | refine blk_drew ?_ | refine blk_alloc ?_ _)); exact BK470.out) : P := h
theorem u10_11 {P : Prop} (h : P := by (with_reducible repeat (first | refine blk_drewN ?_ _ | refine blk_drew ?_ | refine blk_alloc ?_ _)); refine blk_far ?_ NB468_480.out _; (with_reducible repeat (first | refine blk_drewN ?_ _ | refine blk_drew ?_ | refine blk_alloc ?_ _)); refine blk_far ?_ NB468_480.out _; (with_reducible repeat (first | refine blk_drewN ?_ _ | refine blk_drew ?_ | refine blk_alloc ?_ _)); refine blk_far ?_ NB468_480.out _; (with_reducible repeat (first | refine blk_drewN ?_ _ | refine blk_drew ?_ | refine blk_alloc ?_ _)); exact BK468.out) : P := h
theorem u10_12 {P : Prop} (h : P := by (with_reducible repeat (first | refine blk_drewN ?_ _ | refine blk_drew ?_ | refine blk_alloc ?_ _)); refine blk_far ?_ NB469_480.out _; (with_reducible repeat (first | refine blk_drewN ?_ _ | refine blk_drew ?_ | refine blk_alloc ?_ _)); refine blk_far ?_ NB469_480.out _; (with_reducible repeat (first | refine blk_drewN ?_ _ | refine blk_drew ?_ | refine blk_alloc ?_ _)); refine blk_far ?_ NB469_480.out _; (with_reducible repeat (first | refine blk_drewN ?_ _ | refine blk_drew ?_ | refine blk_alloc ?_ _)); exact BK469.out) : P := h
theorem u10_13 {P : Prop} (h : P := by (with_reducible repeat (first | refine blk_drewN ?_ _ | refine blk_drew ?_ | refine blk_alloc ?_ _)); refine blk_far ?_ NB470_480.out _; (with_reducible repeat (first | refine blk_drewN ?_ _ | refine blk_drew ?_ | refine blk_alloc ?_ _)); refine blk_far ?_ NB470_480.out _; (with_reducible repeat (first | refine blk_drewN ?_ _ | refine blk_drew ?_ | refine blk_alloc ?_ _)); refine blk_far ?_ NB470_480.out _; (with_reducible repeat (first | refine blk_drewN ?_ _ | refine blk_drew ?_ | refine blk_alloc ?_ _)); exact BK470.out) : P := h
theorem u10_17 {P : Prop} (h : P := by (with_reducible repeat (first | apply Kd.R_alloc | apply Kd.R_drewN | apply Kd.R_drew)); exact (Kd.R_mono (Kd.R_far (p := ⟨gb480, 2, none⟩) (Kd.R_far (p := ⟨gb480, 1, none⟩) (Kd.R_far (p := ⟨gb480, 0, none⟩) (Kd.R_types HO473.out BK480.out (by decide)) (fun _ hk => hk.2) (.slice Ao13 t471.length co13)) (fun _ hk => hk.2) (.slice Ao18 t474.length co18)) (fun _ hk => hk.2) (.slice Ao19 t477.length co19)) (fun _ h_ => h_.1))) : P := h
theorem u10_18 {P : Prop} (h : P := by (with_reducible repeat (first | apply Kd.R_alloc | apply Kd.R_drewN | apply Kd.R_drew)); exact (Kd.R_mono (Kd.R_far (p := ⟨gb480, 2, none⟩) (Kd.R_far (p := ⟨gb480, 1, none⟩) (Kd.R_far (p := ⟨gb480, 0, none⟩) (Kd.R_types HO476.out BK480.out (by decide)) (fun _ hk => hk.2) (.slice Ao13 t471.length co13)) (fun _ hk => hk.2) (.slice Ao18 t474.length co18)) (fun _ hk => hk.2) (.slice Ao19 t477.length co19)) (fun _ h_ => h_.1))) : P := h
theorem u10_19 {P : Prop} (h : P := by (with_reducible repeat (first | apply Kd.R_alloc | apply Kd.R_drewN | apply Kd.R_drew)); exact (Kd.R_mono (Kd.R_far (p := ⟨gb480, 2, none⟩) (Kd.R_far (p := ⟨gb480, 1, none⟩) (Kd.R_far (p := ⟨gb480, 0, none⟩) (Kd.R_types HO479.out BK480.out (by decide)) (fun _ hk => hk.2) (.slice Ao13 t471.length co13)) (fun _ hk => hk.2) (.slice Ao18 t474.length co18)) (fun _ hk => hk.2) (.slice Ao19 t477.length co19)) (fun _ h_ => h_.1))) : P := h
theorem u10_20 {P : Prop} (h : P := by (with_reducible repeat (first | apply Kd.R_alloc | apply Kd.R_drewN | apply Kd.R_drew)); exact HO_481000.out) : P := h
theorem u10_21 {P : Prop} (h : P := by (with_reducible repeat (first | apply Kd.R_alloc | apply Kd.R_drewN | apply Kd.R_drew)); exact HO_481001.out) : P := h
theorem u10_23 {P : Prop} (h : P := by (with_reducible repeat (first | refine blk_drewN ?_ _ | refine blk_drew ?_ | refine blk_alloc ?_ _)); exact BK514.out) : P := h
theorem u10_26 {P : Prop} (h : P := by (with_reducible repeat (first | refine blk_drewN ?_ _ | refine blk_drew ?_ | refine blk_alloc ?_ _)); exact BK480.out) : P := h
theorem u10_27 {P : Prop} (h : P := by (with_reducible repeat (first | refine blk_drewN ?_ _ | refine blk_drew ?_ | refine blk_alloc ?_ _)); refine blk_far ?_ NB513_524.out _; (with_reducible repeat (first | refine blk_drewN ?_ _ | refine blk_drew ?_ | refine blk_alloc ?_ _)); refine blk_far ?_ NB513_524.out _; (with_reducible repeat (first | refine blk_drewN ?_ _ | refine blk_drew ?_ | refine blk_alloc ?_ _)); refine blk_far ?_ NB513_524.out _; (with_reducible repeat (first | refine blk_drewN ?_ _ | refine blk_drew ?_ | refine blk_alloc ?_ _)); exact BK513.out) : P := h
theorem u10_28 {P : Prop} (h : P := by (with_reducible repeat (first | refine blk_drewN ?_ _ | refine blk_drew ?_ | refine blk_alloc ?_ _)); refine blk_far ?_ NB514_524.out _; (with_reducible repeat (first | refine blk_drewN ?_ _ | refine blk_drew ?_ | refine blk_alloc ?_ _)); refine blk_far ?_ NB514_524.out _; (with_reducible repeat (first | refine blk_drewN ?_ _ | refine blk_drew ?_ | refine blk_alloc ?_ _)); refine blk_far ?_ NB514_524.out _; (with_reducible repeat (first | refine blk_drewN ?_ _ | refine blk_drew ?_ | refine blk_alloc ?_ _)); exact BK514.out) : P := h
theorem u10_29 {P : Prop} (h : P := by (with_reducible repeat (first | apply Kd.R_alloc | apply Kd.R_drewN | apply Kd.R_drew)); exact HO487.out) : P := h
theorem u10_31 {P : Prop} (h : P := by (with_reducible repeat (first | refine blk_drewN ?_ _ | refine blk_drew ?_ | refine blk_alloc ?_ _)); exact BK501.out) : P := h
theorem u10_32 {P : Prop} (h : P := by (with_reducible repeat (first | refine blk_drewN ?_ _ | refine blk_drew ?_ | refine blk_alloc ?_ _)); exact BK526.out) : P := h
theorem u10_36 {P : Prop} (h : P := by (with_reducible repeat (first | apply Kd.R_alloc | apply Kd.R_drewN | apply Kd.R_drew)); exact HO_481002.out) : P := h
theorem u10_37 {P : Prop} (h : P := by (with_reducible repeat (first | apply Kd.R_alloc | apply Kd.R_drewN | apply Kd.R_drew)); exact HO473.out) : P := h
theorem u10_38 {P : Prop} (h : P := by (with_reducible repeat (first | apply Kd.R_alloc | apply Kd.R_drewN | apply Kd.R_drew)); exact HO476.out) : P := h
theorem u10_39 {P : Prop} (h : P := by (with_reducible repeat (first | apply Kd.R_alloc | apply Kd.R_drewN | apply Kd.R_drew)); exact HO479.out) : P := h
theorem u10_40 {P : Prop} (h : P := by (with_reducible repeat (first | apply Kd.R_alloc | apply Kd.R_drewN | apply Kd.R_drew)); exact HO490.out) : P := h
theorem u10_41 {P : Prop} (h : P := by (with_reducible repeat (first | apply Kd.R_alloc | apply Kd.R_drewN | apply Kd.R_drew)); exact (Kd.R_mono (Kd.R_far (p := ⟨gb480, 2, none⟩) (Kd.R_types HO_481000.out BK480.out (by decide)) (fun _ hk => hk.2) (.slice Ao68 t488.length co68)) (fun _ h_ => h_.1))) : P := h
theorem u10_42 {P : Prop} (h : P := by (with_reducible repeat (first | apply Kd.R_alloc | apply Kd.R_drewN | apply Kd.R_drew)); exact (Kd.R_mono (Kd.R_far (p := ⟨gb480, 2, none⟩) (Kd.R_types HO487.out BK480.out (by decide)) (fun _ hk => hk.2) (.slice Ao68 t488.length co68)) (fun _ h_ => h_.1))) : P := h
theorem u10_43 {P : Prop} (h : P := by (with_reducible repeat (first | apply Kd.R_alloc | apply Kd.R_drewN | apply Kd.R_drew)); exact (Kd.R_mono (Kd.R_far (p := ⟨gb480, 2, none⟩) (Kd.R_types HO490.out BK480.out (by decide)) (fun _ hk => hk.2) (.slice Ao68 t488.length co68)) (fun _ h_ => h_.1))) : P := h
theorem u10_44 {P : Prop} (h : P := by (with_reducible repeat (first | refine blk_drewN ?_ _ | refine blk_drew ?_ | refine blk_alloc ?_ _)); refine blk_far ?_ NB468_480.out _; (with_reducible repeat (first | refine blk_drewN ?_ _ | refine blk_drew ?_ | refine blk_alloc ?_ _)); exact BK468.out) : P := h
theorem u10_45 {P : Prop} (h : P := by (with_reducible repeat (first | refine blk_drewN ?_ _ | refine blk_drew ?_ | refine blk_alloc ?_ _)); refine blk_far ?_ NB469_480.out _; (with_reducible repeat (first | refine blk_drewN ?_ _ | refine blk_drew ?_ | refine blk_alloc ?_ _)); exact BK469.out) : P := h
theorem u10_46 {P : Prop} (h : P := by (with_reducible repeat (first | refine blk_drewN ?_ _ | refine blk_drew ?_ | refine blk_alloc ?_ _)); refine blk_far ?_ NB470_480.out _; (with_reducible repeat (first | refine blk_drewN ?_ _ | refine blk_drew ?_ | refine blk_alloc ?_ _)); exact BK470.out) : P := h
theorem u10_48 {P : Prop} (h : P := by (with_reducible repeat (first | apply Kd.R_alloc | apply Kd.R_drewN | apply Kd.R_drew)); exact HO517.out) : P := h
theorem u10_49 {P : Prop} (h : P := by (with_reducible repeat (first | apply Kd.R_alloc | apply Kd.R_drewN | apply Kd.R_drew)); exact HO520.out) : P := h
theorem u10_50 {P : Prop} (h : P := by (with_reducible repeat (first | apply Kd.R_alloc | apply Kd.R_drewN | apply Kd.R_drew)); exact HO523.out) : P := h
/-! ### slices_DeleteFunc_int_int: function 69 -/
def slices_DeleteFunc_int_int.enc (x : Int) : List Value := [.int .i64 x]
theorem slices_DeleteFunc_int_int.flat : Go.Proofs.Ytoemdmjdpikfbaa.Slc.Flat (Kd.int .i64) slices_DeleteFunc_int_int.enc := ⟨fun w base ok x => rfl, fun h => h⟩
theorem slices_DeleteFunc_int_int.cells (l : List Int) : Go.Proofs.Ytoemdmjdpikfbaa.Slc.cellsOf slices_DeleteFunc_int_int.enc l = l.map (Value.int .i64) := by
 induction l with
 | nil => rfl
 | cons x l ih => simpa [Go.Proofs.Ytoemdmjdpikfbaa.Slc.cellsOf, slices_DeleteFunc_int_int.enc] using ih
theorem slices_DeleteFunc_int_int.holds {w : World} {g n : Nat} {cur : Array Value} {l : List Int} (hb : w.heap[g]? = some (.cells cur 3 (0, 0))) (ht : cur.toList.take (l.length * 1) = Go.Proofs.Ytoemdmjdpikfbaa.Slc.cellsOf slices_DeleteFunc_int_int.enc l) : Go.Sort.Holds (Value.int .i64) w g 0 l.toArray := by
 intro j hj
 have hj' : j < l.length := by simpa using hj
 rw [slices_DeleteFunc_int_int.cells] at ht
 refine ⟨?_, by rw [Nat.zero_add]; exact blk_frozen hb j⟩
 rw [Nat.zero_add, blk_cell hb]
 have h1 : cur[j]? = (l.map (Value.int .i64))[j]? := by rw [← ht, List.getElem?_take_of_lt (by omega), Array.getElem?_toList]
 rw [h1, List.getElem?_map, List.getElem?_eq_getElem hj', getElem!_pos _ j hj]
 simp
/-- The row when its first cells are written. -/
theorem slices_DeleteFunc_int_int.put {w w0 : World} {P : Nat → Prop} {g n c m q : Nat} {cur : Array Value} {ys ws : List Int} {os : Array Obj} (hB : Below w0.heap.size w0 w) (hg : w0.heap.size ≤ g) (hP : P g) (hb : w.heap[g]? = some (.cells cur 3 (0, 0))) (hs : cur.size = c * 1) (hn : n ≤ c) (hm : c ≤ maxLen) (hy : ys.length = n) (hw : ws = ys.take m) (hmn : m ≤ n) :
   Kd.R (Kd.int .i64) 3 (Go.Sort.grow ((w.drewN q).setCells g 0 (ys.map (Value.int .i64))) os) w0.heap.size (fun k_ => (P k_ ∨ w.heap.size ≤ k_)) (.slice (some ⟨g, 0, none⟩) m c) ws ∧ Below w0.heap.size w0 (Go.Sort.grow ((w.drewN q).setCells g 0 (ys.map (Value.int .i64))) os) ∧ Kept w (Go.Sort.grow ((w.drewN q).setCells g 0 (ys.map (Value.int .i64))) os) (fun k_ => P k_) := by
 obtain ⟨W, hW⟩ : ∃ W, W = (w.drewN q).setCells g 0 (ys.map (Value.int .i64)) := ⟨_, rfl⟩
 obtain ⟨cur', h1, h2, h3, h4⟩ := Go.Proofs.Ytoemdmjdpikfbaa.Slc.setCells_blk g 3 (ys.map (Value.int .i64)) 0 (w.drewN q) cur hb
 have hBW : Below w0.heap.size w0 W := by rw [hW]; exact Go.Proofs.Ytoemdmjdpikfbaa.Slc.below_setCells hg _ _ (pw_below_drewN hB q)
 have hKW : Kept w W (fun k_ => P k_) := by rw [hW]; exact Go.Proofs.Ytoemdmjdpikfbaa.Slc.kept_setCells (.inl hP) _ _ (Kept.drewN (Kept.refl w _) q)
 rw [← hW] at h1 ⊢
 have hlt : g < W.heap.size := blk_lt h1
 have up : ∀ i, i < W.heap.size → (Go.Sort.grow W os).heap[i]? = W.heap[i]? := fun i hi => Array.getElem?_append_left hi
 have hsz : W.heap.size ≤ (Go.Sort.grow W os).heap.size := by simp [Go.Sort.grow]
 refine ⟨slices_DeleteFunc_int_int.flat.row ((up g hlt).trans h1) hg (.inl hP) (by rw [hw, List.length_take]; omega) (by omega) hm (h2.trans hs) ?_, ⟨hBW.os, hBW.tape, hBW.output, Nat.le_trans hBW.size hsz, fun i hi => (up i (Nat.lt_of_lt_of_le hi hBW.size)).trans (hBW.block i hi)⟩, ⟨Nat.le_trans hKW.1 hsz, fun i hi hn => (up i (Nat.lt_of_lt_of_le hi hKW.1)).trans (hKW.2 i hi hn)⟩⟩
 rw [slices_DeleteFunc_int_int.cells, hw]
 show cur'.toList.take (m * 1) = _
 rw [Nat.mul_one]
 apply List.ext_getElem?
 intro j
 by_cases hj : j < m
 rotate_left
 · rw [List.getElem?_eq_none (by rw [List.length_take]; omega), List.getElem?_eq_none (by rw [List.length_map, List.length_take]; omega)]
 have := h4 j (by rw [List.length_map]; omega) (by omega)
 rw [Nat.zero_add] at this
 rw [List.getElem?_take_of_lt hj, Array.getElem?_toList, this, List.map_take, List.getElem?_take_of_lt hj]
def slices_DeleteFunc_int_int.p (l1_0 : List Int) (y : Int) : Bool := decide (y ∈ l1_0)
theorem slices_DeleteFunc_int_int.has_l (l : List Int) (a : Int) (hl : l.length ≤ 9223372036854775807) (d : Nat) : ∀ i : Nat, l.length = i + d → (∀ j : Nat, j < i → l.getD j 0 ≠ a) → ∃ r, slices_Index_int_int.l0 (d + 1) l a (l.length : Int) (i : Int) = some r ∧ decide (0 ≤ r) = decide (a ∈ l) := by
 induction d with
 | zero =>
   intro i hd hb
   refine ⟨-1, by rw [slices_Index_int_int.l0, if_neg (by omega)], ?_⟩
   rw [decide_eq_false (by omega), decide_eq_false]
   intro hm
   obtain ⟨j, hj, e⟩ := List.mem_iff_getElem.1 hm
   exact hb j (by omega) (by rw [List.getD_eq_getElem?_getD, List.getElem?_eq_getElem hj]; exact e)
 | succ d ih =>
   intro i hd hb
   by_cases h : a = rd l (i : Int)
   · refine ⟨i, by rw [slices_Index_int_int.l0, if_pos (by omega), if_pos (by omega), if_pos (by omega), if_pos h], ?_⟩
     rw [decide_eq_true (by omega), decide_eq_true]
     rw [h]
     unfold rd
     rw [Int.toNat_natCast, List.getD_eq_getElem?_getD, List.getElem?_eq_getElem (show i < l.length by omega)]
     exact List.getElem_mem _
   obtain ⟨r, h1, h2⟩ := ih (i + 1) (by omega) (fun j hj => by
     by_cases e : j = i
     · subst e
       intro e2
       refine h (e2.symm.trans ?_)
       unfold rd
       rw [Int.toNat_natCast]
     · exact hb j (by omega))
   refine ⟨r, ?_, h2⟩
   rw [slices_Index_int_int.l0, if_pos (by omega), if_pos (by omega), if_pos (by omega), if_neg h, show wrap64 ((i : Int) + 1) = ((i + 1 : Nat) : Int) by unfold wrap64; omega]
   exact h1
theorem slices_DeleteFunc_int_int.has (l : List Int) (a : Int) (hl : l.length ≤ 9223372036854775807) : ∃ k, slices_Contains_int_int.f k l a = some (decide (a ∈ l)) := by
 obtain ⟨r, h1, h2⟩ := slices_DeleteFunc_int_int.has_l l a hl l.length 0 (by omega) (fun j h => by omega)
 refine ⟨l.length + 1, ?_⟩
 unfold slices_Contains_int_int.f slices_Index_int_int.f
 rw [show ((0 : Nat) : Int) = 0 from rfl] at h1
 rw [h1]
 show some (decide (r ≥ 0)) = _
 rw [← h2]
set_option maxHeartbeats 800000 in
set_option maxRecDepth 100000 in
theorem slices_DeleteFunc_int_int.lit (b : Nat) (A1_0 : Option Addr) (c1_0 : Nat) (l1_0 : List Int) (y : Int) (w : World) (hb : w.heap[b]? = some (.cells #[.slice A1_0 l1_0.length c1_0] 24 (0, 0))) (hr1_0 : Kd.C (Kd.int .i64) w A1_0 l1_0.length l1_0) (hc1_0 : l1_0.length ≤ c1_0) :
   Calls Try.prog 70 #[.int .i64 y, .pointer (some ⟨b, 0, none⟩)] w fun e w' => e = .returned (.bool (slices_DeleteFunc_int_int.p l1_0 y)) ∧ ∃ q, w' = w.drewN q := by
 have hc0 : w.cell? ⟨b, 0, none⟩ = some (.slice A1_0 l1_0.length c1_0) := (blk_cell hb 0).trans rfl
 obtain ⟨k0, hk0⟩ := slices_DeleteFunc_int_int.has l1_0 y hr1_0.2.1
 have HR0 := am hr1_0
 have HC0 := am hc1_0
 have HK0 := am hk0
 clear hr1_0 hc1_0 hk0 hb
 unfold slices_DeleteFunc_int_int.p
 go_enter Try.func70, Try.ntmps70
 go_wp2_with (go_at_call 71; (with_reducible refine (slices_Contains_int_int.calls k0 _ _ l1_0 y _ _ ?sd1 ?sd2 HK0.out).mono ?_); (case sd1 => repeat (first | exact HR0.out | (with_reducible refine Kd.C_drewN ?_ _) | (with_reducible refine Kd.C_drew ?_))); (case sd2 => exact HC0.out); rintro e w' ⟨rfl, ⟨nd0, rfl⟩⟩)
 go_ret
 exact ⟨rfl, _, rfl⟩
set_option maxHeartbeats 1600000 in
theorem slices_DeleteFunc_int_int.idx (p : Int → Bool) (bs : Array Value) (A0 : Option Addr) (c0 : Nat) (l0 : List Int) (w : World) (hr0 : Kd.C (Kd.int .i64) w A0 l0.length l0) (hc0 : l0.length ≤ c0)
   (hf : ∀ (y : Int) (W : World), Below w.heap.size w W → Calls Try.prog 70 (#[.int .i64 y] ++ bs) W fun e w' => e = .returned (.bool (p y)) ∧ Below W.heap.size W w') :
   Calls Try.prog 88 #[.slice A0 l0.length c0, .func (.func 70) #[] bs] w fun e w' => e = .returned (.int .i64 (Go.Proofs.Ytoemdmjdpikfbaa.Slc.idxB p l0)) ∧ Below w.heap.size w w' := by
 skip
 have hn : l0.length ≤ 9223372036854775807 := hr0.2.1
 have HR := am hr0
 have HF := am hf
 clear hr0 hf
 go_enter Try.func88, Try.ntmps88
 go_wp2
 go_loopg [5, 8] l0.length (fun gg _ s8 wr => ∃ kk : Int, 0 ≤ kk ∧ kk ≤ l0.length ∧ l0.length - kk.toNat ≤ gg ∧ s8 = .int .i64 kk ∧ Aside0 (Below w.heap.size w wr) ∧ Aside0 (∀ j : Nat, (j : Int) < kk → p (l0.getD j 0) = false))
 case atStart => exact ⟨0, by omega, by omega, by omega, rfl, ⟨Below.refl _ w⟩, ⟨fun j hj => by omega⟩⟩
 obtain ⟨kk, h0, hk, hg, rfl, BW, HA⟩ := hrel
 by_cases hlt : kk < (l0.length : Int)
 rotate_left
 · go_wp2
   go_ret
   refine ⟨?_, BW.out⟩
   rw [Go.Proofs.Ytoemdmjdpikfbaa.Slc.idxB_miss p l0 0 (fun j hj => HA.out j (by omega))]
   rfl
 obtain ⟨ad, e, hx0⟩ := Kd.at_int HR.out kk h0 hlt
 cases e
 replace hx0 := (BW.out.cell (World.block_lt_of_cell? w _ hx0)).trans hx0
 have HC := am (HF.out (l0.getD kk.toNat 0) wr BW.out)
 cases hq : p (l0.getD kk.toNat 0) with
 | true =>
   have HQ := am hq
   rw [hq] at HC
   clear hq
   go_wp2_with (go_at_call 70; refine HC.out.mono ?_; rintro e w' ⟨rfl, hb'⟩)
   go_ret
   refine ⟨?_, below_step BW.out hb'⟩
   rw [Go.Proofs.Ytoemdmjdpikfbaa.Slc.idxB_hit p l0 0 kk.toNat (by omega) HQ.out (fun j hj => HA.out j (by omega)), Int.toNat_of_nonneg h0]
   rfl
 | false =>
   have HQ := am hq
   rw [hq] at HC
   clear hq
   go_wp2_with (go_at_call 70; refine HC.out.mono ?_; rintro e w' ⟨rfl, hb'⟩)
   go_roundg (l0.length - (kk + 1).toNat)
   case measure => omega
   case rel =>
     refine ⟨kk + 1, by omega, by omega, by omega, by go_num, ⟨below_step BW.out hb'⟩, ⟨fun j hj => ?_⟩⟩
     by_cases e : (j : Int) = kk
     rotate_left
     · exact HA.out j (by omega)
     have := HQ.out
     rw [← e, Int.toNat_natCast] at this
     exact this
def slices_DeleteFunc_int_int.f (l0 : List Int) (l1_0 : List Int) : Option (List Int) := some (l0.filter fun x => !slices_DeleteFunc_int_int.p l1_0 x)
theorem slices_DeleteFunc_int_int.over {w w0 : World} {P : Nat → Prop} {g b c1_0 : Nat} {cur : Array Value} {l0 l1_0 : List Int} {A1_0 : Option Addr} (hg : w0.heap.size ≤ g) (hP : P g) (hb0 : w.heap[g]? = some (.cells cur 3 (0, 0))) (hH : Go.Sort.Holds (Value.int .i64) w g 0 l0.toArray) (hb : w.heap[b]? = some (.cells #[.slice A1_0 l1_0.length c1_0] 24 (0, 0))) (hr1_0 : ∀ W', Kept w W' (fun k_ => P k_) → Kd.C (Kd.int .i64) W' A1_0 l1_0.length l1_0) (hc1_0 : l1_0.length ≤ c1_0) : PredOver Try.prog 70 #[.pointer (some ⟨b, 0, none⟩)] (Value.int .i64) (slices_DeleteFunc_int_int.p l1_0) g 0 l0.toArray.size w := by
 intro n os dk x hs
 have hbg : b ≠ g := fun e => by
   rw [e, hb0] at hb
   have := Option.some.inj hb
   injection this with _ h2
   exact absurd h2 (by decide)
 obtain ⟨W, hW⟩ : ∃ W, W = (w.drewN n).setCells g 0 (dk.toList.map (Value.int .i64)) := ⟨_, rfl⟩
 have e : Go.Sort.putRow (Value.int .i64) (Go.Sort.ahead w n) g 0 dk = W := by
   have := Lib.putRow_eq_setCells (Value.int .i64) w g 0 l0.toArray dk.toList n hH (by rw [Array.length_toList]; exact hs)
   rw [Array.toArray_toList] at this
   rw [hW]; exact this
 have hKW : Kept w W (fun k_ => P k_) := by rw [hW]; exact Go.Proofs.Ytoemdmjdpikfbaa.Slc.kept_setCells (.inl hP) _ _ (Kept.drewN (Kept.refl w _) n)
 have hKG : Kept w W (fun k_ => k_ = g) := by rw [hW]; exact Go.Proofs.Ytoemdmjdpikfbaa.Slc.kept_setCells (S := fun k_ => k_ = g) (.inl rfl) _ _ (Kept.drewN (Kept.refl w _) n)
 have hbW : W.heap[b]? = some (.cells #[.slice A1_0 l1_0.length c1_0] 24 (0, 0)) := (hKG.2 b (blk_lt hb) (fun e => hbg e)).trans hb
 have up : ∀ i, i < W.heap.size → (Go.Sort.grow W os).heap[i]? = W.heap[i]? := fun i hi => Array.getElem?_append_left hi
 have hsz : W.heap.size ≤ (Go.Sort.grow W os).heap.size := by simp [Go.Sort.grow]
 have hKg : Kept w (Go.Sort.grow W os) (fun k_ => P k_) := ⟨Nat.le_trans hKW.1 hsz, fun i hi hn => (up i (Nat.lt_of_lt_of_le hi hKW.1)).trans (hKW.2 i hi hn)⟩
 unfold sortWorld FnGives
 rw [e]
 exact slices_DeleteFunc_int_int.lit b A1_0 c1_0 l1_0 x _ ((up b (blk_lt hbW)).trans hbW) (hr1_0 _ hKg) hc1_0
set_option maxHeartbeats 800000 in
theorem slices_DeleteFunc_int_int.calls (P0_ : Nat → Prop) (u9000_ : Value) (l0 : List Int) (A1_0 : Option Addr) (c1_0 : Nat) (l1_0 : List Int) (r : List Int) (w0 w : World) {b : Nat} (hB : Below w0.heap.size w0 w) (ho0 : Kd.R (Kd.int .i64) 3 w w0.heap.size P0_ u9000_ l0) (hr1_0 : ∀ W', Kept w W' (fun k_ => P0_ k_) → Kd.C (Kd.int .i64) W' A1_0 l1_0.length l1_0) (hc1_0 : l1_0.length ≤ c1_0) (hb : w.heap[b]? = some (.cells #[.slice A1_0 l1_0.length c1_0] 24 (0, 0))) (h : slices_DeleteFunc_int_int.f l0 l1_0 = some r) :
   Calls Try.prog 69 #[u9000_, .func (.func 70) #[] #[.pointer (some ⟨b, 0, none⟩)]] w fun e w' => ∃ v0_ : Value, e = .returned (v0_) ∧ Kd.R (Kd.int .i64) 3 w' w0.heap.size (fun k_ => (P0_ k_ ∨ w.heap.size ≤ k_)) v0_ r ∧ Below w0.heap.size w0 w' ∧ Kept w w' (fun k_ => P0_ k_) := by
 unfold slices_DeleteFunc_int_int.f at h
 obtain rfl := Option.some.inj h
 have hpa : PredAt Try.prog 70 #[.pointer (some ⟨b, 0, none⟩)] (Value.int .i64) (slices_DeleteFunc_int_int.p l1_0) w := fun W x hWb => slices_DeleteFunc_int_int.lit b A1_0 c1_0 l1_0 x W ((hWb.block b (blk_lt hb)).trans hb) (hr1_0 W ⟨hWb.size, fun i hi _ => hWb.block i hi⟩) hc1_0
 have eg : ∀ args w, (callFunc 70 args).run Try.prog w = .ok (.enter 70 args) w := enters_of Try.func70 kr rfl
 by_cases h0 : 0 < l0.length
 rotate_left
 · have hn : l0 = [] := List.eq_nil_of_length_eq_zero (by omega)
   subst hn
   obtain ⟨A0, c0, rfl, hcap, hread⟩ := Kd.R_reads ho0
   have HI := am (slices_DeleteFunc_int_int.idx (slices_DeleteFunc_int_int.p l1_0) #[.pointer (some ⟨b, 0, none⟩)] A0 c0 [] w hread hcap (fun y W hW => (slices_DeleteFunc_int_int.lit b A1_0 c1_0 l1_0 y W ((hW.block b (blk_lt hb)).trans hb) (hr1_0 W ⟨hW.size, fun i hi _ => hW.block i hi⟩) hc1_0).mono fun e w' h => ⟨h.1, by obtain ⟨q, h2⟩ := h.2; rw [h2]; exact pw_below_drewN (Below.refl _ _) q⟩))
   have HO := am ho0
   have HB := am hB
   clear ho0 hr1_0 hc1_0 hb hpa eg hread hcap hB
   go_enter Try.func69, Try.ntmps69
   go_wp2_with (go_at_call 88; refine HI.out.mono ?_; rintro e w' ⟨rfl, hb'⟩; have HB2 := am hb'; clear hb')
   go_ret
   exact ⟨_, rfl, (by simpa using Kd.R_mono (ok' := fun k_ => (P0_ k_ ∨ w.heap.size ≤ k_)) (Kd.R_below HO.out HB2.out) (fun k hk => .inl hk)), below_step HB.out HB2.out, ⟨HB2.out.size, fun i hi _ => HB2.out.block i hi⟩⟩
 obtain ⟨g, c, cur, rfl, hg, hP, hb0, hc, hm, hs, ht⟩ := slices_DeleteFunc_int_int.flat.block ho0 h0
 have hH := slices_DeleteFunc_int_int.holds (n := 0) hb0 ht
 have hpo := slices_DeleteFunc_int_int.over hg hP hb0 hH hb hr1_0 hc1_0
 have hsz : l0.length ≤ 9223372036854775807 := by have := hm; unfold maxLen at this; omega
 refine (Go.Proofs.Ytoemdmjdpikfbaa.Shelf.Try.slices_DeleteFunc (Value.int .i64) (fun _ => rfl) (slices_DeleteFunc_int_int.p l1_0) 70 #[.pointer (some ⟨b, 0, none⟩)] eg 0 Try.zeroValue3 g 0 c l0.toArray w hpa hpo hH (by simpa using hsz) (by simpa using hc)).mono ?_
 rintro e w' ⟨rfl, q, rfl⟩
 have hcl : (l0.filter fun x => !slices_DeleteFunc_int_int.p l1_0 x).length ≤ l0.length := List.length_filter_le _ _
 simp only [List.toList_toArray, List.size_toArray]
 rw [Lib.putRow_eq_setCells _ w g 0 _ _ q hH (by simp; omega)]
 have hp := slices_DeleteFunc_int_int.put (q := q) (os := #[]) (m := (l0.filter fun x => !slices_DeleteFunc_int_int.p l1_0 x).length) hB hg hP hb0 hs hc hm (ys := (l0.filter fun x => !slices_DeleteFunc_int_int.p l1_0 x) ++ List.replicate (l0.length - (l0.filter fun x => !slices_DeleteFunc_int_int.p l1_0 x).length) 0) (n := l0.length) (by simp; omega) (ws := l0.filter fun x => !slices_DeleteFunc_int_int.p l1_0 x) (by simp) hcl
 rw [Go.Sort.grow_empty] at hp
 exact ⟨_, rfl, hp⟩


/-! ### impl_begin: function 46 -/
def impl_begin.j0 : Nat → Bool → List Int → List Int → List Int → List Int → List Int → List Int → List Int → Option (List Int × List Int × List Int × Bool)
 | 0, _, _, _, _, _, _, _, _ => none
 | k + 1, x22, x469000, x469001, x469002, x470000, x481000, x481001, x481002 => if x22 = true then (some (x481000, x481001, x481002, false)) else ((some (([] : List Int) : List Int)).bind fun y482 => (if y482.length + x470000.length < 17592186044416 then ((some (y482 ++ x470000 : List Int)).bind fun y485 => ((slices_DeleteFunc_int_int.f x481002 x470000).bind fun t488 => ((impl_isConf.f k x481000 y485 t488).bind fun t491 => (if t491 = true then (some (x481000, y485, t488, true)) else ((impl_copyConf.f x469000 x469001 x469002).bind fun bt492 => (some (bt492.1, bt492.2.1, bt492.2.2, false))))))) else (none)))
def impl_begin.f (k : Nat) (l0_0 : List Int) (l0_1 : List Int) (l0_2 : List Int) (l1 : List Int) : Option (List Int × List Int × List Int × Bool) := (impl_copyConf.f l0_0 l0_1 l0_2).bind fun bt471 => ((impl_isConf.f k l0_0 l0_1 l0_2).bind fun t481 => (if t481 = true then (if (l0_1.length : Int) > 0 then (impl_begin.j0 k true l0_0 l0_1 l0_2 l1 bt471.1 bt471.2.1 bt471.2.2) else (impl_begin.j0 k ((l1.length : Int) == 0) l0_0 l0_1 l0_2 l1 bt471.1 bt471.2.1 bt471.2.2)) else (impl_begin.j0 k true l0_0 l0_1 l0_2 l1 bt471.1 bt471.2.1 bt471.2.2)))
theorem impl_begin.mono_l : ∀ k, (∀ y0 y1 y2 y3 y4 y5 y6 y7, LeO (impl_begin.j0 k y0 y1 y2 y3 y4 y5 y6 y7) (impl_begin.j0 (k + 1) y0 y1 y2 y3 y4 y5 y6 y7))
 | 0 => fun _ _ _ _ _ _ _ _ r h => by simp [impl_begin.j0] at h
 | k + 1 => by
   have ih0 := impl_begin.mono_l k
   · intro y0 y1 y2 y3 y4 y5 y6 y7
     unfold impl_begin.j0
     repeat' first
     | (with_reducible exact ih0 _ _ _ _ _ _ _ _)
     | (with_reducible exact impl_isConf.mono _ _ _ _)
     | (with_reducible exact LeO.refl _)
     | (with_reducible exact LeO.none _)
     | (with_reducible refine LeO.ite ?_ ?_)
     | (with_reducible refine LeO.bind ?_ (fun _ => ?_))
     | exact ih0 _ _ _ _ _ _ _ _
     | exact impl_isConf.mono _ _ _ _
     | exact LeO.none _
     | refine LeO.ite ?_ ?_
     | refine LeO.bind ?_ (fun _ => ?_)
theorem impl_begin.mono : ∀ a0 a1 a2 a3 k, LeO (impl_begin.f k a0 a1 a2 a3) (impl_begin.f (k + 1) a0 a1 a2 a3) := by
 intro a0 a1 a2 a3 k
 have ih0 := impl_begin.mono_l k
 unfold impl_begin.f
 repeat' first
     | (with_reducible exact ih0 _ _ _ _ _ _ _ _)
     | (with_reducible exact impl_isConf.mono _ _ _ _)
     | (with_reducible exact LeO.refl _)
     | (with_reducible exact LeO.none _)
     | (with_reducible refine LeO.ite ?_ ?_)
     | (with_reducible refine LeO.bind ?_ (fun _ => ?_))
     | exact ih0 _ _ _ _ _ _ _ _
     | exact impl_isConf.mono _ _ _ _
     | exact LeO.none _
     | refine LeO.ite ?_ ?_
     | refine LeO.bind ?_ (fun _ => ?_)
set_option maxHeartbeats 8000000 in
set_option maxRecDepth 100000 in
theorem impl_begin.calls (k : Nat) (A0_0 : Option Addr) (c0_0 : Nat) (l0_0 : List Int) (A0_1 : Option Addr) (c0_1 : Nat) (l0_1 : List Int) (A0_2 : Option Addr) (c0_2 : Nat) (l0_2 : List Int) (A1 : Option Addr) (c1 : Nat) (l1 : List Int) (r1 : List Int) (r2 : List Int) (r3 : List Int) (r4 : Bool) (w : World) (hr0_0 : Kd.C (Kd.int .i64) w A0_0 l0_0.length l0_0) (hc0_0 : l0_0.length ≤ c0_0) (hr0_1 : Kd.C (Kd.int .i64) w A0_1 l0_1.length l0_1) (hc0_1 : l0_1.length ≤ c0_1) (hr0_2 : Kd.C (Kd.int .i64) w A0_2 l0_2.length l0_2) (hc0_2 : l0_2.length ≤ c0_2) (hr1 : Kd.C (Kd.int .i64) w A1 l1.length l1) (hc1 : l1.length ≤ c1) (h : impl_begin.f k l0_0 l0_1 l0_2 l1 = some (r1, r2, r3, r4)) :
   Calls Try.prog 46 #[.agg #[.slice A0_0 l0_0.length c0_0, .slice A0_1 l0_1.length c0_1, .slice A0_2 l0_2.length c0_2], .slice A1 l1.length c1] w fun e w' => ∃ v0_ v1_ v2_ : Value, e = .returned (.tuple #[.agg #[v0_, v1_, v2_], .bool r4]) ∧ Kd.R (Kd.int .i64) 3 w' w.heap.size (fun k_ => some k_ ≠ (v1_ : Value).ownBlock ∧ some k_ ≠ (v2_ : Value).ownBlock) v0_ r1 ∧ Kd.R (Kd.int .i64) 3 w' w.heap.size (fun k_ => some k_ ≠ (v0_ : Value).ownBlock ∧ some k_ ≠ (v2_ : Value).ownBlock) v1_ r2 ∧ Kd.R (Kd.int .i64) 3 w' w.heap.size (fun k_ => some k_ ≠ (v0_ : Value).ownBlock ∧ some k_ ≠ (v1_ : Value).ownBlock) v2_ r3 ∧ Below w.heap.size w w' := by
 have hu26 := Try.underlying26
 have HR0_0 := am hr0_0
 have HC0_0 := am hc0_0
 clear hr0_0 hc0_0
 have HR0_1 := am hr0_1
 have HC0_1 := am hc0_1
 clear hr0_1 hc0_1
 have HR0_2 := am hr0_2
 have HC0_2 := am hc0_2
 clear hr0_2 hc0_2
 have HR1 := am hr1
 have HC1 := am hc1
 clear hr1 hc1
 have HB := am (Below.refl w.heap.size w)
 have H : ((impl_copyConf.f l0_0 l0_1 l0_2).bind fun bt471 => ((impl_isConf.f k l0_0 l0_1 l0_2).bind fun t481 => (if t481 = true then (if (l0_1.length : Int) > 0 then (impl_begin.j0 k true l0_0 l0_1 l0_2 l1 bt471.1 bt471.2.1 bt471.2.2) else (impl_begin.j0 k ((l1.length : Int) == 0) l0_0 l0_1 l0_2 l1 bt471.1 bt471.2.1 bt471.2.2)) else (impl_begin.j0 k true l0_0 l0_1 l0_2 l1 bt471.1 bt471.2.1 bt471.2.2)))) = some (r1, r2, r3, r4) := h
 clear h
 replace H := Option.bind_eq_some_iff.mp H
 obtain ⟨⟨t471, t474, t477⟩, A30, H⟩ := H
 (try dsimp only at H)
 have A3 := am A30
 clear A30
 have HC4 := am H
 clear H
 go_enter Try.func46, Try.ntmps46
 go_upto_region 2 with (first | ((with_reducible refine gate_dst (N := 2) rfl ?_); (try (refine gate_guard (by rfl) ?_; dsimp only)); refine box_event ?hg (N := 2) ?hd (cs := #[.slice A0_0 l0_0.length c0_0, .slice A0_1 l0_1.length c0_1, .slice A0_2 l0_2.length c0_2]) (t := 26) ?hr ?_; (case hd => rfl); (case hg => rfl); (case hr => first | (go_simp; done) | (go_simp; rfl)); intro gb468 hg w5 hbox hb; have BK468 := am (hbox); have GW468 := am ((by rw [hg]; exact (below_size Q0) : w.heap.size ≤ gb468)); have GE468 := am ((by rw [hg]; exact (below_size Q0) : w.heap.size ≤ gb468)); replace HB := am (below_step Q0 hb); clear hb hbox hg) | ((with_reducible refine gate_dst (N := 3) rfl ?_); (try (refine gate_guard (by rfl) ?_; dsimp only)); refine box_event ?hg (N := 3) ?hd (cs := #[.slice A1 l1.length c1]) (t := 24) ?hr ?_; (case hd => rfl); (case hg => rfl); (case hr => first | (go_simp; done) | (go_simp; rfl)); intro gb469 hg w6 hbox hb; have BK469 := am (hbox); have GW469 := am ((by rw [hg]; exact (below_size Q0) : w.heap.size ≤ gb469)); have GE469 := am ((by rw [hg]; exact (below_size Q0) : w.heap.size ≤ gb469)); replace HB := am (below_step Q0 hb); have NB468_469 := am ((by rw [hg]; exact Nat.ne_of_lt (blk_lt (g := gb468) (o := .cells #[.slice A0_0 l0_0.length c0_0, .slice A0_1 l0_1.length c0_1, .slice A0_2 l0_2.length c0_2] 26 (0, 0)) u10_4) : gb468 ≠ gb469)); have NB469_468 := am ((by rw [hg]; exact Nat.ne_of_gt (blk_lt (g := gb468) (o := .cells #[.slice A0_0 l0_0.length c0_0, .slice A0_1 l0_1.length c0_1, .slice A0_2 l0_2.length c0_2] 26 (0, 0)) u10_4) : gb469 ≠ gb468)); replace BK468 := am (blk_below (g := gb468) (o := .cells #[.slice A0_0 l0_0.length c0_0, .slice A0_1 l0_1.length c0_1, .slice A0_2 l0_2.length c0_2] 26 (0, 0)) u10_4 hb); clear hb hbox hg) | ((with_reducible refine gate_dst (N := 4) rfl ?_); (try (refine gate_guard (by rfl) ?_; dsimp only)); refine box_event ?hg (N := 4) ?hd (cs := #[.slice none 0 0, .slice none 0 0, .slice none 0 0]) (t := 26) ?hr ?_; (case hd => rfl); (case hg => rfl); (case hr => first | (go_simp; done) | (go_simp; rfl)); intro gb470 hg w7 hbox hb; have BK470 := am (hbox); have GW470 := am ((by rw [hg]; exact (below_size Q0) : w.heap.size ≤ gb470)); have GE470 := am ((by rw [hg]; exact (below_size Q0) : w.heap.size ≤ gb470)); replace HB := am (below_step Q0 hb); have NB468_470 := am ((by rw [hg]; exact Nat.ne_of_lt (blk_lt (g := gb468) (o := .cells #[.slice A0_0 l0_0.length c0_0, .slice A0_1 l0_1.length c0_1, .slice A0_2 l0_2.length c0_2] 26 (0, 0)) u10_4) : gb468 ≠ gb470)); have NB470_468 := am ((by rw [hg]; exact Nat.ne_of_gt (blk_lt (g := gb468) (o := .cells #[.slice A0_0 l0_0.length c0_0, .slice A0_1 l0_1.length c0_1, .slice A0_2 l0_2.length c0_2] 26 (0, 0)) u10_4) : gb470 ≠ gb468)); replace BK468 := am (blk_below (g := gb468) (o := .cells #[.slice A0_0 l0_0.length c0_0, .slice A0_1 l0_1.length c0_1, .slice A0_2 l0_2.length c0_2] 26 (0, 0)) u10_4 hb); have NB469_470 := am ((by rw [hg]; exact Nat.ne_of_lt (blk_lt (g := gb469) (o := .cells #[.slice A1 l1.length c1] 24 (0, 0)) u10_6) : gb469 ≠ gb470)); have NB470_469 := am ((by rw [hg]; exact Nat.ne_of_gt (blk_lt (g := gb469) (o := .cells #[.slice A1 l1.length c1] 24 (0, 0)) u10_6) : gb470 ≠ gb469)); replace BK469 := am (blk_below (g := gb469) (o := .cells #[.slice A1 l1.length c1] 24 (0, 0)) u10_6 hb); clear hb hbox hg; have hnb8 := NB468_469.out; have hnc8 := NB469_468.out; have hnb9 := NB468_470.out; have hnc9 := NB470_468.out; obtain ⟨hcz10_0, hcz10_1, hcz10_2, hfz10_0, hfz10_1, hfz10_2⟩ := bc3f w7 BK468.out) | ((with_reducible refine gate_callee (f := 63) rfl ?_); refine goesL_ (some 8) rfl rfl Try.func63 kr rfl #[.agg #[.slice A0_0 l0_0.length c0_0, .slice A0_1 l0_1.length c0_1, .slice A0_2 l0_2.length c0_2]] rfl Q3 ?_; (with_reducible refine (impl_copyConf.calls _ _ l0_0 _ _ l0_1 _ _ l0_2 t471 t474 t477 _ ?side1 ?side2 ?side3 ?side4 ?side5 ?side6 A3.out).mono ?_); (case side1 => exact Q6); (case side2 => exact HC0_0.out); (case side3 => exact Q8); (case side4 => exact HC0_1.out); (case side5 => exact Q7); (case side6 => exact HC0_2.out); rintro e w11 ⟨v472, v475, v478, rfl, ho0, ho1, ho2, hb⟩; refine ⟨_, rfl, ?_⟩; have HO473 := am (Kd.R_lower ho0 (below_size Q0)); have HO476 := am (Kd.R_lower ho1 (below_size Q0)); have HO479 := am (Kd.R_lower ho2 (below_size Q0)); replace BK468 := am (blk_below (g := gb468) (o := .cells #[.slice A0_0 l0_0.length c0_0, .slice A0_1 l0_1.length c0_1, .slice A0_2 l0_2.length c0_2] 26 (0, 0)) u10_4 hb); replace BK469 := am (blk_below (g := gb469) (o := .cells #[.slice A1 l1.length c1] 24 (0, 0)) u10_6 hb); replace BK470 := am (blk_below (g := gb470) (o := .cells #[.slice none 0 0, .slice none 0 0, .slice none 0 0] 26 (0, 0)) u10_10 hb); replace HB := am (below_step Q0 hb); (try clear hb); (try clear hb2); (try clear hk); (try clear hi); (try clear ho0); (try clear ho1); (try clear ho2)) | ((with_reducible refine gate_dst (N := 6) rfl ?_); (try (refine gate_guard (by rfl) ?_; dsimp only)); refine box_event ?hg (N := 6) ?hd (cs := #[.slice none 0 0, .slice none 0 0, .slice none 0 0]) (t := 26) ?hr ?_; (case hd => rfl); (case hg => rfl); (case hr => first | (go_simp; done) | (go_simp; rfl)); intro gb480 hg w12 hbox hb; replace HO473 := am (Kd.R_below u10_37 hb); replace HO476 := am (Kd.R_below u10_38 hb); replace HO479 := am (Kd.R_below u10_39 hb); have BK480 := am (hbox); have GW480 := am ((by rw [hg]; exact (below_size Q0) : w.heap.size ≤ gb480)); have GE480 := am ((by rw [hg]; exact (below_size Q0) : w.heap.size ≤ gb480)); replace HB := am (below_step Q0 hb); have NB468_480 := am ((by rw [hg]; exact Nat.ne_of_lt (blk_lt (g := gb468) (o := .cells #[.slice A0_0 l0_0.length c0_0, .slice A0_1 l0_1.length c0_1, .slice A0_2 l0_2.length c0_2] 26 (0, 0)) u10_4) : gb468 ≠ gb480)); have NB480_468 := am ((by rw [hg]; exact Nat.ne_of_gt (blk_lt (g := gb468) (o := .cells #[.slice A0_0 l0_0.length c0_0, .slice A0_1 l0_1.length c0_1, .slice A0_2 l0_2.length c0_2] 26 (0, 0)) u10_4) : gb480 ≠ gb468)); replace BK468 := am (blk_below (g := gb468) (o := .cells #[.slice A0_0 l0_0.length c0_0, .slice A0_1 l0_1.length c0_1, .slice A0_2 l0_2.length c0_2] 26 (0, 0)) u10_4 hb); have NB469_480 := am ((by rw [hg]; exact Nat.ne_of_lt (blk_lt (g := gb469) (o := .cells #[.slice A1 l1.length c1] 24 (0, 0)) u10_6) : gb469 ≠ gb480)); have NB480_469 := am ((by rw [hg]; exact Nat.ne_of_gt (blk_lt (g := gb469) (o := .cells #[.slice A1 l1.length c1] 24 (0, 0)) u10_6) : gb480 ≠ gb469)); replace BK469 := am (blk_below (g := gb469) (o := .cells #[.slice A1 l1.length c1] 24 (0, 0)) u10_6 hb); have NB470_480 := am ((by rw [hg]; exact Nat.ne_of_lt (blk_lt (g := gb470) (o := .cells #[.slice none 0 0, .slice none 0 0, .slice none 0 0] 26 (0, 0)) u10_10) : gb470 ≠ gb480)); have NB480_470 := am ((by rw [hg]; exact Nat.ne_of_gt (blk_lt (g := gb470) (o := .cells #[.slice none 0 0, .slice none 0 0, .slice none 0 0] 26 (0, 0)) u10_10) : gb480 ≠ gb470)); replace BK470 := am (blk_below (g := gb470) (o := .cells #[.slice none 0 0, .slice none 0 0, .slice none 0 0] 26 (0, 0)) u10_10 hb); clear hb hbox hg; obtain ⟨Ao13, co13, eo13⟩ := Kd.R_slice HO473.out; subst eo13; have hnb14 := NB480_468.out; have hnc14 := NB468_480.out; have hnb15 := NB480_469.out; have hnc15 := NB469_480.out; have hnb16 := NB480_470.out; have hnc16 := NB470_480.out; obtain ⟨hcz17_0, hcz17_1, hcz17_2, hfz17_0, hfz17_1, hfz17_2⟩ := bc3f w12 BK480.out; obtain ⟨Ao18, co18, eo18⟩ := Kd.R_slice HO476.out; subst eo18; obtain ⟨Ao19, co19, eo19⟩ := Kd.R_slice HO479.out; subst eo19))
 (try simp only [Act.put, la, lb, lc])
 go_cut [22] (fun v22 wc => ∃ (kq : Nat) (x22_3 : Bool), v22 = .bool x22_3 ∧ Aside0 (impl_begin.j0 kq x22_3 l0_0 l0_1 l0_2 l1 t471 t474 t477 = some (r1, r2, r3, r4)) ∧ Aside0 (kq ≤ k) ∧ Aside0 (Kd.R (Kd.int .i64) 3 wc w.heap.size (fun k_ => some k_ ≠ ((.slice Ao18 t474.length co18) : Value).ownBlock ∧ some k_ ≠ ((.slice Ao19 t477.length co19) : Value).ownBlock) (.slice Ao13 t471.length co13) t471) ∧ Aside0 (Kd.R (Kd.int .i64) 3 wc w.heap.size (fun k_ => some k_ ≠ ((.slice Ao13 t471.length co13) : Value).ownBlock ∧ some k_ ≠ ((.slice Ao19 t477.length co19) : Value).ownBlock) (.slice Ao18 t474.length co18) t474) ∧ Aside0 (Kd.R (Kd.int .i64) 3 wc w.heap.size (fun k_ => some k_ ≠ ((.slice Ao13 t471.length co13) : Value).ownBlock ∧ some k_ ≠ ((.slice Ao18 t474.length co18) : Value).ownBlock) (.slice Ao19 t477.length co19) t477) ∧ Aside0 (wc.heap[gb468]? = some (.cells #[(.slice A0_0 l0_0.length c0_0), (.slice A0_1 l0_1.length c0_1), (.slice A0_2 l0_2.length c0_2)] 26 (0, 0))) ∧ Aside0 (wc.heap[gb469]? = some (.cells #[(.slice A1 l1.length c1)] 24 (0, 0))) ∧ Aside0 (wc.heap[gb470]? = some (.cells #[(.slice none 0 0), (.slice none 0 0), (.slice none 0 0)] 26 (0, 0))) ∧ Aside0 (wc.heap[gb480]? = some (.cells #[(.slice Ao13 t471.length co13), (.slice Ao18 t474.length co18), (.slice Ao19 t477.length co19)] 26 (0, 0))) ∧ Aside0 (Below w.heap.size w wc))
 case first =>
   have H := HC4.out
   clear HC4
   replace H := Option.bind_eq_some_iff.mp H
   obtain ⟨t481, A200, H⟩ := H
   have A20 := am A200
   clear A200
   by_cases c21 : t481 = true
   rotate_left
   · replace c21 := Bool.eq_false_iff.mpr c21
     subst c21
     rw [nf] at H
     have H' := am H
     clear H
     have hnb38 := NB468_469.out
     have hnc38 := NB469_468.out
     have hnb39 := NB468_470.out
     have hnc39 := NB470_468.out
     have hnb40 := NB468_480.out
     have hnc40 := NB480_468.out
     obtain ⟨hcz41_0, hcz41_1, hcz41_2, hfz41_0, hfz41_1, hfz41_2⟩ := bc3f w12 BK468.out
     go_wp2_with (first | ((with_reducible refine gate_callee (f := 48) rfl ?_); refine goesL_ (some 10) rfl rfl Try.func48 kr rfl #[.agg #[.slice A0_0 l0_0.length c0_0, .slice A0_1 l0_1.length c0_1, .slice A0_2 l0_2.length c0_2]] rfl Q3 ?_; (with_reducible refine (impl_isConf.calls k _ _ l0_0 _ _ l0_1 _ _ l0_2 false _ ?side1 ?side2 ?side3 ?side4 ?side5 ?side6 A20.out).mono ?_); (case side1 => exact (by exact Kd.C_below HR0_0.out Q0)); (case side2 => exact HC0_0.out); (case side3 => exact (by exact Kd.C_below HR0_1.out Q0)); (case side4 => exact HC0_1.out); (case side5 => exact (by exact Kd.C_below HR0_2.out Q0)); (case side6 => exact HC0_2.out); rintro e w42 ⟨rfl, hb⟩; refine ⟨_, rfl, ?_⟩; replace HO473 := am (Kd.R_below u10_17 hb); replace HO476 := am (Kd.R_below u10_18 hb); replace HO479 := am (Kd.R_below u10_19 hb); replace BK468 := am (blk_below (g := gb468) (o := .cells #[.slice A0_0 l0_0.length c0_0, .slice A0_1 l0_1.length c0_1, .slice A0_2 l0_2.length c0_2] 26 (0, 0)) u10_11 hb); replace BK469 := am (blk_below (g := gb469) (o := .cells #[.slice A1 l1.length c1] 24 (0, 0)) u10_12 hb); replace BK470 := am (blk_below (g := gb470) (o := .cells #[.slice none 0 0, .slice none 0 0, .slice none 0 0] 26 (0, 0)) u10_13 hb); replace BK480 := am (blk_below (g := gb480) (o := .cells #[.slice Ao13 t471.length co13, .slice Ao18 t474.length co18, .slice Ao19 t477.length co19] 26 (0, 0)) u10_8 hb); replace HB := am (below_step Q0 hb); (try clear hb); (try clear hb2); (try clear hk); (try clear hi)))
     go_meet
     case rel => exact ⟨_, (true), Q1, H', ⟨by first | omega | exact Nat.le_refl _⟩, ⟨u10_37⟩, ⟨u10_38⟩, ⟨u10_39⟩, ⟨u10_4⟩, ⟨u10_6⟩, ⟨u10_10⟩, ⟨u10_26⟩, ⟨Q0⟩⟩
   subst c21
   rw [if_pos rfl] at H
   by_cases c22 : (l0_1.length : Int) > 0
   · rw [if_pos c22] at H
     have c22b0 : decide (0 < (l0_1.length : Int)) = true := decide_eq_true c22
     have c22b1 : decide (0 < l0_1.length) = true := decide_eq_true (by omega)
     clear c22
     (first | rw [c22b0] | (simp only [i64_w, i32_w]; rw [c22b0]) | skip)
     have H' := am H
     clear H
     have hnb23 := NB468_469.out
     have hnc23 := NB469_468.out
     have hnb24 := NB468_470.out
     have hnc24 := NB470_468.out
     have hnb25 := NB468_480.out
     have hnc25 := NB480_468.out
     obtain ⟨hcz26_0, hcz26_1, hcz26_2, hfz26_0, hfz26_1, hfz26_2⟩ := bc3f w12 BK468.out
     go_wp2_with (first | ((with_reducible refine gate_callee (f := 48) rfl ?_); refine goesL_ (some 10) rfl rfl Try.func48 kr rfl #[.agg #[.slice A0_0 l0_0.length c0_0, .slice A0_1 l0_1.length c0_1, .slice A0_2 l0_2.length c0_2]] rfl Q3 ?_; (with_reducible refine (impl_isConf.calls k _ _ l0_0 _ _ l0_1 _ _ l0_2 true _ ?side1 ?side2 ?side3 ?side4 ?side5 ?side6 A20.out).mono ?_); (case side1 => exact (by exact Kd.C_below HR0_0.out Q0)); (case side2 => exact HC0_0.out); (case side3 => exact (by exact Kd.C_below HR0_1.out Q0)); (case side4 => exact HC0_1.out); (case side5 => exact (by exact Kd.C_below HR0_2.out Q0)); (case side6 => exact HC0_2.out); rintro e w27 ⟨rfl, hb⟩; refine ⟨_, rfl, ?_⟩; replace HO473 := am (Kd.R_below u10_17 hb); replace HO476 := am (Kd.R_below u10_18 hb); replace HO479 := am (Kd.R_below u10_19 hb); replace BK468 := am (blk_below (g := gb468) (o := .cells #[.slice A0_0 l0_0.length c0_0, .slice A0_1 l0_1.length c0_1, .slice A0_2 l0_2.length c0_2] 26 (0, 0)) u10_11 hb); replace BK469 := am (blk_below (g := gb469) (o := .cells #[.slice A1 l1.length c1] 24 (0, 0)) u10_12 hb); replace BK470 := am (blk_below (g := gb470) (o := .cells #[.slice none 0 0, .slice none 0 0, .slice none 0 0] 26 (0, 0)) u10_13 hb); replace BK480 := am (blk_below (g := gb480) (o := .cells #[.slice Ao13 t471.length co13, .slice Ao18 t474.length co18, .slice Ao19 t477.length co19] 26 (0, 0)) u10_8 hb); replace HB := am (below_step Q0 hb); (try clear hb); (try clear hb2); (try clear hk); (try clear hi); obtain ⟨hcz28_0, hcz28_1, hcz28_2, hfz28_0, hfz28_1, hfz28_2⟩ := bc3f w27 BK468.out))
     go_meet
     case rel => exact ⟨_, (true), Q1, H', ⟨by first | omega | exact Nat.le_refl _⟩, ⟨u10_37⟩, ⟨u10_38⟩, ⟨u10_39⟩, ⟨u10_4⟩, ⟨u10_6⟩, ⟨u10_10⟩, ⟨u10_26⟩, ⟨Q0⟩⟩
   rw [if_neg c22] at H
   have c22b0 : decide (0 < (l0_1.length : Int)) = false := decide_eq_false c22
   have c22b1 : decide (0 < l0_1.length) = false := decide_eq_false (by omega)
   clear c22
   (first | rw [c22b0] | (simp only [i64_w, i32_w]; rw [c22b0]) | skip)
   have H' := am H
   clear H
   have hnb29 := NB468_469.out
   have hnc29 := NB469_468.out
   have hnb30 := NB468_470.out
   have hnc30 := NB470_468.out
   have hnb31 := NB468_480.out
   have hnc31 := NB480_468.out
   obtain ⟨hcz32_0, hcz32_1, hcz32_2, hfz32_0, hfz32_1, hfz32_2⟩ := bc3f w12 BK468.out
   go_wp2_with (first | ((with_reducible refine gate_callee (f := 48) rfl ?_); refine goesL_ (some 10) rfl rfl Try.func48 kr rfl #[.agg #[.slice A0_0 l0_0.length c0_0, .slice A0_1 l0_1.length c0_1, .slice A0_2 l0_2.length c0_2]] rfl Q3 ?_; (with_reducible refine (impl_isConf.calls k _ _ l0_0 _ _ l0_1 _ _ l0_2 true _ ?side1 ?side2 ?side3 ?side4 ?side5 ?side6 A20.out).mono ?_); (case side1 => exact (by exact Kd.C_below HR0_0.out Q0)); (case side2 => exact HC0_0.out); (case side3 => exact (by exact Kd.C_below HR0_1.out Q0)); (case side4 => exact HC0_1.out); (case side5 => exact (by exact Kd.C_below HR0_2.out Q0)); (case side6 => exact HC0_2.out); rintro e w33 ⟨rfl, hb⟩; refine ⟨_, rfl, ?_⟩; replace HO473 := am (Kd.R_below u10_17 hb); replace HO476 := am (Kd.R_below u10_18 hb); replace HO479 := am (Kd.R_below u10_19 hb); replace BK468 := am (blk_below (g := gb468) (o := .cells #[.slice A0_0 l0_0.length c0_0, .slice A0_1 l0_1.length c0_1, .slice A0_2 l0_2.length c0_2] 26 (0, 0)) u10_11 hb); replace BK469 := am (blk_below (g := gb469) (o := .cells #[.slice A1 l1.length c1] 24 (0, 0)) u10_12 hb); replace BK470 := am (blk_below (g := gb470) (o := .cells #[.slice none 0 0, .slice none 0 0, .slice none 0 0] 26 (0, 0)) u10_13 hb); replace BK480 := am (blk_below (g := gb480) (o := .cells #[.slice Ao13 t471.length co13, .slice Ao18 t474.length co18, .slice Ao19 t477.length co19] 26 (0, 0)) u10_8 hb); replace HB := am (below_step Q0 hb); (try clear hb); (try clear hb2); (try clear hk); (try clear hi); obtain ⟨hcz34_0, hcz34_1, hcz34_2, hfz34_0, hfz34_1, hfz34_2⟩ := bc3f w33 BK468.out; have hnb35 := NB469_470.out; have hnc35 := NB470_469.out; have hnb36 := NB469_480.out; have hnc36 := NB480_469.out; obtain ⟨hcz37_0, hfz37_0⟩ := bc1f w33 BK469.out))
   go_meet
   case rel => exact ⟨_, (((l1.length : Int) == 0)), Q1, H', ⟨by first | omega | exact Nat.le_refl _⟩, ⟨u10_37⟩, ⟨u10_38⟩, ⟨u10_39⟩, ⟨u10_4⟩, ⟨u10_6⟩, ⟨u10_10⟩, ⟨u10_26⟩, ⟨Q0⟩⟩
 clear HC4
 try clear c1
 try clear hcz10_0
 try clear hcz10_1
 try clear hcz10_2
 try clear hcz17_0
 try clear hcz17_1
 try clear hcz17_2
 try clear hfz10_0
 try clear hfz10_1
 try clear hfz10_2
 try clear hfz17_0
 try clear hfz17_1
 try clear hfz17_2
 obtain ⟨kq, x22_3, rfl, HA, HJ3, HO_481000, HO_481001, HO_481002, BK468, BK469, BK470, BK480, HB⟩ := hcut
 cases kq with
 | zero => exact absurd HA.out (by simp [impl_begin.j0])
 | succ kj3 =>
   have H := HA.out
   clear HA
   simp only [impl_begin.j0] at H
   by_cases c43 : x22_3 = true
   · subst c43
     rw [if_pos rfl] at H
     simp only [Option.some.injEq, Prod.mk.injEq] at H
     obtain ⟨rfl, rfl, rfl, rfl⟩ := H
     have hnb44 := NB480_468.out
     have hnc44 := NB468_480.out
     have hnb45 := NB480_469.out
     have hnc45 := NB469_480.out
     have hnb46 := NB480_470.out
     have hnc46 := NB470_480.out
     obtain ⟨hcz47_0, hcz47_1, hcz47_2, hfz47_0, hfz47_1, hfz47_2⟩ := bc3f wc BK480.out
     have hnb48 := NB470_468.out
     have hnc48 := NB468_470.out
     have hnb49 := NB470_469.out
     have hnc49 := NB469_470.out
     obtain ⟨hcz50_0, hcz50_1, hcz50_2, hfz50_0, hfz50_1, hfz50_2⟩ := bc3f wc BK470.out
     go_wp2
     refine bodyPost_ret (results_ct rfl _ _ gb470 26 #[.slice Ao13 t471.length co13, .slice Ao18 t474.length co18, .slice Ao19 t477.length co19] (0, 0) _ rfl (by (with_reducible repeat (first | refine blk_drewN ?_ _ | refine blk_drew ?_ | refine blk_alloc ?_ _)); refine blk_put (cs := #[.slice Ao13 t471.length co13, .slice Ao18 t474.length co18, .slice none 0 0]) ?_ 2 _ rfl; (with_reducible repeat (first | refine blk_drewN ?_ _ | refine blk_drew ?_ | refine blk_alloc ?_ _)); refine blk_put (cs := #[.slice Ao13 t471.length co13, .slice none 0 0, .slice none 0 0]) ?_ 1 _ rfl; (with_reducible repeat (first | refine blk_drewN ?_ _ | refine blk_drew ?_ | refine blk_alloc ?_ _)); refine blk_put (cs := #[.slice none 0 0, .slice none 0 0, .slice none 0 0]) ?_ 0 _ rfl; (with_reducible repeat (first | refine blk_drewN ?_ _ | refine blk_drew ?_ | refine blk_alloc ?_ _)); exact BK470.out) Try.underlying26 rfl kr) rfl ?_
     exact ⟨_, _, _, er, (by (with_reducible repeat (first | apply Kd.R_alloc | apply Kd.R_drewN | apply Kd.R_drew)); exact Kd.R_mono (Kd.R_far (p := ⟨gb470, 2, none⟩) (Kd.R_far (p := ⟨gb470, 1, none⟩) (Kd.R_far (p := ⟨gb470, 0, none⟩) (Kd.R_types HO_481000.out BK470.out (by decide)) (fun _ hk => hk.2) (.slice Ao13 t471.length co13)) (fun _ hk => hk.2) (.slice Ao18 t474.length co18)) (fun _ hk => hk.2) (.slice Ao19 t477.length co19)) (fun _ hk => ⟨hk.1.1, hk.1.2⟩)), (by (with_reducible repeat (first | apply Kd.R_alloc | apply Kd.R_drewN | apply Kd.R_drew)); exact Kd.R_mono (Kd.R_far (p := ⟨gb470, 2, none⟩) (Kd.R_far (p := ⟨gb470, 1, none⟩) (Kd.R_far (p := ⟨gb470, 0, none⟩) (Kd.R_types HO_481001.out BK470.out (by decide)) (fun _ hk => hk.2) (.slice Ao13 t471.length co13)) (fun _ hk => hk.2) (.slice Ao18 t474.length co18)) (fun _ hk => hk.2) (.slice Ao19 t477.length co19)) (fun _ hk => ⟨hk.1.1, hk.1.2⟩)), (by (with_reducible repeat (first | apply Kd.R_alloc | apply Kd.R_drewN | apply Kd.R_drew)); exact Kd.R_mono (Kd.R_far (p := ⟨gb470, 2, none⟩) (Kd.R_far (p := ⟨gb470, 1, none⟩) (Kd.R_far (p := ⟨gb470, 0, none⟩) (Kd.R_types HO_481002.out BK470.out (by decide)) (fun _ hk => hk.2) (.slice Ao13 t471.length co13)) (fun _ hk => hk.2) (.slice Ao18 t474.length co18)) (fun _ hk => hk.2) (.slice Ao19 t477.length co19)) (fun _ hk => ⟨hk.1.1, hk.1.2⟩)), Q0⟩
   replace c43 := Bool.eq_false_iff.mpr c43
   subst c43
   rw [nf] at H
   obtain ⟨y482, hy482⟩ : ∃ y_ : List Int, y_ = (([] : List Int)) := ⟨_, rfl⟩
   replace H : (if y482.length + l1.length < 17592186044416 then ((some (y482 ++ l1 : List Int)).bind fun y485 => ((slices_DeleteFunc_int_int.f t477 l1).bind fun t488 => ((impl_isConf.f kj3 t471 y485 t488).bind fun t491 => (if t491 = true then (some (t471, y485, t488, true)) else ((impl_copyConf.f l0_0 l0_1 l0_2).bind fun bt492 => (some (bt492.1, bt492.2.1, bt492.2.2, false))))))) else (none)) = some (r1, r2, r3, r4) := by first | (rw [hy482]; with_reducible exact H) | (have H2_ := (Option.bind_some _ _).symm.trans H; rw [hy482]; with_reducible exact H2_) | (have H2_ := (Option.bind_some _ _).symm.trans H; with_reducible exact H2_) | with_reducible exact H | (rw [hy482]; exact H) | exact H
   have Ny482 := am hy482
   clear hy482
   by_cases c51 : y482.length + l1.length < 17592186044416
   rotate_left
   · rw [if_neg c51] at H
     exact absurd H (by simp)
   rw [if_pos c51] at H
   have LMc51 := am c51
   clear c51
   obtain ⟨y485, hy485⟩ : ∃ y_ : List Int, y_ = (y482 ++ l1) := ⟨_, rfl⟩
   replace H : ((slices_DeleteFunc_int_int.f t477 l1).bind fun t488 => ((impl_isConf.f kj3 t471 y485 t488).bind fun t491 => (if t491 = true then (some (t471, y485, t488, true)) else ((impl_copyConf.f l0_0 l0_1 l0_2).bind fun bt492 => (some (bt492.1, bt492.2.1, bt492.2.2, false)))))) = some (r1, r2, r3, r4) := by first | (rw [hy485]; with_reducible exact H) | (have H2_ := (Option.bind_some _ _).symm.trans H; rw [hy485]; with_reducible exact H2_) | (have H2_ := (Option.bind_some _ _).symm.trans H; with_reducible exact H2_) | with_reducible exact H | (rw [hy485]; exact H) | exact H
   have Ny485 := am hy485
   clear hy485
   replace H := Option.bind_eq_some_iff.mp H
   obtain ⟨t488, A520, H⟩ := H
   have A52 := am A520
   clear A520
   replace H := Option.bind_eq_some_iff.mp H
   obtain ⟨t491, A530, H⟩ := H
   have A53 := am A530
   clear A530
   have H9 := am H
   clear H
   go_upto_if 35 with (first | ((with_reducible refine gate_dst (N := 24) rfl ?_); (try (refine gate_guard (by rfl) ?_; dsimp only)); refine Kd.R_lit (Kd.int .i64) _ 3 ?hg (N := 24) ?hd (xs := ([] : List Int)) (inner := []) (ok := fun _ => True) (okp := fun _ => True) ?hr ?hp (fun _ hk => hk) trivial (Below.refl _ _) (Nat.le_refl _) (by simp) ?_; (case hd => rfl); (case hg => rfl); (case hr => first | (go_simp; done) | (go_simp; rfl)); (case hp => exact (Reps.none _ _)); intro v483 w54 ho55 hb hg_ hnew_; clear hg_ hnew_; (first | rw [← Ny482.out] at ho55 | (simp only [Int.reduceToNat] at ho55; rw [← Ny482.out] at ho55)); have HO484 := am (Kd.R_lower (Kd.R_new' (Kd.R_new' (Kd.R_new' ho55 (Kd.R_lt u10_20)) (Kd.R_lt u10_21)) (Kd.R_lt u10_36)) (below_size Q0)); replace HO_481000 := am (Kd.R_elder' u10_20 (Kd.R_base ho55) hb); replace HO_481001 := am (Kd.R_elder' u10_21 (Kd.R_base ho55) hb); replace HO_481002 := am (Kd.R_elder' u10_36 (Kd.R_base ho55) hb); replace BK468 := am (blk_below (g := gb468) (o := .cells #[.slice A0_0 l0_0.length c0_0, .slice A0_1 l0_1.length c0_1, .slice A0_2 l0_2.length c0_2] 26 (0, 0)) u10_4 hb); replace BK469 := am (blk_below (g := gb469) (o := .cells #[.slice A1 l1.length c1] 24 (0, 0)) u10_6 hb); replace BK470 := am (blk_below (g := gb470) (o := .cells #[.slice none 0 0, .slice none 0 0, .slice none 0 0] 26 (0, 0)) u10_10 hb); replace BK480 := am (blk_below (g := gb480) (o := .cells #[.slice Ao13 t471.length co13, .slice Ao18 t474.length co18, .slice Ao19 t477.length co19] 26 (0, 0)) u10_26 hb); replace HB := am (below_step Q0 hb); clear hb ho55; have hnb56 := NB469_468.out; have hnc56 := NB468_469.out; have hnb57 := NB469_470.out; have hnc57 := NB470_469.out; have hnb58 := NB469_480.out; have hnc58 := NB480_469.out; obtain ⟨hcz59_0, hfz59_0⟩ := bc1f w54 BK469.out) | ((with_reducible refine gate_builtin (b := .append) (xs := #[.tmp 24, .tmp 25]) rfl ?_); (try (refine gate_guard (by rfl) ?_; dsimp only)); at_builtin; refine Kd.R_append_rows (Kd.int .i64) (w0 := w) w.heap.size rfl (.tmp 24) (.tmp 25) 24 3 (.int .i64 0) 8 rfl Try.underlying24 info3 rfl (by decide) (by omega) v483 y482 l1 _ _ _ (fun k_ => some k_ ≠ (.slice Ao13 t471.length co13 : Value).ownBlock ∧ some k_ ≠ (.slice Ao18 t474.length co18 : Value).ownBlock ∧ some k_ ≠ (.slice Ao19 t477.length co19 : Value).ownBlock) (fun _ => False) rfl rfl ?aO ?aR (fun _ _ h => h) (fun _ h => h.elim) ?aF ?aB ?aS ?aL ?_; (case aR => repeat (first | exact (Kd.C_below HR1.out HB.out) | (with_reducible refine Kd.C_alloc ?_ _) | (with_reducible refine Kd.C_drewN ?_ _) | (with_reducible refine Kd.C_drew ?_))); (case aB => exact Q0); (case aF => exact (fun k_ hk => ⟨Kd.fresh' (Kd.R_lt u10_20) k_ hk, Kd.fresh' (Kd.R_lt u10_21) k_ hk, Kd.fresh' (Kd.R_lt u10_36) k_ hk⟩)); (case aO => exact (by (with_reducible repeat (first | apply Kd.R_alloc | apply Kd.R_drewN | apply Kd.R_drew)); exact Kd.R_mono HO484.out (fun _ hk => ⟨hk.1.1.2, ⟨hk.1.2, hk.2⟩⟩))); (case aS => exact (below_size Q0)); (case aL => have := LMc51.out; omega); intro v486 w60 ho hb hg hat; rw [← Ny485.out] at ho; replace HO_481000 := am (Kd.R_after (ok := (fun k_ => some k_ ≠ (.slice Ao18 t474.length co18 : Value).ownBlock ∧ some k_ ≠ (.slice Ao19 t477.length co19 : Value).ownBlock)) u10_20 hg hat); replace HO_481001 := am (Kd.R_after (ok := (fun k_ => some k_ ≠ (.slice Ao13 t471.length co13 : Value).ownBlock ∧ some k_ ≠ (.slice Ao19 t477.length co19 : Value).ownBlock)) u10_21 hg hat); replace HO_481002 := am (Kd.R_after (ok := (fun k_ => some k_ ≠ (.slice Ao13 t471.length co13 : Value).ownBlock ∧ some k_ ≠ (.slice Ao18 t474.length co18 : Value).ownBlock)) u10_36 hg hat); replace BK468 := am (blk_grown (g := gb468) (o := .cells #[.slice A0_0 l0_0.length c0_0, .slice A0_1 l0_1.length c0_1, .slice A0_2 l0_2.length c0_2] 26 (0, 0)) u10_4 hg (Kd.R_ne HO484.out BK468.out (by decide))); replace BK469 := am (blk_grown (g := gb469) (o := .cells #[.slice A1 l1.length c1] 24 (0, 0)) u10_6 hg (Kd.R_ne HO484.out BK469.out (by decide))); replace BK470 := am (blk_grown (g := gb470) (o := .cells #[.slice none 0 0, .slice none 0 0, .slice none 0 0] 26 (0, 0)) u10_10 hg (Kd.R_ne HO484.out BK470.out (by decide))); replace BK480 := am (blk_grown (g := gb480) (o := .cells #[.slice Ao13 t471.length co13, .slice Ao18 t474.length co18, .slice Ao19 t477.length co19] 26 (0, 0)) u10_26 hg (Kd.R_ne HO484.out BK480.out (by decide))); replace HB := am (hb); have HO487 := am (ho); clear HO484; clear ho hb hg hat; obtain ⟨Ao61, co61, eo61⟩ := Kd.R_slice HO487.out; subst eo61; have hnb62 := NB480_468.out; have hnc62 := NB468_480.out; have hnb63 := NB480_470.out; have hnc63 := NB470_480.out; obtain ⟨hcz64_0, hcz64_1, hcz64_2, hfz64_0, hfz64_1, hfz64_2⟩ := bc3f w60 BK480.out) | ((with_reducible refine gate_store (t := 24) (p := 27) rfl ?_); refine store_event (t := 24) (p := 27) (v := ?vo_w65) (w1 := (w60.setCell ⟨gb480, 1, none⟩ (.slice Ao61 y485.length co61))) ?hg ?ho ?hn ?hr ?_; (case ho => rfl); (case hg => rfl); (case hn => rfl); (case hr => first | (go_simp; done) | (go_simp; rfl)); intro w65 hw; have n0_ : Aside0 (Kd.R (Kd.int .i64) 3 w65 w.heap.size (fun k_ => some k_ ≠ (.slice Ao18 t474.length co18 : Value).ownBlock ∧ some k_ ≠ (.slice Ao19 t477.length co19 : Value).ownBlock ∧ some k_ ≠ (.slice Ao61 y485.length co61 : Value).ownBlock) (.slice Ao13 t471.length co13) t471) := ⟨(by rw [hw]; exact (by (with_reducible repeat (first | apply Kd.R_alloc | apply Kd.R_drewN | apply Kd.R_drew)); exact Kd.R_mono (Kd.R_far (p := ⟨gb480, 1, none⟩) (Kd.R_types HO_481000.out BK480.out (by decide)) (fun _ hk => hk.2) (.slice Ao61 y485.length co61)) (fun _ hk => ⟨hk.1.1.1, ⟨hk.1.1.2, hk.1.2⟩⟩)))⟩; have n1_ : Aside0 (Kd.R (Kd.int .i64) 3 w65 w.heap.size (fun k_ => some k_ ≠ (.slice Ao13 t471.length co13 : Value).ownBlock ∧ some k_ ≠ (.slice Ao19 t477.length co19 : Value).ownBlock ∧ some k_ ≠ (.slice Ao61 y485.length co61 : Value).ownBlock) (.slice Ao18 t474.length co18) t474) := ⟨(by rw [hw]; exact (by (with_reducible repeat (first | apply Kd.R_alloc | apply Kd.R_drewN | apply Kd.R_drew)); exact Kd.R_mono (Kd.R_far (p := ⟨gb480, 1, none⟩) (Kd.R_types HO_481001.out BK480.out (by decide)) (fun _ hk => hk.2) (.slice Ao61 y485.length co61)) (fun _ hk => ⟨hk.1.1.1, ⟨hk.1.1.2, hk.1.2⟩⟩)))⟩; have n2_ : Aside0 (Kd.R (Kd.int .i64) 3 w65 w.heap.size (fun k_ => some k_ ≠ (.slice Ao13 t471.length co13 : Value).ownBlock ∧ some k_ ≠ (.slice Ao18 t474.length co18 : Value).ownBlock ∧ some k_ ≠ (.slice Ao61 y485.length co61 : Value).ownBlock) (.slice Ao19 t477.length co19) t477) := ⟨(by rw [hw]; exact (by (with_reducible repeat (first | apply Kd.R_alloc | apply Kd.R_drewN | apply Kd.R_drew)); exact Kd.R_mono (Kd.R_far (p := ⟨gb480, 1, none⟩) (Kd.R_types HO_481002.out BK480.out (by decide)) (fun _ hk => hk.2) (.slice Ao61 y485.length co61)) (fun _ hk => ⟨hk.1.1.1, ⟨hk.1.1.2, hk.1.2⟩⟩)))⟩; have n3_ : Aside0 (Kd.R (Kd.int .i64) 3 w65 w.heap.size (fun k_ => some k_ ≠ (.slice Ao13 t471.length co13 : Value).ownBlock ∧ some k_ ≠ (.slice Ao18 t474.length co18 : Value).ownBlock ∧ some k_ ≠ (.slice Ao19 t477.length co19 : Value).ownBlock) (.slice Ao61 y485.length co61) y485) := ⟨(by rw [hw]; exact (by (with_reducible repeat (first | apply Kd.R_alloc | apply Kd.R_drewN | apply Kd.R_drew)); exact Kd.R_mono (Kd.R_far (p := ⟨gb480, 1, none⟩) (Kd.R_types HO487.out BK480.out (by decide)) (fun _ hk => hk.2) (.slice Ao61 y485.length co61)) (fun _ hk => ⟨hk.1.1, ⟨hk.1.2.1, hk.1.2.2⟩⟩)))⟩; have n4_ : Aside0 (w65.heap[gb468]? = some (.cells #[.slice A0_0 l0_0.length c0_0, .slice A0_1 l0_1.length c0_1, .slice A0_2 l0_2.length c0_2] 26 (0, 0))) := ⟨(by rw [hw]; exact u10_44)⟩; have n5_ : Aside0 (w65.heap[gb469]? = some (.cells #[.slice A1 l1.length c1] 24 (0, 0))) := ⟨(by rw [hw]; exact u10_45)⟩; have n6_ : Aside0 (w65.heap[gb470]? = some (.cells #[.slice none 0 0, .slice none 0 0, .slice none 0 0] 26 (0, 0))) := ⟨(by rw [hw]; exact u10_46)⟩; have n7_ : Aside0 (w65.heap[gb480]? = some (.cells #[.slice Ao13 t471.length co13, .slice Ao61 y485.length co61, .slice Ao19 t477.length co19] 26 (0, 0))) := ⟨(by rw [hw]; exact (by (with_reducible repeat (first | refine blk_drewN ?_ _ | refine blk_drew ?_ | refine blk_alloc ?_ _)); refine blk_put (cs := #[.slice Ao13 t471.length co13, .slice Ao18 t474.length co18, .slice Ao19 t477.length co19]) ?_ 1 _ rfl; (with_reducible repeat (first | refine blk_drewN ?_ _ | refine blk_drew ?_ | refine blk_alloc ?_ _)); exact BK480.out))⟩; have n8_ : Aside0 (Below w.heap.size w w65) := ⟨(by rw [hw]; exact Q0)⟩; clear hw; clear HO_481000; clear HO_481001; clear HO_481002; clear HO487; clear BK468; clear BK469; clear BK470; clear BK480; clear HB; have HO_481000 := n0_; have HO_481001 := n1_; have HO_481002 := n2_; have HO487 := n3_; have BK468 := n4_; have BK469 := n5_; have BK470 := n6_; have BK480 := n7_; have HB := n8_; clear n0_ n1_ n2_ n3_ n4_ n5_ n6_ n7_ n8_; obtain ⟨hcz66_0, hcz66_1, hcz66_2, hfz66_0, hfz66_1, hfz66_2⟩ := bc3f w65 BK480.out) | ((with_reducible refine gate_callee (f := 69) rfl ?_); refine goesL_ (some 31) rfl rfl Try.func69 kr rfl #[.slice Ao19 t477.length co19, .func (.func 70) #[] #[.pointer (some ⟨gb469, 0, none⟩)]] rfl Q3 ?_; (with_reducible refine (slices_DeleteFunc_int_int.calls (fun k_ => some k_ = (.slice Ao19 t477.length co19 : Value).ownBlock) (.slice Ao19 t477.length co19) t477 A1 c1 l1 t488 w _ ?side1 ?side2 ?side3 ?side4 ?side5 A52.out).mono ?_); (case side1 => exact Q0); (case side2 => exact Kd.R_tight rfl HO_481002.out); (case side3 => exact (by exact Kd.C_kept_came (Kd.heap_int .i64) HR1.out Q0 (fun k_ hs_ => (fun e_ => Kd.R_base HO_481002.out k_ e_.symm) hs_))); (case side4 => exact HC1.out); (case side5 => exact (by exact u10_6)); rintro e w67 ⟨v489, rfl, ho0, hb, hkp⟩; refine ⟨_, rfl, ?_⟩; replace BK468 := am (blk_kept u10_4 hkp (fun hs_ => (fun e_ => (Kd.R_ne HO_481002.out BK468.out (by decide)) e_) hs_)); replace BK469 := am (blk_kept u10_6 hkp (fun hs_ => (fun e_ => (Kd.R_ne HO_481002.out BK469.out (by decide)) e_) hs_)); replace BK470 := am (blk_kept u10_10 hkp (fun hs_ => (fun e_ => (Kd.R_ne HO_481002.out BK470.out (by decide)) e_) hs_)); replace BK480 := am (blk_kept u10_26 hkp (fun hs_ => (fun e_ => (Kd.R_ne HO_481002.out BK480.out (by decide)) e_) hs_)); have HO490 := am (Kd.R_mono (ok' := fun k_ => some k_ ≠ (.slice Ao13 t471.length co13 : Value).ownBlock ∧ some k_ ≠ (.slice Ao18 t474.length co18 : Value).ownBlock ∧ some k_ ≠ (.slice Ao61 y485.length co61 : Value).ownBlock) ho0 (fun k_ hk_ => ⟨Or.elim hk_ (fun hs_ => fun e_ => (((HO_481000.out).1 k_ e_.symm).2.1) hs_) (fun hn_ => (Kd.fresh' (Kd.R_lt u10_20) k_ hn_)), Or.elim hk_ (fun hs_ => fun e_ => (((HO_481001.out).1 k_ e_.symm).2.1) hs_) (fun hn_ => (Kd.fresh' (Kd.R_lt u10_21) k_ hn_)), Or.elim hk_ (fun hs_ => fun e_ => (((HO487.out).1 k_ e_.symm).2.2) hs_) (fun hn_ => (Kd.fresh' (Kd.R_lt u10_29) k_ hn_))⟩)); replace HO_481000 := am (Kd.R_mono (ok' := fun k_ => some k_ ≠ (.slice Ao18 t474.length co18 : Value).ownBlock ∧ some k_ ≠ (.slice Ao61 y485.length co61 : Value).ownBlock ∧ some k_ ≠ (v489 : Value).ownBlock) (Kd.R_keptB (HO_481000.out) hkp (fun k_ hk_ hs_ => (hk_.2.1) hs_)) (fun k_ hk_ => ⟨hk_.1.1, hk_.1.2.2, fun e_ => Or.elim (ho0.1 k_ e_.symm) (fun hs_ => hk_.2.1 hs_) (fun hn_ => Nat.not_le.2 hk_.2.2 hn_)⟩)); replace HO_481001 := am (Kd.R_mono (ok' := fun k_ => some k_ ≠ (.slice Ao13 t471.length co13 : Value).ownBlock ∧ some k_ ≠ (.slice Ao61 y485.length co61 : Value).ownBlock ∧ some k_ ≠ (v489 : Value).ownBlock) (Kd.R_keptB (HO_481001.out) hkp (fun k_ hk_ hs_ => (hk_.2.1) hs_)) (fun k_ hk_ => ⟨hk_.1.1, hk_.1.2.2, fun e_ => Or.elim (ho0.1 k_ e_.symm) (fun hs_ => hk_.2.1 hs_) (fun hn_ => Nat.not_le.2 hk_.2.2 hn_)⟩)); replace HO487 := am (Kd.R_mono (ok' := fun k_ => some k_ ≠ (.slice Ao13 t471.length co13 : Value).ownBlock ∧ some k_ ≠ (.slice Ao18 t474.length co18 : Value).ownBlock ∧ some k_ ≠ (v489 : Value).ownBlock) (Kd.R_keptB (HO487.out) hkp (fun k_ hk_ hs_ => (hk_.2.2) hs_)) (fun k_ hk_ => ⟨hk_.1.1, hk_.1.2.1, fun e_ => Or.elim (ho0.1 k_ e_.symm) (fun hs_ => hk_.2.1 hs_) (fun hn_ => Nat.not_le.2 hk_.2.2 hn_)⟩)); replace HB := am (hb); clear HO_481002; (try clear hb); (try clear hkp); (try clear ho0); obtain ⟨Ao68, co68, eo68⟩ := Kd.R_slice HO490.out; subst eo68; obtain ⟨hcz69_0, hcz69_1, hcz69_2, hfz69_0, hfz69_1, hfz69_2⟩ := bc3f w67 BK480.out) | ((with_reducible refine gate_callee (f := 48) rfl ?_); refine goesL_ (some 34) rfl rfl Try.func48 kr rfl #[.agg #[.slice Ao13 t471.length co13, .slice Ao61 y485.length co61, .slice Ao68 t488.length co68]] rfl Q3 ?_; (with_reducible refine (impl_isConf.calls kj3 _ _ t471 _ _ y485 _ _ t488 t491 _ ?side1 ?side2 ?side3 ?side4 ?side5 ?side6 A53.out).mono ?_); (case side1 => exact (by refine (Kd.R_reads' (e := 3) (base := w.heap.size) (ok := fun k_ => (some k_ ≠ (.slice Ao18 t474.length co18 : Value).ownBlock ∧ (some k_ ≠ (.slice Ao61 y485.length co61 : Value).ownBlock ∧ some k_ ≠ (.slice Ao68 t488.length co68 : Value).ownBlock))) (n := t471.length) (c := co13) ?_).2.2; exact u10_41)); (case side2 => exact (Kd.R_reads' HO_481000.out).2.1); (case side3 => exact (by refine (Kd.R_reads' (e := 3) (base := w.heap.size) (ok := fun k_ => (some k_ ≠ (.slice Ao13 t471.length co13 : Value).ownBlock ∧ (some k_ ≠ (.slice Ao18 t474.length co18 : Value).ownBlock ∧ some k_ ≠ (.slice Ao68 t488.length co68 : Value).ownBlock))) (n := y485.length) (c := co61) ?_).2.2; exact u10_42)); (case side4 => exact (Kd.R_reads' HO487.out).2.1); (case side5 => exact (by refine (Kd.R_reads' (e := 3) (base := w.heap.size) (ok := fun k_ => (some k_ ≠ (.slice Ao13 t471.length co13 : Value).ownBlock ∧ (some k_ ≠ (.slice Ao18 t474.length co18 : Value).ownBlock ∧ some k_ ≠ (.slice Ao61 y485.length co61 : Value).ownBlock))) (n := t488.length) (c := co68) ?_).2.2; exact u10_43)); (case side6 => exact (Kd.R_reads' HO490.out).2.1); rintro e w70 ⟨rfl, hb⟩; refine ⟨_, rfl, ?_⟩; replace HO_481000 := am (Kd.R_below u10_41 hb); replace HO_481001 := am (Kd.R_below (by (with_reducible repeat (first | apply Kd.R_alloc | apply Kd.R_drewN | apply Kd.R_drew)); exact (Kd.R_mono (Kd.R_far (p := ⟨gb480, 2, none⟩) (Kd.R_types HO_481001.out BK480.out (by decide)) (fun _ hk => hk.2) (.slice Ao68 t488.length co68)) (fun _ h_ => h_.1))) hb); replace HO487 := am (Kd.R_below u10_42 hb); replace HO490 := am (Kd.R_below u10_43 hb); replace BK468 := am (blk_below (g := gb468) (o := .cells #[.slice A0_0 l0_0.length c0_0, .slice A0_1 l0_1.length c0_1, .slice A0_2 l0_2.length c0_2] 26 (0, 0)) u10_44 hb); replace BK469 := am (blk_below (g := gb469) (o := .cells #[.slice A1 l1.length c1] 24 (0, 0)) u10_45 hb); replace BK470 := am (blk_below (g := gb470) (o := .cells #[.slice none 0 0, .slice none 0 0, .slice none 0 0] 26 (0, 0)) u10_46 hb); replace BK480 := am (blk_below (g := gb480) (o := .cells #[.slice Ao13 t471.length co13, .slice Ao61 y485.length co61, .slice Ao68 t488.length co68] 26 (0, 0)) (by (with_reducible repeat (first | refine blk_drewN ?_ _ | refine blk_drew ?_ | refine blk_alloc ?_ _)); refine blk_put (cs := #[.slice Ao13 t471.length co13, .slice Ao61 y485.length co61, .slice Ao19 t477.length co19]) ?_ 2 _ rfl; (with_reducible repeat (first | refine blk_drewN ?_ _ | refine blk_drew ?_ | refine blk_alloc ?_ _)); exact BK480.out) hb); replace HB := am (below_step Q0 hb); (try clear hb); (try clear hb2); (try clear hk); (try clear hi)))
   have H := H9.out
   clear H9
   by_cases c71 : t491 = true
   · subst c71
     rw [if_pos rfl] at H
     simp only [Option.some.injEq, Prod.mk.injEq] at H
     obtain ⟨rfl, rfl, rfl, rfl⟩ := H
     have hnb72 := NB480_468.out
     have hnc72 := NB468_480.out
     have hnb73 := NB480_469.out
     have hnc73 := NB469_480.out
     have hnb74 := NB480_470.out
     have hnc74 := NB470_480.out
     obtain ⟨hcz75_0, hcz75_1, hcz75_2, hfz75_0, hfz75_1, hfz75_2⟩ := bc3f w70 BK480.out
     have hnb76 := NB470_468.out
     have hnc76 := NB468_470.out
     have hnb77 := NB470_469.out
     have hnc77 := NB469_470.out
     obtain ⟨hcz78_0, hcz78_1, hcz78_2, hfz78_0, hfz78_1, hfz78_2⟩ := bc3f w70 BK470.out
     go_wp2
     refine bodyPost_ret (results_ct rfl _ _ gb470 26 #[.slice Ao13 t471.length co13, .slice Ao61 y485.length co61, .slice Ao68 t488.length co68] (0, 0) _ rfl (by (with_reducible repeat (first | refine blk_drewN ?_ _ | refine blk_drew ?_ | refine blk_alloc ?_ _)); refine blk_put (cs := #[.slice Ao13 t471.length co13, .slice Ao61 y485.length co61, .slice none 0 0]) ?_ 2 _ rfl; (with_reducible repeat (first | refine blk_drewN ?_ _ | refine blk_drew ?_ | refine blk_alloc ?_ _)); refine blk_put (cs := #[.slice Ao13 t471.length co13, .slice none 0 0, .slice none 0 0]) ?_ 1 _ rfl; (with_reducible repeat (first | refine blk_drewN ?_ _ | refine blk_drew ?_ | refine blk_alloc ?_ _)); refine blk_put (cs := #[.slice none 0 0, .slice none 0 0, .slice none 0 0]) ?_ 0 _ rfl; (with_reducible repeat (first | refine blk_drewN ?_ _ | refine blk_drew ?_ | refine blk_alloc ?_ _)); exact BK470.out) Try.underlying26 rfl kr) rfl ?_
     exact ⟨_, _, _, er, (by (with_reducible repeat (first | apply Kd.R_alloc | apply Kd.R_drewN | apply Kd.R_drew)); exact Kd.R_mono (Kd.R_far (p := ⟨gb470, 2, none⟩) (Kd.R_far (p := ⟨gb470, 1, none⟩) (Kd.R_far (p := ⟨gb470, 0, none⟩) (Kd.R_types HO_481000.out BK470.out (by decide)) (fun _ hk => hk.2) (.slice Ao13 t471.length co13)) (fun _ hk => hk.2) (.slice Ao61 y485.length co61)) (fun _ hk => hk.2) (.slice Ao68 t488.length co68)) (fun _ hk => ⟨hk.1.2.1, hk.1.2.2⟩)), (by (with_reducible repeat (first | apply Kd.R_alloc | apply Kd.R_drewN | apply Kd.R_drew)); exact Kd.R_mono (Kd.R_far (p := ⟨gb470, 2, none⟩) (Kd.R_far (p := ⟨gb470, 1, none⟩) (Kd.R_far (p := ⟨gb470, 0, none⟩) (Kd.R_types HO487.out BK470.out (by decide)) (fun _ hk => hk.2) (.slice Ao13 t471.length co13)) (fun _ hk => hk.2) (.slice Ao61 y485.length co61)) (fun _ hk => hk.2) (.slice Ao68 t488.length co68)) (fun _ hk => ⟨hk.1.1, hk.1.2.2⟩)), (by (with_reducible repeat (first | apply Kd.R_alloc | apply Kd.R_drewN | apply Kd.R_drew)); exact Kd.R_mono (Kd.R_far (p := ⟨gb470, 2, none⟩) (Kd.R_far (p := ⟨gb470, 1, none⟩) (Kd.R_far (p := ⟨gb470, 0, none⟩) (Kd.R_types HO490.out BK470.out (by decide)) (fun _ hk => hk.2) (.slice Ao13 t471.length co13)) (fun _ hk => hk.2) (.slice Ao61 y485.length co61)) (fun _ hk => hk.2) (.slice Ao68 t488.length co68)) (fun _ hk => ⟨hk.1.1, hk.1.2.2⟩)), Q0⟩
   replace c71 := Bool.eq_false_iff.mpr c71
   subst c71
   rw [nf] at H
   replace H := Option.bind_eq_some_iff.mp H
   obtain ⟨⟨t492, t495, t498⟩, A790, H⟩ := H
   replace H : (some (t492, t495, t498, false)) = some (r1, r2, r3, r4) := H
   have A79 := am A790
   clear A790
   simp only [Option.some.injEq, Prod.mk.injEq] at H
   obtain ⟨rfl, rfl, rfl, rfl⟩ := H
   have hnb80 := NB468_469.out
   have hnc80 := NB469_468.out
   have hnb81 := NB468_470.out
   have hnc81 := NB470_468.out
   have hnb82 := NB468_480.out
   have hnc82 := NB480_468.out
   obtain ⟨hcz83_0, hcz83_1, hcz83_2, hfz83_0, hfz83_1, hfz83_2⟩ := bc3f w70 BK468.out
   go_wp2_with (first | ((with_reducible refine gate_callee (f := 63) rfl ?_); refine goesL_ (some 37) rfl rfl Try.func63 kr rfl #[.agg #[.slice A0_0 l0_0.length c0_0, .slice A0_1 l0_1.length c0_1, .slice A0_2 l0_2.length c0_2]] rfl Q3 ?_; (with_reducible refine (impl_copyConf.calls _ _ l0_0 _ _ l0_1 _ _ l0_2 t492 t495 t498 _ ?side1 ?side2 ?side3 ?side4 ?side5 ?side6 A79.out).mono ?_); (case side1 => exact Q6); (case side2 => exact HC0_0.out); (case side3 => exact Q8); (case side4 => exact HC0_1.out); (case side5 => exact Q7); (case side6 => exact HC0_2.out); rintro e w84 ⟨v493, v496, v499, rfl, ho0, ho1, ho2, hb⟩; refine ⟨_, rfl, ?_⟩; have HO494 := am (Kd.R_lower (Kd.R_new' (Kd.R_new' (Kd.R_new' (Kd.R_new' ho0 (Kd.R_lt u10_20)) (Kd.R_lt u10_21)) (Kd.R_lt u10_29)) (Kd.R_lt u10_40)) (below_size Q0)); have HO497 := am (Kd.R_lower (Kd.R_new' (Kd.R_new' (Kd.R_new' (Kd.R_new' ho1 (Kd.R_lt u10_20)) (Kd.R_lt u10_21)) (Kd.R_lt u10_29)) (Kd.R_lt u10_40)) (below_size Q0)); have HO500 := am (Kd.R_lower (Kd.R_new' (Kd.R_new' (Kd.R_new' (Kd.R_new' ho2 (Kd.R_lt u10_20)) (Kd.R_lt u10_21)) (Kd.R_lt u10_29)) (Kd.R_lt u10_40)) (below_size Q0)); replace HO_481000 := am (Kd.R_mono (Kd.R_told (Kd.R_told (Kd.R_told (Kd.R_old u10_20 hb) (Kd.R_base ho0)) (Kd.R_base ho1)) (Kd.R_base ho2)) (fun _ h_ => h_.1)); replace HO_481001 := am (Kd.R_mono (Kd.R_told (Kd.R_told (Kd.R_told (Kd.R_old u10_21 hb) (Kd.R_base ho0)) (Kd.R_base ho1)) (Kd.R_base ho2)) (fun _ h_ => h_.1)); replace HO487 := am (Kd.R_mono (Kd.R_told (Kd.R_told (Kd.R_told (Kd.R_old u10_29 hb) (Kd.R_base ho0)) (Kd.R_base ho1)) (Kd.R_base ho2)) (fun _ h_ => h_.1)); replace HO490 := am (Kd.R_mono (Kd.R_told (Kd.R_told (Kd.R_told (Kd.R_old u10_40 hb) (Kd.R_base ho0)) (Kd.R_base ho1)) (Kd.R_base ho2)) (fun _ h_ => h_.1)); replace BK468 := am (blk_below (g := gb468) (o := .cells #[.slice A0_0 l0_0.length c0_0, .slice A0_1 l0_1.length c0_1, .slice A0_2 l0_2.length c0_2] 26 (0, 0)) u10_4 hb); replace BK469 := am (blk_below (g := gb469) (o := .cells #[.slice A1 l1.length c1] 24 (0, 0)) u10_6 hb); replace BK470 := am (blk_below (g := gb470) (o := .cells #[.slice none 0 0, .slice none 0 0, .slice none 0 0] 26 (0, 0)) u10_10 hb); replace BK480 := am (blk_below (g := gb480) (o := .cells #[.slice Ao13 t471.length co13, .slice Ao61 y485.length co61, .slice Ao68 t488.length co68] 26 (0, 0)) u10_26 hb); replace HB := am (below_step Q0 hb); (try clear hb); (try clear hb2); (try clear hk); (try clear hi); (try clear ho0); (try clear ho1); (try clear ho2); obtain ⟨Ao85, co85, eo85⟩ := Kd.R_slice HO494.out; subst eo85; have hnb86 := NB470_469.out; have hnc86 := NB469_470.out; have hnb87 := NB470_480.out; have hnc87 := NB480_470.out; obtain ⟨hcz88_0, hcz88_1, hcz88_2, hfz88_0, hfz88_1, hfz88_2⟩ := bc3f w84 BK470.out; obtain ⟨Ao89, co89, eo89⟩ := Kd.R_slice HO497.out; subst eo89; obtain ⟨Ao90, co90, eo90⟩ := Kd.R_slice HO500.out; subst eo90))
   refine bodyPost_ret (results_ct rfl _ _ gb470 26 #[.slice Ao85 t492.length co85, .slice Ao89 t495.length co89, .slice Ao90 t498.length co90] (0, 0) _ rfl (by (with_reducible repeat (first | refine blk_drewN ?_ _ | refine blk_drew ?_ | refine blk_alloc ?_ _)); refine blk_put (cs := #[.slice Ao85 t492.length co85, .slice Ao89 t495.length co89, .slice none 0 0]) ?_ 2 _ rfl; (with_reducible repeat (first | refine blk_drewN ?_ _ | refine blk_drew ?_ | refine blk_alloc ?_ _)); refine blk_put (cs := #[.slice Ao85 t492.length co85, .slice none 0 0, .slice none 0 0]) ?_ 1 _ rfl; (with_reducible repeat (first | refine blk_drewN ?_ _ | refine blk_drew ?_ | refine blk_alloc ?_ _)); refine blk_put (cs := #[.slice none 0 0, .slice none 0 0, .slice none 0 0]) ?_ 0 _ rfl; (with_reducible repeat (first | refine blk_drewN ?_ _ | refine blk_drew ?_ | refine blk_alloc ?_ _)); exact BK470.out) Try.underlying26 rfl kr) rfl ?_
   exact ⟨_, _, _, er, (by (with_reducible repeat (first | apply Kd.R_alloc | apply Kd.R_drewN | apply Kd.R_drew)); exact Kd.R_mono (Kd.R_far (p := ⟨gb470, 2, none⟩) (Kd.R_far (p := ⟨gb470, 1, none⟩) (Kd.R_far (p := ⟨gb470, 0, none⟩) (Kd.R_types HO494.out BK470.out (by decide)) (fun _ hk => hk.2) (.slice Ao85 t492.length co85)) (fun _ hk => hk.2) (.slice Ao89 t495.length co89)) (fun _ hk => hk.2) (.slice Ao90 t498.length co90)) (fun _ hk => ⟨hk.1.1.1.1.1.1, hk.1.1.1.1.1.2⟩)), (by (with_reducible repeat (first | apply Kd.R_alloc | apply Kd.R_drewN | apply Kd.R_drew)); exact Kd.R_mono (Kd.R_far (p := ⟨gb470, 2, none⟩) (Kd.R_far (p := ⟨gb470, 1, none⟩) (Kd.R_far (p := ⟨gb470, 0, none⟩) (Kd.R_types HO497.out BK470.out (by decide)) (fun _ hk => hk.2) (.slice Ao85 t492.length co85)) (fun _ hk => hk.2) (.slice Ao89 t495.length co89)) (fun _ hk => hk.2) (.slice Ao90 t498.length co90)) (fun _ hk => ⟨hk.1.1.1.1.1.1, hk.1.1.1.1.1.2⟩)), (by (with_reducible repeat (first | apply Kd.R_alloc | apply Kd.R_drewN | apply Kd.R_drew)); exact Kd.R_mono (Kd.R_far (p := ⟨gb470, 2, none⟩) (Kd.R_far (p := ⟨gb470, 1, none⟩) (Kd.R_far (p := ⟨gb470, 0, none⟩) (Kd.R_types HO500.out BK470.out (by decide)) (fun _ hk => hk.2) (.slice Ao85 t492.length co85)) (fun _ hk => hk.2) (.slice Ao89 t495.length co89)) (fun _ hk => hk.2) (.slice Ao90 t498.length co90)) (fun _ hk => ⟨hk.1.1.1.1.1.1, hk.1.1.1.1.1.2⟩)), Q0⟩

/-! ### impl_Begin: function 11 -/
def impl_Begin.f (k : Nat) (l0_0 : List Int) (l0_1 : List Int) (l0_2 : List Int) (l1 : List Int) : Option (List Int × List Int × List Int × Bool) := (impl_begin.f k l0_0 l0_1 l0_2 l1).bind fun bt503 => (some (bt503.1, bt503.2.1, bt503.2.2.1, bt503.2.2.2))
theorem impl_Begin.mono : ∀ a0 a1 a2 a3 k, LeO (impl_Begin.f k a0 a1 a2 a3) (impl_Begin.f (k + 1) a0 a1 a2 a3) := by
 intro a0 a1 a2 a3 k
 unfold impl_Begin.f
 repeat' first
     | (with_reducible exact impl_begin.mono _ _ _ _ _)
     | (with_reducible exact LeO.refl _)
     | (with_reducible exact LeO.none _)
     | (with_reducible refine LeO.ite ?_ ?_)
     | (with_reducible refine LeO.bind ?_ (fun _ => ?_))
     | exact impl_begin.mono _ _ _ _ _
     | exact LeO.none _
     | refine LeO.ite ?_ ?_
     | refine LeO.bind ?_ (fun _ => ?_)
set_option maxHeartbeats 8000000 in
set_option maxRecDepth 100000 in
theorem impl_Begin.calls (k : Nat) (A0_0 : Option Addr) (c0_0 : Nat) (l0_0 : List Int) (A0_1 : Option Addr) (c0_1 : Nat) (l0_1 : List Int) (A0_2 : Option Addr) (c0_2 : Nat) (l0_2 : List Int) (A1 : Option Addr) (c1 : Nat) (l1 : List Int) (r1 : List Int) (r2 : List Int) (r3 : List Int) (r4 : Bool) (w : World) (hr0_0 : Kd.C (Kd.int .i64) w A0_0 l0_0.length l0_0) (hc0_0 : l0_0.length ≤ c0_0) (hr0_1 : Kd.C (Kd.int .i64) w A0_1 l0_1.length l0_1) (hc0_1 : l0_1.length ≤ c0_1) (hr0_2 : Kd.C (Kd.int .i64) w A0_2 l0_2.length l0_2) (hc0_2 : l0_2.length ≤ c0_2) (hr1 : Kd.C (Kd.int .i64) w A1 l1.length l1) (hc1 : l1.length ≤ c1) (h : impl_Begin.f k l0_0 l0_1 l0_2 l1 = some (r1, r2, r3, r4)) :
   Calls Try.prog 11 #[.agg #[.slice A0_0 l0_0.length c0_0, .slice A0_1 l0_1.length c0_1, .slice A0_2 l0_2.length c0_2], .slice A1 l1.length c1] w fun e w' => ∃ v0_ v1_ v2_ : Value, e = .returned (.tuple #[.agg #[v0_, v1_, v2_], .bool r4]) ∧ Kd.R (Kd.int .i64) 3 w' w.heap.size (fun k_ => some k_ ≠ (v1_ : Value).ownBlock ∧ some k_ ≠ (v2_ : Value).ownBlock) v0_ r1 ∧ Kd.R (Kd.int .i64) 3 w' w.heap.size (fun k_ => some k_ ≠ (v0_ : Value).ownBlock ∧ some k_ ≠ (v2_ : Value).ownBlock) v1_ r2 ∧ Kd.R (Kd.int .i64) 3 w' w.heap.size (fun k_ => some k_ ≠ (v0_ : Value).ownBlock ∧ some k_ ≠ (v1_ : Value).ownBlock) v2_ r3 ∧ Below w.heap.size w w' := by
 have hu26 := Try.underlying26
 have HR0_0 := am hr0_0
 have HC0_0 := am hc0_0
 clear hr0_0 hc0_0
 have HR0_1 := am hr0_1
 have HC0_1 := am hc0_1
 clear hr0_1 hc0_1
 have HR0_2 := am hr0_2
 have HC0_2 := am hc0_2
 clear hr0_2 hc0_2
 have HR1 := am hr1
 have HC1 := am hc1
 clear hr1 hc1
 have HB := am (Below.refl w.heap.size w)
 have H : ((impl_begin.f k l0_0 l0_1 l0_2 l1).bind fun bt503 => (some (bt503.1, bt503.2.1, bt503.2.2.1, bt503.2.2.2))) = some (r1, r2, r3, r4) := h
 clear h
 replace H := Option.bind_eq_some_iff.mp H
 obtain ⟨⟨t503, t506, t509, t512⟩, A30, H⟩ := H
 replace H : (some (t503, t506, t509, t512)) = some (r1, r2, r3, r4) := H
 have A3 := am A30
 clear A30
 simp only [Option.some.injEq, Prod.mk.injEq] at H
 obtain ⟨rfl, rfl, rfl, rfl⟩ := H
 go_enter Try.func11, Try.ntmps11
 go_wp2_with (first | ((with_reducible refine gate_dst (N := 2) rfl ?_); refine box_event ?hg (N := 2) ?hd (cs := #[.slice A0_0 l0_0.length c0_0, .slice A0_1 l0_1.length c0_1, .slice A0_2 l0_2.length c0_2]) (t := 26) ?hr ?_; (case hd => rfl); (case hg => rfl); (case hr => first | (go_simp; done) | (go_simp; rfl)); intro gb501 hg w4 hbox hb; have BK501 := am (hbox); have GW501 := am ((by rw [hg]; exact (below_size Q0) : w.heap.size ≤ gb501)); have GE501 := am ((by rw [hg]; exact (below_size Q0) : w.heap.size ≤ gb501)); replace HB := am (below_step Q0 hb); clear hb hbox hg) | ((with_reducible refine gate_dst (N := 4) rfl ?_); refine box_event ?hg (N := 4) ?hd (cs := #[.slice none 0 0, .slice none 0 0, .slice none 0 0]) (t := 26) ?hr ?_; (case hd => rfl); (case hg => rfl); (case hr => first | (go_simp; done) | (go_simp; rfl)); intro gb502 hg w5 hbox hb; have BK502 := am (hbox); have GW502 := am ((by rw [hg]; exact (below_size Q0) : w.heap.size ≤ gb502)); have GE502 := am ((by rw [hg]; exact (below_size Q0) : w.heap.size ≤ gb502)); replace HB := am (below_step Q0 hb); have NB501_502 := am ((by rw [hg]; exact Nat.ne_of_lt (blk_lt (g := gb501) (o := .cells #[.slice A0_0 l0_0.length c0_0, .slice A0_1 l0_1.length c0_1, .slice A0_2 l0_2.length c0_2] 26 (0, 0)) u10_31) : gb501 ≠ gb502)); have NB502_501 := am ((by rw [hg]; exact Nat.ne_of_gt (blk_lt (g := gb501) (o := .cells #[.slice A0_0 l0_0.length c0_0, .slice A0_1 l0_1.length c0_1, .slice A0_2 l0_2.length c0_2] 26 (0, 0)) u10_31) : gb502 ≠ gb501)); replace BK501 := am (blk_below (g := gb501) (o := .cells #[.slice A0_0 l0_0.length c0_0, .slice A0_1 l0_1.length c0_1, .slice A0_2 l0_2.length c0_2] 26 (0, 0)) u10_31 hb); clear hb hbox hg; have hnb6 := NB501_502.out; have hnc6 := NB502_501.out; obtain ⟨hcz7_0, hcz7_1, hcz7_2, hfz7_0, hfz7_1, hfz7_2⟩ := bc3f w5 BK501.out) | ((with_reducible refine gate_callee (f := 46) rfl ?_); refine goesL_ (some 8) rfl rfl Try.func46 kr rfl #[.agg #[.slice A0_0 l0_0.length c0_0, .slice A0_1 l0_1.length c0_1, .slice A0_2 l0_2.length c0_2], .slice A1 l1.length c1] rfl Q3 ?_; (with_reducible refine (impl_begin.calls k _ _ l0_0 _ _ l0_1 _ _ l0_2 _ _ l1 t503 t506 t509 t512 _ ?side1 ?side2 ?side3 ?side4 ?side5 ?side6 ?side7 ?side8 A3.out).mono ?_); (case side1 => exact Q6); (case side2 => exact HC0_0.out); (case side3 => exact Q8); (case side4 => exact HC0_1.out); (case side5 => exact Q7); (case side6 => exact HC0_2.out); (case side7 => exact (by repeat (first | exact (Kd.C_below HR1.out HB.out) | (with_reducible refine Kd.C_alloc ?_ _) | (with_reducible refine Kd.C_drewN ?_ _) | (with_reducible refine Kd.C_drew ?_)))); (case side8 => exact HC1.out); rintro e w8 ⟨v504, v507, v510, rfl, ho0, ho1, ho2, hb⟩; refine ⟨_, rfl, ?_⟩; have HO505 := am (Kd.R_lower ho0 (below_size Q0)); have HO508 := am (Kd.R_lower ho1 (below_size Q0)); have HO511 := am (Kd.R_lower ho2 (below_size Q0)); replace BK501 := am (blk_below (g := gb501) (o := .cells #[.slice A0_0 l0_0.length c0_0, .slice A0_1 l0_1.length c0_1, .slice A0_2 l0_2.length c0_2] 26 (0, 0)) u10_31 hb); replace BK502 := am (blk_below (g := gb502) (o := .cells #[.slice none 0 0, .slice none 0 0, .slice none 0 0] 26 (0, 0)) (by (with_reducible repeat (first | refine blk_drewN ?_ _ | refine blk_drew ?_ | refine blk_alloc ?_ _)); exact BK502.out) hb); replace HB := am (below_step Q0 hb); (try clear hb); (try clear hb2); (try clear hk); (try clear hi); (try clear ho0); (try clear ho1); (try clear ho2); obtain ⟨Ao9, co9, eo9⟩ := Kd.R_slice HO505.out; subst eo9; obtain ⟨hcz10_0, hcz10_1, hcz10_2, hfz10_0, hfz10_1, hfz10_2⟩ := bc3f w8 BK502.out; obtain ⟨Ao11, co11, eo11⟩ := Kd.R_slice HO508.out; subst eo11; obtain ⟨Ao12, co12, eo12⟩ := Kd.R_slice HO511.out; subst eo12))
 refine bodyPost_ret (results_ct rfl _ _ gb502 26 #[.slice Ao9 t503.length co9, .slice Ao11 t506.length co11, .slice Ao12 t509.length co12] (0, 0) _ rfl (by (with_reducible repeat (first | refine blk_drewN ?_ _ | refine blk_drew ?_ | refine blk_alloc ?_ _)); refine blk_put (cs := #[.slice Ao9 t503.length co9, .slice Ao11 t506.length co11, .slice none 0 0]) ?_ 2 _ rfl; (with_reducible repeat (first | refine blk_drewN ?_ _ | refine blk_drew ?_ | refine blk_alloc ?_ _)); refine blk_put (cs := #[.slice Ao9 t503.length co9, .slice none 0 0, .slice none 0 0]) ?_ 1 _ rfl; (with_reducible repeat (first | refine blk_drewN ?_ _ | refine blk_drew ?_ | refine blk_alloc ?_ _)); refine blk_put (cs := #[.slice none 0 0, .slice none 0 0, .slice none 0 0]) ?_ 0 _ rfl; (with_reducible repeat (first | refine blk_drewN ?_ _ | refine blk_drew ?_ | refine blk_alloc ?_ _)); exact BK502.out) Try.underlying26 rfl kr) rfl ?_
 exact ⟨_, _, _, er, (by (with_reducible repeat (first | apply Kd.R_alloc | apply Kd.R_drewN | apply Kd.R_drew)); exact Kd.R_mono (Kd.R_far (p := ⟨gb502, 2, none⟩) (Kd.R_far (p := ⟨gb502, 1, none⟩) (Kd.R_far (p := ⟨gb502, 0, none⟩) (Kd.R_types HO505.out BK502.out (by decide)) (fun _ hk => hk.2) (.slice Ao9 t503.length co9)) (fun _ hk => hk.2) (.slice Ao11 t506.length co11)) (fun _ hk => hk.2) (.slice Ao12 t509.length co12)) (fun _ hk => ⟨hk.1.1, hk.1.2⟩)), (by (with_reducible repeat (first | apply Kd.R_alloc | apply Kd.R_drewN | apply Kd.R_drew)); exact Kd.R_mono (Kd.R_far (p := ⟨gb502, 2, none⟩) (Kd.R_far (p := ⟨gb502, 1, none⟩) (Kd.R_far (p := ⟨gb502, 0, none⟩) (Kd.R_types HO508.out BK502.out (by decide)) (fun _ hk => hk.2) (.slice Ao9 t503.length co9)) (fun _ hk => hk.2) (.slice Ao11 t506.length co11)) (fun _ hk => hk.2) (.slice Ao12 t509.length co12)) (fun _ hk => ⟨hk.1.1, hk.1.2⟩)), (by (with_reducible repeat (first | apply Kd.R_alloc | apply Kd.R_drewN | apply Kd.R_drew)); exact Kd.R_mono (Kd.R_far (p := ⟨gb502, 2, none⟩) (Kd.R_far (p := ⟨gb502, 1, none⟩) (Kd.R_far (p := ⟨gb502, 0, none⟩) (Kd.R_types HO511.out BK502.out (by decide)) (fun _ hk => hk.2) (.slice Ao9 t503.length co9)) (fun _ hk => hk.2) (.slice Ao11 t506.length co11)) (fun _ hk => hk.2) (.slice Ao12 t509.length co12)) (fun _ hk => ⟨hk.1.1, hk.1.2⟩)), Q0⟩

/-! ### impl_finish: function 47 -/
def impl_finish.f (k : Nat) (l0_0 : List Int) (l0_1 : List Int) (l0_2 : List Int) : Option (List Int × List Int × List Int × Bool) := (impl_copyConf.f l0_0 l0_1 l0_2).bind fun bt515 => ((impl_isConf.f k l0_0 l0_1 l0_2).bind fun t525 => (if t525 = true then (if (l0_1.length : Int) = 0 then (some (bt515.1, bt515.2.1, bt515.2.2, false)) else (some (bt515.2.1, ([] : List Int), bt515.2.2, true))) else (some (bt515.1, bt515.2.1, bt515.2.2, false))))
theorem impl_finish.mono : ∀ a0 a1 a2 k, LeO (impl_finish.f k a0 a1 a2) (impl_finish.f (k + 1) a0 a1 a2) := by
 intro a0 a1 a2 k
 unfold impl_finish.f
 repeat' first
     | (with_reducible exact impl_isConf.mono _ _ _ _)
     | (with_reducible exact LeO.refl _)
     | (with_reducible exact LeO.none _)
     | (with_reducible refine LeO.ite ?_ ?_)
     | (with_reducible refine LeO.bind ?_ (fun _ => ?_))
     | exact impl_isConf.mono _ _ _ _
     | exact LeO.none _
     | refine LeO.ite ?_ ?_
     | refine LeO.bind ?_ (fun _ => ?_)
set_option maxHeartbeats 8000000 in
set_option maxRecDepth 100000 in
theorem impl_finish.calls (k : Nat) (A0_0 : Option Addr) (c0_0 : Nat) (l0_0 : List Int) (A0_1 : Option Addr) (c0_1 : Nat) (l0_1 : List Int) (A0_2 : Option Addr) (c0_2 : Nat) (l0_2 : List Int) (r1 : List Int) (r2 : List Int) (r3 : List Int) (r4 : Bool) (w : World) (hr0_0 : Kd.C (Kd.int .i64) w A0_0 l0_0.length l0_0) (hc0_0 : l0_0.length ≤ c0_0) (hr0_1 : Kd.C (Kd.int .i64) w A0_1 l0_1.length l0_1) (hc0_1 : l0_1.length ≤ c0_1) (hr0_2 : Kd.C (Kd.int .i64) w A0_2 l0_2.length l0_2) (hc0_2 : l0_2.length ≤ c0_2) (h : impl_finish.f k l0_0 l0_1 l0_2 = some (r1, r2, r3, r4)) :
   Calls Try.prog 47 #[.agg #[.slice A0_0 l0_0.length c0_0, .slice A0_1 l0_1.length c0_1, .slice A0_2 l0_2.length c0_2]] w fun e w' => ∃ v0_ v1_ v2_ : Value, e = .returned (.tuple #[.agg #[v0_, v1_, v2_], .bool r4]) ∧ Kd.R (Kd.int .i64) 3 w' w.heap.size (fun k_ => some k_ ≠ (v1_ : Value).ownBlock ∧ some k_ ≠ (v2_ : Value).ownBlock) v0_ r1 ∧ Kd.R (Kd.int .i64) 3 w' w.heap.size (fun k_ => some k_ ≠ (v0_ : Value).ownBlock ∧ some k_ ≠ (v2_ : Value).ownBlock) v1_ r2 ∧ Kd.R (Kd.int .i64) 3 w' w.heap.size (fun k_ => some k_ ≠ (v0_ : Value).ownBlock ∧ some k_ ≠ (v1_ : Value).ownBlock) v2_ r3 ∧ Below w.heap.size w w' := by
 have hu26 := Try.underlying26
 have HR0_0 := am hr0_0
 have HC0_0 := am hc0_0
 clear hr0_0 hc0_0
 have HR0_1 := am hr0_1
 have HC0_1 := am hc0_1
 clear hr0_1 hc0_1
 have HR0_2 := am hr0_2
 have HC0_2 := am hc0_2
 clear hr0_2 hc0_2
 have HB := am (Below.refl w.heap.size w)
 have H : ((impl_copyConf.f l0_0 l0_1 l0_2).bind fun bt515 => ((impl_isConf.f k l0_0 l0_1 l0_2).bind fun t525 => (if t525 = true then (if (l0_1.length : Int) = 0 then (some (bt515.1, bt515.2.1, bt515.2.2, false)) else (some (bt515.2.1, ([] : List Int), bt515.2.2, true))) else (some (bt515.1, bt515.2.1, bt515.2.2, false))))) = some (r1, r2, r3, r4) := h
 clear h
 replace H := Option.bind_eq_some_iff.mp H
 obtain ⟨⟨t515, t518, t521⟩, A20, H⟩ := H
 (try dsimp only at H)
 have A2 := am A20
 clear A20
 replace H := Option.bind_eq_some_iff.mp H
 obtain ⟨t525, A30, H⟩ := H
 have A3 := am A30
 clear A30
 by_cases c4 : t525 = true
 rotate_left
 · replace c4 := Bool.eq_false_iff.mpr c4
   subst c4
   rw [nf] at H
   simp only [Option.some.injEq, Prod.mk.injEq] at H
   obtain ⟨rfl, rfl, rfl, rfl⟩ := H
   go_enter Try.func47, Try.ntmps47
   go_wp2_with (first | ((with_reducible refine gate_dst (N := 1) rfl ?_); (try (refine gate_guard (by rfl) ?_; dsimp only)); refine box_event ?hg (N := 1) ?hd (cs := #[.slice A0_0 l0_0.length c0_0, .slice A0_1 l0_1.length c0_1, .slice A0_2 l0_2.length c0_2]) (t := 26) ?hr ?_; (case hd => rfl); (case hg => rfl); (case hr => first | (go_simp; done) | (go_simp; rfl)); intro gb513 hg w31 hbox hb; have BK513 := am (hbox); have GW513 := am ((by rw [hg]; exact (below_size Q0) : w.heap.size ≤ gb513)); have GE513 := am ((by rw [hg]; exact (below_size Q0) : w.heap.size ≤ gb513)); replace HB := am (below_step Q0 hb); clear hb hbox hg) | ((with_reducible refine gate_dst (N := 2) rfl ?_); (try (refine gate_guard (by rfl) ?_; dsimp only)); refine box_event ?hg (N := 2) ?hd (cs := #[.slice none 0 0, .slice none 0 0, .slice none 0 0]) (t := 26) ?hr ?_; (case hd => rfl); (case hg => rfl); (case hr => first | (go_simp; done) | (go_simp; rfl)); intro gb514 hg w32 hbox hb; have BK514 := am (hbox); have GW514 := am ((by rw [hg]; exact (below_size Q0) : w.heap.size ≤ gb514)); have GE514 := am ((by rw [hg]; exact (below_size Q0) : w.heap.size ≤ gb514)); replace HB := am (below_step Q0 hb); have NB513_514 := am ((by rw [hg]; exact Nat.ne_of_lt (blk_lt (g := gb513) (o := .cells #[.slice A0_0 l0_0.length c0_0, .slice A0_1 l0_1.length c0_1, .slice A0_2 l0_2.length c0_2] 26 (0, 0)) u10_7) : gb513 ≠ gb514)); have NB514_513 := am ((by rw [hg]; exact Nat.ne_of_gt (blk_lt (g := gb513) (o := .cells #[.slice A0_0 l0_0.length c0_0, .slice A0_1 l0_1.length c0_1, .slice A0_2 l0_2.length c0_2] 26 (0, 0)) u10_7) : gb514 ≠ gb513)); replace BK513 := am (blk_below (g := gb513) (o := .cells #[.slice A0_0 l0_0.length c0_0, .slice A0_1 l0_1.length c0_1, .slice A0_2 l0_2.length c0_2] 26 (0, 0)) u10_7 hb); clear hb hbox hg; have hnb33 := NB513_514.out; have hnc33 := NB514_513.out; obtain ⟨hcz34_0, hcz34_1, hcz34_2, hfz34_0, hfz34_1, hfz34_2⟩ := bc3f w32 BK513.out) | ((with_reducible refine gate_callee (f := 63) rfl ?_); refine goesL_ (some 6) rfl rfl Try.func63 kr rfl #[.agg #[.slice A0_0 l0_0.length c0_0, .slice A0_1 l0_1.length c0_1, .slice A0_2 l0_2.length c0_2]] rfl Q3 ?_; (with_reducible refine (impl_copyConf.calls _ _ l0_0 _ _ l0_1 _ _ l0_2 t515 t518 t521 _ ?side1 ?side2 ?side3 ?side4 ?side5 ?side6 A2.out).mono ?_); (case side1 => exact Q6); (case side2 => exact HC0_0.out); (case side3 => exact Q8); (case side4 => exact HC0_1.out); (case side5 => exact Q7); (case side6 => exact HC0_2.out); rintro e w35 ⟨v516, v519, v522, rfl, ho0, ho1, ho2, hb⟩; refine ⟨_, rfl, ?_⟩; have HO517 := am (Kd.R_lower ho0 (below_size Q0)); have HO520 := am (Kd.R_lower ho1 (below_size Q0)); have HO523 := am (Kd.R_lower ho2 (below_size Q0)); replace BK513 := am (blk_below (g := gb513) (o := .cells #[.slice A0_0 l0_0.length c0_0, .slice A0_1 l0_1.length c0_1, .slice A0_2 l0_2.length c0_2] 26 (0, 0)) u10_7 hb); replace BK514 := am (blk_below (g := gb514) (o := .cells #[.slice none 0 0, .slice none 0 0, .slice none 0 0] 26 (0, 0)) u10_23 hb); replace HB := am (below_step Q0 hb); (try clear hb); (try clear hb2); (try clear hk); (try clear hi); (try clear ho0); (try clear ho1); (try clear ho2)) | ((with_reducible refine gate_dst (N := 4) rfl ?_); (try (refine gate_guard (by rfl) ?_; dsimp only)); refine box_event ?hg (N := 4) ?hd (cs := #[.slice none 0 0, .slice none 0 0, .slice none 0 0]) (t := 26) ?hr ?_; (case hd => rfl); (case hg => rfl); (case hr => first | (go_simp; done) | (go_simp; rfl)); intro gb524 hg w36 hbox hb; replace HO517 := am (Kd.R_below u10_48 hb); replace HO520 := am (Kd.R_below u10_49 hb); replace HO523 := am (Kd.R_below u10_50 hb); have BK524 := am (hbox); have GW524 := am ((by rw [hg]; exact (below_size Q0) : w.heap.size ≤ gb524)); have GE524 := am ((by rw [hg]; exact (below_size Q0) : w.heap.size ≤ gb524)); replace HB := am (below_step Q0 hb); have NB513_524 := am ((by rw [hg]; exact Nat.ne_of_lt (blk_lt (g := gb513) (o := .cells #[.slice A0_0 l0_0.length c0_0, .slice A0_1 l0_1.length c0_1, .slice A0_2 l0_2.length c0_2] 26 (0, 0)) u10_7) : gb513 ≠ gb524)); have NB524_513 := am ((by rw [hg]; exact Nat.ne_of_gt (blk_lt (g := gb513) (o := .cells #[.slice A0_0 l0_0.length c0_0, .slice A0_1 l0_1.length c0_1, .slice A0_2 l0_2.length c0_2] 26 (0, 0)) u10_7) : gb524 ≠ gb513)); replace BK513 := am (blk_below (g := gb513) (o := .cells #[.slice A0_0 l0_0.length c0_0, .slice A0_1 l0_1.length c0_1, .slice A0_2 l0_2.length c0_2] 26 (0, 0)) u10_7 hb); have NB514_524 := am ((by rw [hg]; exact Nat.ne_of_lt (blk_lt (g := gb514) (o := .cells #[.slice none 0 0, .slice none 0 0, .slice none 0 0] 26 (0, 0)) u10_23) : gb514 ≠ gb524)); have NB524_514 := am ((by rw [hg]; exact Nat.ne_of_gt (blk_lt (g := gb514) (o := .cells #[.slice none 0 0, .slice none 0 0, .slice none 0 0] 26 (0, 0)) u10_23) : gb524 ≠ gb514)); replace BK514 := am (blk_below (g := gb514) (o := .cells #[.slice none 0 0, .slice none 0 0, .slice none 0 0] 26 (0, 0)) u10_23 hb); clear hb hbox hg; obtain ⟨Ao37, co37, eo37⟩ := Kd.R_slice HO517.out; subst eo37; have hnb38 := NB524_513.out; have hnc38 := NB513_524.out; have hnb39 := NB524_514.out; have hnc39 := NB514_524.out; obtain ⟨hcz40_0, hcz40_1, hcz40_2, hfz40_0, hfz40_1, hfz40_2⟩ := bc3f w36 BK524.out; obtain ⟨Ao41, co41, eo41⟩ := Kd.R_slice HO520.out; subst eo41; obtain ⟨Ao42, co42, eo42⟩ := Kd.R_slice HO523.out; subst eo42; obtain ⟨hcz43_0, hcz43_1, hcz43_2, hfz43_0, hfz43_1, hfz43_2⟩ := bc3f w36 BK513.out) | ((with_reducible refine gate_callee (f := 48) rfl ?_); refine goesL_ (some 8) rfl rfl Try.func48 kr rfl #[.agg #[.slice A0_0 l0_0.length c0_0, .slice A0_1 l0_1.length c0_1, .slice A0_2 l0_2.length c0_2]] rfl Q3 ?_; (with_reducible refine (impl_isConf.calls k _ _ l0_0 _ _ l0_1 _ _ l0_2 false _ ?side1 ?side2 ?side3 ?side4 ?side5 ?side6 A3.out).mono ?_); (case side1 => exact (by exact Kd.C_below HR0_0.out Q0)); (case side2 => exact HC0_0.out); (case side3 => exact (by exact Kd.C_below HR0_1.out Q0)); (case side4 => exact HC0_1.out); (case side5 => exact (by exact Kd.C_below HR0_2.out Q0)); (case side6 => exact HC0_2.out); rintro e w44 ⟨rfl, hb⟩; refine ⟨_, rfl, ?_⟩; replace HO517 := am (Kd.R_below (by (with_reducible repeat (first | apply Kd.R_alloc | apply Kd.R_drewN | apply Kd.R_drew)); exact (Kd.R_mono (Kd.R_far (p := ⟨gb524, 2, none⟩) (Kd.R_far (p := ⟨gb524, 1, none⟩) (Kd.R_far (p := ⟨gb524, 0, none⟩) (Kd.R_types HO517.out BK524.out (by decide)) (fun _ hk => hk.2) (.slice Ao37 t515.length co37)) (fun _ hk => hk.2) (.slice Ao41 t518.length co41)) (fun _ hk => hk.2) (.slice Ao42 t521.length co42)) (fun _ h_ => h_.1))) hb); replace HO520 := am (Kd.R_below (by (with_reducible repeat (first | apply Kd.R_alloc | apply Kd.R_drewN | apply Kd.R_drew)); exact (Kd.R_mono (Kd.R_far (p := ⟨gb524, 2, none⟩) (Kd.R_far (p := ⟨gb524, 1, none⟩) (Kd.R_far (p := ⟨gb524, 0, none⟩) (Kd.R_types HO520.out BK524.out (by decide)) (fun _ hk => hk.2) (.slice Ao37 t515.length co37)) (fun _ hk => hk.2) (.slice Ao41 t518.length co41)) (fun _ hk => hk.2) (.slice Ao42 t521.length co42)) (fun _ h_ => h_.1))) hb); replace HO523 := am (Kd.R_below (by (with_reducible repeat (first | apply Kd.R_alloc | apply Kd.R_drewN | apply Kd.R_drew)); exact (Kd.R_mono (Kd.R_far (p := ⟨gb524, 2, none⟩) (Kd.R_far (p := ⟨gb524, 1, none⟩) (Kd.R_far (p := ⟨gb524, 0, none⟩) (Kd.R_types HO523.out BK524.out (by decide)) (fun _ hk => hk.2) (.slice Ao37 t515.length co37)) (fun _ hk => hk.2) (.slice Ao41 t518.length co41)) (fun _ hk => hk.2) (.slice Ao42 t521.length co42)) (fun _ h_ => h_.1))) hb); replace BK513 := am (blk_below (g := gb513) (o := .cells #[.slice A0_0 l0_0.length c0_0, .slice A0_1 l0_1.length c0_1, .slice A0_2 l0_2.length c0_2] 26 (0, 0)) u10_27 hb); replace BK514 := am (blk_below (g := gb514) (o := .cells #[.slice none 0 0, .slice none 0 0, .slice none 0 0] 26 (0, 0)) u10_28 hb); replace BK524 := am (blk_below (g := gb524) (o := .cells #[.slice Ao37 t515.length co37, .slice Ao41 t518.length co41, .slice Ao42 t521.length co42] 26 (0, 0)) (by (with_reducible repeat (first | refine blk_drewN ?_ _ | refine blk_drew ?_ | refine blk_alloc ?_ _)); refine blk_put (cs := #[.slice Ao37 t515.length co37, .slice Ao41 t518.length co41, .slice none 0 0]) ?_ 2 _ rfl; (with_reducible repeat (first | refine blk_drewN ?_ _ | refine blk_drew ?_ | refine blk_alloc ?_ _)); refine blk_put (cs := #[.slice Ao37 t515.length co37, .slice none 0 0, .slice none 0 0]) ?_ 1 _ rfl; (with_reducible repeat (first | refine blk_drewN ?_ _ | refine blk_drew ?_ | refine blk_alloc ?_ _)); refine blk_put (cs := #[.slice none 0 0, .slice none 0 0, .slice none 0 0]) ?_ 0 _ rfl; (with_reducible repeat (first | refine blk_drewN ?_ _ | refine blk_drew ?_ | refine blk_alloc ?_ _)); exact BK524.out) hb); replace HB := am (below_step Q0 hb); (try clear hb); (try clear hb2); (try clear hk); (try clear hi); obtain ⟨hcz45_0, hcz45_1, hcz45_2, hfz45_0, hfz45_1, hfz45_2⟩ := bc3f w44 BK524.out; obtain ⟨hcz46_0, hcz46_1, hcz46_2, hfz46_0, hfz46_1, hfz46_2⟩ := bc3f w44 BK514.out))
   refine bodyPost_ret (results_ct rfl _ _ gb514 26 #[.slice Ao37 t515.length co37, .slice Ao41 t518.length co41, .slice Ao42 t521.length co42] (0, 0) _ rfl (by (with_reducible repeat (first | refine blk_drewN ?_ _ | refine blk_drew ?_ | refine blk_alloc ?_ _)); refine blk_put (cs := #[.slice Ao37 t515.length co37, .slice Ao41 t518.length co41, .slice none 0 0]) ?_ 2 _ rfl; (with_reducible repeat (first | refine blk_drewN ?_ _ | refine blk_drew ?_ | refine blk_alloc ?_ _)); refine blk_put (cs := #[.slice Ao37 t515.length co37, .slice none 0 0, .slice none 0 0]) ?_ 1 _ rfl; (with_reducible repeat (first | refine blk_drewN ?_ _ | refine blk_drew ?_ | refine blk_alloc ?_ _)); refine blk_put (cs := #[.slice none 0 0, .slice none 0 0, .slice none 0 0]) ?_ 0 _ rfl; (with_reducible repeat (first | refine blk_drewN ?_ _ | refine blk_drew ?_ | refine blk_alloc ?_ _)); exact BK514.out) Try.underlying26 rfl kr) rfl ?_
   exact ⟨_, _, _, er, (by (with_reducible repeat (first | apply Kd.R_alloc | apply Kd.R_drewN | apply Kd.R_drew)); exact Kd.R_mono (Kd.R_far (p := ⟨gb514, 2, none⟩) (Kd.R_far (p := ⟨gb514, 1, none⟩) (Kd.R_far (p := ⟨gb514, 0, none⟩) (Kd.R_types HO517.out BK514.out (by decide)) (fun _ hk => hk.2) (.slice Ao37 t515.length co37)) (fun _ hk => hk.2) (.slice Ao41 t518.length co41)) (fun _ hk => hk.2) (.slice Ao42 t521.length co42)) (fun _ hk => ⟨hk.1.1, hk.1.2⟩)), (by (with_reducible repeat (first | apply Kd.R_alloc | apply Kd.R_drewN | apply Kd.R_drew)); exact Kd.R_mono (Kd.R_far (p := ⟨gb514, 2, none⟩) (Kd.R_far (p := ⟨gb514, 1, none⟩) (Kd.R_far (p := ⟨gb514, 0, none⟩) (Kd.R_types HO520.out BK514.out (by decide)) (fun _ hk => hk.2) (.slice Ao37 t515.length co37)) (fun _ hk => hk.2) (.slice Ao41 t518.length co41)) (fun _ hk => hk.2) (.slice Ao42 t521.length co42)) (fun _ hk => ⟨hk.1.1, hk.1.2⟩)), (by (with_reducible repeat (first | apply Kd.R_alloc | apply Kd.R_drewN | apply Kd.R_drew)); exact Kd.R_mono (Kd.R_far (p := ⟨gb514, 2, none⟩) (Kd.R_far (p := ⟨gb514, 1, none⟩) (Kd.R_far (p := ⟨gb514, 0, none⟩) (Kd.R_types HO523.out BK514.out (by decide)) (fun _ hk => hk.2) (.slice Ao37 t515.length co37)) (fun _ hk => hk.2) (.slice Ao41 t518.length co41)) (fun _ hk => hk.2) (.slice Ao42 t521.length co42)) (fun _ hk => ⟨hk.1.1, hk.1.2⟩)), Q0⟩
 subst c4
 rw [if_pos rfl] at H
 have H9 := am H
 clear H
 go_enter Try.func47, Try.ntmps47
 go_upto_if 15 with (first | ((with_reducible refine gate_dst (N := 1) rfl ?_); (try (refine gate_guard (by rfl) ?_; dsimp only)); refine box_event ?hg (N := 1) ?hd (cs := #[.slice A0_0 l0_0.length c0_0, .slice A0_1 l0_1.length c0_1, .slice A0_2 l0_2.length c0_2]) (t := 26) ?hr ?_; (case hd => rfl); (case hg => rfl); (case hr => first | (go_simp; done) | (go_simp; rfl)); intro gb513 hg w5 hbox hb; have BK513 := am (hbox); have GW513 := am ((by rw [hg]; exact (below_size Q0) : w.heap.size ≤ gb513)); have GE513 := am ((by rw [hg]; exact (below_size Q0) : w.heap.size ≤ gb513)); replace HB := am (below_step Q0 hb); clear hb hbox hg) | ((with_reducible refine gate_dst (N := 2) rfl ?_); (try (refine gate_guard (by rfl) ?_; dsimp only)); refine box_event ?hg (N := 2) ?hd (cs := #[.slice none 0 0, .slice none 0 0, .slice none 0 0]) (t := 26) ?hr ?_; (case hd => rfl); (case hg => rfl); (case hr => first | (go_simp; done) | (go_simp; rfl)); intro gb514 hg w6 hbox hb; have BK514 := am (hbox); have GW514 := am ((by rw [hg]; exact (below_size Q0) : w.heap.size ≤ gb514)); have GE514 := am ((by rw [hg]; exact (below_size Q0) : w.heap.size ≤ gb514)); replace HB := am (below_step Q0 hb); have NB513_514 := am ((by rw [hg]; exact Nat.ne_of_lt (blk_lt (g := gb513) (o := .cells #[.slice A0_0 l0_0.length c0_0, .slice A0_1 l0_1.length c0_1, .slice A0_2 l0_2.length c0_2] 26 (0, 0)) u10_7) : gb513 ≠ gb514)); have NB514_513 := am ((by rw [hg]; exact Nat.ne_of_gt (blk_lt (g := gb513) (o := .cells #[.slice A0_0 l0_0.length c0_0, .slice A0_1 l0_1.length c0_1, .slice A0_2 l0_2.length c0_2] 26 (0, 0)) u10_7) : gb514 ≠ gb513)); replace BK513 := am (blk_below (g := gb513) (o := .cells #[.slice A0_0 l0_0.length c0_0, .slice A0_1 l0_1.length c0_1, .slice A0_2 l0_2.length c0_2] 26 (0, 0)) u10_7 hb); clear hb hbox hg; have hnb7 := NB513_514.out; have hnc7 := NB514_513.out; obtain ⟨hcz8_0, hcz8_1, hcz8_2, hfz8_0, hfz8_1, hfz8_2⟩ := bc3f w6 BK513.out) | ((with_reducible refine gate_callee (f := 63) rfl ?_); refine goesL_ (some 6) rfl rfl Try.func63 kr rfl #[.agg #[.slice A0_0 l0_0.length c0_0, .slice A0_1 l0_1.length c0_1, .slice A0_2 l0_2.length c0_2]] rfl Q3 ?_; (with_reducible refine (impl_copyConf.calls _ _ l0_0 _ _ l0_1 _ _ l0_2 t515 t518 t521 _ ?side1 ?side2 ?side3 ?side4 ?side5 ?side6 A2.out).mono ?_); (case side1 => exact Q6); (case side2 => exact HC0_0.out); (case side3 => exact Q8); (case side4 => exact HC0_1.out); (case side5 => exact Q7); (case side6 => exact HC0_2.out); rintro e w9 ⟨v516, v519, v522, rfl, ho0, ho1, ho2, hb⟩; refine ⟨_, rfl, ?_⟩; have HO517 := am (Kd.R_lower ho0 (below_size Q0)); have HO520 := am (Kd.R_lower ho1 (below_size Q0)); have HO523 := am (Kd.R_lower ho2 (below_size Q0)); replace BK513 := am (blk_below (g := gb513) (o := .cells #[.slice A0_0 l0_0.length c0_0, .slice A0_1 l0_1.length c0_1, .slice A0_2 l0_2.length c0_2] 26 (0, 0)) u10_7 hb); replace BK514 := am (blk_below (g := gb514) (o := .cells #[.slice none 0 0, .slice none 0 0, .slice none 0 0] 26 (0, 0)) u10_23 hb); replace HB := am (below_step Q0 hb); (try clear hb); (try clear hb2); (try clear hk); (try clear hi); (try clear ho0); (try clear ho1); (try clear ho2)) | ((with_reducible refine gate_dst (N := 4) rfl ?_); (try (refine gate_guard (by rfl) ?_; dsimp only)); refine box_event ?hg (N := 4) ?hd (cs := #[.slice none 0 0, .slice none 0 0, .slice none 0 0]) (t := 26) ?hr ?_; (case hd => rfl); (case hg => rfl); (case hr => first | (go_simp; done) | (go_simp; rfl)); intro gb524 hg w10 hbox hb; replace HO517 := am (Kd.R_below u10_48 hb); replace HO520 := am (Kd.R_below u10_49 hb); replace HO523 := am (Kd.R_below u10_50 hb); have BK524 := am (hbox); have GW524 := am ((by rw [hg]; exact (below_size Q0) : w.heap.size ≤ gb524)); have GE524 := am ((by rw [hg]; exact (below_size Q0) : w.heap.size ≤ gb524)); replace HB := am (below_step Q0 hb); have NB513_524 := am ((by rw [hg]; exact Nat.ne_of_lt (blk_lt (g := gb513) (o := .cells #[.slice A0_0 l0_0.length c0_0, .slice A0_1 l0_1.length c0_1, .slice A0_2 l0_2.length c0_2] 26 (0, 0)) u10_7) : gb513 ≠ gb524)); have NB524_513 := am ((by rw [hg]; exact Nat.ne_of_gt (blk_lt (g := gb513) (o := .cells #[.slice A0_0 l0_0.length c0_0, .slice A0_1 l0_1.length c0_1, .slice A0_2 l0_2.length c0_2] 26 (0, 0)) u10_7) : gb524 ≠ gb513)); replace BK513 := am (blk_below (g := gb513) (o := .cells #[.slice A0_0 l0_0.length c0_0, .slice A0_1 l0_1.length c0_1, .slice A0_2 l0_2.length c0_2] 26 (0, 0)) u10_7 hb); have NB514_524 := am ((by rw [hg]; exact Nat.ne_of_lt (blk_lt (g := gb514) (o := .cells #[.slice none 0 0, .slice none 0 0, .slice none 0 0] 26 (0, 0)) u10_23) : gb514 ≠ gb524)); have NB524_514 := am ((by rw [hg]; exact Nat.ne_of_gt (blk_lt (g := gb514) (o := .cells #[.slice none 0 0, .slice none 0 0, .slice none 0 0] 26 (0, 0)) u10_23) : gb524 ≠ gb514)); replace BK514 := am (blk_below (g := gb514) (o := .cells #[.slice none 0 0, .slice none 0 0, .slice none 0 0] 26 (0, 0)) u10_23 hb); clear hb hbox hg; obtain ⟨Ao11, co11, eo11⟩ := Kd.R_slice HO517.out; subst eo11; have hnb12 := NB524_513.out; have hnc12 := NB513_524.out; have hnb13 := NB524_514.out; have hnc13 := NB514_524.out; obtain ⟨hcz14_0, hcz14_1, hcz14_2, hfz14_0, hfz14_1, hfz14_2⟩ := bc3f w10 BK524.out; obtain ⟨Ao15, co15, eo15⟩ := Kd.R_slice HO520.out; subst eo15; obtain ⟨Ao16, co16, eo16⟩ := Kd.R_slice HO523.out; subst eo16; obtain ⟨hcz17_0, hcz17_1, hcz17_2, hfz17_0, hfz17_1, hfz17_2⟩ := bc3f w10 BK513.out) | ((with_reducible refine gate_callee (f := 48) rfl ?_); refine goesL_ (some 8) rfl rfl Try.func48 kr rfl #[.agg #[.slice A0_0 l0_0.length c0_0, .slice A0_1 l0_1.length c0_1, .slice A0_2 l0_2.length c0_2]] rfl Q3 ?_; (with_reducible refine (impl_isConf.calls k _ _ l0_0 _ _ l0_1 _ _ l0_2 true _ ?side1 ?side2 ?side3 ?side4 ?side5 ?side6 A3.out).mono ?_); (case side1 => exact (by exact Kd.C_below HR0_0.out Q0)); (case side2 => exact HC0_0.out); (case side3 => exact (by exact Kd.C_below HR0_1.out Q0)); (case side4 => exact HC0_1.out); (case side5 => exact (by exact Kd.C_below HR0_2.out Q0)); (case side6 => exact HC0_2.out); rintro e w18 ⟨rfl, hb⟩; refine ⟨_, rfl, ?_⟩; replace HO517 := am (Kd.R_below (by (with_reducible repeat (first | apply Kd.R_alloc | apply Kd.R_drewN | apply Kd.R_drew)); exact (Kd.R_mono (Kd.R_far (p := ⟨gb524, 2, none⟩) (Kd.R_far (p := ⟨gb524, 1, none⟩) (Kd.R_far (p := ⟨gb524, 0, none⟩) (Kd.R_types HO517.out BK524.out (by decide)) (fun _ hk => hk.2) (.slice Ao11 t515.length co11)) (fun _ hk => hk.2) (.slice Ao15 t518.length co15)) (fun _ hk => hk.2) (.slice Ao16 t521.length co16)) (fun _ h_ => h_.1))) hb); replace HO520 := am (Kd.R_below (by (with_reducible repeat (first | apply Kd.R_alloc | apply Kd.R_drewN | apply Kd.R_drew)); exact (Kd.R_mono (Kd.R_far (p := ⟨gb524, 2, none⟩) (Kd.R_far (p := ⟨gb524, 1, none⟩) (Kd.R_far (p := ⟨gb524, 0, none⟩) (Kd.R_types HO520.out BK524.out (by decide)) (fun _ hk => hk.2) (.slice Ao11 t515.length co11)) (fun _ hk => hk.2) (.slice Ao15 t518.length co15)) (fun _ hk => hk.2) (.slice Ao16 t521.length co16)) (fun _ h_ => h_.1))) hb); replace HO523 := am (Kd.R_below (by (with_reducible repeat (first | apply Kd.R_alloc | apply Kd.R_drewN | apply Kd.R_drew)); exact (Kd.R_mono (Kd.R_far (p := ⟨gb524, 2, none⟩) (Kd.R_far (p := ⟨gb524, 1, none⟩) (Kd.R_far (p := ⟨gb524, 0, none⟩) (Kd.R_types HO523.out BK524.out (by decide)) (fun _ hk => hk.2) (.slice Ao11 t515.length co11)) (fun _ hk => hk.2) (.slice Ao15 t518.length co15)) (fun _ hk => hk.2) (.slice Ao16 t521.length co16)) (fun _ h_ => h_.1))) hb); replace BK513 := am (blk_below (g := gb513) (o := .cells #[.slice A0_0 l0_0.length c0_0, .slice A0_1 l0_1.length c0_1, .slice A0_2 l0_2.length c0_2] 26 (0, 0)) u10_27 hb); replace BK514 := am (blk_below (g := gb514) (o := .cells #[.slice none 0 0, .slice none 0 0, .slice none 0 0] 26 (0, 0)) u10_28 hb); replace BK524 := am (blk_below (g := gb524) (o := .cells #[.slice Ao11 t515.length co11, .slice Ao15 t518.length co15, .slice Ao16 t521.length co16] 26 (0, 0)) (by (with_reducible repeat (first | refine blk_drewN ?_ _ | refine blk_drew ?_ | refine blk_alloc ?_ _)); refine blk_put (cs := #[.slice Ao11 t515.length co11, .slice Ao15 t518.length co15, .slice none 0 0]) ?_ 2 _ rfl; (with_reducible repeat (first | refine blk_drewN ?_ _ | refine blk_drew ?_ | refine blk_alloc ?_ _)); refine blk_put (cs := #[.slice Ao11 t515.length co11, .slice none 0 0, .slice none 0 0]) ?_ 1 _ rfl; (with_reducible repeat (first | refine blk_drewN ?_ _ | refine blk_drew ?_ | refine blk_alloc ?_ _)); refine blk_put (cs := #[.slice none 0 0, .slice none 0 0, .slice none 0 0]) ?_ 0 _ rfl; (with_reducible repeat (first | refine blk_drewN ?_ _ | refine blk_drew ?_ | refine blk_alloc ?_ _)); exact BK524.out) hb); replace HB := am (below_step Q0 hb); (try clear hb); (try clear hb2); (try clear hk); (try clear hi); obtain ⟨hcz19_0, hcz19_1, hcz19_2, hfz19_0, hfz19_1, hfz19_2⟩ := bc3f w18 BK513.out))
 have H := H9.out
 clear H9
 by_cases c20 : (l0_1.length : Int) = 0
 · rw [if_pos c20] at H
   have c20b0 : ((l0_1.length : Int) == 0) = true := beq_iff_eq.mpr c20
   have c20b1 : ((l0_1.length : Int) != 0) = false := bne_eq_false_iff_eq.mpr c20
   clear c20
   (first | rw [c20b0] | (simp only [i64_w, i32_w]; rw [c20b0]) | skip)
   simp only [Option.some.injEq, Prod.mk.injEq] at H
   obtain ⟨rfl, rfl, rfl, rfl⟩ := H
   have hnb21 := NB524_513.out
   have hnc21 := NB513_524.out
   have hnb22 := NB524_514.out
   have hnc22 := NB514_524.out
   obtain ⟨hcz23_0, hcz23_1, hcz23_2, hfz23_0, hfz23_1, hfz23_2⟩ := bc3f w18 BK524.out
   have hnb24 := NB514_513.out
   have hnc24 := NB513_514.out
   obtain ⟨hcz25_0, hcz25_1, hcz25_2, hfz25_0, hfz25_1, hfz25_2⟩ := bc3f w18 BK514.out
   go_wp2
   refine bodyPost_ret (results_ct rfl _ _ gb514 26 #[.slice Ao11 t515.length co11, .slice Ao15 t518.length co15, .slice Ao16 t521.length co16] (0, 0) _ rfl (by (with_reducible repeat (first | refine blk_drewN ?_ _ | refine blk_drew ?_ | refine blk_alloc ?_ _)); refine blk_put (cs := #[.slice Ao11 t515.length co11, .slice Ao15 t518.length co15, .slice none 0 0]) ?_ 2 _ rfl; (with_reducible repeat (first | refine blk_drewN ?_ _ | refine blk_drew ?_ | refine blk_alloc ?_ _)); refine blk_put (cs := #[.slice Ao11 t515.length co11, .slice none 0 0, .slice none 0 0]) ?_ 1 _ rfl; (with_reducible repeat (first | refine blk_drewN ?_ _ | refine blk_drew ?_ | refine blk_alloc ?_ _)); refine blk_put (cs := #[.slice none 0 0, .slice none 0 0, .slice none 0 0]) ?_ 0 _ rfl; (with_reducible repeat (first | refine blk_drewN ?_ _ | refine blk_drew ?_ | refine blk_alloc ?_ _)); exact BK514.out) Try.underlying26 rfl kr) rfl ?_
   exact ⟨_, _, _, er, (by (with_reducible repeat (first | apply Kd.R_alloc | apply Kd.R_drewN | apply Kd.R_drew)); exact Kd.R_mono (Kd.R_far (p := ⟨gb514, 2, none⟩) (Kd.R_far (p := ⟨gb514, 1, none⟩) (Kd.R_far (p := ⟨gb514, 0, none⟩) (Kd.R_types HO517.out BK514.out (by decide)) (fun _ hk => hk.2) (.slice Ao11 t515.length co11)) (fun _ hk => hk.2) (.slice Ao15 t518.length co15)) (fun _ hk => hk.2) (.slice Ao16 t521.length co16)) (fun _ hk => ⟨hk.1.1, hk.1.2⟩)), (by (with_reducible repeat (first | apply Kd.R_alloc | apply Kd.R_drewN | apply Kd.R_drew)); exact Kd.R_mono (Kd.R_far (p := ⟨gb514, 2, none⟩) (Kd.R_far (p := ⟨gb514, 1, none⟩) (Kd.R_far (p := ⟨gb514, 0, none⟩) (Kd.R_types HO520.out BK514.out (by decide)) (fun _ hk => hk.2) (.slice Ao11 t515.length co11)) (fun _ hk => hk.2) (.slice Ao15 t518.length co15)) (fun _ hk => hk.2) (.slice Ao16 t521.length co16)) (fun _ hk => ⟨hk.1.1, hk.1.2⟩)), (by (with_reducible repeat (first | apply Kd.R_alloc | apply Kd.R_drewN | apply Kd.R_drew)); exact Kd.R_mono (Kd.R_far (p := ⟨gb514, 2, none⟩) (Kd.R_far (p := ⟨gb514, 1, none⟩) (Kd.R_far (p := ⟨gb514, 0, none⟩) (Kd.R_types HO523.out BK514.out (by decide)) (fun _ hk => hk.2) (.slice Ao11 t515.length co11)) (fun _ hk => hk.2) (.slice Ao15 t518.length co15)) (fun _ hk => hk.2) (.slice Ao16 t521.length co16)) (fun _ hk => ⟨hk.1.1, hk.1.2⟩)), Q0⟩
 rw [if_neg c20] at H
 have c20b0 : ((l0_1.length : Int) == 0) = false := beq_eq_false_iff_ne.mpr c20
 have c20b1 : ((l0_1.length : Int) != 0) = true := bne_iff_ne.mpr c20
 have c20b2 : ¬ (l0_1 = []) := fun h_ => c20 (by rw [h_]; rfl)
 (first | rw [c20b0] | (simp only [i64_w, i32_w]; rw [c20b0]) | skip)
 simp only [Option.some.injEq, Prod.mk.injEq] at H
 obtain ⟨rfl, rfl, rfl, rfl⟩ := H
 have hnb26 := NB524_513.out
 have hnc26 := NB513_524.out
 have hnb27 := NB524_514.out
 have hnc27 := NB514_524.out
 obtain ⟨hcz28_0, hcz28_1, hcz28_2, hfz28_0, hfz28_1, hfz28_2⟩ := bc3f w18 BK524.out
 have hnb29 := NB514_513.out
 have hnc29 := NB513_514.out
 obtain ⟨hcz30_0, hcz30_1, hcz30_2, hfz30_0, hfz30_1, hfz30_2⟩ := bc3f w18 BK514.out
 go_wp2
 refine bodyPost_ret (results_ct rfl _ _ gb514 26 #[.slice Ao15 t518.length co15, .slice none 0 0, .slice Ao16 t521.length co16] (0, 0) _ rfl (by (with_reducible repeat (first | refine blk_drewN ?_ _ | refine blk_drew ?_ | refine blk_alloc ?_ _)); refine blk_put (cs := #[.slice Ao15 t518.length co15, .slice none 0 0, .slice none 0 0]) ?_ 2 _ rfl; (with_reducible repeat (first | refine blk_drewN ?_ _ | refine blk_drew ?_ | refine blk_alloc ?_ _)); refine blk_put (cs := #[.slice Ao15 t518.length co15, .slice none 0 0, .slice none 0 0]) ?_ 1 _ rfl; (with_reducible repeat (first | refine blk_drewN ?_ _ | refine blk_drew ?_ | refine blk_alloc ?_ _)); refine blk_put (cs := #[.slice none 0 0, .slice none 0 0, .slice none 0 0]) ?_ 0 _ rfl; (with_reducible repeat (first | refine blk_drewN ?_ _ | refine blk_drew ?_ | refine blk_alloc ?_ _)); refine blk_far ?_ NB514_524.out _; (with_reducible repeat (first | refine blk_drewN ?_ _ | refine blk_drew ?_ | refine blk_alloc ?_ _)); refine blk_far ?_ NB514_524.out _; (with_reducible repeat (first | refine blk_drewN ?_ _ | refine blk_drew ?_ | refine blk_alloc ?_ _)); exact BK514.out) Try.underlying26 rfl kr) rfl ?_
 exact ⟨_, _, _, er, (by (with_reducible repeat (first | apply Kd.R_alloc | apply Kd.R_drewN | apply Kd.R_drew)); exact Kd.R_mono (Kd.R_far (p := ⟨gb514, 2, none⟩) (Kd.R_far (p := ⟨gb514, 1, none⟩) (Kd.R_far (p := ⟨gb514, 0, none⟩) (Kd.R_far (p := ⟨gb524, 1, none⟩) (Kd.R_far (p := ⟨gb524, 0, none⟩) (Kd.R_types (Kd.R_types HO520.out BK524.out (by decide)) BK514.out (by decide)) (fun _ hk => hk.1.2) (.slice Ao15 t518.length co15)) (fun _ hk => hk.1.2) (.slice none 0 0)) (fun _ hk => hk.2) (.slice Ao15 t518.length co15)) (fun _ hk => hk.2) (.slice none 0 0)) (fun _ hk => hk.2) (.slice Ao16 t521.length co16)) (fun _ hk => ⟨(by simp [Value.ownBlock]), hk.1.1.2⟩)), (by first | exact Kd.R_nil _ _ _ _ _ | exact Kd.N_nil _ _ _ _ _ | exact Kd.V_nil _ _ _ _ _ | exact Kd.Q_nil _ _ _ _ _ | exact Kd.S_nil _ _ _ _ _), (by (with_reducible repeat (first | apply Kd.R_alloc | apply Kd.R_drewN | apply Kd.R_drew)); exact Kd.R_mono (Kd.R_far (p := ⟨gb514, 2, none⟩) (Kd.R_far (p := ⟨gb514, 1, none⟩) (Kd.R_far (p := ⟨gb514, 0, none⟩) (Kd.R_far (p := ⟨gb524, 1, none⟩) (Kd.R_far (p := ⟨gb524, 0, none⟩) (Kd.R_types (Kd.R_types HO523.out BK524.out (by decide)) BK514.out (by decide)) (fun _ hk => hk.1.2) (.slice Ao15 t518.length co15)) (fun _ hk => hk.1.2) (.slice none 0 0)) (fun _ hk => hk.2) (.slice Ao15 t518.length co15)) (fun _ hk => hk.2) (.slice none 0 0)) (fun _ hk => hk.2) (.slice Ao16 t521.length co16)) (fun _ hk => ⟨hk.1.1.2, (by simp [Value.ownBlock])⟩)), Q0⟩

/-! ### impl_Finish: function 12 -/
def impl_Finish.f (k : Nat) (l0_0 : List Int) (l0_1 : List Int) (l0_2 : List Int) : Option (List Int × List Int × List Int × Bool) := (impl_finish.f k l0_0 l0_1 l0_2).bind fun bt528 => (some (bt528.1, bt528.2.1, bt528.2.2.1, bt528.2.2.2))
theorem impl_Finish.mono : ∀ a0 a1 a2 k, LeO (impl_Finish.f k a0 a1 a2) (impl_Finish.f (k + 1) a0 a1 a2) := by
 intro a0 a1 a2 k
 unfold impl_Finish.f
 repeat' first
     | (with_reducible exact impl_finish.mono _ _ _ _)
     | (with_reducible exact LeO.refl _)
     | (with_reducible exact LeO.none _)
     | (with_reducible refine LeO.ite ?_ ?_)
     | (with_reducible refine LeO.bind ?_ (fun _ => ?_))
     | exact impl_finish.mono _ _ _ _
     | exact LeO.none _
     | refine LeO.ite ?_ ?_
     | refine LeO.bind ?_ (fun _ => ?_)
set_option maxHeartbeats 8000000 in
set_option maxRecDepth 100000 in
theorem impl_Finish.calls (k : Nat) (A0_0 : Option Addr) (c0_0 : Nat) (l0_0 : List Int) (A0_1 : Option Addr) (c0_1 : Nat) (l0_1 : List Int) (A0_2 : Option Addr) (c0_2 : Nat) (l0_2 : List Int) (r1 : List Int) (r2 : List Int) (r3 : List Int) (r4 : Bool) (w : World) (hr0_0 : Kd.C (Kd.int .i64) w A0_0 l0_0.length l0_0) (hc0_0 : l0_0.length ≤ c0_0) (hr0_1 : Kd.C (Kd.int .i64) w A0_1 l0_1.length l0_1) (hc0_1 : l0_1.length ≤ c0_1) (hr0_2 : Kd.C (Kd.int .i64) w A0_2 l0_2.length l0_2) (hc0_2 : l0_2.length ≤ c0_2) (h : impl_Finish.f k l0_0 l0_1 l0_2 = some (r1, r2, r3, r4)) :
   Calls Try.prog 12 #[.agg #[.slice A0_0 l0_0.length c0_0, .slice A0_1 l0_1.length c0_1, .slice A0_2 l0_2.length c0_2]] w fun e w' => ∃ v0_ v1_ v2_ : Value, e = .returned (.tuple #[.agg #[v0_, v1_, v2_], .bool r4]) ∧ Kd.R (Kd.int .i64) 3 w' w.heap.size (fun k_ => some k_ ≠ (v1_ : Value).ownBlock ∧ some k_ ≠ (v2_ : Value).ownBlock) v0_ r1 ∧ Kd.R (Kd.int .i64) 3 w' w.heap.size (fun k_ => some k_ ≠ (v0_ : Value).ownBlock ∧ some k_ ≠ (v2_ : Value).ownBlock) v1_ r2 ∧ Kd.R (Kd.int .i64) 3 w' w.heap.size (fun k_ => some k_ ≠ (v0_ : Value).ownBlock ∧ some k_ ≠ (v1_ : Value).ownBlock) v2_ r3 ∧ Below w.heap.size w w' := by
 have hu26 := Try.underlying26
 have HR0_0 := am hr0_0
 have HC0_0 := am hc0_0
 clear hr0_0 hc0_0
 have HR0_1 := am hr0_1
 have HC0_1 := am hc0_1
 clear hr0_1 hc0_1
 have HR0_2 := am hr0_2
 have HC0_2 := am hc0_2
 clear hr0_2 hc0_2
 have HB := am (Below.refl w.heap.size w)
 have H : ((impl_finish.f k l0_0 l0_1 l0_2).bind fun bt528 => (some (bt528.1, bt528.2.1, bt528.2.2.1, bt528.2.2.2))) = some (r1, r2, r3, r4) := h
 clear h
 replace H := Option.bind_eq_some_iff.mp H
 obtain ⟨⟨t528, t531, t534, t537⟩, A20, H⟩ := H
 replace H : (some (t528, t531, t534, t537)) = some (r1, r2, r3, r4) := H
 have A2 := am A20
 clear A20
 simp only [Option.some.injEq, Prod.mk.injEq] at H
 obtain ⟨rfl, rfl, rfl, rfl⟩ := H
 go_enter Try.func12, Try.ntmps12
 go_wp2_with (first | ((with_reducible refine gate_dst (N := 1) rfl ?_); refine box_event ?hg (N := 1) ?hd (cs := #[.slice A0_0 l0_0.length c0_0, .slice A0_1 l0_1.length c0_1, .slice A0_2 l0_2.length c0_2]) (t := 26) ?hr ?_; (case hd => rfl); (case hg => rfl); (case hr => first | (go_simp; done) | (go_simp; rfl)); intro gb526 hg w3 hbox hb; have BK526 := am (hbox); have GW526 := am ((by rw [hg]; exact (below_size Q0) : w.heap.size ≤ gb526)); have GE526 := am ((by rw [hg]; exact (below_size Q0) : w.heap.size ≤ gb526)); replace HB := am (below_step Q0 hb); clear hb hbox hg) | ((with_reducible refine gate_dst (N := 2) rfl ?_); refine box_event ?hg (N := 2) ?hd (cs := #[.slice none 0 0, .slice none 0 0, .slice none 0 0]) (t := 26) ?hr ?_; (case hd => rfl); (case hg => rfl); (case hr => first | (go_simp; done) | (go_simp; rfl)); intro gb527 hg w4 hbox hb; have BK527 := am (hbox); have GW527 := am ((by rw [hg]; exact (below_size Q0) : w.heap.size ≤ gb527)); have GE527 := am ((by rw [hg]; exact (below_size Q0) : w.heap.size ≤ gb527)); replace HB := am (below_step Q0 hb); have NB526_527 := am ((by rw [hg]; exact Nat.ne_of_lt (blk_lt (g := gb526) (o := .cells #[.slice A0_0 l0_0.length c0_0, .slice A0_1 l0_1.length c0_1, .slice A0_2 l0_2.length c0_2] 26 (0, 0)) u10_32) : gb526 ≠ gb527)); have NB527_526 := am ((by rw [hg]; exact Nat.ne_of_gt (blk_lt (g := gb526) (o := .cells #[.slice A0_0 l0_0.length c0_0, .slice A0_1 l0_1.length c0_1, .slice A0_2 l0_2.length c0_2] 26 (0, 0)) u10_32) : gb527 ≠ gb526)); replace BK526 := am (blk_below (g := gb526) (o := .cells #[.slice A0_0 l0_0.length c0_0, .slice A0_1 l0_1.length c0_1, .slice A0_2 l0_2.length c0_2] 26 (0, 0)) u10_32 hb); clear hb hbox hg; have hnb5 := NB526_527.out; have hnc5 := NB527_526.out; obtain ⟨hcz6_0, hcz6_1, hcz6_2, hfz6_0, hfz6_1, hfz6_2⟩ := bc3f w4 BK526.out) | ((with_reducible refine gate_callee (f := 47) rfl ?_); refine goesL_ (some 5) rfl rfl Try.func47 kr rfl #[.agg #[.slice A0_0 l0_0.length c0_0, .slice A0_1 l0_1.length c0_1, .slice A0_2 l0_2.length c0_2]] rfl Q3 ?_; (with_reducible refine (impl_finish.calls k _ _ l0_0 _ _ l0_1 _ _ l0_2 t528 t531 t534 t537 _ ?side1 ?side2 ?side3 ?side4 ?side5 ?side6 A2.out).mono ?_); (case side1 => exact Q6); (case side2 => exact HC0_0.out); (case side3 => exact Q8); (case side4 => exact HC0_1.out); (case side5 => exact Q7); (case side6 => exact HC0_2.out); rintro e w7 ⟨v529, v532, v535, rfl, ho0, ho1, ho2, hb⟩; refine ⟨_, rfl, ?_⟩; have HO530 := am (Kd.R_lower ho0 (below_size Q0)); have HO533 := am (Kd.R_lower ho1 (below_size Q0)); have HO536 := am (Kd.R_lower ho2 (below_size Q0)); replace BK526 := am (blk_below (g := gb526) (o := .cells #[.slice A0_0 l0_0.length c0_0, .slice A0_1 l0_1.length c0_1, .slice A0_2 l0_2.length c0_2] 26 (0, 0)) u10_32 hb); replace BK527 := am (blk_below (g := gb527) (o := .cells #[.slice none 0 0, .slice none 0 0, .slice none 0 0] 26 (0, 0)) (by (with_reducible repeat (first | refine blk_drewN ?_ _ | refine blk_drew ?_ | refine blk_alloc ?_ _)); exact BK527.out) hb); replace HB := am (below_step Q0 hb); (try clear hb); (try clear hb2); (try clear hk); (try clear hi); (try clear ho0); (try clear ho1); (try clear ho2); obtain ⟨Ao8, co8, eo8⟩ := Kd.R_slice HO530.out; subst eo8; obtain ⟨hcz9_0, hcz9_1, hcz9_2, hfz9_0, hfz9_1, hfz9_2⟩ := bc3f w7 BK527.out; obtain ⟨Ao10, co10, eo10⟩ := Kd.R_slice HO533.out; subst eo10; obtain ⟨Ao11, co11, eo11⟩ := Kd.R_slice HO536.out; subst eo11))
 refine bodyPost_ret (results_ct rfl _ _ gb527 26 #[.slice Ao8 t528.length co8, .slice Ao10 t531.length co10, .slice Ao11 t534.length co11] (0, 0) _ rfl (by (with_reducible repeat (first | refine blk_drewN ?_ _ | refine blk_drew ?_ | refine blk_alloc ?_ _)); refine blk_put (cs := #[.slice Ao8 t528.length co8, .slice Ao10 t531.length co10, .slice none 0 0]) ?_ 2 _ rfl; (with_reducible repeat (first | refine blk_drewN ?_ _ | refine blk_drew ?_ | refine blk_alloc ?_ _)); refine blk_put (cs := #[.slice Ao8 t528.length co8, .slice none 0 0, .slice none 0 0]) ?_ 1 _ rfl; (with_reducible repeat (first | refine blk_drewN ?_ _ | refine blk_drew ?_ | refine blk_alloc ?_ _)); refine blk_put (cs := #[.slice none 0 0, .slice none 0 0, .slice none 0 0]) ?_ 0 _ rfl; (with_reducible repeat (first | refine blk_drewN ?_ _ | refine blk_drew ?_ | refine blk_alloc ?_ _)); exact BK527.out) Try.underlying26 rfl kr) rfl ?_
 exact ⟨_, _, _, er, (by (with_reducible repeat (first | apply Kd.R_alloc | apply Kd.R_drewN | apply Kd.R_drew)); exact Kd.R_mono (Kd.R_far (p := ⟨gb527, 2, none⟩) (Kd.R_far (p := ⟨gb527, 1, none⟩) (Kd.R_far (p := ⟨gb527, 0, none⟩) (Kd.R_types HO530.out BK527.out (by decide)) (fun _ hk => hk.2) (.slice Ao8 t528.length co8)) (fun _ hk => hk.2) (.slice Ao10 t531.length co10)) (fun _ hk => hk.2) (.slice Ao11 t534.length co11)) (fun _ hk => ⟨hk.1.1, hk.1.2⟩)), (by (with_reducible repeat (first | apply Kd.R_alloc | apply Kd.R_drewN | apply Kd.R_drew)); exact Kd.R_mono (Kd.R_far (p := ⟨gb527, 2, none⟩) (Kd.R_far (p := ⟨gb527, 1, none⟩) (Kd.R_far (p := ⟨gb527, 0, none⟩) (Kd.R_types HO533.out BK527.out (by decide)) (fun _ hk => hk.2) (.slice Ao8 t528.length co8)) (fun _ hk => hk.2) (.slice Ao10 t531.length co10)) (fun _ hk => hk.2) (.slice Ao11 t534.length co11)) (fun _ hk => ⟨hk.1.1, hk.1.2⟩)), (by (with_reducible repeat (first | apply Kd.R_alloc | apply Kd.R_drewN | apply Kd.R_drew)); exact Kd.R_mono (Kd.R_far (p := ⟨gb527, 2, none⟩) (Kd.R_far (p := ⟨gb527, 1, none⟩) (Kd.R_far (p := ⟨gb527, 0, none⟩) (Kd.R_types HO536.out BK527.out (by decide)) (fun _ hk => hk.2) (.slice Ao8 t528.length co8)) (fun _ hk => hk.2) (.slice Ao10 t531.length co10)) (fun _ hk => hk.2) (.slice Ao11 t534.length co11)) (fun _ hk => ⟨hk.1.1, hk.1.2⟩)), Q0⟩

/-! ### impl_ConfOk: function 13 -/
def impl_ConfOk.f (k : Nat) (l0_0 : List Int) (l0_1 : List Int) (l0_2 : List Int) : Option (Bool) := (impl_isConf.f k l0_0 l0_1 l0_2).bind fun t539 => (some t539)
theorem impl_ConfOk.mono : ∀ a0 a1 a2 k, LeO (impl_ConfOk.f k a0 a1 a2) (impl_ConfOk.f (k + 1) a0 a1 a2) := by
 intro a0 a1 a2 k
 unfold impl_ConfOk.f
 repeat' first
     | (with_reducible exact impl_isConf.mono _ _ _ _)
     | (with_reducible exact LeO.refl _)
     | (with_reducible exact LeO.none _)
     | (with_reducible refine LeO.ite ?_ ?_)
     | (with_reducible refine LeO.bind ?_ (fun _ => ?_))
     | exact impl_isConf.mono _ _ _ _
     | exact LeO.none _
     | refine LeO.ite ?_ ?_
     | refine LeO.bind ?_ (fun _ => ?_)
set_option maxHeartbeats 8000000 in
set_option maxRecDepth 100000 in
theorem impl_ConfOk.calls (k : Nat) (A0_0 : Option Addr) (c0_0 : Nat) (l0_0 : List Int) (A0_1 : Option Addr) (c0_1 : Nat) (l0_1 : List Int) (A0_2 : Option Addr) (c0_2 : Nat) (l0_2 : List Int) (r : Bool) (w : World) (hr0_0 : Kd.C (Kd.int .i64) w A0_0 l0_0.length l0_0) (hc0_0 : l0_0.length ≤ c0_0) (hr0_1 : Kd.C (Kd.int .i64) w A0_1 l0_1.length l0_1) (hc0_1 : l0_1.length ≤ c0_1) (hr0_2 : Kd.C (Kd.int .i64) w A0_2 l0_2.length l0_2) (hc0_2 : l0_2.length ≤ c0_2) (h : impl_ConfOk.f k l0_0 l0_1 l0_2 = some r) :
   Calls Try.prog 13 #[.agg #[.slice A0_0 l0_0.length c0_0, .slice A0_1 l0_1.length c0_1, .slice A0_2 l0_2.length c0_2]] w fun e w' => e = .returned (.bool r) ∧ Below w.heap.size w w' := by
 have hu26 := Try.underlying26
 have HR0_0 := am hr0_0
 have HC0_0 := am hc0_0
 clear hr0_0 hc0_0
 have HR0_1 := am hr0_1
 have HC0_1 := am hc0_1
 clear hr0_1 hc0_1
 have HR0_2 := am hr0_2
 have HC0_2 := am hc0_2
 clear hr0_2 hc0_2
 have HB := am (Below.refl w.heap.size w)
 have H : ((impl_isConf.f k l0_0 l0_1 l0_2).bind fun t539 => (some t539)) = some r := h
 clear h
 replace H := Option.bind_eq_some_iff.mp H
 obtain ⟨t539, A20, H⟩ := H
 replace H : (some t539) = some r := H
 have A2 := am A20
 clear A20
 obtain rfl := sj H
 go_enter Try.func13, Try.ntmps13
 go_wp2_with (first | ((with_reducible refine gate_dst (N := 1) rfl ?_); refine box_event ?hg (N := 1) ?hd (cs := #[.slice A0_0 l0_0.length c0_0, .slice A0_1 l0_1.length c0_1, .slice A0_2 l0_2.length c0_2]) (t := 26) ?hr ?_; (case hd => rfl); (case hg => rfl); (case hr => first | (go_simp; done) | (go_simp; rfl)); intro gb538 hg w3 hbox hb; have BK538 := am (hbox); have GW538 := am ((by rw [hg]; exact (below_size Q0) : w.heap.size ≤ gb538)); have GE538 := am ((by rw [hg]; exact (below_size Q0) : w.heap.size ≤ gb538)); replace HB := am (below_step Q0 hb); clear hb hbox hg; obtain ⟨hcz4_0, hcz4_1, hcz4_2⟩ := bc3 w3 BK538.out) | ((with_reducible refine gate_callee (f := 48) rfl ?_); refine goesL_ (some 4) rfl rfl Try.func48 kr rfl #[.agg #[.slice A0_0 l0_0.length c0_0, .slice A0_1 l0_1.length c0_1, .slice A0_2 l0_2.length c0_2]] rfl Q3 ?_; (with_reducible refine (impl_isConf.calls k _ _ l0_0 _ _ l0_1 _ _ l0_2 t539 _ ?side1 ?side2 ?side3 ?side4 ?side5 ?side6 A2.out).mono ?_); (case side1 => exact Q6); (case side2 => exact HC0_0.out); (case side3 => exact Q8); (case side4 => exact HC0_1.out); (case side5 => exact Q7); (case side6 => exact HC0_2.out); rintro e w5 ⟨rfl, hb⟩; refine ⟨_, rfl, ?_⟩; replace BK538 := am (blk_below (g := gb538) (o := .cells #[.slice A0_0 l0_0.length c0_0, .slice A0_1 l0_1.length c0_1, .slice A0_2 l0_2.length c0_2] 26 (0, 0)) (by (with_reducible repeat (first | refine blk_drewN ?_ _ | refine blk_drew ?_ | refine blk_alloc ?_ _)); exact BK538.out) hb); replace HB := am (below_step Q0 hb); (try clear hb); (try clear hb2); (try clear hk); (try clear hi)))
 go_ret
 exact ⟨er, Q0⟩

end Go.Proofs.Ytoemdmjdpikfbaa.QFnQuorums
