import Derived.Test.YtoemdmjdpikfbaaSqFnExactPlayConf
import Derived.Test.YtoemdmjdpikfbaaQFnExactPlayConfx0
import Derived.Test.YtoemdmjdpikfbaaQFnExactPlayConfx8
import Derived.Test.YtoemdmjdpikfbaaQFnExactPlayConfx9
import Derived.Test.YtoemdmjdpikfbaaQFnExactPlayConfx10
namespace Go.Proofs.Ytoemdmjdpikfbaa.QFnExactPlayConf
open Go.RowKit Go.Proofs.YtoemdmjdpikfbaaW.PrintWords Go.Proofs.YtoemdmjdpikfbaaW.PrintLast Go.Proofs.YtoemdmjdpikfbaaW.PrintMore Go.Proofs.Ytoemdmjdpikfbaa.SqFnExactPlayConf
attribute [local go_sem] max2_int min2_int max_two min_two max_three min_three max_four min_four Go.Proofs.Ytoemdmjdpikfbaa.Set.isSome_setCell
set_option linter.unusedVariables false
set_option linter.unusedSimpArgs false
theorem u11_3 {P : Prop} (h : P := by (with_reducible repeat (first | apply b1_ | apply b2_ | apply b3_)); exact BK423.out) : P := h
theorem u11_5 {P : Prop} (h : P := by (with_reducible repeat (first | apply b1_ | apply b2_ | apply b3_)); exact BK424.out) : P := h
theorem u11_6 {P : Prop} (h : P := by (with_reducible repeat (first | apply b1_ | apply b2_ | apply b3_)); exact BK456.out) : P := h
theorem u11_7 {P : Prop} (h : P := by (with_reducible repeat (first | apply b1_ | apply b2_ | apply b3_)); refine blk_put (cs := #[.slice Ao13 t426.length co13, .slice Ao18 t429.length co18, .slice none 0 0]) ?_ 2 _ rfl; (with_reducible repeat (first | apply b1_ | apply b2_ | apply b3_)); refine blk_put (cs := #[.slice Ao13 t426.length co13, .slice none 0 0, .slice none 0 0]) ?_ 1 _ rfl; (with_reducible repeat (first | apply b1_ | apply b2_ | apply b3_)); refine blk_put (cs := #[.slice none 0 0, .slice none 0 0, .slice none 0 0]) ?_ 0 _ rfl; (with_reducible repeat (first | apply b1_ | apply b2_ | apply b3_)); exact BK435.out) : P := h
theorem u11_9 {P : Prop} (h : P := by (with_reducible repeat (first | apply b1_ | apply b2_ | apply b3_)); exact BK425.out) : P := h
theorem u11_10 {P : Prop} (h : P := by (with_reducible repeat (first | apply b1_ | apply b2_ | apply b3_)); refine blk_far ?_ NB423_435.out _; (with_reducible repeat (first | apply b1_ | apply b2_ | apply b3_)); refine blk_far ?_ NB423_435.out _; (with_reducible repeat (first | apply b1_ | apply b2_ | apply b3_)); refine blk_far ?_ NB423_435.out _; (with_reducible repeat (first | apply b1_ | apply b2_ | apply b3_)); exact BK423.out) : P := h
theorem u11_11 {P : Prop} (h : P := by (with_reducible repeat (first | apply b1_ | apply b2_ | apply b3_)); refine blk_far ?_ NB424_435.out _; (with_reducible repeat (first | apply b1_ | apply b2_ | apply b3_)); refine blk_far ?_ NB424_435.out _; (with_reducible repeat (first | apply b1_ | apply b2_ | apply b3_)); refine blk_far ?_ NB424_435.out _; (with_reducible repeat (first | apply b1_ | apply b2_ | apply b3_)); exact BK424.out) : P := h
theorem u11_12 {P : Prop} (h : P := by (with_reducible repeat (first | apply b1_ | apply b2_ | apply b3_)); refine blk_far ?_ NB425_435.out _; (with_reducible repeat (first | apply b1_ | apply b2_ | apply b3_)); refine blk_far ?_ NB425_435.out _; (with_reducible repeat (first | apply b1_ | apply b2_ | apply b3_)); refine blk_far ?_ NB425_435.out _; (with_reducible repeat (first | apply b1_ | apply b2_ | apply b3_)); exact BK425.out) : P := h
theorem u11_14 {P : Prop} (h : P := by (with_reducible repeat (first | apply r1_ | apply r2_ | apply r3_)); exact (Kd.R_mono (Kd.R_far (p := ⟨gb435, 2, none⟩) (Kd.R_far (p := ⟨gb435, 1, none⟩) (Kd.R_far (p := ⟨gb435, 0, none⟩) (Kd.R_types HO428.out BK435.out (by decide)) (fun _ hk => hk.2) (.slice Ao13 t426.length co13)) (fun _ hk => hk.2) (.slice Ao18 t429.length co18)) (fun _ hk => hk.2) (.slice Ao19 t432.length co19)) (fun _ h_ => h_.1))) : P := h
theorem u11_15 {P : Prop} (h : P := by (with_reducible repeat (first | apply r1_ | apply r2_ | apply r3_)); exact (Kd.R_mono (Kd.R_far (p := ⟨gb435, 2, none⟩) (Kd.R_far (p := ⟨gb435, 1, none⟩) (Kd.R_far (p := ⟨gb435, 0, none⟩) (Kd.R_types HO431.out BK435.out (by decide)) (fun _ hk => hk.2) (.slice Ao13 t426.length co13)) (fun _ hk => hk.2) (.slice Ao18 t429.length co18)) (fun _ hk => hk.2) (.slice Ao19 t432.length co19)) (fun _ h_ => h_.1))) : P := h
theorem u11_16 {P : Prop} (h : P := by (with_reducible repeat (first | apply r1_ | apply r2_ | apply r3_)); exact (Kd.R_mono (Kd.R_far (p := ⟨gb435, 2, none⟩) (Kd.R_far (p := ⟨gb435, 1, none⟩) (Kd.R_far (p := ⟨gb435, 0, none⟩) (Kd.R_types HO434.out BK435.out (by decide)) (fun _ hk => hk.2) (.slice Ao13 t426.length co13)) (fun _ hk => hk.2) (.slice Ao18 t429.length co18)) (fun _ hk => hk.2) (.slice Ao19 t432.length co19)) (fun _ h_ => h_.1))) : P := h
theorem u11_17 {P : Prop} (h : P := by (with_reducible repeat (first | apply r1_ | apply r2_ | apply r3_)); exact HO_436000.out) : P := h
theorem u11_18 {P : Prop} (h : P := by (with_reducible repeat (first | apply r1_ | apply r2_ | apply r3_)); exact HO_436001.out) : P := h
theorem u11_20 {P : Prop} (h : P := by (with_reducible repeat (first | apply b1_ | apply b2_ | apply b3_)); exact BK457.out) : P := h
theorem u11_21 {P : Prop} (h : P := by (with_reducible repeat (first | apply b1_ | apply b2_ | apply b3_)); exact BK435.out) : P := h
theorem u11_22 {P : Prop} (h : P := by (with_reducible repeat (first | apply b1_ | apply b2_ | apply b3_)); refine blk_far ?_ NB456_467.out _; (with_reducible repeat (first | apply b1_ | apply b2_ | apply b3_)); refine blk_far ?_ NB456_467.out _; (with_reducible repeat (first | apply b1_ | apply b2_ | apply b3_)); refine blk_far ?_ NB456_467.out _; (with_reducible repeat (first | apply b1_ | apply b2_ | apply b3_)); exact BK456.out) : P := h
theorem u11_23 {P : Prop} (h : P := by (with_reducible repeat (first | apply b1_ | apply b2_ | apply b3_)); refine blk_far ?_ NB457_467.out _; (with_reducible repeat (first | apply b1_ | apply b2_ | apply b3_)); refine blk_far ?_ NB457_467.out _; (with_reducible repeat (first | apply b1_ | apply b2_ | apply b3_)); refine blk_far ?_ NB457_467.out _; (with_reducible repeat (first | apply b1_ | apply b2_ | apply b3_)); exact BK457.out) : P := h
theorem u11_27 {P : Prop} (h : P := by (with_reducible repeat (first | apply r1_ | apply r2_ | apply r3_)); exact HO442.out) : P := h
theorem u11_30 {P : Prop} (h : P := by (with_reducible repeat (first | apply r1_ | apply r2_ | apply r3_)); exact HO_436002.out) : P := h
theorem u11_31 {P : Prop} (h : P := by (with_reducible repeat (first | apply r1_ | apply r2_ | apply r3_)); exact HO428.out) : P := h
theorem u11_32 {P : Prop} (h : P := by (with_reducible repeat (first | apply r1_ | apply r2_ | apply r3_)); exact HO431.out) : P := h
theorem u11_33 {P : Prop} (h : P := by (with_reducible repeat (first | apply r1_ | apply r2_ | apply r3_)); exact HO434.out) : P := h
theorem u11_34 {P : Prop} (h : P := by (with_reducible repeat (first | apply r1_ | apply r2_ | apply r3_)); exact HO445.out) : P := h
theorem u11_35 {P : Prop} (h : P := by (with_reducible repeat (first | apply r1_ | apply r2_ | apply r3_)); exact (Kd.R_mono (Kd.R_far (p := ⟨gb435, 2, none⟩) (Kd.R_types HO_436000.out BK435.out (by decide)) (fun _ hk => hk.2) (.slice Ao68 t443.length co68)) (fun _ h_ => h_.1))) : P := h
theorem u11_36 {P : Prop} (h : P := by (with_reducible repeat (first | apply r1_ | apply r2_ | apply r3_)); exact (Kd.R_mono (Kd.R_far (p := ⟨gb435, 2, none⟩) (Kd.R_types HO442.out BK435.out (by decide)) (fun _ hk => hk.2) (.slice Ao68 t443.length co68)) (fun _ h_ => h_.1))) : P := h
theorem u11_37 {P : Prop} (h : P := by (with_reducible repeat (first | apply r1_ | apply r2_ | apply r3_)); exact (Kd.R_mono (Kd.R_far (p := ⟨gb435, 2, none⟩) (Kd.R_types HO445.out BK435.out (by decide)) (fun _ hk => hk.2) (.slice Ao68 t443.length co68)) (fun _ h_ => h_.1))) : P := h
theorem u11_38 {P : Prop} (h : P := by (with_reducible repeat (first | apply b1_ | apply b2_ | apply b3_)); refine blk_far ?_ NB423_435.out _; (with_reducible repeat (first | apply b1_ | apply b2_ | apply b3_)); exact BK423.out) : P := h
theorem u11_39 {P : Prop} (h : P := by (with_reducible repeat (first | apply b1_ | apply b2_ | apply b3_)); refine blk_far ?_ NB424_435.out _; (with_reducible repeat (first | apply b1_ | apply b2_ | apply b3_)); exact BK424.out) : P := h
theorem u11_40 {P : Prop} (h : P := by (with_reducible repeat (first | apply b1_ | apply b2_ | apply b3_)); refine blk_far ?_ NB425_435.out _; (with_reducible repeat (first | apply b1_ | apply b2_ | apply b3_)); exact BK425.out) : P := h
theorem u11_42 {P : Prop} (h : P := by (with_reducible repeat (first | apply r1_ | apply r2_ | apply r3_)); exact HO460.out) : P := h
theorem u11_43 {P : Prop} (h : P := by (with_reducible repeat (first | apply r1_ | apply r2_ | apply r3_)); exact HO463.out) : P := h
theorem u11_44 {P : Prop} (h : P := by (with_reducible repeat (first | apply r1_ | apply r2_ | apply r3_)); exact HO466.out) : P := h
def slices_DeleteFunc_int_int.enc (x : Int) : List Value := [.int .i64 x]
theorem slices_DeleteFunc_int_int.flat : Go.Proofs.Ytoemdmjdpikfbaa.Slc.Flat (Kd.int .i64) slices_DeleteFunc_int_int.enc := ⟨fun w base ok x => rfl, fun h => h⟩
theorem slices_DeleteFunc_int_int.cells (l : List Int) : Go.Proofs.Ytoemdmjdpikfbaa.Slc.cellsOf slices_DeleteFunc_int_int.enc l = l.map (Value.int .i64) := by
 induction l with
 | nil => rfl
 | cons x l ih => simpa [Go.Proofs.Ytoemdmjdpikfbaa.Slc.cellsOf, slices_DeleteFunc_int_int.enc] using ih
theorem slices_DeleteFunc_int_int.holds {w : World} {g n : Nat} {cur : Array Value} {l : List Int} (hb : w.heap[g]? = some (.cells cur 3 (0, 0))) (ht : cur.toList.take (l.length * 1) = Go.Proofs.Ytoemdmjdpikfbaa.Slc.cellsOf slices_DeleteFunc_int_int.enc l) : Go.Sort.Holds (Value.int .i64) w g 0 l.toArray := by
 intro j hj
 have hj' : j < l.length := by simpa using hj
 rw [slices_DeleteFunc_int_int.cells] at ht
 refine ⟨?_, by rw [Nat.zero_add]; exact blk_frozen hb j⟩
 rw [Nat.zero_add, blk_cell hb]
 have h1 : cur[j]? = (l.map (Value.int .i64))[j]? := by rw [← ht, List.getElem?_take_of_lt (by omega), Array.getElem?_toList]
 rw [h1, List.getElem?_map, List.getElem?_eq_getElem hj', getElem!_pos _ j hj]
 simp
/-- The row when its first cells are written. -/
theorem slices_DeleteFunc_int_int.put {w w0 : World} {P : Nat → Prop} {g n c m q : Nat} {cur : Array Value} {ys ws : List Int} {os : Array Obj} (hB : Below w0.heap.size w0 w) (hg : w0.heap.size ≤ g) (hP : P g) (hb : w.heap[g]? = some (.cells cur 3 (0, 0))) (hs : cur.size = c * 1) (hn : n ≤ c) (hm : c ≤ maxLen) (hy : ys.length = n) (hw : ws = ys.take m) (hmn : m ≤ n) :
   Kd.R (Kd.int .i64) 3 (Go.Sort.grow ((w.drewN q).setCells g 0 (ys.map (Value.int .i64))) os) w0.heap.size (fun k_ => (P k_ ∨ w.heap.size ≤ k_)) (.slice (some ⟨g, 0, none⟩) m c) ws ∧ Below w0.heap.size w0 (Go.Sort.grow ((w.drewN q).setCells g 0 (ys.map (Value.int .i64))) os) ∧ Kept w (Go.Sort.grow ((w.drewN q).setCells g 0 (ys.map (Value.int .i64))) os) (fun k_ => P k_) := by
 obtain ⟨W, hW⟩ : ∃ W, W = (w.drewN q).setCells g 0 (ys.map (Value.int .i64)) := ⟨_, rfl⟩
 obtain ⟨cur', h1, h2, h3, h4⟩ := Go.Proofs.Ytoemdmjdpikfbaa.Slc.setCells_blk g 3 (ys.map (Value.int .i64)) 0 (w.drewN q) cur hb
 have hBW : Below w0.heap.size w0 W := by rw [hW]; exact Go.Proofs.Ytoemdmjdpikfbaa.Slc.below_setCells hg _ _ (pw_below_drewN hB q)
 have hKW : Kept w W (fun k_ => P k_) := by rw [hW]; exact Go.Proofs.Ytoemdmjdpikfbaa.Slc.kept_setCells (.inl hP) _ _ (Kept.drewN (Kept.refl w _) q)
 rw [← hW] at h1 ⊢
 have hlt : g < W.heap.size := blk_lt h1
 have up : ∀ i, i < W.heap.size → (Go.Sort.grow W os).heap[i]? = W.heap[i]? := fun i hi => Array.getElem?_append_left hi
 have hsz : W.heap.size ≤ (Go.Sort.grow W os).heap.size := by simp [Go.Sort.grow]
 refine ⟨slices_DeleteFunc_int_int.flat.row ((up g hlt).trans h1) hg (.inl hP) (by rw [hw, List.length_take]; omega) (by omega) hm (h2.trans hs) ?_, ⟨hBW.os, hBW.tape, hBW.output, Nat.le_trans hBW.size hsz, fun i hi => (up i (Nat.lt_of_lt_of_le hi hBW.size)).trans (hBW.block i hi)⟩, ⟨Nat.le_trans hKW.1 hsz, fun i hi hn => (up i (Nat.lt_of_lt_of_le hi hKW.1)).trans (hKW.2 i hi hn)⟩⟩
 rw [slices_DeleteFunc_int_int.cells, hw]
 show cur'.toList.take (m * 1) = _
 rw [Nat.mul_one]
 apply List.ext_getElem?
 intro j
 by_cases hj : j < m
 rotate_left
 · rw [List.getElem?_eq_none (by rw [List.length_take]; omega), List.getElem?_eq_none (by rw [List.length_map, List.length_take]; omega)]
 have := h4 j (by rw [List.length_map]; omega) (by omega)
 rw [Nat.zero_add] at this
 rw [List.getElem?_take_of_lt hj, Array.getElem?_toList, this, List.map_take, List.getElem?_take_of_lt hj]
def slices_DeleteFunc_int_int.p (l1_0 : List Int) (y : Int) : Bool := decide (y ∈ l1_0)
theorem slices_DeleteFunc_int_int.has_l (l : List Int) (a : Int) (hl : l.length ≤ 9223372036854775807) (d : Nat) : ∀ i : Nat, l.length = i + d → (∀ j : Nat, j < i → l.getD j 0 ≠ a) → ∃ r, slices_Index_int_int.l0 (d + 1) l a (l.length : Int) (i : Int) = some r ∧ decide (0 ≤ r) = decide (a ∈ l) := by
 induction d with
 | zero =>
   intro i hd hb
   refine ⟨-1, by rw [slices_Index_int_int.l0, if_neg (by omega)], ?_⟩
   rw [decide_eq_false (by omega), decide_eq_false]
   intro hm
   obtain ⟨j, hj, e⟩ := List.mem_iff_getElem.1 hm
   exact hb j (by omega) (by rw [List.getD_eq_getElem?_getD, List.getElem?_eq_getElem hj]; exact e)
 | succ d ih =>
   intro i hd hb
   by_cases h : a = rd l (i : Int)
   · refine ⟨i, by rw [slices_Index_int_int.l0, if_pos (by omega), if_pos (by omega), if_pos (by omega), if_pos h], ?_⟩
     rw [decide_eq_true (by omega), decide_eq_true]
     rw [h]
     unfold rd
     rw [Int.toNat_natCast, List.getD_eq_getElem?_getD, List.getElem?_eq_getElem (show i < l.length by omega)]
     exact List.getElem_mem _
   obtain ⟨r, h1, h2⟩ := ih (i + 1) (by omega) (fun j hj => by
     by_cases e : j = i
     · subst e
       intro e2
       refine h (e2.symm.trans ?_)
       unfold rd
       rw [Int.toNat_natCast]
     · exact hb j (by omega))
   refine ⟨r, ?_, h2⟩
   rw [slices_Index_int_int.l0, if_pos (by omega), if_pos (by omega), if_pos (by omega), if_neg h, show wrap64 ((i : Int) + 1) = ((i + 1 : Nat) : Int) by unfold wrap64; omega]
   exact h1
theorem slices_DeleteFunc_int_int.has (l : List Int) (a : Int) (hl : l.length ≤ 9223372036854775807) : ∃ k, slices_Contains_int_int.f k l a = some (decide (a ∈ l)) := by
 obtain ⟨r, h1, h2⟩ := slices_DeleteFunc_int_int.has_l l a hl l.length 0 (by omega) (fun j h => by omega)
 refine ⟨l.length + 1, ?_⟩
 unfold slices_Contains_int_int.f slices_Index_int_int.f
 rw [show ((0 : Nat) : Int) = 0 from rfl] at h1
 rw [h1]
 show some (decide (r ≥ 0)) = _
 rw [← h2]
set_option maxHeartbeats 800000 in
set_option maxRecDepth 100000 in
theorem slices_DeleteFunc_int_int.lit (b : Nat) (A1_0 : Option Addr) (c1_0 : Nat) (l1_0 : List Int) (y : Int) (w : World) (hb : w.heap[b]? = some (.cells #[.slice A1_0 l1_0.length c1_0] 24 (0, 0))) (hr1_0 : Kd.C (Kd.int .i64) w A1_0 l1_0.length l1_0) (hc1_0 : l1_0.length ≤ c1_0) :
   Calls Try.prog 70 #[.int .i64 y, .pointer (some ⟨b, 0, none⟩)] w fun e w' => e = .returned (.bool (slices_DeleteFunc_int_int.p l1_0 y)) ∧ ∃ q, w' = w.drewN q := by
 have hc0 : w.cell? ⟨b, 0, none⟩ = some (.slice A1_0 l1_0.length c1_0) := (blk_cell hb 0).trans rfl
 obtain ⟨k0, hk0⟩ := slices_DeleteFunc_int_int.has l1_0 y hr1_0.2.1
 have HR0 := am hr1_0
 have HC0 := am hc1_0
 have HK0 := am hk0
 clear hr1_0 hc1_0 hk0 hb
 unfold slices_DeleteFunc_int_int.p
 go_enter Try.func70, Try.ntmps70
 go_wp2_with (go_at_call 71; (with_reducible refine (slices_Contains_int_int.calls k0 _ _ l1_0 y _ _ ?sd1 ?sd2 HK0.out).mono ?_); (case sd1 => repeat (first | exact HR0.out | (with_reducible refine Kd.C_drewN ?_ _) | (with_reducible refine Kd.C_drew ?_))); (case sd2 => exact HC0.out); rintro e w' ⟨rfl, ⟨nd0, rfl⟩⟩)
 go_ret
 exact ⟨rfl, _, rfl⟩
set_option maxHeartbeats 1600000 in
theorem slices_DeleteFunc_int_int.idx (p : Int → Bool) (bs : Array Value) (A0 : Option Addr) (c0 : Nat) (l0 : List Int) (w : World) (hr0 : Kd.C (Kd.int .i64) w A0 l0.length l0) (hc0 : l0.length ≤ c0)
   (hf : ∀ (y : Int) (W : World), Below w.heap.size w W → Calls Try.prog 70 (#[.int .i64 y] ++ bs) W fun e w' => e = .returned (.bool (p y)) ∧ Below W.heap.size W w') :
   Calls Try.prog 88 #[.slice A0 l0.length c0, .func (.func 70) #[] bs] w fun e w' => e = .returned (.int .i64 (Go.Proofs.Ytoemdmjdpikfbaa.Slc.idxB p l0)) ∧ Below w.heap.size w w' := by
 skip
 have hn : l0.length ≤ 9223372036854775807 := hr0.2.1
 have HR := am hr0
 have HF := am hf
 clear hr0 hf
 go_enter Try.func88, Try.ntmps88
 go_wp2
 go_loopg [5, 8] l0.length (fun gg _ s8 wr => ∃ kk : Int, 0 ≤ kk ∧ kk ≤ l0.length ∧ l0.length - kk.toNat ≤ gg ∧ s8 = .int .i64 kk ∧ Aside0 (Below w.heap.size w wr) ∧ Aside0 (∀ j : Nat, (j : Int) < kk → p (l0.getD j 0) = false))
 case atStart => exact ⟨0, by omega, by omega, by omega, rfl, ⟨Below.refl _ w⟩, ⟨fun j hj => by omega⟩⟩
 obtain ⟨kk, h0, hk, hg, rfl, BW, HA⟩ := hrel
 by_cases hlt : kk < (l0.length : Int)
 rotate_left
 · go_wp2
   go_ret
   refine ⟨?_, BW.out⟩
   rw [Go.Proofs.Ytoemdmjdpikfbaa.Slc.idxB_miss p l0 0 (fun j hj => HA.out j (by omega))]
   rfl
 obtain ⟨ad, e, hx0⟩ := Kd.at_int HR.out kk h0 hlt
 cases e
 replace hx0 := (BW.out.cell (World.block_lt_of_cell? w _ hx0)).trans hx0
 have HC := am (HF.out (l0.getD kk.toNat 0) wr BW.out)
 cases hq : p (l0.getD kk.toNat 0) with
 | true =>
   have HQ := am hq
   rw [hq] at HC
   clear hq
   go_wp2_with (go_at_call 70; refine HC.out.mono ?_; rintro e w' ⟨rfl, hb'⟩)
   go_ret
   refine ⟨?_, below_step BW.out hb'⟩
   rw [Go.Proofs.Ytoemdmjdpikfbaa.Slc.idxB_hit p l0 0 kk.toNat (by omega) HQ.out (fun j hj => HA.out j (by omega)), Int.toNat_of_nonneg h0]
   rfl
 | false =>
   have HQ := am hq
   rw [hq] at HC
   clear hq
   go_wp2_with (go_at_call 70; refine HC.out.mono ?_; rintro e w' ⟨rfl, hb'⟩)
   go_roundg (l0.length - (kk + 1).toNat)
   case measure => omega
   case rel =>
     refine ⟨kk + 1, by omega, by omega, by omega, by go_num, ⟨below_step BW.out hb'⟩, ⟨fun j hj => ?_⟩⟩
     by_cases e : (j : Int) = kk
     rotate_left
     · exact HA.out j (by omega)
     have := HQ.out
     rw [← e, Int.toNat_natCast] at this
     exact this
def slices_DeleteFunc_int_int.f (l0 : List Int) (l1_0 : List Int) : Option (List Int) := some (l0.filter fun x => !slices_DeleteFunc_int_int.p l1_0 x)
theorem slices_DeleteFunc_int_int.over {w w0 : World} {P : Nat → Prop} {g b c1_0 : Nat} {cur : Array Value} {l0 l1_0 : List Int} {A1_0 : Option Addr} (hg : w0.heap.size ≤ g) (hP : P g) (hb0 : w.heap[g]? = some (.cells cur 3 (0, 0))) (hH : Go.Sort.Holds (Value.int .i64) w g 0 l0.toArray) (hb : w.heap[b]? = some (.cells #[.slice A1_0 l1_0.length c1_0] 24 (0, 0))) (hr1_0 : ∀ W', Kept w W' (fun k_ => P k_) → Kd.C (Kd.int .i64) W' A1_0 l1_0.length l1_0) (hc1_0 : l1_0.length ≤ c1_0) : PredOver Try.prog 70 #[.pointer (some ⟨b, 0, none⟩)] (Value.int .i64) (slices_DeleteFunc_int_int.p l1_0) g 0 l0.toArray.size w := by
 intro n os dk x hs
 have hbg : b ≠ g := fun e => by
   rw [e, hb0] at hb
   have := Option.some.inj hb
   injection this with _ h2
   exact absurd h2 (by decide)
 obtain ⟨W, hW⟩ : ∃ W, W = (w.drewN n).setCells g 0 (dk.toList.map (Value.int .i64)) := ⟨_, rfl⟩
 have e : Go.Sort.putRow (Value.int .i64) (Go.Sort.ahead w n) g 0 dk = W := by
   have := Lib.putRow_eq_setCells (Value.int .i64) w g 0 l0.toArray dk.toList n hH (by rw [Array.length_toList]; exact hs)
   rw [Array.toArray_toList] at this
   rw [hW]; exact this
 have hKW : Kept w W (fun k_ => P k_) := by rw [hW]; exact Go.Proofs.Ytoemdmjdpikfbaa.Slc.kept_setCells (.inl hP) _ _ (Kept.drewN (Kept.refl w _) n)
 have hKG : Kept w W (fun k_ => k_ = g) := by rw [hW]; exact Go.Proofs.Ytoemdmjdpikfbaa.Slc.kept_setCells (S := fun k_ => k_ = g) (.inl rfl) _ _ (Kept.drewN (Kept.refl w _) n)
 have hbW : W.heap[b]? = some (.cells #[.slice A1_0 l1_0.length c1_0] 24 (0, 0)) := (hKG.2 b (blk_lt hb) (fun e => hbg e)).trans hb
 have up : ∀ i, i < W.heap.size → (Go.Sort.grow W os).heap[i]? = W.heap[i]? := fun i hi => Array.getElem?_append_left hi
 have hsz : W.heap.size ≤ (Go.Sort.grow W os).heap.size := by simp [Go.Sort.grow]
 have hKg : Kept w (Go.Sort.grow W os) (fun k_ => P k_) := ⟨Nat.le_trans hKW.1 hsz, fun i hi hn => (up i (Nat.lt_of_lt_of_le hi hKW.1)).trans (hKW.2 i hi hn)⟩
 unfold sortWorld FnGives
 rw [e]
 exact slices_DeleteFunc_int_int.lit b A1_0 c1_0 l1_0 x _ ((up b (blk_lt hbW)).trans hbW) (hr1_0 _ hKg) hc1_0
set_option maxHeartbeats 800000 in
theorem slices_DeleteFunc_int_int.calls (P0_ : Nat → Prop) (u9000_ : Value) (l0 : List Int) (A1_0 : Option Addr) (c1_0 : Nat) (l1_0 : List Int) (r : List Int) (w0 w : World) {b : Nat} (hB : Below w0.heap.size w0 w) (ho0 : Kd.R (Kd.int .i64) 3 w w0.heap.size P0_ u9000_ l0) (hr1_0 : ∀ W', Kept w W' (fun k_ => P0_ k_) → Kd.C (Kd.int .i64) W' A1_0 l1_0.length l1_0) (hc1_0 : l1_0.length ≤ c1_0) (hb : w.heap[b]? = some (.cells #[.slice A1_0 l1_0.length c1_0] 24 (0, 0))) (h : slices_DeleteFunc_int_int.f l0 l1_0 = some r) :
   Calls Try.prog 69 #[u9000_, .func (.func 70) #[] #[.pointer (some ⟨b, 0, none⟩)]] w fun e w' => ∃ v0_ : Value, e = .returned (v0_) ∧ Kd.R (Kd.int .i64) 3 w' w0.heap.size (fun k_ => (P0_ k_ ∨ w.heap.size ≤ k_)) v0_ r ∧ Below w0.heap.size w0 w' ∧ Kept w w' (fun k_ => P0_ k_) := by
 unfold slices_DeleteFunc_int_int.f at h
 obtain rfl := Option.some.inj h
 have hpa : PredAt Try.prog 70 #[.pointer (some ⟨b, 0, none⟩)] (Value.int .i64) (slices_DeleteFunc_int_int.p l1_0) w := fun W x hWb => slices_DeleteFunc_int_int.lit b A1_0 c1_0 l1_0 x W ((hWb.block b (blk_lt hb)).trans hb) (hr1_0 W ⟨hWb.size, fun i hi _ => hWb.block i hi⟩) hc1_0
 have eg : ∀ args w, (callFunc 70 args).run Try.prog w = .ok (.enter 70 args) w := enters_of Try.func70 kr rfl
 by_cases h0 : 0 < l0.length
 rotate_left
 · have hn : l0 = [] := List.eq_nil_of_length_eq_zero (by omega)
   subst hn
   obtain ⟨A0, c0, rfl, hcap, hread⟩ := Kd.R_reads ho0
   have HI := am (slices_DeleteFunc_int_int.idx (slices_DeleteFunc_int_int.p l1_0) #[.pointer (some ⟨b, 0, none⟩)] A0 c0 [] w hread hcap (fun y W hW => (slices_DeleteFunc_int_int.lit b A1_0 c1_0 l1_0 y W ((hW.block b (blk_lt hb)).trans hb) (hr1_0 W ⟨hW.size, fun i hi _ => hW.block i hi⟩) hc1_0).mono fun e w' h => ⟨h.1, by obtain ⟨q, h2⟩ := h.2; rw [h2]; exact pw_below_drewN (Below.refl _ _) q⟩))
   have HO := am ho0
   have HB := am hB
   clear ho0 hr1_0 hc1_0 hb hpa eg hread hcap hB
   go_enter Try.func69, Try.ntmps69
   go_wp2_with (go_at_call 88; refine HI.out.mono ?_; rintro e w' ⟨rfl, hb'⟩; have HB2 := am hb'; clear hb')
   go_ret
   exact ⟨_, rfl, (by simpa using Kd.R_mono (ok' := fun k_ => (P0_ k_ ∨ w.heap.size ≤ k_)) (Kd.R_below HO.out HB2.out) (fun k hk => .inl hk)), below_step HB.out HB2.out, ⟨HB2.out.size, fun i hi _ => HB2.out.block i hi⟩⟩
 obtain ⟨g, c, cur, rfl, hg, hP, hb0, hc, hm, hs, ht⟩ := slices_DeleteFunc_int_int.flat.block ho0 h0
 have hH := slices_DeleteFunc_int_int.holds (n := 0) hb0 ht
 have hpo := slices_DeleteFunc_int_int.over hg hP hb0 hH hb hr1_0 hc1_0
 have hsz : l0.length ≤ 9223372036854775807 := by have := hm; unfold maxLen at this; omega
 refine (Go.Proofs.Ytoemdmjdpikfbaa.Shelf.Try.slices_DeleteFunc (Value.int .i64) (fun _ => rfl) (slices_DeleteFunc_int_int.p l1_0) 70 #[.pointer (some ⟨b, 0, none⟩)] eg 0 Try.zeroValue3 g 0 c l0.toArray w hpa hpo hH (by simpa using hsz) (by simpa using hc)).mono ?_
 rintro e w' ⟨rfl, q, rfl⟩
 have hcl : (l0.filter fun x => !slices_DeleteFunc_int_int.p l1_0 x).length ≤ l0.length := List.length_filter_le _ _
 simp only [List.toList_toArray, List.size_toArray]
 rw [Lib.putRow_eq_setCells _ w g 0 _ _ q hH (by simp; omega)]
 have hp := slices_DeleteFunc_int_int.put (q := q) (os := #[]) (m := (l0.filter fun x => !slices_DeleteFunc_int_int.p l1_0 x).length) hB hg hP hb0 hs hc hm (ys := (l0.filter fun x => !slices_DeleteFunc_int_int.p l1_0 x) ++ List.replicate (l0.length - (l0.filter fun x => !slices_DeleteFunc_int_int.p l1_0 x).length) 0) (n := l0.length) (by simp; omega) (ws := l0.filter fun x => !slices_DeleteFunc_int_int.p l1_0 x) (by simp) hcl
 rw [Go.Sort.grow_empty] at hp
 exact ⟨_, rfl, hp⟩
def impl_begin.j0 : Nat → Bool → List Int → List Int → List Int → List Int → List Int → List Int → List Int → Option (List Int × List Int × List Int × Bool)
 | 0, _, _, _, _, _, _, _, _ => none
 | k + 1, x22, x424000, x424001, x424002, x425000, x436000, x436001, x436002 => if x22 = true then (some (x436000, x436001, x436002, false)) else ((some (([] : List Int) : List Int)).bind fun y437 => (if y437.length + x425000.length < 17592186044416 then ((some (y437 ++ x425000 : List Int)).bind fun y440 => ((slices_DeleteFunc_int_int.f x436002 x425000).bind fun t443 => ((impl_isConf.f k x436000 y440 t443).bind fun t446 => (if t446 = true then (some (x436000, y440, t443, true)) else ((impl_copyConf.f x424000 x424001 x424002).bind fun bt447 => (some (bt447.1, bt447.2.1, bt447.2.2, false))))))) else (none)))
def impl_begin.f (k : Nat) (l0_0 : List Int) (l0_1 : List Int) (l0_2 : List Int) (l1 : List Int) : Option (List Int × List Int × List Int × Bool) := (impl_copyConf.f l0_0 l0_1 l0_2).bind fun bt426 => ((impl_isConf.f k l0_0 l0_1 l0_2).bind fun t436 => (if t436 = true then (if (l0_1.length : Int) > 0 then (impl_begin.j0 k true l0_0 l0_1 l0_2 l1 bt426.1 bt426.2.1 bt426.2.2) else (impl_begin.j0 k ((l1.length : Int) == 0) l0_0 l0_1 l0_2 l1 bt426.1 bt426.2.1 bt426.2.2)) else (impl_begin.j0 k true l0_0 l0_1 l0_2 l1 bt426.1 bt426.2.1 bt426.2.2)))
theorem impl_begin.mono_l : ∀ k, (∀ y0 y1 y2 y3 y4 y5 y6 y7, LeO (impl_begin.j0 k y0 y1 y2 y3 y4 y5 y6 y7) (impl_begin.j0 (k + 1) y0 y1 y2 y3 y4 y5 y6 y7))
 | 0 => fun _ _ _ _ _ _ _ _ r h => by simp [impl_begin.j0] at h
 | k + 1 => by
   have ih0 := impl_begin.mono_l k
   · intro y0 y1 y2 y3 y4 y5 y6 y7
     unfold impl_begin.j0
     repeat' first
     | (with_reducible exact ih0 _ _ _ _ _ _ _ _)
     | (with_reducible exact impl_isConf.mono _ _ _ _)
     | (with_reducible exact LeO.refl _)
     | (with_reducible exact LeO.none _)
     | (with_reducible refine LeO.ite ?_ ?_)
     | (with_reducible refine LeO.bind ?_ (fun _ => ?_))
     | exact ih0 _ _ _ _ _ _ _ _
     | exact impl_isConf.mono _ _ _ _
     | exact LeO.none _
     | refine LeO.ite ?_ ?_
     | refine LeO.bind ?_ (fun _ => ?_)
theorem impl_begin.mono : ∀ a0 a1 a2 a3 k, LeO (impl_begin.f k a0 a1 a2 a3) (impl_begin.f (k + 1) a0 a1 a2 a3) := by
 intro a0 a1 a2 a3 k
 have ih0 := impl_begin.mono_l k
 unfold impl_begin.f
 repeat' first
     | (with_reducible exact ih0 _ _ _ _ _ _ _ _)
     | (with_reducible exact impl_isConf.mono _ _ _ _)
     | (with_reducible exact LeO.refl _)
     | (with_reducible exact LeO.none _)
     | (with_reducible refine LeO.ite ?_ ?_)
     | (with_reducible refine LeO.bind ?_ (fun _ => ?_))
     | exact ih0 _ _ _ _ _ _ _ _
     | exact impl_isConf.mono _ _ _ _
     | exact LeO.none _
     | refine LeO.ite ?_ ?_
     | refine LeO.bind ?_ (fun _ => ?_)
set_option maxHeartbeats 8000000 in
set_option maxRecDepth 100000 in
theorem impl_begin.calls (k : Nat) (A0_0 : Option Addr) (c0_0 : Nat) (l0_0 : List Int) (A0_1 : Option Addr) (c0_1 : Nat) (l0_1 : List Int) (A0_2 : Option Addr) (c0_2 : Nat) (l0_2 : List Int) (A1 : Option Addr) (c1 : Nat) (l1 : List Int) (r1 : List Int) (r2 : List Int) (r3 : List Int) (r4 : Bool) (w : World) (hr0_0 : Kd.C (Kd.int .i64) w A0_0 l0_0.length l0_0) (hc0_0 : l0_0.length ≤ c0_0) (hr0_1 : Kd.C (Kd.int .i64) w A0_1 l0_1.length l0_1) (hc0_1 : l0_1.length ≤ c0_1) (hr0_2 : Kd.C (Kd.int .i64) w A0_2 l0_2.length l0_2) (hc0_2 : l0_2.length ≤ c0_2) (hr1 : Kd.C (Kd.int .i64) w A1 l1.length l1) (hc1 : l1.length ≤ c1) (h : impl_begin.f k l0_0 l0_1 l0_2 l1 = some (r1, r2, r3, r4)) :
   Calls Try.prog 46 #[.agg #[.slice A0_0 l0_0.length c0_0, .slice A0_1 l0_1.length c0_1, .slice A0_2 l0_2.length c0_2], .slice A1 l1.length c1] w fun e w' => ∃ v0_ v1_ v2_ : Value, e = .returned (.tuple #[.agg #[v0_, v1_, v2_], .bool r4]) ∧ Kd.R (Kd.int .i64) 3 w' w.heap.size (fun k_ => some k_ ≠ (v1_ : Value).ownBlock ∧ some k_ ≠ (v2_ : Value).ownBlock) v0_ r1 ∧ Kd.R (Kd.int .i64) 3 w' w.heap.size (fun k_ => some k_ ≠ (v0_ : Value).ownBlock ∧ some k_ ≠ (v2_ : Value).ownBlock) v1_ r2 ∧ Kd.R (Kd.int .i64) 3 w' w.heap.size (fun k_ => some k_ ≠ (v0_ : Value).ownBlock ∧ some k_ ≠ (v1_ : Value).ownBlock) v2_ r3 ∧ Below w.heap.size w w' := by
 have hu26 := Try.underlying26
 have HR0_0 := am hr0_0
 have HC0_0 := am hc0_0
 clear hr0_0 hc0_0
 have HR0_1 := am hr0_1
 have HC0_1 := am hc0_1
 clear hr0_1 hc0_1
 have HR0_2 := am hr0_2
 have HC0_2 := am hc0_2
 clear hr0_2 hc0_2
 have HR1 := am hr1
 have HC1 := am hc1
 clear hr1 hc1
 have HB := am (Below.refl w.heap.size w)
 have H : ((impl_copyConf.f l0_0 l0_1 l0_2).bind fun bt426 => ((impl_isConf.f k l0_0 l0_1 l0_2).bind fun t436 => (if t436 = true then (if (l0_1.length : Int) > 0 then (impl_begin.j0 k true l0_0 l0_1 l0_2 l1 bt426.1 bt426.2.1 bt426.2.2) else (impl_begin.j0 k ((l1.length : Int) == 0) l0_0 l0_1 l0_2 l1 bt426.1 bt426.2.1 bt426.2.2)) else (impl_begin.j0 k true l0_0 l0_1 l0_2 l1 bt426.1 bt426.2.1 bt426.2.2)))) = some (r1, r2, r3, r4) := h
 clear h
 replace H := Option.bind_eq_some_iff.mp H
 obtain ⟨⟨t426, t429, t432⟩, A30, H⟩ := H
 (try dsimp only at H)
 have A3 := am A30
 clear A30
 have HC4 := am H
 clear H
 go_enter Try.func46, Try.ntmps46
 go_upto_region 2 with (first | ((with_reducible refine gate_dst (N := 2) rfl ?_); (try (refine gate_guard (by rfl) ?_; dsimp only)); refine box_event ?hg (N := 2) ?hd (cs := #[.slice A0_0 l0_0.length c0_0, .slice A0_1 l0_1.length c0_1, .slice A0_2 l0_2.length c0_2]) (t := 26) ?hr ?_; (case hd => rfl); (case hg => rfl); (case hr => first | (go_simp; done) | (go_simp; rfl)); intro gb423 hg w5 hbox hb; have BK423 := am (hbox); have GW423 := am ((by rw [hg]; exact (below_size Q6) : w.heap.size ≤ gb423)); have GE423 := am ((by rw [hg]; exact (below_size Q6) : w.heap.size ≤ gb423)); replace HB := am (below_step Q6 hb); clear hb hbox hg) | ((with_reducible refine gate_dst (N := 3) rfl ?_); (try (refine gate_guard (by rfl) ?_; dsimp only)); refine box_event ?hg (N := 3) ?hd (cs := #[.slice A1 l1.length c1]) (t := 24) ?hr ?_; (case hd => rfl); (case hg => rfl); (case hr => first | (go_simp; done) | (go_simp; rfl)); intro gb424 hg w6 hbox hb; have BK424 := am (hbox); have GW424 := am ((by rw [hg]; exact (below_size Q6) : w.heap.size ≤ gb424)); have GE424 := am ((by rw [hg]; exact (below_size Q6) : w.heap.size ≤ gb424)); replace HB := am (below_step Q6 hb); have NB423_424 := am ((by rw [hg]; exact Nat.ne_of_lt (blk_lt (g := gb423) (o := .cells #[.slice A0_0 l0_0.length c0_0, .slice A0_1 l0_1.length c0_1, .slice A0_2 l0_2.length c0_2] 26 (0, 0)) u11_3) : gb423 ≠ gb424)); have NB424_423 := am ((by rw [hg]; exact Nat.ne_of_gt (blk_lt (g := gb423) (o := .cells #[.slice A0_0 l0_0.length c0_0, .slice A0_1 l0_1.length c0_1, .slice A0_2 l0_2.length c0_2] 26 (0, 0)) u11_3) : gb424 ≠ gb423)); replace BK423 := am (bb_ BK423.out u11_3 hb); clear hb hbox hg) | ((with_reducible refine gate_dst (N := 4) rfl ?_); (try (refine gate_guard (by rfl) ?_; dsimp only)); refine box_event ?hg (N := 4) ?hd (cs := #[.slice none 0 0, .slice none 0 0, .slice none 0 0]) (t := 26) ?hr ?_; (case hd => rfl); (case hg => rfl); (case hr => first | (go_simp; done) | (go_simp; rfl)); intro gb425 hg w7 hbox hb; have BK425 := am (hbox); have GW425 := am ((by rw [hg]; exact (below_size Q6) : w.heap.size ≤ gb425)); have GE425 := am ((by rw [hg]; exact (below_size Q6) : w.heap.size ≤ gb425)); replace HB := am (below_step Q6 hb); have NB423_425 := am ((by rw [hg]; exact Nat.ne_of_lt (blk_lt (g := gb423) (o := .cells #[.slice A0_0 l0_0.length c0_0, .slice A0_1 l0_1.length c0_1, .slice A0_2 l0_2.length c0_2] 26 (0, 0)) u11_3) : gb423 ≠ gb425)); have NB425_423 := am ((by rw [hg]; exact Nat.ne_of_gt (blk_lt (g := gb423) (o := .cells #[.slice A0_0 l0_0.length c0_0, .slice A0_1 l0_1.length c0_1, .slice A0_2 l0_2.length c0_2] 26 (0, 0)) u11_3) : gb425 ≠ gb423)); replace BK423 := am (bb_ BK423.out u11_3 hb); have NB424_425 := am ((by rw [hg]; exact Nat.ne_of_lt (blk_lt (g := gb424) (o := .cells #[.slice A1 l1.length c1] 24 (0, 0)) u11_5) : gb424 ≠ gb425)); have NB425_424 := am ((by rw [hg]; exact Nat.ne_of_gt (blk_lt (g := gb424) (o := .cells #[.slice A1 l1.length c1] 24 (0, 0)) u11_5) : gb425 ≠ gb424)); replace BK424 := am (bb_ BK424.out u11_5 hb); clear hb hbox hg; have hnb8 := NB423_424.out; have hnc8 := NB424_423.out; have hnb9 := NB423_425.out; have hnc9 := NB425_423.out; obtain ⟨hcz10_0, hcz10_1, hcz10_2, hfz10_0, hfz10_1, hfz10_2⟩ := bc3f w7 BK423.out) | ((with_reducible refine gate_callee (f := 63) rfl ?_); refine goesL_ (some 8) rfl rfl Try.func63 kr rfl #[.agg #[.slice A0_0 l0_0.length c0_0, .slice A0_1 l0_1.length c0_1, .slice A0_2 l0_2.length c0_2]] rfl Q10 ?_; (with_reducible refine (impl_copyConf.calls _ _ l0_0 _ _ l0_1 _ _ l0_2 t426 t429 t432 _ ?side1 ?side2 ?side3 ?side4 ?side5 ?side6 A3.out).mono ?_); (case side1 => exact Q0); (case side2 => exact HC0_0.out); (case side3 => exact Q7); (case side4 => exact HC0_1.out); (case side5 => exact Q2); (case side6 => exact HC0_2.out); rintro e w11 ⟨v427, v430, v433, rfl, ho0, ho1, ho2, hb⟩; refine ⟨_, rfl, ?_⟩; have HO428 := am (Kd.R_lower ho0 (below_size Q6)); have HO431 := am (Kd.R_lower ho1 (below_size Q6)); have HO434 := am (Kd.R_lower ho2 (below_size Q6)); replace BK423 := am (bb_ BK423.out u11_3 hb); replace BK424 := am (bb_ BK424.out u11_5 hb); replace BK425 := am (bb_ BK425.out u11_9 hb); replace HB := am (below_step Q6 hb); (try clear hb); (try clear hb2); (try clear hk); (try clear hi); (try clear ho0); (try clear ho1); (try clear ho2)) | ((with_reducible refine gate_dst (N := 6) rfl ?_); (try (refine gate_guard (by rfl) ?_; dsimp only)); refine box_event ?hg (N := 6) ?hd (cs := #[.slice none 0 0, .slice none 0 0, .slice none 0 0]) (t := 26) ?hr ?_; (case hd => rfl); (case hg => rfl); (case hr => first | (go_simp; done) | (go_simp; rfl)); intro gb435 hg w12 hbox hb; replace HO428 := am (Kd.R_below u11_31 hb); replace HO431 := am (Kd.R_below u11_32 hb); replace HO434 := am (Kd.R_below u11_33 hb); have BK435 := am (hbox); have GW435 := am ((by rw [hg]; exact (below_size Q6) : w.heap.size ≤ gb435)); have GE435 := am ((by rw [hg]; exact (below_size Q6) : w.heap.size ≤ gb435)); replace HB := am (below_step Q6 hb); have NB423_435 := am ((by rw [hg]; exact Nat.ne_of_lt (blk_lt (g := gb423) (o := .cells #[.slice A0_0 l0_0.length c0_0, .slice A0_1 l0_1.length c0_1, .slice A0_2 l0_2.length c0_2] 26 (0, 0)) u11_3) : gb423 ≠ gb435)); have NB435_423 := am ((by rw [hg]; exact Nat.ne_of_gt (blk_lt (g := gb423) (o := .cells #[.slice A0_0 l0_0.length c0_0, .slice A0_1 l0_1.length c0_1, .slice A0_2 l0_2.length c0_2] 26 (0, 0)) u11_3) : gb435 ≠ gb423)); replace BK423 := am (bb_ BK423.out u11_3 hb); have NB424_435 := am ((by rw [hg]; exact Nat.ne_of_lt (blk_lt (g := gb424) (o := .cells #[.slice A1 l1.length c1] 24 (0, 0)) u11_5) : gb424 ≠ gb435)); have NB435_424 := am ((by rw [hg]; exact Nat.ne_of_gt (blk_lt (g := gb424) (o := .cells #[.slice A1 l1.length c1] 24 (0, 0)) u11_5) : gb435 ≠ gb424)); replace BK424 := am (bb_ BK424.out u11_5 hb); have NB425_435 := am ((by rw [hg]; exact Nat.ne_of_lt (blk_lt (g := gb425) (o := .cells #[.slice none 0 0, .slice none 0 0, .slice none 0 0] 26 (0, 0)) u11_9) : gb425 ≠ gb435)); have NB435_425 := am ((by rw [hg]; exact Nat.ne_of_gt (blk_lt (g := gb425) (o := .cells #[.slice none 0 0, .slice none 0 0, .slice none 0 0] 26 (0, 0)) u11_9) : gb435 ≠ gb425)); replace BK425 := am (bb_ BK425.out u11_9 hb); clear hb hbox hg; obtain ⟨Ao13, co13, eo13⟩ := Kd.R_slice HO428.out; subst eo13; have hnb14 := NB435_423.out; have hnc14 := NB423_435.out; have hnb15 := NB435_424.out; have hnc15 := NB424_435.out; have hnb16 := NB435_425.out; have hnc16 := NB425_435.out; obtain ⟨hcz17_0, hcz17_1, hcz17_2, hfz17_0, hfz17_1, hfz17_2⟩ := bc3f w12 BK435.out; obtain ⟨Ao18, co18, eo18⟩ := Kd.R_slice HO431.out; subst eo18; obtain ⟨Ao19, co19, eo19⟩ := Kd.R_slice HO434.out; subst eo19))
 (try simp only [Act.put, la, lb, lc])
 go_cut [22] (fun v22 wc => ∃ (kq : Nat) (x22_3 : Bool), v22 = .bool x22_3 ∧ Aside0 (impl_begin.j0 kq x22_3 l0_0 l0_1 l0_2 l1 t426 t429 t432 = some (r1, r2, r3, r4)) ∧ Aside0 (kq ≤ k) ∧ Aside0 (Kd.R (Kd.int .i64) 3 wc w.heap.size (fun k_ => some k_ ≠ ((.slice Ao18 t429.length co18) : Value).ownBlock ∧ some k_ ≠ ((.slice Ao19 t432.length co19) : Value).ownBlock) (.slice Ao13 t426.length co13) t426) ∧ Aside0 (Kd.R (Kd.int .i64) 3 wc w.heap.size (fun k_ => some k_ ≠ ((.slice Ao13 t426.length co13) : Value).ownBlock ∧ some k_ ≠ ((.slice Ao19 t432.length co19) : Value).ownBlock) (.slice Ao18 t429.length co18) t429) ∧ Aside0 (Kd.R (Kd.int .i64) 3 wc w.heap.size (fun k_ => some k_ ≠ ((.slice Ao13 t426.length co13) : Value).ownBlock ∧ some k_ ≠ ((.slice Ao18 t429.length co18) : Value).ownBlock) (.slice Ao19 t432.length co19) t432) ∧ Aside0 (wc.heap[gb423]? = some (.cells #[(.slice A0_0 l0_0.length c0_0), (.slice A0_1 l0_1.length c0_1), (.slice A0_2 l0_2.length c0_2)] 26 (0, 0))) ∧ Aside0 (wc.heap[gb424]? = some (.cells #[(.slice A1 l1.length c1)] 24 (0, 0))) ∧ Aside0 (wc.heap[gb425]? = some (.cells #[(.slice none 0 0), (.slice none 0 0), (.slice none 0 0)] 26 (0, 0))) ∧ Aside0 (wc.heap[gb435]? = some (.cells #[(.slice Ao13 t426.length co13), (.slice Ao18 t429.length co18), (.slice Ao19 t432.length co19)] 26 (0, 0))) ∧ Aside0 (Below w.heap.size w wc))
 case first =>
   have H := HC4.out
   clear HC4
   replace H := Option.bind_eq_some_iff.mp H
   obtain ⟨t436, A200, H⟩ := H
   have A20 := am A200
   clear A200
   by_cases c21 : t436 = true
   rotate_left
   · replace c21 := Bool.eq_false_iff.mpr c21
     subst c21
     rw [nf] at H
     have H' := am H
     clear H
     have hnb38 := NB423_424.out
     have hnc38 := NB424_423.out
     have hnb39 := NB423_425.out
     have hnc39 := NB425_423.out
     have hnb40 := NB423_435.out
     have hnc40 := NB435_423.out
     obtain ⟨hcz41_0, hcz41_1, hcz41_2, hfz41_0, hfz41_1, hfz41_2⟩ := bc3f w12 BK423.out
     go_wp2_with (first | ((with_reducible refine gate_callee (f := 48) rfl ?_); refine goesL_ (some 10) rfl rfl Try.func48 kr rfl #[.agg #[.slice A0_0 l0_0.length c0_0, .slice A0_1 l0_1.length c0_1, .slice A0_2 l0_2.length c0_2]] rfl Q10 ?_; (with_reducible refine (impl_isConf.calls k _ _ l0_0 _ _ l0_1 _ _ l0_2 false _ ?side1 ?side2 ?side3 ?side4 ?side5 ?side6 A20.out).mono ?_); (case side1 => exact (by exact Kd.C_below HR0_0.out Q6)); (case side2 => exact HC0_0.out); (case side3 => exact (by exact Kd.C_below HR0_1.out Q6)); (case side4 => exact HC0_1.out); (case side5 => exact (by exact Kd.C_below HR0_2.out Q6)); (case side6 => exact HC0_2.out); rintro e w42 ⟨rfl, hb⟩; refine ⟨_, rfl, ?_⟩; replace HO428 := am (Kd.R_below u11_14 hb); replace HO431 := am (Kd.R_below u11_15 hb); replace HO434 := am (Kd.R_below u11_16 hb); replace BK423 := am (blk_below (g := gb423) (o := .cells #[.slice A0_0 l0_0.length c0_0, .slice A0_1 l0_1.length c0_1, .slice A0_2 l0_2.length c0_2] 26 (0, 0)) u11_10 hb); replace BK424 := am (blk_below (g := gb424) (o := .cells #[.slice A1 l1.length c1] 24 (0, 0)) u11_11 hb); replace BK425 := am (blk_below (g := gb425) (o := .cells #[.slice none 0 0, .slice none 0 0, .slice none 0 0] 26 (0, 0)) u11_12 hb); replace BK435 := am (blk_below (g := gb435) (o := .cells #[.slice Ao13 t426.length co13, .slice Ao18 t429.length co18, .slice Ao19 t432.length co19] 26 (0, 0)) u11_7 hb); replace HB := am (below_step Q6 hb); (try clear hb); (try clear hb2); (try clear hk); (try clear hi)))
     go_meet
     case rel => exact ⟨_, (true), Q9, H', ⟨by first | omega | exact Nat.le_refl _⟩, ⟨u11_31⟩, ⟨u11_32⟩, ⟨u11_33⟩, ⟨u11_3⟩, ⟨u11_5⟩, ⟨u11_9⟩, ⟨u11_21⟩, ⟨Q6⟩⟩
   subst c21
   rw [if_pos rfl] at H
   by_cases c22 : (l0_1.length : Int) > 0
   · rw [if_pos c22] at H
     have c22b0 : decide (0 < (l0_1.length : Int)) = true := decide_eq_true c22
     have c22b1 : decide (0 < l0_1.length) = true := decide_eq_true (by omega)
     clear c22
     (first | rw [c22b0] | (simp only [i64_w, i32_w]; rw [c22b0]) | skip)
     have H' := am H
     clear H
     have hnb23 := NB423_424.out
     have hnc23 := NB424_423.out
     have hnb24 := NB423_425.out
     have hnc24 := NB425_423.out
     have hnb25 := NB423_435.out
     have hnc25 := NB435_423.out
     obtain ⟨hcz26_0, hcz26_1, hcz26_2, hfz26_0, hfz26_1, hfz26_2⟩ := bc3f w12 BK423.out
     go_wp2_with (first | ((with_reducible refine gate_callee (f := 48) rfl ?_); refine goesL_ (some 10) rfl rfl Try.func48 kr rfl #[.agg #[.slice A0_0 l0_0.length c0_0, .slice A0_1 l0_1.length c0_1, .slice A0_2 l0_2.length c0_2]] rfl Q10 ?_; (with_reducible refine (impl_isConf.calls k _ _ l0_0 _ _ l0_1 _ _ l0_2 true _ ?side1 ?side2 ?side3 ?side4 ?side5 ?side6 A20.out).mono ?_); (case side1 => exact (by exact Kd.C_below HR0_0.out Q6)); (case side2 => exact HC0_0.out); (case side3 => exact (by exact Kd.C_below HR0_1.out Q6)); (case side4 => exact HC0_1.out); (case side5 => exact (by exact Kd.C_below HR0_2.out Q6)); (case side6 => exact HC0_2.out); rintro e w27 ⟨rfl, hb⟩; refine ⟨_, rfl, ?_⟩; replace HO428 := am (Kd.R_below u11_14 hb); replace HO431 := am (Kd.R_below u11_15 hb); replace HO434 := am (Kd.R_below u11_16 hb); replace BK423 := am (blk_below (g := gb423) (o := .cells #[.slice A0_0 l0_0.length c0_0, .slice A0_1 l0_1.length c0_1, .slice A0_2 l0_2.length c0_2] 26 (0, 0)) u11_10 hb); replace BK424 := am (blk_below (g := gb424) (o := .cells #[.slice A1 l1.length c1] 24 (0, 0)) u11_11 hb); replace BK425 := am (blk_below (g := gb425) (o := .cells #[.slice none 0 0, .slice none 0 0, .slice none 0 0] 26 (0, 0)) u11_12 hb); replace BK435 := am (blk_below (g := gb435) (o := .cells #[.slice Ao13 t426.length co13, .slice Ao18 t429.length co18, .slice Ao19 t432.length co19] 26 (0, 0)) u11_7 hb); replace HB := am (below_step Q6 hb); (try clear hb); (try clear hb2); (try clear hk); (try clear hi); obtain ⟨hcz28_0, hcz28_1, hcz28_2, hfz28_0, hfz28_1, hfz28_2⟩ := bc3f w27 BK423.out))
     go_meet
     case rel => exact ⟨_, (true), Q9, H', ⟨by first | omega | exact Nat.le_refl _⟩, ⟨u11_31⟩, ⟨u11_32⟩, ⟨u11_33⟩, ⟨u11_3⟩, ⟨u11_5⟩, ⟨u11_9⟩, ⟨u11_21⟩, ⟨Q6⟩⟩
   rw [if_neg c22] at H
   have c22b0 : decide (0 < (l0_1.length : Int)) = false := decide_eq_false c22
   have c22b1 : decide (0 < l0_1.length) = false := decide_eq_false (by omega)
   clear c22
   (first | rw [c22b0] | (simp only [i64_w, i32_w]; rw [c22b0]) | skip)
   have H' := am H
   clear H
   have hnb29 := NB423_424.out
   have hnc29 := NB424_423.out
   have hnb30 := NB423_425.out
   have hnc30 := NB425_423.out
   have hnb31 := NB423_435.out
   have hnc31 := NB435_423.out
   obtain ⟨hcz32_0, hcz32_1, hcz32_2, hfz32_0, hfz32_1, hfz32_2⟩ := bc3f w12 BK423.out
   go_wp2_with (first | ((with_reducible refine gate_callee (f := 48) rfl ?_); refine goesL_ (some 10) rfl rfl Try.func48 kr rfl #[.agg #[.slice A0_0 l0_0.length c0_0, .slice A0_1 l0_1.length c0_1, .slice A0_2 l0_2.length c0_2]] rfl Q10 ?_; (with_reducible refine (impl_isConf.calls k _ _ l0_0 _ _ l0_1 _ _ l0_2 true _ ?side1 ?side2 ?side3 ?side4 ?side5 ?side6 A20.out).mono ?_); (case side1 => exact (by exact Kd.C_below HR0_0.out Q6)); (case side2 => exact HC0_0.out); (case side3 => exact (by exact Kd.C_below HR0_1.out Q6)); (case side4 => exact HC0_1.out); (case side5 => exact (by exact Kd.C_below HR0_2.out Q6)); (case side6 => exact HC0_2.out); rintro e w33 ⟨rfl, hb⟩; refine ⟨_, rfl, ?_⟩; replace HO428 := am (Kd.R_below u11_14 hb); replace HO431 := am (Kd.R_below u11_15 hb); replace HO434 := am (Kd.R_below u11_16 hb); replace BK423 := am (blk_below (g := gb423) (o := .cells #[.slice A0_0 l0_0.length c0_0, .slice A0_1 l0_1.length c0_1, .slice A0_2 l0_2.length c0_2] 26 (0, 0)) u11_10 hb); replace BK424 := am (blk_below (g := gb424) (o := .cells #[.slice A1 l1.length c1] 24 (0, 0)) u11_11 hb); replace BK425 := am (blk_below (g := gb425) (o := .cells #[.slice none 0 0, .slice none 0 0, .slice none 0 0] 26 (0, 0)) u11_12 hb); replace BK435 := am (blk_below (g := gb435) (o := .cells #[.slice Ao13 t426.length co13, .slice Ao18 t429.length co18, .slice Ao19 t432.length co19] 26 (0, 0)) u11_7 hb); replace HB := am (below_step Q6 hb); (try clear hb); (try clear hb2); (try clear hk); (try clear hi); obtain ⟨hcz34_0, hcz34_1, hcz34_2, hfz34_0, hfz34_1, hfz34_2⟩ := bc3f w33 BK423.out; have hnb35 := NB424_425.out; have hnc35 := NB425_424.out; have hnb36 := NB424_435.out; have hnc36 := NB435_424.out; obtain ⟨hcz37_0, hfz37_0⟩ := bc1f w33 BK424.out))
   go_meet
   case rel => exact ⟨_, (((l1.length : Int) == 0)), Q9, H', ⟨by first | omega | exact Nat.le_refl _⟩, ⟨u11_31⟩, ⟨u11_32⟩, ⟨u11_33⟩, ⟨u11_3⟩, ⟨u11_5⟩, ⟨u11_9⟩, ⟨u11_21⟩, ⟨Q6⟩⟩
 clear HC4
 try clear c1
 try clear hcz10_0
 try clear hcz10_1
 try clear hcz10_2
 try clear hcz17_0
 try clear hcz17_1
 try clear hcz17_2
 try clear hfz10_0
 try clear hfz10_1
 try clear hfz10_2
 try clear hfz17_0
 try clear hfz17_1
 try clear hfz17_2
 obtain ⟨kq, x22_3, rfl, HA, HJ3, HO_436000, HO_436001, HO_436002, BK423, BK424, BK425, BK435, HB⟩ := hcut
 cases kq with
 | zero => exact absurd HA.out (by simp [impl_begin.j0])
 | succ kj3 =>
   have H := HA.out
   clear HA
   simp only [impl_begin.j0] at H
   by_cases c43 : x22_3 = true
   · subst c43
     rw [if_pos rfl] at H
     simp only [Option.some.injEq, Prod.mk.injEq] at H
     obtain ⟨rfl, rfl, rfl, rfl⟩ := H
     have hnb44 := NB435_423.out
     have hnc44 := NB423_435.out
     have hnb45 := NB435_424.out
     have hnc45 := NB424_435.out
     have hnb46 := NB435_425.out
     have hnc46 := NB425_435.out
     obtain ⟨hcz47_0, hcz47_1, hcz47_2, hfz47_0, hfz47_1, hfz47_2⟩ := bc3f wc BK435.out
     have hnb48 := NB425_423.out
     have hnc48 := NB423_425.out
     have hnb49 := NB425_424.out
     have hnc49 := NB424_425.out
     obtain ⟨hcz50_0, hcz50_1, hcz50_2, hfz50_0, hfz50_1, hfz50_2⟩ := bc3f wc BK425.out
     go_wp2
     refine bodyPost_ret (results_ct rfl _ _ gb425 26 #[.slice Ao13 t426.length co13, .slice Ao18 t429.length co18, .slice Ao19 t432.length co19] (0, 0) _ rfl (by (with_reducible repeat (first | apply b1_ | apply b2_ | apply b3_)); refine blk_put (cs := #[.slice Ao13 t426.length co13, .slice Ao18 t429.length co18, .slice none 0 0]) ?_ 2 _ rfl; (with_reducible repeat (first | apply b1_ | apply b2_ | apply b3_)); refine blk_put (cs := #[.slice Ao13 t426.length co13, .slice none 0 0, .slice none 0 0]) ?_ 1 _ rfl; (with_reducible repeat (first | apply b1_ | apply b2_ | apply b3_)); refine blk_put (cs := #[.slice none 0 0, .slice none 0 0, .slice none 0 0]) ?_ 0 _ rfl; (with_reducible repeat (first | apply b1_ | apply b2_ | apply b3_)); exact BK425.out) Try.underlying26 rfl kr) rfl ?_
     exact ⟨_, _, _, er, (by (with_reducible repeat (first | apply r1_ | apply r2_ | apply r3_)); exact Kd.R_mono (Kd.R_far (p := ⟨gb425, 2, none⟩) (Kd.R_far (p := ⟨gb425, 1, none⟩) (Kd.R_far (p := ⟨gb425, 0, none⟩) (Kd.R_types HO_436000.out BK425.out (by decide)) (fun _ hk => hk.2) (.slice Ao13 t426.length co13)) (fun _ hk => hk.2) (.slice Ao18 t429.length co18)) (fun _ hk => hk.2) (.slice Ao19 t432.length co19)) (fun _ hk => ⟨hk.1.1, hk.1.2⟩)), (by (with_reducible repeat (first | apply r1_ | apply r2_ | apply r3_)); exact Kd.R_mono (Kd.R_far (p := ⟨gb425, 2, none⟩) (Kd.R_far (p := ⟨gb425, 1, none⟩) (Kd.R_far (p := ⟨gb425, 0, none⟩) (Kd.R_types HO_436001.out BK425.out (by decide)) (fun _ hk => hk.2) (.slice Ao13 t426.length co13)) (fun _ hk => hk.2) (.slice Ao18 t429.length co18)) (fun _ hk => hk.2) (.slice Ao19 t432.length co19)) (fun _ hk => ⟨hk.1.1, hk.1.2⟩)), (by (with_reducible repeat (first | apply r1_ | apply r2_ | apply r3_)); exact Kd.R_mono (Kd.R_far (p := ⟨gb425, 2, none⟩) (Kd.R_far (p := ⟨gb425, 1, none⟩) (Kd.R_far (p := ⟨gb425, 0, none⟩) (Kd.R_types HO_436002.out BK425.out (by decide)) (fun _ hk => hk.2) (.slice Ao13 t426.length co13)) (fun _ hk => hk.2) (.slice Ao18 t429.length co18)) (fun _ hk => hk.2) (.slice Ao19 t432.length co19)) (fun _ hk => ⟨hk.1.1, hk.1.2⟩)), Q6⟩
   replace c43 := Bool.eq_false_iff.mpr c43
   subst c43
   rw [nf] at H
   obtain ⟨y437, hy437⟩ : ∃ y_ : List Int, y_ = (([] : List Int)) := ⟨_, rfl⟩
   replace H : (if y437.length + l1.length < 17592186044416 then ((some (y437 ++ l1 : List Int)).bind fun y440 => ((slices_DeleteFunc_int_int.f t432 l1).bind fun t443 => ((impl_isConf.f kj3 t426 y440 t443).bind fun t446 => (if t446 = true then (some (t426, y440, t443, true)) else ((impl_copyConf.f l0_0 l0_1 l0_2).bind fun bt447 => (some (bt447.1, bt447.2.1, bt447.2.2, false))))))) else (none)) = some (r1, r2, r3, r4) := by first | (rw [hy437]; with_reducible exact H) | (have H2_ := (Option.bind_some _ _).symm.trans H; rw [hy437]; with_reducible exact H2_) | (have H2_ := (Option.bind_some _ _).symm.trans H; with_reducible exact H2_) | with_reducible exact H | (rw [hy437]; exact H) | exact H
   have Ny437 := am hy437
   clear hy437
   by_cases c51 : y437.length + l1.length < 17592186044416
   rotate_left
   · rw [if_neg c51] at H
     exact absurd H (by simp)
   rw [if_pos c51] at H
   have LMc51 := am c51
   clear c51
   obtain ⟨y440, hy440⟩ : ∃ y_ : List Int, y_ = (y437 ++ l1) := ⟨_, rfl⟩
   replace H : ((slices_DeleteFunc_int_int.f t432 l1).bind fun t443 => ((impl_isConf.f kj3 t426 y440 t443).bind fun t446 => (if t446 = true then (some (t426, y440, t443, true)) else ((impl_copyConf.f l0_0 l0_1 l0_2).bind fun bt447 => (some (bt447.1, bt447.2.1, bt447.2.2, false)))))) = some (r1, r2, r3, r4) := by first | (rw [hy440]; with_reducible exact H) | (have H2_ := (Option.bind_some _ _).symm.trans H; rw [hy440]; with_reducible exact H2_) | (have H2_ := (Option.bind_some _ _).symm.trans H; with_reducible exact H2_) | with_reducible exact H | (rw [hy440]; exact H) | exact H
   have Ny440 := am hy440
   clear hy440
   replace H := Option.bind_eq_some_iff.mp H
   obtain ⟨t443, A520, H⟩ := H
   have A52 := am A520
   clear A520
   replace H := Option.bind_eq_some_iff.mp H
   obtain ⟨t446, A530, H⟩ := H
   have A53 := am A530
   clear A530
   have H9 := am H
   clear H
   go_upto_if 35 with (first | ((with_reducible refine gate_dst (N := 24) rfl ?_); (try (refine gate_guard (by rfl) ?_; dsimp only)); refine Kd.R_lit (Kd.int .i64) _ 3 ?hg (N := 24) ?hd (xs := ([] : List Int)) (inner := []) (ok := fun _ => True) (okp := fun _ => True) ?hr ?hp (fun _ hk => hk) trivial (Below.refl _ _) (Nat.le_refl _) (by simp) ?_; (case hd => rfl); (case hg => rfl); (case hr => first | (go_simp; done) | (go_simp; rfl)); (case hp => exact (Reps.none _ _)); intro v438 w54 ho55 hb hg_ hnew_; clear hg_ hnew_; (first | rw [← Ny437.out] at ho55 | (simp only [Int.reduceToNat] at ho55; rw [← Ny437.out] at ho55)); have HO439 := am (Kd.R_lower (Kd.R_new' (Kd.R_new' (Kd.R_new' ho55 (Kd.R_lt u11_17)) (Kd.R_lt u11_18)) (Kd.R_lt u11_30)) (below_size Q6)); replace HO_436000 := am (Kd.R_elder' u11_17 (Kd.R_base ho55) hb); replace HO_436001 := am (Kd.R_elder' u11_18 (Kd.R_base ho55) hb); replace HO_436002 := am (Kd.R_elder' u11_30 (Kd.R_base ho55) hb); replace BK423 := am (bb_ BK423.out u11_3 hb); replace BK424 := am (bb_ BK424.out u11_5 hb); replace BK425 := am (bb_ BK425.out u11_9 hb); replace BK435 := am (bb_ BK435.out u11_21 hb); replace HB := am (below_step Q6 hb); clear hb ho55; have hnb56 := NB424_423.out; have hnc56 := NB423_424.out; have hnb57 := NB424_425.out; have hnc57 := NB425_424.out; have hnb58 := NB424_435.out; have hnc58 := NB435_424.out; obtain ⟨hcz59_0, hfz59_0⟩ := bc1f w54 BK424.out) | ((with_reducible refine gate_builtin (b := .append) (xs := #[.tmp 24, .tmp 25]) rfl ?_); (try (refine gate_guard (by rfl) ?_; dsimp only)); at_builtin; refine Kd.R_append_rows (Kd.int .i64) (w0 := w) w.heap.size rfl (.tmp 24) (.tmp 25) 24 3 (.int .i64 0) 8 rfl Try.underlying24 info3 rfl (by decide) (by omega) v438 y437 l1 _ _ _ (fun k_ => some k_ ≠ (.slice Ao13 t426.length co13 : Value).ownBlock ∧ some k_ ≠ (.slice Ao18 t429.length co18 : Value).ownBlock ∧ some k_ ≠ (.slice Ao19 t432.length co19 : Value).ownBlock) (fun _ => False) rfl rfl ?aO ?aR (fun _ _ h => h) (fun _ h => h.elim) ?aF ?aB ?aS ?aL ?_; (case aR => repeat (first | exact (Kd.C_below HR1.out HB.out) | (with_reducible refine Kd.C_alloc ?_ _) | (with_reducible refine Kd.C_drewN ?_ _) | (with_reducible refine Kd.C_drew ?_))); (case aB => exact Q6); (case aF => exact (fun k_ hk => ⟨Kd.fresh' (Kd.R_lt u11_17) k_ hk, Kd.fresh' (Kd.R_lt u11_18) k_ hk, Kd.fresh' (Kd.R_lt u11_30) k_ hk⟩)); (case aO => exact (by (with_reducible repeat (first | apply r1_ | apply r2_ | apply r3_)); exact Kd.R_mono HO439.out (fun _ hk => ⟨hk.1.1.2, ⟨hk.1.2, hk.2⟩⟩))); (case aS => exact (below_size Q6)); (case aL => have := LMc51.out; omega); intro v441 w60 ho hb hg hat; rw [← Ny440.out] at ho; replace HO_436000 := am (Kd.R_after (ok := (fun k_ => some k_ ≠ (.slice Ao18 t429.length co18 : Value).ownBlock ∧ some k_ ≠ (.slice Ao19 t432.length co19 : Value).ownBlock)) u11_17 hg hat); replace HO_436001 := am (Kd.R_after (ok := (fun k_ => some k_ ≠ (.slice Ao13 t426.length co13 : Value).ownBlock ∧ some k_ ≠ (.slice Ao19 t432.length co19 : Value).ownBlock)) u11_18 hg hat); replace HO_436002 := am (Kd.R_after (ok := (fun k_ => some k_ ≠ (.slice Ao13 t426.length co13 : Value).ownBlock ∧ some k_ ≠ (.slice Ao18 t429.length co18 : Value).ownBlock)) u11_30 hg hat); replace BK423 := am (blk_grown (g := gb423) (o := .cells #[.slice A0_0 l0_0.length c0_0, .slice A0_1 l0_1.length c0_1, .slice A0_2 l0_2.length c0_2] 26 (0, 0)) u11_3 hg (Kd.R_ne HO439.out BK423.out (by decide))); replace BK424 := am (blk_grown (g := gb424) (o := .cells #[.slice A1 l1.length c1] 24 (0, 0)) u11_5 hg (Kd.R_ne HO439.out BK424.out (by decide))); replace BK425 := am (blk_grown (g := gb425) (o := .cells #[.slice none 0 0, .slice none 0 0, .slice none 0 0] 26 (0, 0)) u11_9 hg (Kd.R_ne HO439.out BK425.out (by decide))); replace BK435 := am (blk_grown (g := gb435) (o := .cells #[.slice Ao13 t426.length co13, .slice Ao18 t429.length co18, .slice Ao19 t432.length co19] 26 (0, 0)) u11_21 hg (Kd.R_ne HO439.out BK435.out (by decide))); replace HB := am (hb); have HO442 := am (ho); clear HO439; clear ho hb hg hat; obtain ⟨Ao61, co61, eo61⟩ := Kd.R_slice HO442.out; subst eo61; have hnb62 := NB435_423.out; have hnc62 := NB423_435.out; have hnb63 := NB435_425.out; have hnc63 := NB425_435.out; obtain ⟨hcz64_0, hcz64_1, hcz64_2, hfz64_0, hfz64_1, hfz64_2⟩ := bc3f w60 BK435.out) | ((with_reducible refine gate_store (t := 24) (p := 27) rfl ?_); refine store_event (t := 24) (p := 27) (v := ?vo_w65) (w1 := (w60.setCell ⟨gb435, 1, none⟩ (.slice Ao61 y440.length co61))) ?hg ?ho ?hn ?hr ?_; (case ho => rfl); (case hg => rfl); (case hn => rfl); (case hr => first | (go_simp; done) | (go_simp; rfl)); intro w65 hw; have n0_ : Aside0 (Kd.R (Kd.int .i64) 3 w65 w.heap.size (fun k_ => some k_ ≠ (.slice Ao18 t429.length co18 : Value).ownBlock ∧ some k_ ≠ (.slice Ao19 t432.length co19 : Value).ownBlock ∧ some k_ ≠ (.slice Ao61 y440.length co61 : Value).ownBlock) (.slice Ao13 t426.length co13) t426) := ⟨(by rw [hw]; exact (by (with_reducible repeat (first | apply r1_ | apply r2_ | apply r3_)); exact Kd.R_mono (Kd.R_far (p := ⟨gb435, 1, none⟩) (Kd.R_types HO_436000.out BK435.out (by decide)) (fun _ hk => hk.2) (.slice Ao61 y440.length co61)) (fun _ hk => ⟨hk.1.1.1, ⟨hk.1.1.2, hk.1.2⟩⟩)))⟩; have n1_ : Aside0 (Kd.R (Kd.int .i64) 3 w65 w.heap.size (fun k_ => some k_ ≠ (.slice Ao13 t426.length co13 : Value).ownBlock ∧ some k_ ≠ (.slice Ao19 t432.length co19 : Value).ownBlock ∧ some k_ ≠ (.slice Ao61 y440.length co61 : Value).ownBlock) (.slice Ao18 t429.length co18) t429) := ⟨(by rw [hw]; exact (by (with_reducible repeat (first | apply r1_ | apply r2_ | apply r3_)); exact Kd.R_mono (Kd.R_far (p := ⟨gb435, 1, none⟩) (Kd.R_types HO_436001.out BK435.out (by decide)) (fun _ hk => hk.2) (.slice Ao61 y440.length co61)) (fun _ hk => ⟨hk.1.1.1, ⟨hk.1.1.2, hk.1.2⟩⟩)))⟩; have n2_ : Aside0 (Kd.R (Kd.int .i64) 3 w65 w.heap.size (fun k_ => some k_ ≠ (.slice Ao13 t426.length co13 : Value).ownBlock ∧ some k_ ≠ (.slice Ao18 t429.length co18 : Value).ownBlock ∧ some k_ ≠ (.slice Ao61 y440.length co61 : Value).ownBlock) (.slice Ao19 t432.length co19) t432) := ⟨(by rw [hw]; exact (by (with_reducible repeat (first | apply r1_ | apply r2_ | apply r3_)); exact Kd.R_mono (Kd.R_far (p := ⟨gb435, 1, none⟩) (Kd.R_types HO_436002.out BK435.out (by decide)) (fun _ hk => hk.2) (.slice Ao61 y440.length co61)) (fun _ hk => ⟨hk.1.1.1, ⟨hk.1.1.2, hk.1.2⟩⟩)))⟩; have n3_ : Aside0 (Kd.R (Kd.int .i64) 3 w65 w.heap.size (fun k_ => some k_ ≠ (.slice Ao13 t426.length co13 : Value).ownBlock ∧ some k_ ≠ (.slice Ao18 t429.length co18 : Value).ownBlock ∧ some k_ ≠ (.slice Ao19 t432.length co19 : Value).ownBlock) (.slice Ao61 y440.length co61) y440) := ⟨(by rw [hw]; exact (by (with_reducible repeat (first | apply r1_ | apply r2_ | apply r3_)); exact Kd.R_mono (Kd.R_far (p := ⟨gb435, 1, none⟩) (Kd.R_types HO442.out BK435.out (by decide)) (fun _ hk => hk.2) (.slice Ao61 y440.length co61)) (fun _ hk => ⟨hk.1.1, ⟨hk.1.2.1, hk.1.2.2⟩⟩)))⟩; have n4_ : Aside0 (w65.heap[gb423]? = some (.cells #[.slice A0_0 l0_0.length c0_0, .slice A0_1 l0_1.length c0_1, .slice A0_2 l0_2.length c0_2] 26 (0, 0))) := ⟨(by rw [hw]; exact u11_38)⟩; have n5_ : Aside0 (w65.heap[gb424]? = some (.cells #[.slice A1 l1.length c1] 24 (0, 0))) := ⟨(by rw [hw]; exact u11_39)⟩; have n6_ : Aside0 (w65.heap[gb425]? = some (.cells #[.slice none 0 0, .slice none 0 0, .slice none 0 0] 26 (0, 0))) := ⟨(by rw [hw]; exact u11_40)⟩; have n7_ : Aside0 (w65.heap[gb435]? = some (.cells #[.slice Ao13 t426.length co13, .slice Ao61 y440.length co61, .slice Ao19 t432.length co19] 26 (0, 0))) := ⟨(by rw [hw]; exact (by (with_reducible repeat (first | apply b1_ | apply b2_ | apply b3_)); refine blk_put (cs := #[.slice Ao13 t426.length co13, .slice Ao18 t429.length co18, .slice Ao19 t432.length co19]) ?_ 1 _ rfl; (with_reducible repeat (first | apply b1_ | apply b2_ | apply b3_)); exact BK435.out))⟩; have n8_ : Aside0 (Below w.heap.size w w65) := ⟨(by rw [hw]; exact Q6)⟩; clear hw; clear HO_436000; clear HO_436001; clear HO_436002; clear HO442; clear BK423; clear BK424; clear BK425; clear BK435; clear HB; have HO_436000 := n0_; have HO_436001 := n1_; have HO_436002 := n2_; have HO442 := n3_; have BK423 := n4_; have BK424 := n5_; have BK425 := n6_; have BK435 := n7_; have HB := n8_; clear n0_ n1_ n2_ n3_ n4_ n5_ n6_ n7_ n8_; obtain ⟨hcz66_0, hcz66_1, hcz66_2, hfz66_0, hfz66_1, hfz66_2⟩ := bc3f w65 BK435.out) | ((with_reducible refine gate_callee (f := 69) rfl ?_); refine goesL_ (some 31) rfl rfl Try.func69 kr rfl #[.slice Ao19 t432.length co19, .func (.func 70) #[] #[.pointer (some ⟨gb424, 0, none⟩)]] rfl Q10 ?_; (with_reducible refine (slices_DeleteFunc_int_int.calls (fun k_ => some k_ = (.slice Ao19 t432.length co19 : Value).ownBlock) (.slice Ao19 t432.length co19) t432 A1 c1 l1 t443 w _ ?side1 ?side2 ?side3 ?side4 ?side5 A52.out).mono ?_); (case side1 => exact Q6); (case side2 => exact Kd.R_tight rfl HO_436002.out); (case side3 => exact (by exact Kd.C_kept_came (Kd.heap_int .i64) HR1.out Q6 (fun k_ hs_ => (fun e_ => Kd.R_base HO_436002.out k_ e_.symm) hs_))); (case side4 => exact HC1.out); (case side5 => exact (by exact u11_5)); rintro e w67 ⟨v444, rfl, ho0, hb, hkp⟩; refine ⟨_, rfl, ?_⟩; replace BK423 := am (blk_kept u11_3 hkp (fun hs_ => (fun e_ => (Kd.R_ne HO_436002.out BK423.out (by decide)) e_) hs_)); replace BK424 := am (blk_kept u11_5 hkp (fun hs_ => (fun e_ => (Kd.R_ne HO_436002.out BK424.out (by decide)) e_) hs_)); replace BK425 := am (blk_kept u11_9 hkp (fun hs_ => (fun e_ => (Kd.R_ne HO_436002.out BK425.out (by decide)) e_) hs_)); replace BK435 := am (blk_kept u11_21 hkp (fun hs_ => (fun e_ => (Kd.R_ne HO_436002.out BK435.out (by decide)) e_) hs_)); have HO445 := am (Kd.R_mono (ok' := fun k_ => some k_ ≠ (.slice Ao13 t426.length co13 : Value).ownBlock ∧ some k_ ≠ (.slice Ao18 t429.length co18 : Value).ownBlock ∧ some k_ ≠ (.slice Ao61 y440.length co61 : Value).ownBlock) ho0 (fun k_ hk_ => ⟨Or.elim hk_ (fun hs_ => fun e_ => (((HO_436000.out).1 k_ e_.symm).2.1) hs_) (fun hn_ => (Kd.fresh' (Kd.R_lt u11_17) k_ hn_)), Or.elim hk_ (fun hs_ => fun e_ => (((HO_436001.out).1 k_ e_.symm).2.1) hs_) (fun hn_ => (Kd.fresh' (Kd.R_lt u11_18) k_ hn_)), Or.elim hk_ (fun hs_ => fun e_ => (((HO442.out).1 k_ e_.symm).2.2) hs_) (fun hn_ => (Kd.fresh' (Kd.R_lt u11_27) k_ hn_))⟩)); replace HO_436000 := am (Kd.R_mono (ok' := fun k_ => some k_ ≠ (.slice Ao18 t429.length co18 : Value).ownBlock ∧ some k_ ≠ (.slice Ao61 y440.length co61 : Value).ownBlock ∧ some k_ ≠ (v444 : Value).ownBlock) (Kd.R_keptB (HO_436000.out) hkp (fun k_ hk_ hs_ => (hk_.2.1) hs_)) (fun k_ hk_ => ⟨hk_.1.1, hk_.1.2.2, fun e_ => Or.elim (ho0.1 k_ e_.symm) (fun hs_ => hk_.2.1 hs_) (fun hn_ => Nat.not_le.2 hk_.2.2 hn_)⟩)); replace HO_436001 := am (Kd.R_mono (ok' := fun k_ => some k_ ≠ (.slice Ao13 t426.length co13 : Value).ownBlock ∧ some k_ ≠ (.slice Ao61 y440.length co61 : Value).ownBlock ∧ some k_ ≠ (v444 : Value).ownBlock) (Kd.R_keptB (HO_436001.out) hkp (fun k_ hk_ hs_ => (hk_.2.1) hs_)) (fun k_ hk_ => ⟨hk_.1.1, hk_.1.2.2, fun e_ => Or.elim (ho0.1 k_ e_.symm) (fun hs_ => hk_.2.1 hs_) (fun hn_ => Nat.not_le.2 hk_.2.2 hn_)⟩)); replace HO442 := am (Kd.R_mono (ok' := fun k_ => some k_ ≠ (.slice Ao13 t426.length co13 : Value).ownBlock ∧ some k_ ≠ (.slice Ao18 t429.length co18 : Value).ownBlock ∧ some k_ ≠ (v444 : Value).ownBlock) (Kd.R_keptB (HO442.out) hkp (fun k_ hk_ hs_ => (hk_.2.2) hs_)) (fun k_ hk_ => ⟨hk_.1.1, hk_.1.2.1, fun e_ => Or.elim (ho0.1 k_ e_.symm) (fun hs_ => hk_.2.1 hs_) (fun hn_ => Nat.not_le.2 hk_.2.2 hn_)⟩)); replace HB := am (hb); clear HO_436002; (try clear hb); (try clear hkp); (try clear ho0); obtain ⟨Ao68, co68, eo68⟩ := Kd.R_slice HO445.out; subst eo68; obtain ⟨hcz69_0, hcz69_1, hcz69_2, hfz69_0, hfz69_1, hfz69_2⟩ := bc3f w67 BK435.out) | ((with_reducible refine gate_callee (f := 48) rfl ?_); refine goesL_ (some 34) rfl rfl Try.func48 kr rfl #[.agg #[.slice Ao13 t426.length co13, .slice Ao61 y440.length co61, .slice Ao68 t443.length co68]] rfl Q10 ?_; (with_reducible refine (impl_isConf.calls kj3 _ _ t426 _ _ y440 _ _ t443 t446 _ ?side1 ?side2 ?side3 ?side4 ?side5 ?side6 A53.out).mono ?_); (case side1 => exact (by refine (Kd.R_reads' (e := 3) (base := w.heap.size) (ok := fun k_ => (some k_ ≠ (.slice Ao18 t429.length co18 : Value).ownBlock ∧ (some k_ ≠ (.slice Ao61 y440.length co61 : Value).ownBlock ∧ some k_ ≠ (.slice Ao68 t443.length co68 : Value).ownBlock))) (n := t426.length) (c := co13) ?_).2.2; exact u11_35)); (case side2 => exact (Kd.R_reads' HO_436000.out).2.1); (case side3 => exact (by refine (Kd.R_reads' (e := 3) (base := w.heap.size) (ok := fun k_ => (some k_ ≠ (.slice Ao13 t426.length co13 : Value).ownBlock ∧ (some k_ ≠ (.slice Ao18 t429.length co18 : Value).ownBlock ∧ some k_ ≠ (.slice Ao68 t443.length co68 : Value).ownBlock))) (n := y440.length) (c := co61) ?_).2.2; exact u11_36)); (case side4 => exact (Kd.R_reads' HO442.out).2.1); (case side5 => exact (by refine (Kd.R_reads' (e := 3) (base := w.heap.size) (ok := fun k_ => (some k_ ≠ (.slice Ao13 t426.length co13 : Value).ownBlock ∧ (some k_ ≠ (.slice Ao18 t429.length co18 : Value).ownBlock ∧ some k_ ≠ (.slice Ao61 y440.length co61 : Value).ownBlock))) (n := t443.length) (c := co68) ?_).2.2; exact u11_37)); (case side6 => exact (Kd.R_reads' HO445.out).2.1); rintro e w70 ⟨rfl, hb⟩; refine ⟨_, rfl, ?_⟩; replace HO_436000 := am (Kd.R_below u11_35 hb); replace HO_436001 := am (Kd.R_below (by (with_reducible repeat (first | apply r1_ | apply r2_ | apply r3_)); exact (Kd.R_mono (Kd.R_far (p := ⟨gb435, 2, none⟩) (Kd.R_types HO_436001.out BK435.out (by decide)) (fun _ hk => hk.2) (.slice Ao68 t443.length co68)) (fun _ h_ => h_.1))) hb); replace HO442 := am (Kd.R_below u11_36 hb); replace HO445 := am (Kd.R_below u11_37 hb); replace BK423 := am (blk_below (g := gb423) (o := .cells #[.slice A0_0 l0_0.length c0_0, .slice A0_1 l0_1.length c0_1, .slice A0_2 l0_2.length c0_2] 26 (0, 0)) u11_38 hb); replace BK424 := am (blk_below (g := gb424) (o := .cells #[.slice A1 l1.length c1] 24 (0, 0)) u11_39 hb); replace BK425 := am (blk_below (g := gb425) (o := .cells #[.slice none 0 0, .slice none 0 0, .slice none 0 0] 26 (0, 0)) u11_40 hb); replace BK435 := am (blk_below (g := gb435) (o := .cells #[.slice Ao13 t426.length co13, .slice Ao61 y440.length co61, .slice Ao68 t443.length co68] 26 (0, 0)) (by (with_reducible repeat (first | apply b1_ | apply b2_ | apply b3_)); refine blk_put (cs := #[.slice Ao13 t426.length co13, .slice Ao61 y440.length co61, .slice Ao19 t432.length co19]) ?_ 2 _ rfl; (with_reducible repeat (first | apply b1_ | apply b2_ | apply b3_)); exact BK435.out) hb); replace HB := am (below_step Q6 hb); (try clear hb); (try clear hb2); (try clear hk); (try clear hi)))
   have H := H9.out
   clear H9
   by_cases c71 : t446 = true
   · subst c71
     rw [if_pos rfl] at H
     simp only [Option.some.injEq, Prod.mk.injEq] at H
     obtain ⟨rfl, rfl, rfl, rfl⟩ := H
     have hnb72 := NB435_423.out
     have hnc72 := NB423_435.out
     have hnb73 := NB435_424.out
     have hnc73 := NB424_435.out
     have hnb74 := NB435_425.out
     have hnc74 := NB425_435.out
     obtain ⟨hcz75_0, hcz75_1, hcz75_2, hfz75_0, hfz75_1, hfz75_2⟩ := bc3f w70 BK435.out
     have hnb76 := NB425_423.out
     have hnc76 := NB423_425.out
     have hnb77 := NB425_424.out
     have hnc77 := NB424_425.out
     obtain ⟨hcz78_0, hcz78_1, hcz78_2, hfz78_0, hfz78_1, hfz78_2⟩ := bc3f w70 BK425.out
     go_wp2
     refine bodyPost_ret (results_ct rfl _ _ gb425 26 #[.slice Ao13 t426.length co13, .slice Ao61 y440.length co61, .slice Ao68 t443.length co68] (0, 0) _ rfl (by (with_reducible repeat (first | apply b1_ | apply b2_ | apply b3_)); refine blk_put (cs := #[.slice Ao13 t426.length co13, .slice Ao61 y440.length co61, .slice none 0 0]) ?_ 2 _ rfl; (with_reducible repeat (first | apply b1_ | apply b2_ | apply b3_)); refine blk_put (cs := #[.slice Ao13 t426.length co13, .slice none 0 0, .slice none 0 0]) ?_ 1 _ rfl; (with_reducible repeat (first | apply b1_ | apply b2_ | apply b3_)); refine blk_put (cs := #[.slice none 0 0, .slice none 0 0, .slice none 0 0]) ?_ 0 _ rfl; (with_reducible repeat (first | apply b1_ | apply b2_ | apply b3_)); exact BK425.out) Try.underlying26 rfl kr) rfl ?_
     exact ⟨_, _, _, er, (by (with_reducible repeat (first | apply r1_ | apply r2_ | apply r3_)); exact Kd.R_mono (Kd.R_far (p := ⟨gb425, 2, none⟩) (Kd.R_far (p := ⟨gb425, 1, none⟩) (Kd.R_far (p := ⟨gb425, 0, none⟩) (Kd.R_types HO_436000.out BK425.out (by decide)) (fun _ hk => hk.2) (.slice Ao13 t426.length co13)) (fun _ hk => hk.2) (.slice Ao61 y440.length co61)) (fun _ hk => hk.2) (.slice Ao68 t443.length co68)) (fun _ hk => ⟨hk.1.2.1, hk.1.2.2⟩)), (by (with_reducible repeat (first | apply r1_ | apply r2_ | apply r3_)); exact Kd.R_mono (Kd.R_far (p := ⟨gb425, 2, none⟩) (Kd.R_far (p := ⟨gb425, 1, none⟩) (Kd.R_far (p := ⟨gb425, 0, none⟩) (Kd.R_types HO442.out BK425.out (by decide)) (fun _ hk => hk.2) (.slice Ao13 t426.length co13)) (fun _ hk => hk.2) (.slice Ao61 y440.length co61)) (fun _ hk => hk.2) (.slice Ao68 t443.length co68)) (fun _ hk => ⟨hk.1.1, hk.1.2.2⟩)), (by (with_reducible repeat (first | apply r1_ | apply r2_ | apply r3_)); exact Kd.R_mono (Kd.R_far (p := ⟨gb425, 2, none⟩) (Kd.R_far (p := ⟨gb425, 1, none⟩) (Kd.R_far (p := ⟨gb425, 0, none⟩) (Kd.R_types HO445.out BK425.out (by decide)) (fun _ hk => hk.2) (.slice Ao13 t426.length co13)) (fun _ hk => hk.2) (.slice Ao61 y440.length co61)) (fun _ hk => hk.2) (.slice Ao68 t443.length co68)) (fun _ hk => ⟨hk.1.1, hk.1.2.2⟩)), Q6⟩
   replace c71 := Bool.eq_false_iff.mpr c71
   subst c71
   rw [nf] at H
   replace H := Option.bind_eq_some_iff.mp H
   obtain ⟨⟨t447, t450, t453⟩, A790, H⟩ := H
   replace H : (some (t447, t450, t453, false)) = some (r1, r2, r3, r4) := H
   have A79 := am A790
   clear A790
   simp only [Option.some.injEq, Prod.mk.injEq] at H
   obtain ⟨rfl, rfl, rfl, rfl⟩ := H
   have hnb80 := NB423_424.out
   have hnc80 := NB424_423.out
   have hnb81 := NB423_425.out
   have hnc81 := NB425_423.out
   have hnb82 := NB423_435.out
   have hnc82 := NB435_423.out
   obtain ⟨hcz83_0, hcz83_1, hcz83_2, hfz83_0, hfz83_1, hfz83_2⟩ := bc3f w70 BK423.out
   go_wp2_with (first | ((with_reducible refine gate_callee (f := 63) rfl ?_); refine goesL_ (some 37) rfl rfl Try.func63 kr rfl #[.agg #[.slice A0_0 l0_0.length c0_0, .slice A0_1 l0_1.length c0_1, .slice A0_2 l0_2.length c0_2]] rfl Q10 ?_; (with_reducible refine (impl_copyConf.calls _ _ l0_0 _ _ l0_1 _ _ l0_2 t447 t450 t453 _ ?side1 ?side2 ?side3 ?side4 ?side5 ?side6 A79.out).mono ?_); (case side1 => exact Q0); (case side2 => exact HC0_0.out); (case side3 => exact Q7); (case side4 => exact HC0_1.out); (case side5 => exact Q2); (case side6 => exact HC0_2.out); rintro e w84 ⟨v448, v451, v454, rfl, ho0, ho1, ho2, hb⟩; refine ⟨_, rfl, ?_⟩; have HO449 := am (Kd.R_lower (Kd.R_new' (Kd.R_new' (Kd.R_new' (Kd.R_new' ho0 (Kd.R_lt u11_17)) (Kd.R_lt u11_18)) (Kd.R_lt u11_27)) (Kd.R_lt u11_34)) (below_size Q6)); have HO452 := am (Kd.R_lower (Kd.R_new' (Kd.R_new' (Kd.R_new' (Kd.R_new' ho1 (Kd.R_lt u11_17)) (Kd.R_lt u11_18)) (Kd.R_lt u11_27)) (Kd.R_lt u11_34)) (below_size Q6)); have HO455 := am (Kd.R_lower (Kd.R_new' (Kd.R_new' (Kd.R_new' (Kd.R_new' ho2 (Kd.R_lt u11_17)) (Kd.R_lt u11_18)) (Kd.R_lt u11_27)) (Kd.R_lt u11_34)) (below_size Q6)); replace HO_436000 := am (Kd.R_mono (Kd.R_told (Kd.R_told (Kd.R_told (Kd.R_old u11_17 hb) (Kd.R_base ho0)) (Kd.R_base ho1)) (Kd.R_base ho2)) (fun _ h_ => h_.1)); replace HO_436001 := am (Kd.R_mono (Kd.R_told (Kd.R_told (Kd.R_told (Kd.R_old u11_18 hb) (Kd.R_base ho0)) (Kd.R_base ho1)) (Kd.R_base ho2)) (fun _ h_ => h_.1)); replace HO442 := am (Kd.R_mono (Kd.R_told (Kd.R_told (Kd.R_told (Kd.R_old u11_27 hb) (Kd.R_base ho0)) (Kd.R_base ho1)) (Kd.R_base ho2)) (fun _ h_ => h_.1)); replace HO445 := am (Kd.R_mono (Kd.R_told (Kd.R_told (Kd.R_told (Kd.R_old u11_34 hb) (Kd.R_base ho0)) (Kd.R_base ho1)) (Kd.R_base ho2)) (fun _ h_ => h_.1)); replace BK423 := am (bb_ BK423.out u11_3 hb); replace BK424 := am (bb_ BK424.out u11_5 hb); replace BK425 := am (bb_ BK425.out u11_9 hb); replace BK435 := am (bb_ BK435.out u11_21 hb); replace HB := am (below_step Q6 hb); (try clear hb); (try clear hb2); (try clear hk); (try clear hi); (try clear ho0); (try clear ho1); (try clear ho2); obtain ⟨Ao85, co85, eo85⟩ := Kd.R_slice HO449.out; subst eo85; have hnb86 := NB425_424.out; have hnc86 := NB424_425.out; have hnb87 := NB425_435.out; have hnc87 := NB435_425.out; obtain ⟨hcz88_0, hcz88_1, hcz88_2, hfz88_0, hfz88_1, hfz88_2⟩ := bc3f w84 BK425.out; obtain ⟨Ao89, co89, eo89⟩ := Kd.R_slice HO452.out; subst eo89; obtain ⟨Ao90, co90, eo90⟩ := Kd.R_slice HO455.out; subst eo90))
   refine bodyPost_ret (results_ct rfl _ _ gb425 26 #[.slice Ao85 t447.length co85, .slice Ao89 t450.length co89, .slice Ao90 t453.length co90] (0, 0) _ rfl (by (with_reducible repeat (first | apply b1_ | apply b2_ | apply b3_)); refine blk_put (cs := #[.slice Ao85 t447.length co85, .slice Ao89 t450.length co89, .slice none 0 0]) ?_ 2 _ rfl; (with_reducible repeat (first | apply b1_ | apply b2_ | apply b3_)); refine blk_put (cs := #[.slice Ao85 t447.length co85, .slice none 0 0, .slice none 0 0]) ?_ 1 _ rfl; (with_reducible repeat (first | apply b1_ | apply b2_ | apply b3_)); refine blk_put (cs := #[.slice none 0 0, .slice none 0 0, .slice none 0 0]) ?_ 0 _ rfl; (with_reducible repeat (first | apply b1_ | apply b2_ | apply b3_)); exact BK425.out) Try.underlying26 rfl kr) rfl ?_
   exact ⟨_, _, _, er, (by (with_reducible repeat (first | apply r1_ | apply r2_ | apply r3_)); exact Kd.R_mono (Kd.R_far (p := ⟨gb425, 2, none⟩) (Kd.R_far (p := ⟨gb425, 1, none⟩) (Kd.R_far (p := ⟨gb425, 0, none⟩) (Kd.R_types HO449.out BK425.out (by decide)) (fun _ hk => hk.2) (.slice Ao85 t447.length co85)) (fun _ hk => hk.2) (.slice Ao89 t450.length co89)) (fun _ hk => hk.2) (.slice Ao90 t453.length co90)) (fun _ hk => ⟨hk.1.1.1.1.1.1, hk.1.1.1.1.1.2⟩)), (by (with_reducible repeat (first | apply r1_ | apply r2_ | apply r3_)); exact Kd.R_mono (Kd.R_far (p := ⟨gb425, 2, none⟩) (Kd.R_far (p := ⟨gb425, 1, none⟩) (Kd.R_far (p := ⟨gb425, 0, none⟩) (Kd.R_types HO452.out BK425.out (by decide)) (fun _ hk => hk.2) (.slice Ao85 t447.length co85)) (fun _ hk => hk.2) (.slice Ao89 t450.length co89)) (fun _ hk => hk.2) (.slice Ao90 t453.length co90)) (fun _ hk => ⟨hk.1.1.1.1.1.1, hk.1.1.1.1.1.2⟩)), (by (with_reducible repeat (first | apply r1_ | apply r2_ | apply r3_)); exact Kd.R_mono (Kd.R_far (p := ⟨gb425, 2, none⟩) (Kd.R_far (p := ⟨gb425, 1, none⟩) (Kd.R_far (p := ⟨gb425, 0, none⟩) (Kd.R_types HO455.out BK425.out (by decide)) (fun _ hk => hk.2) (.slice Ao85 t447.length co85)) (fun _ hk => hk.2) (.slice Ao89 t450.length co89)) (fun _ hk => hk.2) (.slice Ao90 t453.length co90)) (fun _ hk => ⟨hk.1.1.1.1.1.1, hk.1.1.1.1.1.2⟩)), Q6⟩
def impl_finish.f (k : Nat) (l0_0 : List Int) (l0_1 : List Int) (l0_2 : List Int) : Option (List Int × List Int × List Int × Bool) := (impl_copyConf.f l0_0 l0_1 l0_2).bind fun bt458 => ((impl_isConf.f k l0_0 l0_1 l0_2).bind fun t468 => (if t468 = true then (if (l0_1.length : Int) = 0 then (some (bt458.1, bt458.2.1, bt458.2.2, false)) else (some (bt458.2.1, ([] : List Int), bt458.2.2, true))) else (some (bt458.1, bt458.2.1, bt458.2.2, false))))
theorem impl_finish.mono : ∀ a0 a1 a2 k, LeO (impl_finish.f k a0 a1 a2) (impl_finish.f (k + 1) a0 a1 a2) := by
 intro a0 a1 a2 k
 unfold impl_finish.f
 repeat' first
     | (with_reducible exact impl_isConf.mono _ _ _ _)
     | (with_reducible exact LeO.refl _)
     | (with_reducible exact LeO.none _)
     | (with_reducible refine LeO.ite ?_ ?_)
     | (with_reducible refine LeO.bind ?_ (fun _ => ?_))
     | exact impl_isConf.mono _ _ _ _
     | exact LeO.none _
     | refine LeO.ite ?_ ?_
     | refine LeO.bind ?_ (fun _ => ?_)
set_option maxHeartbeats 8000000 in
set_option maxRecDepth 100000 in
theorem impl_finish.calls (k : Nat) (A0_0 : Option Addr) (c0_0 : Nat) (l0_0 : List Int) (A0_1 : Option Addr) (c0_1 : Nat) (l0_1 : List Int) (A0_2 : Option Addr) (c0_2 : Nat) (l0_2 : List Int) (r1 : List Int) (r2 : List Int) (r3 : List Int) (r4 : Bool) (w : World) (hr0_0 : Kd.C (Kd.int .i64) w A0_0 l0_0.length l0_0) (hc0_0 : l0_0.length ≤ c0_0) (hr0_1 : Kd.C (Kd.int .i64) w A0_1 l0_1.length l0_1) (hc0_1 : l0_1.length ≤ c0_1) (hr0_2 : Kd.C (Kd.int .i64) w A0_2 l0_2.length l0_2) (hc0_2 : l0_2.length ≤ c0_2) (h : impl_finish.f k l0_0 l0_1 l0_2 = some (r1, r2, r3, r4)) :
   Calls Try.prog 47 #[.agg #[.slice A0_0 l0_0.length c0_0, .slice A0_1 l0_1.length c0_1, .slice A0_2 l0_2.length c0_2]] w fun e w' => ∃ v0_ v1_ v2_ : Value, e = .returned (.tuple #[.agg #[v0_, v1_, v2_], .bool r4]) ∧ Kd.R (Kd.int .i64) 3 w' w.heap.size (fun k_ => some k_ ≠ (v1_ : Value).ownBlock ∧ some k_ ≠ (v2_ : Value).ownBlock) v0_ r1 ∧ Kd.R (Kd.int .i64) 3 w' w.heap.size (fun k_ => some k_ ≠ (v0_ : Value).ownBlock ∧ some k_ ≠ (v2_ : Value).ownBlock) v1_ r2 ∧ Kd.R (Kd.int .i64) 3 w' w.heap.size (fun k_ => some k_ ≠ (v0_ : Value).ownBlock ∧ some k_ ≠ (v1_ : Value).ownBlock) v2_ r3 ∧ Below w.heap.size w w' := by
 have hu26 := Try.underlying26
 have HR0_0 := am hr0_0
 have HC0_0 := am hc0_0
 clear hr0_0 hc0_0
 have HR0_1 := am hr0_1
 have HC0_1 := am hc0_1
 clear hr0_1 hc0_1
 have HR0_2 := am hr0_2
 have HC0_2 := am hc0_2
 clear hr0_2 hc0_2
 have HB := am (Below.refl w.heap.size w)
 have H : ((impl_copyConf.f l0_0 l0_1 l0_2).bind fun bt458 => ((impl_isConf.f k l0_0 l0_1 l0_2).bind fun t468 => (if t468 = true then (if (l0_1.length : Int) = 0 then (some (bt458.1, bt458.2.1, bt458.2.2, false)) else (some (bt458.2.1, ([] : List Int), bt458.2.2, true))) else (some (bt458.1, bt458.2.1, bt458.2.2, false))))) = some (r1, r2, r3, r4) := h
 clear h
 replace H := Option.bind_eq_some_iff.mp H
 obtain ⟨⟨t458, t461, t464⟩, A20, H⟩ := H
 (try dsimp only at H)
 have A2 := am A20
 clear A20
 replace H := Option.bind_eq_some_iff.mp H
 obtain ⟨t468, A30, H⟩ := H
 have A3 := am A30
 clear A30
 by_cases c4 : t468 = true
 rotate_left
 · replace c4 := Bool.eq_false_iff.mpr c4
   subst c4
   rw [nf] at H
   simp only [Option.some.injEq, Prod.mk.injEq] at H
   obtain ⟨rfl, rfl, rfl, rfl⟩ := H
   go_enter Try.func47, Try.ntmps47
   go_wp2_with (first | ((with_reducible refine gate_dst (N := 1) rfl ?_); (try (refine gate_guard (by rfl) ?_; dsimp only)); refine box_event ?hg (N := 1) ?hd (cs := #[.slice A0_0 l0_0.length c0_0, .slice A0_1 l0_1.length c0_1, .slice A0_2 l0_2.length c0_2]) (t := 26) ?hr ?_; (case hd => rfl); (case hg => rfl); (case hr => first | (go_simp; done) | (go_simp; rfl)); intro gb456 hg w31 hbox hb; have BK456 := am (hbox); have GW456 := am ((by rw [hg]; exact (below_size Q6) : w.heap.size ≤ gb456)); have GE456 := am ((by rw [hg]; exact (below_size Q6) : w.heap.size ≤ gb456)); replace HB := am (below_step Q6 hb); clear hb hbox hg) | ((with_reducible refine gate_dst (N := 2) rfl ?_); (try (refine gate_guard (by rfl) ?_; dsimp only)); refine box_event ?hg (N := 2) ?hd (cs := #[.slice none 0 0, .slice none 0 0, .slice none 0 0]) (t := 26) ?hr ?_; (case hd => rfl); (case hg => rfl); (case hr => first | (go_simp; done) | (go_simp; rfl)); intro gb457 hg w32 hbox hb; have BK457 := am (hbox); have GW457 := am ((by rw [hg]; exact (below_size Q6) : w.heap.size ≤ gb457)); have GE457 := am ((by rw [hg]; exact (below_size Q6) : w.heap.size ≤ gb457)); replace HB := am (below_step Q6 hb); have NB456_457 := am ((by rw [hg]; exact Nat.ne_of_lt (blk_lt (g := gb456) (o := .cells #[.slice A0_0 l0_0.length c0_0, .slice A0_1 l0_1.length c0_1, .slice A0_2 l0_2.length c0_2] 26 (0, 0)) u11_6) : gb456 ≠ gb457)); have NB457_456 := am ((by rw [hg]; exact Nat.ne_of_gt (blk_lt (g := gb456) (o := .cells #[.slice A0_0 l0_0.length c0_0, .slice A0_1 l0_1.length c0_1, .slice A0_2 l0_2.length c0_2] 26 (0, 0)) u11_6) : gb457 ≠ gb456)); replace BK456 := am (bb_ BK456.out u11_6 hb); clear hb hbox hg; have hnb33 := NB456_457.out; have hnc33 := NB457_456.out; obtain ⟨hcz34_0, hcz34_1, hcz34_2, hfz34_0, hfz34_1, hfz34_2⟩ := bc3f w32 BK456.out) | ((with_reducible refine gate_callee (f := 63) rfl ?_); refine goesL_ (some 6) rfl rfl Try.func63 kr rfl #[.agg #[.slice A0_0 l0_0.length c0_0, .slice A0_1 l0_1.length c0_1, .slice A0_2 l0_2.length c0_2]] rfl Q10 ?_; (with_reducible refine (impl_copyConf.calls _ _ l0_0 _ _ l0_1 _ _ l0_2 t458 t461 t464 _ ?side1 ?side2 ?side3 ?side4 ?side5 ?side6 A2.out).mono ?_); (case side1 => exact Q0); (case side2 => exact HC0_0.out); (case side3 => exact Q7); (case side4 => exact HC0_1.out); (case side5 => exact Q2); (case side6 => exact HC0_2.out); rintro e w35 ⟨v459, v462, v465, rfl, ho0, ho1, ho2, hb⟩; refine ⟨_, rfl, ?_⟩; have HO460 := am (Kd.R_lower ho0 (below_size Q6)); have HO463 := am (Kd.R_lower ho1 (below_size Q6)); have HO466 := am (Kd.R_lower ho2 (below_size Q6)); replace BK456 := am (bb_ BK456.out u11_6 hb); replace BK457 := am (bb_ BK457.out u11_20 hb); replace HB := am (below_step Q6 hb); (try clear hb); (try clear hb2); (try clear hk); (try clear hi); (try clear ho0); (try clear ho1); (try clear ho2)) | ((with_reducible refine gate_dst (N := 4) rfl ?_); (try (refine gate_guard (by rfl) ?_; dsimp only)); refine box_event ?hg (N := 4) ?hd (cs := #[.slice none 0 0, .slice none 0 0, .slice none 0 0]) (t := 26) ?hr ?_; (case hd => rfl); (case hg => rfl); (case hr => first | (go_simp; done) | (go_simp; rfl)); intro gb467 hg w36 hbox hb; replace HO460 := am (Kd.R_below u11_42 hb); replace HO463 := am (Kd.R_below u11_43 hb); replace HO466 := am (Kd.R_below u11_44 hb); have BK467 := am (hbox); have GW467 := am ((by rw [hg]; exact (below_size Q6) : w.heap.size ≤ gb467)); have GE467 := am ((by rw [hg]; exact (below_size Q6) : w.heap.size ≤ gb467)); replace HB := am (below_step Q6 hb); have NB456_467 := am ((by rw [hg]; exact Nat.ne_of_lt (blk_lt (g := gb456) (o := .cells #[.slice A0_0 l0_0.length c0_0, .slice A0_1 l0_1.length c0_1, .slice A0_2 l0_2.length c0_2] 26 (0, 0)) u11_6) : gb456 ≠ gb467)); have NB467_456 := am ((by rw [hg]; exact Nat.ne_of_gt (blk_lt (g := gb456) (o := .cells #[.slice A0_0 l0_0.length c0_0, .slice A0_1 l0_1.length c0_1, .slice A0_2 l0_2.length c0_2] 26 (0, 0)) u11_6) : gb467 ≠ gb456)); replace BK456 := am (bb_ BK456.out u11_6 hb); have NB457_467 := am ((by rw [hg]; exact Nat.ne_of_lt (blk_lt (g := gb457) (o := .cells #[.slice none 0 0, .slice none 0 0, .slice none 0 0] 26 (0, 0)) u11_20) : gb457 ≠ gb467)); have NB467_457 := am ((by rw [hg]; exact Nat.ne_of_gt (blk_lt (g := gb457) (o := .cells #[.slice none 0 0, .slice none 0 0, .slice none 0 0] 26 (0, 0)) u11_20) : gb467 ≠ gb457)); replace BK457 := am (bb_ BK457.out u11_20 hb); clear hb hbox hg; obtain ⟨Ao37, co37, eo37⟩ := Kd.R_slice HO460.out; subst eo37; have hnb38 := NB467_456.out; have hnc38 := NB456_467.out; have hnb39 := NB467_457.out; have hnc39 := NB457_467.out; obtain ⟨hcz40_0, hcz40_1, hcz40_2, hfz40_0, hfz40_1, hfz40_2⟩ := bc3f w36 BK467.out; obtain ⟨Ao41, co41, eo41⟩ := Kd.R_slice HO463.out; subst eo41; obtain ⟨Ao42, co42, eo42⟩ := Kd.R_slice HO466.out; subst eo42; obtain ⟨hcz43_0, hcz43_1, hcz43_2, hfz43_0, hfz43_1, hfz43_2⟩ := bc3f w36 BK456.out) | ((with_reducible refine gate_callee (f := 48) rfl ?_); refine goesL_ (some 8) rfl rfl Try.func48 kr rfl #[.agg #[.slice A0_0 l0_0.length c0_0, .slice A0_1 l0_1.length c0_1, .slice A0_2 l0_2.length c0_2]] rfl Q10 ?_; (with_reducible refine (impl_isConf.calls k _ _ l0_0 _ _ l0_1 _ _ l0_2 false _ ?side1 ?side2 ?side3 ?side4 ?side5 ?side6 A3.out).mono ?_); (case side1 => exact (by exact Kd.C_below HR0_0.out Q6)); (case side2 => exact HC0_0.out); (case side3 => exact (by exact Kd.C_below HR0_1.out Q6)); (case side4 => exact HC0_1.out); (case side5 => exact (by exact Kd.C_below HR0_2.out Q6)); (case side6 => exact HC0_2.out); rintro e w44 ⟨rfl, hb⟩; refine ⟨_, rfl, ?_⟩; replace HO460 := am (Kd.R_below (by (with_reducible repeat (first | apply r1_ | apply r2_ | apply r3_)); exact (Kd.R_mono (Kd.R_far (p := ⟨gb467, 2, none⟩) (Kd.R_far (p := ⟨gb467, 1, none⟩) (Kd.R_far (p := ⟨gb467, 0, none⟩) (Kd.R_types HO460.out BK467.out (by decide)) (fun _ hk => hk.2) (.slice Ao37 t458.length co37)) (fun _ hk => hk.2) (.slice Ao41 t461.length co41)) (fun _ hk => hk.2) (.slice Ao42 t464.length co42)) (fun _ h_ => h_.1))) hb); replace HO463 := am (Kd.R_below (by (with_reducible repeat (first | apply r1_ | apply r2_ | apply r3_)); exact (Kd.R_mono (Kd.R_far (p := ⟨gb467, 2, none⟩) (Kd.R_far (p := ⟨gb467, 1, none⟩) (Kd.R_far (p := ⟨gb467, 0, none⟩) (Kd.R_types HO463.out BK467.out (by decide)) (fun _ hk => hk.2) (.slice Ao37 t458.length co37)) (fun _ hk => hk.2) (.slice Ao41 t461.length co41)) (fun _ hk => hk.2) (.slice Ao42 t464.length co42)) (fun _ h_ => h_.1))) hb); replace HO466 := am (Kd.R_below (by (with_reducible repeat (first | apply r1_ | apply r2_ | apply r3_)); exact (Kd.R_mono (Kd.R_far (p := ⟨gb467, 2, none⟩) (Kd.R_far (p := ⟨gb467, 1, none⟩) (Kd.R_far (p := ⟨gb467, 0, none⟩) (Kd.R_types HO466.out BK467.out (by decide)) (fun _ hk => hk.2) (.slice Ao37 t458.length co37)) (fun _ hk => hk.2) (.slice Ao41 t461.length co41)) (fun _ hk => hk.2) (.slice Ao42 t464.length co42)) (fun _ h_ => h_.1))) hb); replace BK456 := am (blk_below (g := gb456) (o := .cells #[.slice A0_0 l0_0.length c0_0, .slice A0_1 l0_1.length c0_1, .slice A0_2 l0_2.length c0_2] 26 (0, 0)) u11_22 hb); replace BK457 := am (blk_below (g := gb457) (o := .cells #[.slice none 0 0, .slice none 0 0, .slice none 0 0] 26 (0, 0)) u11_23 hb); replace BK467 := am (blk_below (g := gb467) (o := .cells #[.slice Ao37 t458.length co37, .slice Ao41 t461.length co41, .slice Ao42 t464.length co42] 26 (0, 0)) (by (with_reducible repeat (first | apply b1_ | apply b2_ | apply b3_)); refine blk_put (cs := #[.slice Ao37 t458.length co37, .slice Ao41 t461.length co41, .slice none 0 0]) ?_ 2 _ rfl; (with_reducible repeat (first | apply b1_ | apply b2_ | apply b3_)); refine blk_put (cs := #[.slice Ao37 t458.length co37, .slice none 0 0, .slice none 0 0]) ?_ 1 _ rfl; (with_reducible repeat (first | apply b1_ | apply b2_ | apply b3_)); refine blk_put (cs := #[.slice none 0 0, .slice none 0 0, .slice none 0 0]) ?_ 0 _ rfl; (with_reducible repeat (first | apply b1_ | apply b2_ | apply b3_)); exact BK467.out) hb); replace HB := am (below_step Q6 hb); (try clear hb); (try clear hb2); (try clear hk); (try clear hi); obtain ⟨hcz45_0, hcz45_1, hcz45_2, hfz45_0, hfz45_1, hfz45_2⟩ := bc3f w44 BK467.out; obtain ⟨hcz46_0, hcz46_1, hcz46_2, hfz46_0, hfz46_1, hfz46_2⟩ := bc3f w44 BK457.out))
   refine bodyPost_ret (results_ct rfl _ _ gb457 26 #[.slice Ao37 t458.length co37, .slice Ao41 t461.length co41, .slice Ao42 t464.length co42] (0, 0) _ rfl (by (with_reducible repeat (first | apply b1_ | apply b2_ | apply b3_)); refine blk_put (cs := #[.slice Ao37 t458.length co37, .slice Ao41 t461.length co41, .slice none 0 0]) ?_ 2 _ rfl; (with_reducible repeat (first | apply b1_ | apply b2_ | apply b3_)); refine blk_put (cs := #[.slice Ao37 t458.length co37, .slice none 0 0, .slice none 0 0]) ?_ 1 _ rfl; (with_reducible repeat (first | apply b1_ | apply b2_ | apply b3_)); refine blk_put (cs := #[.slice none 0 0, .slice none 0 0, .slice none 0 0]) ?_ 0 _ rfl; (with_reducible repeat (first | apply b1_ | apply b2_ | apply b3_)); exact BK457.out) Try.underlying26 rfl kr) rfl ?_
   exact ⟨_, _, _, er, (by (with_reducible repeat (first | apply r1_ | apply r2_ | apply r3_)); exact Kd.R_mono (Kd.R_far (p := ⟨gb457, 2, none⟩) (Kd.R_far (p := ⟨gb457, 1, none⟩) (Kd.R_far (p := ⟨gb457, 0, none⟩) (Kd.R_types HO460.out BK457.out (by decide)) (fun _ hk => hk.2) (.slice Ao37 t458.length co37)) (fun _ hk => hk.2) (.slice Ao41 t461.length co41)) (fun _ hk => hk.2) (.slice Ao42 t464.length co42)) (fun _ hk => ⟨hk.1.1, hk.1.2⟩)), (by (with_reducible repeat (first | apply r1_ | apply r2_ | apply r3_)); exact Kd.R_mono (Kd.R_far (p := ⟨gb457, 2, none⟩) (Kd.R_far (p := ⟨gb457, 1, none⟩) (Kd.R_far (p := ⟨gb457, 0, none⟩) (Kd.R_types HO463.out BK457.out (by decide)) (fun _ hk => hk.2) (.slice Ao37 t458.length co37)) (fun _ hk => hk.2) (.slice Ao41 t461.length co41)) (fun _ hk => hk.2) (.slice Ao42 t464.length co42)) (fun _ hk => ⟨hk.1.1, hk.1.2⟩)), (by (with_reducible repeat (first | apply r1_ | apply r2_ | apply r3_)); exact Kd.R_mono (Kd.R_far (p := ⟨gb457, 2, none⟩) (Kd.R_far (p := ⟨gb457, 1, none⟩) (Kd.R_far (p := ⟨gb457, 0, none⟩) (Kd.R_types HO466.out BK457.out (by decide)) (fun _ hk => hk.2) (.slice Ao37 t458.length co37)) (fun _ hk => hk.2) (.slice Ao41 t461.length co41)) (fun _ hk => hk.2) (.slice Ao42 t464.length co42)) (fun _ hk => ⟨hk.1.1, hk.1.2⟩)), Q6⟩
 subst c4
 rw [if_pos rfl] at H
 have H9 := am H
 clear H
 go_enter Try.func47, Try.ntmps47
 go_upto_if 15 with (first | ((with_reducible refine gate_dst (N := 1) rfl ?_); (try (refine gate_guard (by rfl) ?_; dsimp only)); refine box_event ?hg (N := 1) ?hd (cs := #[.slice A0_0 l0_0.length c0_0, .slice A0_1 l0_1.length c0_1, .slice A0_2 l0_2.length c0_2]) (t := 26) ?hr ?_; (case hd => rfl); (case hg => rfl); (case hr => first | (go_simp; done) | (go_simp; rfl)); intro gb456 hg w5 hbox hb; have BK456 := am (hbox); have GW456 := am ((by rw [hg]; exact (below_size Q6) : w.heap.size ≤ gb456)); have GE456 := am ((by rw [hg]; exact (below_size Q6) : w.heap.size ≤ gb456)); replace HB := am (below_step Q6 hb); clear hb hbox hg) | ((with_reducible refine gate_dst (N := 2) rfl ?_); (try (refine gate_guard (by rfl) ?_; dsimp only)); refine box_event ?hg (N := 2) ?hd (cs := #[.slice none 0 0, .slice none 0 0, .slice none 0 0]) (t := 26) ?hr ?_; (case hd => rfl); (case hg => rfl); (case hr => first | (go_simp; done) | (go_simp; rfl)); intro gb457 hg w6 hbox hb; have BK457 := am (hbox); have GW457 := am ((by rw [hg]; exact (below_size Q6) : w.heap.size ≤ gb457)); have GE457 := am ((by rw [hg]; exact (below_size Q6) : w.heap.size ≤ gb457)); replace HB := am (below_step Q6 hb); have NB456_457 := am ((by rw [hg]; exact Nat.ne_of_lt (blk_lt (g := gb456) (o := .cells #[.slice A0_0 l0_0.length c0_0, .slice A0_1 l0_1.length c0_1, .slice A0_2 l0_2.length c0_2] 26 (0, 0)) u11_6) : gb456 ≠ gb457)); have NB457_456 := am ((by rw [hg]; exact Nat.ne_of_gt (blk_lt (g := gb456) (o := .cells #[.slice A0_0 l0_0.length c0_0, .slice A0_1 l0_1.length c0_1, .slice A0_2 l0_2.length c0_2] 26 (0, 0)) u11_6) : gb457 ≠ gb456)); replace BK456 := am (bb_ BK456.out u11_6 hb); clear hb hbox hg; have hnb7 := NB456_457.out; have hnc7 := NB457_456.out; obtain ⟨hcz8_0, hcz8_1, hcz8_2, hfz8_0, hfz8_1, hfz8_2⟩ := bc3f w6 BK456.out) | ((with_reducible refine gate_callee (f := 63) rfl ?_); refine goesL_ (some 6) rfl rfl Try.func63 kr rfl #[.agg #[.slice A0_0 l0_0.length c0_0, .slice A0_1 l0_1.length c0_1, .slice A0_2 l0_2.length c0_2]] rfl Q10 ?_; (with_reducible refine (impl_copyConf.calls _ _ l0_0 _ _ l0_1 _ _ l0_2 t458 t461 t464 _ ?side1 ?side2 ?side3 ?side4 ?side5 ?side6 A2.out).mono ?_); (case side1 => exact Q0); (case side2 => exact HC0_0.out); (case side3 => exact Q7); (case side4 => exact HC0_1.out); (case side5 => exact Q2); (case side6 => exact HC0_2.out); rintro e w9 ⟨v459, v462, v465, rfl, ho0, ho1, ho2, hb⟩; refine ⟨_, rfl, ?_⟩; have HO460 := am (Kd.R_lower ho0 (below_size Q6)); have HO463 := am (Kd.R_lower ho1 (below_size Q6)); have HO466 := am (Kd.R_lower ho2 (below_size Q6)); replace BK456 := am (bb_ BK456.out u11_6 hb); replace BK457 := am (bb_ BK457.out u11_20 hb); replace HB := am (below_step Q6 hb); (try clear hb); (try clear hb2); (try clear hk); (try clear hi); (try clear ho0); (try clear ho1); (try clear ho2)) | ((with_reducible refine gate_dst (N := 4) rfl ?_); (try (refine gate_guard (by rfl) ?_; dsimp only)); refine box_event ?hg (N := 4) ?hd (cs := #[.slice none 0 0, .slice none 0 0, .slice none 0 0]) (t := 26) ?hr ?_; (case hd => rfl); (case hg => rfl); (case hr => first | (go_simp; done) | (go_simp; rfl)); intro gb467 hg w10 hbox hb; replace HO460 := am (Kd.R_below u11_42 hb); replace HO463 := am (Kd.R_below u11_43 hb); replace HO466 := am (Kd.R_below u11_44 hb); have BK467 := am (hbox); have GW467 := am ((by rw [hg]; exact (below_size Q6) : w.heap.size ≤ gb467)); have GE467 := am ((by rw [hg]; exact (below_size Q6) : w.heap.size ≤ gb467)); replace HB := am (below_step Q6 hb); have NB456_467 := am ((by rw [hg]; exact Nat.ne_of_lt (blk_lt (g := gb456) (o := .cells #[.slice A0_0 l0_0.length c0_0, .slice A0_1 l0_1.length c0_1, .slice A0_2 l0_2.length c0_2] 26 (0, 0)) u11_6) : gb456 ≠ gb467)); have NB467_456 := am ((by rw [hg]; exact Nat.ne_of_gt (blk_lt (g := gb456) (o := .cells #[.slice A0_0 l0_0.length c0_0, .slice A0_1 l0_1.length c0_1, .slice A0_2 l0_2.length c0_2] 26 (0, 0)) u11_6) : gb467 ≠ gb456)); replace BK456 := am (bb_ BK456.out u11_6 hb); have NB457_467 := am ((by rw [hg]; exact Nat.ne_of_lt (blk_lt (g := gb457) (o := .cells #[.slice none 0 0, .slice none 0 0, .slice none 0 0] 26 (0, 0)) u11_20) : gb457 ≠ gb467)); have NB467_457 := am ((by rw [hg]; exact Nat.ne_of_gt (blk_lt (g := gb457) (o := .cells #[.slice none 0 0, .slice none 0 0, .slice none 0 0] 26 (0, 0)) u11_20) : gb467 ≠ gb457)); replace BK457 := am (bb_ BK457.out u11_20 hb); clear hb hbox hg; obtain ⟨Ao11, co11, eo11⟩ := Kd.R_slice HO460.out; subst eo11; have hnb12 := NB467_456.out; have hnc12 := NB456_467.out; have hnb13 := NB467_457.out; have hnc13 := NB457_467.out; obtain ⟨hcz14_0, hcz14_1, hcz14_2, hfz14_0, hfz14_1, hfz14_2⟩ := bc3f w10 BK467.out; obtain ⟨Ao15, co15, eo15⟩ := Kd.R_slice HO463.out; subst eo15; obtain ⟨Ao16, co16, eo16⟩ := Kd.R_slice HO466.out; subst eo16; obtain ⟨hcz17_0, hcz17_1, hcz17_2, hfz17_0, hfz17_1, hfz17_2⟩ := bc3f w10 BK456.out) | ((with_reducible refine gate_callee (f := 48) rfl ?_); refine goesL_ (some 8) rfl rfl Try.func48 kr rfl #[.agg #[.slice A0_0 l0_0.length c0_0, .slice A0_1 l0_1.length c0_1, .slice A0_2 l0_2.length c0_2]] rfl Q10 ?_; (with_reducible refine (impl_isConf.calls k _ _ l0_0 _ _ l0_1 _ _ l0_2 true _ ?side1 ?side2 ?side3 ?side4 ?side5 ?side6 A3.out).mono ?_); (case side1 => exact (by exact Kd.C_below HR0_0.out Q6)); (case side2 => exact HC0_0.out); (case side3 => exact (by exact Kd.C_below HR0_1.out Q6)); (case side4 => exact HC0_1.out); (case side5 => exact (by exact Kd.C_below HR0_2.out Q6)); (case side6 => exact HC0_2.out); rintro e w18 ⟨rfl, hb⟩; refine ⟨_, rfl, ?_⟩; replace HO460 := am (Kd.R_below (by (with_reducible repeat (first | apply r1_ | apply r2_ | apply r3_)); exact (Kd.R_mono (Kd.R_far (p := ⟨gb467, 2, none⟩) (Kd.R_far (p := ⟨gb467, 1, none⟩) (Kd.R_far (p := ⟨gb467, 0, none⟩) (Kd.R_types HO460.out BK467.out (by decide)) (fun _ hk => hk.2) (.slice Ao11 t458.length co11)) (fun _ hk => hk.2) (.slice Ao15 t461.length co15)) (fun _ hk => hk.2) (.slice Ao16 t464.length co16)) (fun _ h_ => h_.1))) hb); replace HO463 := am (Kd.R_below (by (with_reducible repeat (first | apply r1_ | apply r2_ | apply r3_)); exact (Kd.R_mono (Kd.R_far (p := ⟨gb467, 2, none⟩) (Kd.R_far (p := ⟨gb467, 1, none⟩) (Kd.R_far (p := ⟨gb467, 0, none⟩) (Kd.R_types HO463.out BK467.out (by decide)) (fun _ hk => hk.2) (.slice Ao11 t458.length co11)) (fun _ hk => hk.2) (.slice Ao15 t461.length co15)) (fun _ hk => hk.2) (.slice Ao16 t464.length co16)) (fun _ h_ => h_.1))) hb); replace HO466 := am (Kd.R_below (by (with_reducible repeat (first | apply r1_ | apply r2_ | apply r3_)); exact (Kd.R_mono (Kd.R_far (p := ⟨gb467, 2, none⟩) (Kd.R_far (p := ⟨gb467, 1, none⟩) (Kd.R_far (p := ⟨gb467, 0, none⟩) (Kd.R_types HO466.out BK467.out (by decide)) (fun _ hk => hk.2) (.slice Ao11 t458.length co11)) (fun _ hk => hk.2) (.slice Ao15 t461.length co15)) (fun _ hk => hk.2) (.slice Ao16 t464.length co16)) (fun _ h_ => h_.1))) hb); replace BK456 := am (blk_below (g := gb456) (o := .cells #[.slice A0_0 l0_0.length c0_0, .slice A0_1 l0_1.length c0_1, .slice A0_2 l0_2.length c0_2] 26 (0, 0)) u11_22 hb); replace BK457 := am (blk_below (g := gb457) (o := .cells #[.slice none 0 0, .slice none 0 0, .slice none 0 0] 26 (0, 0)) u11_23 hb); replace BK467 := am (blk_below (g := gb467) (o := .cells #[.slice Ao11 t458.length co11, .slice Ao15 t461.length co15, .slice Ao16 t464.length co16] 26 (0, 0)) (by (with_reducible repeat (first | apply b1_ | apply b2_ | apply b3_)); refine blk_put (cs := #[.slice Ao11 t458.length co11, .slice Ao15 t461.length co15, .slice none 0 0]) ?_ 2 _ rfl; (with_reducible repeat (first | apply b1_ | apply b2_ | apply b3_)); refine blk_put (cs := #[.slice Ao11 t458.length co11, .slice none 0 0, .slice none 0 0]) ?_ 1 _ rfl; (with_reducible repeat (first | apply b1_ | apply b2_ | apply b3_)); refine blk_put (cs := #[.slice none 0 0, .slice none 0 0, .slice none 0 0]) ?_ 0 _ rfl; (with_reducible repeat (first | apply b1_ | apply b2_ | apply b3_)); exact BK467.out) hb); replace HB := am (below_step Q6 hb); (try clear hb); (try clear hb2); (try clear hk); (try clear hi); obtain ⟨hcz19_0, hcz19_1, hcz19_2, hfz19_0, hfz19_1, hfz19_2⟩ := bc3f w18 BK456.out))
 have H := H9.out
 clear H9
 by_cases c20 : (l0_1.length : Int) = 0
 · rw [if_pos c20] at H
   have c20b0 : ((l0_1.length : Int) == 0) = true := beq_iff_eq.mpr c20
   have c20b1 : ((l0_1.length : Int) != 0) = false := bne_eq_false_iff_eq.mpr c20
   clear c20
   (first | rw [c20b0] | (simp only [i64_w, i32_w]; rw [c20b0]) | skip)
   simp only [Option.some.injEq, Prod.mk.injEq] at H
   obtain ⟨rfl, rfl, rfl, rfl⟩ := H
   have hnb21 := NB467_456.out
   have hnc21 := NB456_467.out
   have hnb22 := NB467_457.out
   have hnc22 := NB457_467.out
   obtain ⟨hcz23_0, hcz23_1, hcz23_2, hfz23_0, hfz23_1, hfz23_2⟩ := bc3f w18 BK467.out
   have hnb24 := NB457_456.out
   have hnc24 := NB456_457.out
   obtain ⟨hcz25_0, hcz25_1, hcz25_2, hfz25_0, hfz25_1, hfz25_2⟩ := bc3f w18 BK457.out
   go_wp2
   refine bodyPost_ret (results_ct rfl _ _ gb457 26 #[.slice Ao11 t458.length co11, .slice Ao15 t461.length co15, .slice Ao16 t464.length co16] (0, 0) _ rfl (by (with_reducible repeat (first | apply b1_ | apply b2_ | apply b3_)); refine blk_put (cs := #[.slice Ao11 t458.length co11, .slice Ao15 t461.length co15, .slice none 0 0]) ?_ 2 _ rfl; (with_reducible repeat (first | apply b1_ | apply b2_ | apply b3_)); refine blk_put (cs := #[.slice Ao11 t458.length co11, .slice none 0 0, .slice none 0 0]) ?_ 1 _ rfl; (with_reducible repeat (first | apply b1_ | apply b2_ | apply b3_)); refine blk_put (cs := #[.slice none 0 0, .slice none 0 0, .slice none 0 0]) ?_ 0 _ rfl; (with_reducible repeat (first | apply b1_ | apply b2_ | apply b3_)); exact BK457.out) Try.underlying26 rfl kr) rfl ?_
   exact ⟨_, _, _, er, (by (with_reducible repeat (first | apply r1_ | apply r2_ | apply r3_)); exact Kd.R_mono (Kd.R_far (p := ⟨gb457, 2, none⟩) (Kd.R_far (p := ⟨gb457, 1, none⟩) (Kd.R_far (p := ⟨gb457, 0, none⟩) (Kd.R_types HO460.out BK457.out (by decide)) (fun _ hk => hk.2) (.slice Ao11 t458.length co11)) (fun _ hk => hk.2) (.slice Ao15 t461.length co15)) (fun _ hk => hk.2) (.slice Ao16 t464.length co16)) (fun _ hk => ⟨hk.1.1, hk.1.2⟩)), (by (with_reducible repeat (first | apply r1_ | apply r2_ | apply r3_)); exact Kd.R_mono (Kd.R_far (p := ⟨gb457, 2, none⟩) (Kd.R_far (p := ⟨gb457, 1, none⟩) (Kd.R_far (p := ⟨gb457, 0, none⟩) (Kd.R_types HO463.out BK457.out (by decide)) (fun _ hk => hk.2) (.slice Ao11 t458.length co11)) (fun _ hk => hk.2) (.slice Ao15 t461.length co15)) (fun _ hk => hk.2) (.slice Ao16 t464.length co16)) (fun _ hk => ⟨hk.1.1, hk.1.2⟩)), (by (with_reducible repeat (first | apply r1_ | apply r2_ | apply r3_)); exact Kd.R_mono (Kd.R_far (p := ⟨gb457, 2, none⟩) (Kd.R_far (p := ⟨gb457, 1, none⟩) (Kd.R_far (p := ⟨gb457, 0, none⟩) (Kd.R_types HO466.out BK457.out (by decide)) (fun _ hk => hk.2) (.slice Ao11 t458.length co11)) (fun _ hk => hk.2) (.slice Ao15 t461.length co15)) (fun _ hk => hk.2) (.slice Ao16 t464.length co16)) (fun _ hk => ⟨hk.1.1, hk.1.2⟩)), Q6⟩
 rw [if_neg c20] at H
 have c20b0 : ((l0_1.length : Int) == 0) = false := beq_eq_false_iff_ne.mpr c20
 have c20b1 : ((l0_1.length : Int) != 0) = true := bne_iff_ne.mpr c20
 have c20b2 : ¬ (l0_1 = []) := fun h_ => c20 (by rw [h_]; rfl)
 (first | rw [c20b0] | (simp only [i64_w, i32_w]; rw [c20b0]) | skip)
 simp only [Option.some.injEq, Prod.mk.injEq] at H
 obtain ⟨rfl, rfl, rfl, rfl⟩ := H
 have hnb26 := NB467_456.out
 have hnc26 := NB456_467.out
 have hnb27 := NB467_457.out
 have hnc27 := NB457_467.out
 obtain ⟨hcz28_0, hcz28_1, hcz28_2, hfz28_0, hfz28_1, hfz28_2⟩ := bc3f w18 BK467.out
 have hnb29 := NB457_456.out
 have hnc29 := NB456_457.out
 obtain ⟨hcz30_0, hcz30_1, hcz30_2, hfz30_0, hfz30_1, hfz30_2⟩ := bc3f w18 BK457.out
 go_wp2
 refine bodyPost_ret (results_ct rfl _ _ gb457 26 #[.slice Ao15 t461.length co15, .slice none 0 0, .slice Ao16 t464.length co16] (0, 0) _ rfl (by (with_reducible repeat (first | apply b1_ | apply b2_ | apply b3_)); refine blk_put (cs := #[.slice Ao15 t461.length co15, .slice none 0 0, .slice none 0 0]) ?_ 2 _ rfl; (with_reducible repeat (first | apply b1_ | apply b2_ | apply b3_)); refine blk_put (cs := #[.slice Ao15 t461.length co15, .slice none 0 0, .slice none 0 0]) ?_ 1 _ rfl; (with_reducible repeat (first | apply b1_ | apply b2_ | apply b3_)); refine blk_put (cs := #[.slice none 0 0, .slice none 0 0, .slice none 0 0]) ?_ 0 _ rfl; (with_reducible repeat (first | apply b1_ | apply b2_ | apply b3_)); refine blk_far ?_ NB457_467.out _; (with_reducible repeat (first | apply b1_ | apply b2_ | apply b3_)); refine blk_far ?_ NB457_467.out _; (with_reducible repeat (first | apply b1_ | apply b2_ | apply b3_)); exact BK457.out) Try.underlying26 rfl kr) rfl ?_
 exact ⟨_, _, _, er, (by (with_reducible repeat (first | apply r1_ | apply r2_ | apply r3_)); exact Kd.R_mono (Kd.R_far (p := ⟨gb457, 2, none⟩) (Kd.R_far (p := ⟨gb457, 1, none⟩) (Kd.R_far (p := ⟨gb457, 0, none⟩) (Kd.R_far (p := ⟨gb467, 1, none⟩) (Kd.R_far (p := ⟨gb467, 0, none⟩) (Kd.R_types (Kd.R_types HO463.out BK467.out (by decide)) BK457.out (by decide)) (fun _ hk => hk.1.2) (.slice Ao15 t461.length co15)) (fun _ hk => hk.1.2) (.slice none 0 0)) (fun _ hk => hk.2) (.slice Ao15 t461.length co15)) (fun _ hk => hk.2) (.slice none 0 0)) (fun _ hk => hk.2) (.slice Ao16 t464.length co16)) (fun _ hk => ⟨(by simp [Value.ownBlock]), hk.1.1.2⟩)), (by first | exact Kd.R_nil _ _ _ _ _ | exact Kd.N_nil _ _ _ _ _ | exact Kd.V_nil _ _ _ _ _ | exact Kd.Q_nil _ _ _ _ _ | exact Kd.S_nil _ _ _ _ _), (by (with_reducible repeat (first | apply r1_ | apply r2_ | apply r3_)); exact Kd.R_mono (Kd.R_far (p := ⟨gb457, 2, none⟩) (Kd.R_far (p := ⟨gb457, 1, none⟩) (Kd.R_far (p := ⟨gb457, 0, none⟩) (Kd.R_far (p := ⟨gb467, 1, none⟩) (Kd.R_far (p := ⟨gb467, 0, none⟩) (Kd.R_types (Kd.R_types HO466.out BK467.out (by decide)) BK457.out (by decide)) (fun _ hk => hk.1.2) (.slice Ao15 t461.length co15)) (fun _ hk => hk.1.2) (.slice none 0 0)) (fun _ hk => hk.2) (.slice Ao15 t461.length co15)) (fun _ hk => hk.2) (.slice none 0 0)) (fun _ hk => hk.2) (.slice Ao16 t464.length co16)) (fun _ hk => ⟨hk.1.1.2, (by simp [Value.ownBlock])⟩)), Q6⟩
def cmp_isNaN_int.f (a0 : Int) : Option (Bool) := some (a0 != a0)
set_option maxHeartbeats 8000000 in
set_option maxRecDepth 100000 in
theorem cmp_isNaN_int.calls (a0 : Int) (r : Bool) (w : World) (h : cmp_isNaN_int.f a0 = some r) :
   Calls Try.prog 105 #[.int .i64 a0] w fun e w' => e = .returned (.bool r) ∧ Drawn0 w w' := by
 have H : (some (a0 != a0)) = some r := h
 clear h
 obtain rfl := sj H
 go_enter Try.func105, Try.ntmps105
 go_wp2
 go_ret
 exact ⟨by first | rfl | (simp; done) | (simp [*]; done), Q3⟩
def cmp_Less_int.f (a0 : Int) (a1 : Int) : Option (Bool) := (cmp_isNaN_int.f a0).bind fun t469 => (if t469 = true then ((cmp_isNaN_int.f a1).bind fun t470 => (if t470 = true then (some (decide (a0 < a1))) else (some true))) else (some (decide (a0 < a1))))
set_option maxHeartbeats 8000000 in
set_option maxRecDepth 100000 in
theorem cmp_Less_int.calls (a0 : Int) (a1 : Int) (r : Bool) (w : World) (h : cmp_Less_int.f a0 a1 = some r) :
   Calls Try.prog 90 #[.int .i64 a0, .int .i64 a1] w fun e w' => e = .returned (.bool r) ∧ Drawn0 w w' := by
 have H : ((cmp_isNaN_int.f a0).bind fun t469 => (if t469 = true then ((cmp_isNaN_int.f a1).bind fun t470 => (if t470 = true then (some (decide (a0 < a1))) else (some true))) else (some (decide (a0 < a1))))) = some r := h
 clear h
 replace H := Option.bind_eq_some_iff.mp H
 obtain ⟨t469, A30, H⟩ := H
 have A3 := am A30
 clear A30
 by_cases c4 : t469 = true
 rotate_left
 · replace c4 := Bool.eq_false_iff.mpr c4
   subst c4
   rw [nf] at H
   obtain rfl := sj H
   go_enter Try.func90, Try.ntmps90
   go_wp2_with (first | ((with_reducible refine gate_callee (f := 105) rfl ?_); refine goesL_ (some 6) rfl rfl Try.func105 kr rfl #[.int .i64 a0] rfl Q10 ?_; (with_reducible refine (cmp_isNaN_int.calls a0 false _ A3.out).mono ?_); rintro e w' ⟨rfl, ⟨nd, rfl⟩⟩; refine ⟨_, rfl, ?_⟩))
   go_ret
   exact ⟨by first | rfl | (simp; done) | (simp [*]; done), Q3⟩
 subst c4
 rw [if_pos rfl] at H
 replace H := Option.bind_eq_some_iff.mp H
 obtain ⟨t470, A50, H⟩ := H
 replace H : (if t470 = true then (some (decide (a0 < a1))) else (some true)) = some r := H
 have A5 := am A50
 clear A50
 by_cases c6 : t470 = true
 · subst c6
   rw [if_pos rfl] at H
   obtain rfl := sj H
   go_enter Try.func90, Try.ntmps90
   go_wp2_with (first | ((with_reducible refine gate_callee (f := 105) rfl ?_); refine goesL_ (some 6) rfl rfl Try.func105 kr rfl #[.int .i64 a0] rfl Q10 ?_; (with_reducible refine (cmp_isNaN_int.calls a0 true _ A3.out).mono ?_); rintro e w' ⟨rfl, ⟨nd, rfl⟩⟩; refine ⟨_, rfl, ?_⟩) | (go_at_call 105; (with_reducible refine (cmp_isNaN_int.calls a1 true _ A5.out).mono ?_); rintro e w' ⟨rfl, ⟨nd, rfl⟩⟩))
   go_ret
   exact ⟨by first | rfl | (simp; done) | (simp [*]; done), Q3⟩
 replace c6 := Bool.eq_false_iff.mpr c6
 subst c6
 rw [nf] at H
 obtain rfl := sj H
 go_enter Try.func90, Try.ntmps90
 go_wp2_with (first | ((with_reducible refine gate_callee (f := 105) rfl ?_); refine goesL_ (some 6) rfl rfl Try.func105 kr rfl #[.int .i64 a0] rfl Q10 ?_; (with_reducible refine (cmp_isNaN_int.calls a0 true _ A3.out).mono ?_); rintro e w' ⟨rfl, ⟨nd, rfl⟩⟩; refine ⟨_, rfl, ?_⟩) | (go_at_call 105; (with_reducible refine (cmp_isNaN_int.calls a1 false _ A5.out).mono ?_); rintro e w' ⟨rfl, ⟨nd, rfl⟩⟩))
 go_ret
 exact ⟨by first | rfl | (simp; done) | (simp [*]; done), Q3⟩
def slices_isNaN_int.f (a0 : Int) : Option (Bool) := some (a0 != a0)
set_option maxHeartbeats 8000000 in
set_option maxRecDepth 100000 in
theorem slices_isNaN_int.calls (a0 : Int) (r : Bool) (w : World) (h : slices_isNaN_int.f a0 = some r) :
   Calls Try.prog 91 #[.int .i64 a0] w fun e w' => e = .returned (.bool r) ∧ Drawn0 w w' := by
 have H : (some (a0 != a0)) = some r := h
 clear h
 obtain rfl := sj H
 go_enter Try.func91, Try.ntmps91
 go_wp2
 go_ret
 exact ⟨by first | rfl | (simp; done) | (simp [*]; done), Q3⟩
end Go.Proofs.Ytoemdmjdpikfbaa.QFnExactPlayConf
