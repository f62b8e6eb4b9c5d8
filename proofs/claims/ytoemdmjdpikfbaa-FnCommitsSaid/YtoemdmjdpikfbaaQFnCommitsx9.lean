-- Printed by the session's own program wip/prx.py.
import Derived.Test.YtoemdmjdpikfbaaQFnCommitsx0
import Derived.Test.YtoemdmjdpikfbaaQFnCommitsx8
namespace Go.Proofs.Ytoemdmjdpikfbaa.QFnCommits
open Go.RowKit Go.Proofs.YtoemdmjdpikfbaaW.PrintWords Go.Proofs.YtoemdmjdpikfbaaW.PrintLast Go.Proofs.YtoemdmjdpikfbaaW.PrintMore
attribute [local go_sem] max2_int min2_int max_two min_two max_three min_three max_four min_four Go.Proofs.Ytoemdmjdpikfbaa.Set.isSome_setCell   -- for this text's walks alone
set_option linter.unusedVariables false
set_option linter.unusedSimpArgs false

-- squeezed
theorem u9_0 {P : Prop} (h : P := by repeat (first | (with_reducible first | exact HB.out | apply below_alloc | apply pw_below_drewN | apply below_drew1 | refine below_set ?_ GE449.out) | exact HB.out)) : P := h
theorem u9_1 {P : Prop} (h : P := by repeat (first | (with_reducible first | exact HB.out | apply below_alloc | apply pw_below_drewN | apply below_drew1) | exact HB.out)) : P := h
theorem u9_2 {P : Prop} (h : P := by (try simp only [List.map_toArray, List.map_cons, List.map_nil]); first | done | rfl | (simp only [List.length_drop, List.length_take]; rfl)) : P := h
theorem u9_3 {P : Prop} (h : P := by repeat (first | (with_reducible first | exact HB.out | apply below_alloc | apply pw_below_drewN | apply below_drew1 | refine below_set ?_ GE466.out) | exact HB.out)) : P := h
theorem u9_4 {P : Prop} (h : P := by (with_reducible repeat (first | refine blk_drewN ?_ _ | refine blk_drew ?_ | refine blk_alloc ?_ _)); exact BK449.out) : P := h
theorem u9_5 {P : Prop} (h : P := by repeat (first | exact (Kd.C_below HR0_0.out HB.out) | (with_reducible refine Kd.C_alloc ?_ _) | (with_reducible refine Kd.C_drewN ?_ _) | (with_reducible refine Kd.C_drew ?_))) : P := h
theorem u9_6 {P : Prop} (h : P := by repeat (first | exact (Kd.C_below HR1.out HB.out) | (with_reducible refine Kd.C_alloc ?_ _) | (with_reducible refine Kd.C_drewN ?_ _) | (with_reducible refine Kd.C_drew ?_))) : P := h
theorem u9_7 {P : Prop} (h : P := by first | rfl | (simp; done) | (simp [*]; done)) : P := h
theorem u9_8 {P : Prop} (h : P := by repeat (first | exact Drawn0.refl _ | apply Drawn0.step)) : P := h
/-! ### slices_Compact_int_int: function 51 -/
def slices_Compact_int_int.enc (x : Int) : List Value := [.int .i64 x]
theorem slices_Compact_int_int.flat : Go.Proofs.Ytoemdmjdpikfbaa.Slc.Flat (Kd.int .i64) slices_Compact_int_int.enc := ⟨fun w base ok x => rfl, fun h => h⟩
theorem slices_Compact_int_int.cells (l : List Int) : Go.Proofs.Ytoemdmjdpikfbaa.Slc.cellsOf slices_Compact_int_int.enc l = l.map (Value.int .i64) := by
  induction l with
  | nil => rfl
  | cons x l ih => simpa [Go.Proofs.Ytoemdmjdpikfbaa.Slc.cellsOf, slices_Compact_int_int.enc] using ih
theorem slices_Compact_int_int.holds {w : World} {g n : Nat} {cur : Array Value} {l : List Int} (hb : w.heap[g]? = some (.cells cur 3 (0, 0))) (ht : cur.toList.take (l.length * 1) = Go.Proofs.Ytoemdmjdpikfbaa.Slc.cellsOf slices_Compact_int_int.enc l) : Go.Sort.Holds (Value.int .i64) w g 0 l.toArray := by
  intro j hj
  have hj' : j < l.length := by simpa using hj
  rw [slices_Compact_int_int.cells] at ht
  refine ⟨?_, by rw [Nat.zero_add]; exact blk_frozen hb j⟩
  rw [Nat.zero_add, blk_cell hb]
  have h1 : cur[j]? = (l.map (Value.int .i64))[j]? := by rw [← ht, List.getElem?_take_of_lt (by omega), Array.getElem?_toList]
  rw [h1, List.getElem?_map, List.getElem?_eq_getElem hj', getElem!_pos _ j hj]
  simp
/-- The row when its first cells are written. -/
theorem slices_Compact_int_int.put {w w0 : World} {P : Nat → Prop} {g n c m q : Nat} {cur : Array Value} {ys ws : List Int} {os : Array Obj} (hB : Below w0.heap.size w0 w) (hg : w0.heap.size ≤ g) (hP : P g) (hb : w.heap[g]? = some (.cells cur 3 (0, 0))) (hs : cur.size = c * 1) (hn : n ≤ c) (hm : c ≤ maxLen) (hy : ys.length = n) (hw : ws = ys.take m) (hmn : m ≤ n) :
    Kd.R (Kd.int .i64) 3 (Go.Sort.grow ((w.drewN q).setCells g 0 (ys.map (Value.int .i64))) os) w0.heap.size (fun k_ => (P k_ ∨ w.heap.size ≤ k_)) (.slice (some ⟨g, 0, none⟩) m c) ws ∧ Below w0.heap.size w0 (Go.Sort.grow ((w.drewN q).setCells g 0 (ys.map (Value.int .i64))) os) ∧ Kept w (Go.Sort.grow ((w.drewN q).setCells g 0 (ys.map (Value.int .i64))) os) (fun k_ => P k_) := by
  obtain ⟨W, hW⟩ : ∃ W, W = (w.drewN q).setCells g 0 (ys.map (Value.int .i64)) := ⟨_, rfl⟩
  obtain ⟨cur', h1, h2, h3, h4⟩ := Go.Proofs.Ytoemdmjdpikfbaa.Slc.setCells_blk g 3 (ys.map (Value.int .i64)) 0 (w.drewN q) cur hb
  have hBW : Below w0.heap.size w0 W := by rw [hW]; exact Go.Proofs.Ytoemdmjdpikfbaa.Slc.below_setCells hg _ _ (pw_below_drewN hB q)
  have hKW : Kept w W (fun k_ => P k_) := by rw [hW]; exact Go.Proofs.Ytoemdmjdpikfbaa.Slc.kept_setCells (.inl hP) _ _ (Kept.drewN (Kept.refl w _) q)
  rw [← hW] at h1 ⊢
  have hlt : g < W.heap.size := blk_lt h1
  have up : ∀ i, i < W.heap.size → (Go.Sort.grow W os).heap[i]? = W.heap[i]? := fun i hi => Array.getElem?_append_left hi
  have hsz : W.heap.size ≤ (Go.Sort.grow W os).heap.size := by simp [Go.Sort.grow]
  refine ⟨slices_Compact_int_int.flat.row ((up g hlt).trans h1) hg (.inl hP) (by rw [hw, List.length_take]; omega) (by omega) hm (h2.trans hs) ?_, ⟨hBW.os, hBW.tape, hBW.output, Nat.le_trans hBW.size hsz, fun i hi => (up i (Nat.lt_of_lt_of_le hi hBW.size)).trans (hBW.block i hi)⟩, ⟨Nat.le_trans hKW.1 hsz, fun i hi hn => (up i (Nat.lt_of_lt_of_le hi hKW.1)).trans (hKW.2 i hi hn)⟩⟩
  rw [slices_Compact_int_int.cells, hw]
  show cur'.toList.take (m * 1) = _
  rw [Nat.mul_one]
  apply List.ext_getElem?
  intro j
  by_cases hj : j < m
  rotate_left
  · rw [List.getElem?_eq_none (by rw [List.length_take]; omega), List.getElem?_eq_none (by rw [List.length_map, List.length_take]; omega)]
  have := h4 j (by rw [List.length_map]; omega) (by omega)
  rw [Nat.zero_add] at this
  rw [List.getElem?_take_of_lt hj, Array.getElem?_toList, this, List.map_take, List.getElem?_take_of_lt hj]
def slices_Compact_int_int.f (l0 : List Int) : Option (List Int) := if l0.length < 4611686018427387904 then some (Lib.compact l0) else none
theorem slices_Compact_int_int.calls (P0_ : Nat → Prop) (u9000_ : Value) (l0 : List Int) (r : List Int) (w0 w : World) (hB : Below w0.heap.size w0 w) (ho0 : Kd.R (Kd.int .i64) 3 w w0.heap.size P0_ u9000_ l0) (h : slices_Compact_int_int.f l0 = some r) :
    Calls Try.prog 51 #[u9000_] w fun e w' => ∃ v0_ : Value, e = .returned (v0_) ∧ Kd.R (Kd.int .i64) 3 w' w0.heap.size (fun k_ => (P0_ k_ ∨ w.heap.size ≤ k_)) v0_ r ∧ Below w0.heap.size w0 w' ∧ Kept w w' (fun k_ => P0_ k_) := by
  unfold slices_Compact_int_int.f at h
  by_cases hl : l0.length < 4611686018427387904
  rotate_left
  · rw [if_neg hl] at h; cases h
  rw [if_pos hl] at h
  obtain rfl := Option.some.inj h
  by_cases h0 : 0 < l0.length
  rotate_left
  · have hn : l0 = [] := List.eq_nil_of_length_eq_zero (by omega)
    subst hn
    obtain ⟨A0, c0, rfl, _, _⟩ := Kd.R_reads ho0
    refine (Go.Proofs.Ytoemdmjdpikfbaa.Shelf.Try.slices_Compact_int_empty A0 c0 w).mono ?_
    rintro e w' ⟨rfl, rfl⟩
    refine ⟨_, rfl, ?_, hB, Kept.refl _ _⟩
    rw [show Lib.compact ([] : List Int) = [] from rfl]
    simpa using Kd.R_mono (ok' := fun k_ => (P0_ k_ ∨ w'.heap.size ≤ k_)) ho0 (fun k hk => .inl hk)
  obtain ⟨g, c, cur, rfl, hg, hP, hb, hc, hm, hs, ht⟩ := slices_Compact_int_int.flat.block ho0 h0
  have hH := slices_Compact_int_int.holds (n := 0) hb ht
  refine (Go.Proofs.Ytoemdmjdpikfbaa.Shelf.Try.slices_Compact_int g 0 c l0 w hH (by omega) hc).mono ?_
  rintro e w' ⟨rfl, q, rfl⟩
  have hcl : (Lib.compact l0).length ≤ l0.length := Lib.compact_length_le l0
  rw [Lib.putRow_eq_setCells _ w g 0 _ _ q hH (by simp; omega)]
  have hp := slices_Compact_int_int.put (q := q) (os := #[]) (m := (Lib.compact l0).length) hB hg hP hb hs hc hm (ys := Lib.compact l0 ++ List.replicate (l0.length - (Lib.compact l0).length) 0) (n := l0.length) (by simp; omega) (ws := Lib.compact l0) (by simp) hcl
  rw [Go.Sort.grow_empty] at hp
  exact ⟨_, rfl, hp⟩


/-! ### impl_Voters: function 19 -/
def impl_Voters.f (k : Nat) (l0_0 : List Int) (l0_1 : List Int) (l0_2 : List Int) : Option (List Int) := (impl_isConf.f k l0_0 l0_1 l0_2).bind fun t450 => (if t450 = true then ((some (([] : List Int) : List Int)).bind fun y451 => (if y451.length + l0_0.length < 17592186044416 then ((some (y451 ++ l0_0 : List Int)).bind fun y454 => (if y454.length + l0_1.length < 17592186044416 then ((slices_Sort_int_int.f (y454 ++ l0_1)).bind fun t460 => ((slices_Compact_int_int.f t460).bind fun t461 => (some t461))) else (none))) else (none))) else (some ([] : List Int)))
theorem impl_Voters.mono : ∀ a0 a1 a2 k, LeO (impl_Voters.f k a0 a1 a2) (impl_Voters.f (k + 1) a0 a1 a2) := by
  intro a0 a1 a2 k
  unfold impl_Voters.f
  repeat' first
      | (with_reducible exact impl_isConf.mono _ _ _ _)
      | (with_reducible exact LeO.refl _)
      | (with_reducible exact LeO.none _)
      | (with_reducible refine LeO.ite ?_ ?_)
      | (with_reducible refine LeO.bind ?_ (fun _ => ?_))
      | exact impl_isConf.mono _ _ _ _
      | exact LeO.none _
      | refine LeO.ite ?_ ?_
      | refine LeO.bind ?_ (fun _ => ?_)
def impl_Voters.T3 : Bool × List (List Nat × List Nat) := (true, [([], []), ([], []), ([1], [1]), ([0, 2], [0, 2]), ([], []), ([4], [4]), ([3, 5, 3], [3, 5]), ([6, 6, 0, 1, 2, 3, 4, 5, 6], [6])])
def impl_Voters.B3 : List Nat := [0, 0, 2, 7, 0, 16, 63, 127]
theorem impl_Voters.tab3 : rtab .any (opsOf Try.f19 3) = impl_Voters.T3 := by kernel_rfl
theorem impl_Voters.bits3 : waitsOk impl_Voters.T3.2 impl_Voters.B3 = true := by kernel_rfl
set_option maxHeartbeats 8000000 in
set_option maxRecDepth 100000 in
theorem impl_Voters.calls (k : Nat) (A0_0 : Option Addr) (c0_0 : Nat) (l0_0 : List Int) (A0_1 : Option Addr) (c0_1 : Nat) (l0_1 : List Int) (A0_2 : Option Addr) (c0_2 : Nat) (l0_2 : List Int) (r : List Int) (w : World) (hr0_0 : Kd.C (Kd.int .i64) w A0_0 l0_0.length l0_0) (hc0_0 : l0_0.length ≤ c0_0) (hr0_1 : Kd.C (Kd.int .i64) w A0_1 l0_1.length l0_1) (hc0_1 : l0_1.length ≤ c0_1) (hr0_2 : Kd.C (Kd.int .i64) w A0_2 l0_2.length l0_2) (hc0_2 : l0_2.length ≤ c0_2) (h : impl_Voters.f k l0_0 l0_1 l0_2 = some r) :
    Calls Try.prog 19 #[.agg #[.slice A0_0 l0_0.length c0_0, .slice A0_1 l0_1.length c0_1, .slice A0_2 l0_2.length c0_2]] w fun e w' => ∃ v0_ : Value, e = .returned (v0_) ∧ Kd.R (Kd.int .i64) 3 w' w.heap.size (fun _ => True) v0_ r ∧ Below w.heap.size w w' := by
  have hu26 := Try.underlying26
  have HR0_0 := Aside0.mk hr0_0
  have HC0_0 := Aside0.mk hc0_0
  clear hr0_0 hc0_0
  have HR0_1 := Aside0.mk hr0_1
  have HC0_1 := Aside0.mk hc0_1
  clear hr0_1 hc0_1
  have HR0_2 := Aside0.mk hr0_2
  have HC0_2 := Aside0.mk hc0_2
  clear hr0_2 hc0_2
  have HB := Aside0.mk (Below.refl w.heap.size w)
  have H : ((impl_isConf.f k l0_0 l0_1 l0_2).bind fun t450 => (if t450 = true then ((some (([] : List Int) : List Int)).bind fun y451 => (if y451.length + l0_0.length < 17592186044416 then ((some (y451 ++ l0_0 : List Int)).bind fun y454 => (if y454.length + l0_1.length < 17592186044416 then ((slices_Sort_int_int.f (y454 ++ l0_1)).bind fun t460 => ((slices_Compact_int_int.f t460).bind fun t461 => (some t461))) else (none))) else (none))) else (some ([] : List Int)))) = some r := h
  clear h
  replace H := Option.bind_eq_some_iff.mp H
  obtain ⟨t450, A20, H⟩ := H
  have A2 := Aside0.mk A20
  clear A20
  have H9 := Aside0.mk H
  clear H
  go_enter Try.func19, Try.ntmps19
  go_upto_if 6 with (first | ((with_reducible refine gate_dst (N := 1) rfl ?_); refine box_event ?hg (N := 1) ?hd (cs := #[.slice A0_0 l0_0.length c0_0, .slice A0_1 l0_1.length c0_1, .slice A0_2 l0_2.length c0_2]) (t := 26) ?hr ?_; (case hd => rfl); (case hg => rfl); (case hr => first | (go_simp; done) | (go_simp; rfl)); intro gb449 hg w3 hbox hb; have n0_ := Aside0.mk (below_step u9_1 hb); have n1_ := Aside0.mk (hbox); have n2_ := Aside0.mk ((by rw [hg]; exact (below_size u9_1) : w.heap.size ≤ gb449)); have n3_ := Aside0.mk ((by rw [hg]; exact (below_size u9_1) : w.heap.size ≤ gb449)); clear HB; have HB := n0_; have BK449 := n1_; have GW449 := n2_; have GE449 := n3_; clear n0_ n1_ n2_ n3_; clear hb hbox hg; have hcz4_0 : w3.cell? ⟨gb449, 0, none⟩ = some (.slice A0_0 l0_0.length c0_0) := (blk_cell BK449.out 0).trans rfl; have hcz4_1 : w3.cell? ⟨gb449, 1, none⟩ = some (.slice A0_1 l0_1.length c0_1) := (blk_cell BK449.out 1).trans rfl; have hcz4_2 : w3.cell? ⟨gb449, 2, none⟩ = some (.slice A0_2 l0_2.length c0_2) := (blk_cell BK449.out 2).trans rfl; have hfz4_0 := blk_frozen BK449.out 0; have hfz4_1 := blk_frozen BK449.out 1; have hfz4_2 := blk_frozen BK449.out 2) | ((with_reducible refine gate_callee (f := 48) rfl ?_); refine goesL_ (some 5) rfl rfl Try.func48 (by kernel_rfl) rfl #[.agg #[.slice A0_0 l0_0.length c0_0, .slice A0_1 l0_1.length c0_1, .slice A0_2 l0_2.length c0_2]] rfl u9_2 ?_; (with_reducible refine (impl_isConf.calls k _ _ l0_0 _ _ l0_1 _ _ l0_2 t450 _ ?side1 ?side2 ?side3 ?side4 ?side5 ?side6 A2.out).mono ?_); (case side1 => exact u9_5); (case side2 => exact HC0_0.out); (case side3 => exact (by repeat (first | exact (Kd.C_below HR0_1.out HB.out) | (with_reducible refine Kd.C_alloc ?_ _) | (with_reducible refine Kd.C_drewN ?_ _) | (with_reducible refine Kd.C_drew ?_)))); (case side4 => exact HC0_1.out); (case side5 => exact (by repeat (first | exact (Kd.C_below HR0_2.out HB.out) | (with_reducible refine Kd.C_alloc ?_ _) | (with_reducible refine Kd.C_drewN ?_ _) | (with_reducible refine Kd.C_drew ?_)))); (case side6 => exact HC0_2.out); rintro e w5 ⟨rfl, hb⟩; refine ⟨_, rfl, ?_⟩; have n0_ := Aside0.mk (blk_below (g := gb449) (o := .cells #[.slice A0_0 l0_0.length c0_0, .slice A0_1 l0_1.length c0_1, .slice A0_2 l0_2.length c0_2] 26 (0, 0)) u9_4 hb); have n1_ := Aside0.mk (below_step u9_0 hb); clear BK449; clear HB; have BK449 := n0_; have HB := n1_; clear n0_ n1_; (try clear hb); (try clear hb2); (try clear hk); (try clear hi)))
  have H := H9.out
  clear H9
  by_cases c6 : t450 = true
  rotate_left
  · replace c6 := Bool.eq_false_iff.mpr c6
    subst c6
    rw [if_neg (show ¬ (false = true) by decide)] at H
    obtain rfl := Option.some.inj H
    go_wp2
    go_ret
    exact ⟨_, by first | rfl | (simp [errW_none, errW_some] <;> rfl) | (simp [*, errW_none, errW_some] <;> rfl), (by first | exact Kd.R_nil _ _ _ _ _ | exact Kd.N_nil _ _ _ _ _ | exact Kd.V_nil _ _ _ _ _ | exact Kd.Q_nil _ _ _ _ _ | exact Kd.S_nil _ _ _ _ _), u9_0⟩
  subst c6
  rw [if_pos rfl] at H
  obtain ⟨y451, hy451⟩ : ∃ y_ : List Int, y_ = (([] : List Int)) := ⟨_, rfl⟩
  replace H : (if y451.length + l0_0.length < 17592186044416 then ((some (y451 ++ l0_0 : List Int)).bind fun y454 => (if y454.length + l0_1.length < 17592186044416 then ((slices_Sort_int_int.f (y454 ++ l0_1)).bind fun t460 => ((slices_Compact_int_int.f t460).bind fun t461 => (some t461))) else (none))) else (none)) = some r := by first | (rw [hy451]; with_reducible exact H) | (have H2_ := (Option.bind_some _ _).symm.trans H; rw [hy451]; with_reducible exact H2_) | (have H2_ := (Option.bind_some _ _).symm.trans H; with_reducible exact H2_) | with_reducible exact H | (rw [hy451]; exact H) | exact H
  have Ny451 := Aside0.mk hy451
  clear hy451
  by_cases c7 : y451.length + l0_0.length < 17592186044416
  rotate_left
  · rw [if_neg c7] at H
    exact absurd H (by simp)
  rw [if_pos c7] at H
  have LMc7 := Aside0.mk c7
  clear c7
  obtain ⟨y454, hy454⟩ : ∃ y_ : List Int, y_ = (y451 ++ l0_0) := ⟨_, rfl⟩
  replace H : (if y454.length + l0_1.length < 17592186044416 then ((slices_Sort_int_int.f (y454 ++ l0_1)).bind fun t460 => ((slices_Compact_int_int.f t460).bind fun t461 => (some t461))) else (none)) = some r := by first | (rw [hy454]; with_reducible exact H) | (have H2_ := (Option.bind_some _ _).symm.trans H; rw [hy454]; with_reducible exact H2_) | (have H2_ := (Option.bind_some _ _).symm.trans H; with_reducible exact H2_) | with_reducible exact H | (rw [hy454]; exact H) | exact H
  have Ny454 := Aside0.mk hy454
  clear hy454
  by_cases c8 : y454.length + l0_1.length < 17592186044416
  rotate_left
  · rw [if_neg c8] at H
    exact absurd H (by simp)
  rw [if_pos c8] at H
  have LMc8 := Aside0.mk c8
  clear c8
  obtain ⟨y457, hy457⟩ : ∃ y_ : List Int, y_ = (y454 ++ l0_1) := ⟨_, rfl⟩
  replace H : ((slices_Sort_int_int.f y457).bind fun t460 => ((slices_Compact_int_int.f t460).bind fun t461 => (some t461))) = some r := by first | (rw [hy457]; with_reducible exact H) | (have H2_ := (Option.bind_some _ _).symm.trans H; rw [hy457]; with_reducible exact H2_) | (have H2_ := (Option.bind_some _ _).symm.trans H; with_reducible exact H2_) | with_reducible exact H | (rw [hy457]; exact H) | exact H
  have Ny457 := Aside0.mk hy457
  clear hy457
  replace H := Option.bind_eq_some_iff.mp H
  obtain ⟨t460, A90, H⟩ := H
  replace H : ((slices_Compact_int_int.f t460).bind fun t461 => (some t461)) = some r := H
  have A9 := Aside0.mk A90
  clear A90
  replace H := Option.bind_eq_some_iff.mp H
  obtain ⟨t461, A100, H⟩ := H
  replace H : (some t461) = some r := H
  have A10 := Aside0.mk A100
  clear A100
  obtain rfl := Option.some.inj H
  try go_wp2
  have n0_ := Aside0.mk (blk_drew BK449.out)
  have n1_ := Aside0.mk (below_drew1 HB.out)
  clear BK449
  clear HB
  have BK449 := n0_
  have HB := n1_
  clear n0_ n1_
  refine start_ (n := 8) (S := fun w' => w'.cell? ⟨gb449, 0, none⟩ = some (.slice A0_0 l0_0.length c0_0) ∧ w'.cell? ⟨gb449, 1, none⟩ = some (.slice A0_1 l0_1.length c0_1) ∧ w'.cell? ⟨gb449, 2, none⟩ = some (.slice A0_2 l0_2.length c0_2)) (ds := []) #[false, false, false, false, false, false, false, false] (by kernel_rfl) rfl rfl ⟨(blk_cell BK449.out 0).trans rfl, (blk_cell BK449.out 1).trans rfl, (blk_cell BK449.out 2).trans rfl⟩ (fun hHeld => ?_); refine with_tabW impl_Voters.tab3 impl_Voters.bits3 (fun HT_ HW_ => ?_)
  generalize w5.drew = w11 at BK449 HB hHeld ⊢
  refine pure_ (i := 1) (N := some 8) (v := ?_) (a' := ?_) #[false, true, false, false, false, false, false, false] rfl rfl (any_of HT_.out (by kernel_rfl)) (fun _ _ _ h => h) (Or.inl ⟨by rfl, ?_⟩) ?_ ?_
  rotate_left
  · intro w'
    go_simp
    with_reducible rfl
  rotate_left
  · simp only [Act.put, List.setIfInBounds_toArray, List.set_cons_zero, List.set_cons_succ, i64_w, i32_w]
    rfl
  refine pure_ (i := 4) (N := some 11) (v := ?_) (a' := ?_) #[false, true, false, false, true, false, false, false] rfl rfl (any_of HT_.out (by kernel_rfl)) (fun _ _ _ h => h) (Or.inl ⟨by rfl, ?_⟩) ?_ ?_
  rotate_left
  · intro w'
    go_simp
    with_reducible rfl
  rotate_left
  · simp only [Act.put, List.setIfInBounds_toArray, List.set_cons_zero, List.set_cons_succ, i64_w, i32_w]
    rfl
  refine take_ (i := 2) (N := some 9) (v := ?_) (a' := ?_) #[false, true, true, false, true, false, false, false] rfl rfl (take_ofW HT_.out HW_.out (by kernel_rfl)) (fun _ _ _ h => h) (Or.inl ⟨by rfl, ?_⟩) hHeld ?_ ?_
  rotate_left
  · rintro w' ⟨s0, s1, s2⟩
    go_simp
    with_reducible rfl
  rotate_left
  · simp only [Act.put, List.setIfInBounds_toArray, List.set_cons_zero, List.set_cons_succ, i64_w, i32_w]
    rfl
  refine take_ (i := 5) (N := some 12) (v := ?_) (a' := ?_) #[false, true, true, false, true, true, false, false] rfl rfl (take_ofW HT_.out HW_.out (by kernel_rfl)) (fun _ _ _ h => h) (Or.inl ⟨by rfl, ?_⟩) hHeld ?_ ?_
  rotate_left
  · rintro w' ⟨s0, s1, s2⟩
    go_simp
    with_reducible rfl
  rotate_left
  · simp only [Act.put, List.setIfInBounds_toArray, List.set_cons_zero, List.set_cons_succ, i64_w, i32_w]
    rfl
  refine one_ (i := 0) (N := some 7) #[true, true, true, false, true, true, false, false] rfl rfl (one_of HT_.out (by kernel_rfl)) (by decide) (fun K hK => ?_)
  refine Kd.R_lit_step (Kd.int .i64) _ 3 ?hg (N := 7) ?hd (xs := ([] : List Int)) (inner := []) (ok := fun _ => True) (okp := fun _ => True) ?hr ?hp (fun _ hk => hk) trivial (Below.refl _ _) (Nat.le_refl _) (by simp) ?_; (case hd => rfl); (case hg => rfl); (case hr => first | (go_simp; done) | (go_simp; rfl)); (case hp => exact (Reps.none _ _))
  intro v452 w12 ho13 hb hg_ hnew_
  clear hg_ hnew_
  (first | rw [← Ny451.out] at ho13 | (simp only [Int.reduceToNat] at ho13; rw [← Ny451.out] at ho13))
  have n0_ := Aside0.mk (Kd.R_lower ho13 (below_size u9_0))
  have n1_ := Aside0.mk (blk_below (g := gb449) (o := .cells #[.slice A0_0 l0_0.length c0_0, .slice A0_1 l0_1.length c0_1, .slice A0_2 l0_2.length c0_2] 26 (0, 0)) u9_4 hb)
  have n2_ := Aside0.mk (below_step u9_0 hb)
  clear BK449
  clear HB
  have HO453 := n0_
  have BK449 := n1_
  have HB := n2_
  clear n0_ n1_ n2_
  clear hb ho13
  refine hK.out _ _ ⟨(blk_cell BK449.out 0).trans rfl, (blk_cell BK449.out 1).trans rfl, (blk_cell BK449.out 2).trans rfl⟩ (fun hHeld => ?_)
  clear hK K
  refine norm_ (a' := ?_) ?_ ?_
  rotate_left
  · show Act.put _ (some 7) _ = _
    simp only [Act.put, List.setIfInBounds_toArray, List.set_cons_zero, List.set_cons_succ, i64_w, i32_w]
    rfl
  refine one_ (i := 3) (N := some 10) #[true, true, true, true, true, true, false, false] rfl rfl (one_of HT_.out (by kernel_rfl)) (by decide) (fun K hK => ?_)
  refine Kd.R_append_rows_step (Kd.int .i64) (w0 := w) w.heap.size (by rfl) (.tmp 7) (.tmp 9) 24 3 (.int .i64 0) 8 rfl Try.underlying24 info3 rfl (by decide) (by omega) v452 y451 l0_0 _ _ _ (fun _ => True) (fun _ => False) rfl rfl ?aO ?aR (fun _ _ h => h) (fun _ h => h.elim) ?aF ?aB ?aS ?aL ?_
  (case aR => repeat (first | exact (Kd.C_below HR0_0.out HB.out) | (with_reducible refine Kd.C_alloc ?_ _) | (with_reducible refine Kd.C_drewN ?_ _) | (with_reducible refine Kd.C_drew ?_)))
  (case aB => exact u9_0)
  (case aF => exact (fun _ _ => trivial))
  (case aO => exact (by (with_reducible repeat (first | apply Kd.R_alloc | apply Kd.R_drewN | apply Kd.R_drew)); exact HO453.out))
  (case aS => exact (below_size u9_0))
  (case aL => have := LMc7.out; omega)
  intro v455 w14 ho hb hg hat
  rw [← Ny454.out] at ho
  have n0_ := Aside0.mk (blk_grown (g := gb449) (o := .cells #[.slice A0_0 l0_0.length c0_0, .slice A0_1 l0_1.length c0_1, .slice A0_2 l0_2.length c0_2] 26 (0, 0)) u9_4 hg (Kd.R_ne HO453.out BK449.out (by decide)))
  have n1_ := Aside0.mk (hb)
  have n2_ := Aside0.mk (ho)
  clear BK449
  clear HB
  clear HO453
  have BK449 := n0_
  have HB := n1_
  have HO456 := n2_
  clear n0_ n1_ n2_
  clear ho hb hg hat
  refine hK.out _ _ ⟨(blk_cell BK449.out 0).trans rfl, (blk_cell BK449.out 1).trans rfl, (blk_cell BK449.out 2).trans rfl⟩ (fun hHeld => ?_)
  clear hK K
  refine norm_ (a' := ?_) ?_ ?_
  rotate_left
  · show Act.put _ (some 10) _ = _
    simp only [Act.put, List.setIfInBounds_toArray, List.set_cons_zero, List.set_cons_succ, i64_w, i32_w]
    rfl
  refine one_ (i := 6) (N := some 13) #[true, true, true, true, true, true, true, false] rfl rfl (one_of HT_.out (by kernel_rfl)) (by decide) (fun K hK => ?_)
  refine Kd.R_append_rows_step (Kd.int .i64) (w0 := w) w.heap.size (by rfl) (.tmp 10) (.tmp 12) 24 3 (.int .i64 0) 8 rfl Try.underlying24 info3 rfl (by decide) (by omega) v455 y454 l0_1 _ _ _ (fun _ => True) (fun _ => False) rfl rfl ?aO ?aR (fun _ _ h => h) (fun _ h => h.elim) ?aF ?aB ?aS ?aL ?_
  (case aR => repeat (first | exact (Kd.C_below HR0_1.out HB.out) | (with_reducible refine Kd.C_alloc ?_ _) | (with_reducible refine Kd.C_drewN ?_ _) | (with_reducible refine Kd.C_drew ?_)))
  (case aB => exact u9_0)
  (case aF => exact (fun _ _ => trivial))
  (case aO => exact (by (with_reducible repeat (first | apply Kd.R_alloc | apply Kd.R_drewN | apply Kd.R_drew)); exact HO456.out))
  (case aS => exact (below_size u9_0))
  (case aL => have := LMc8.out; omega)
  intro v458 w15 ho hb hg hat
  rw [← Ny457.out] at ho
  have n0_ := Aside0.mk (blk_grown (g := gb449) (o := .cells #[.slice A0_0 l0_0.length c0_0, .slice A0_1 l0_1.length c0_1, .slice A0_2 l0_2.length c0_2] 26 (0, 0)) u9_4 hg (Kd.R_ne HO456.out BK449.out (by decide)))
  have n1_ := Aside0.mk (hb)
  have n2_ := Aside0.mk (ho)
  clear BK449
  clear HB
  clear HO456
  have BK449 := n0_
  have HB := n1_
  have HO459 := n2_
  clear n0_ n1_ n2_
  clear ho hb hg hat
  refine hK.out _ _ ⟨(blk_cell BK449.out 0).trans rfl, (blk_cell BK449.out 1).trans rfl, (blk_cell BK449.out 2).trans rfl⟩ (fun hHeld => ?_)
  clear hK K
  refine norm_ (a' := ?_) ?_ ?_
  rotate_left
  · show Act.put _ (some 13) _ = _
    simp only [Act.put, List.setIfInBounds_toArray, List.set_cons_zero, List.set_cons_succ, i64_w, i32_w]
    rfl
  refine pure_ (i := 7) (N := some 3) (v := ?_) (a' := ?_) #[true, true, true, true, true, true, true, true] rfl rfl (any_of HT_.out (by kernel_rfl)) (fun _ _ _ h => h) (Or.inl ⟨by rfl, ?_⟩) ?_ ?_
  rotate_left
  · intro w'
    go_simp
    with_reducible rfl
  rotate_left
  · simp only [Act.put, List.setIfInBounds_toArray, List.set_cons_zero, List.set_cons_succ, i64_w, i32_w]
    rfl
  refine done_ (done_of HT_.out (by kernel_rfl)) ?_
  obtain ⟨Ao16, co16, eo16⟩ := Kd.R_slice HO459.out
  subst eo16
  try go_wp2_with (first | ((with_reducible refine gate_callee (f := 50) rfl ?_); refine goesL_ (some 15) rfl rfl Try.func50 (by kernel_rfl) rfl #[.slice Ao16 y457.length co16] rfl u9_2 ?_; (with_reducible refine (slices_Sort_int_int.calls (fun k_ => some k_ = (.slice Ao16 y457.length co16 : Value).ownBlock) (.slice Ao16 y457.length co16) y457 t460 w _ ?side1 ?side2 A9.out).mono ?_); (case side1 => exact u9_0); (case side2 => exact Kd.R_tight rfl HO459.out); rintro e w17 ⟨rfl, hy0, hb, hkp⟩; refine ⟨_, rfl, ?_⟩; have n0_ := Aside0.mk (blk_kept u9_4 hkp (fun hs_ => (fun e_ => (Kd.R_ne HO459.out BK449.out (by decide)) e_) hs_)); have n1_ := Aside0.mk (Kd.R_reok rfl hy0 (fun k_ e_ => HO459.out.1 k_ e_)); have n2_ := Aside0.mk (hb); clear BK449; clear HO459; clear HB; have BK449 := n0_; have HO459 := n1_; have HB := n2_; clear n0_ n1_ n2_; (try clear hb); (try clear hkp); (try clear hy0)) | ((with_reducible refine gate_callee (f := 51) rfl ?_); refine goesL_ (some 17) rfl rfl Try.func51 (by kernel_rfl) rfl #[.slice Ao16 y457.length co16] rfl u9_2 ?_; (with_reducible refine (slices_Compact_int_int.calls (fun k_ => some k_ = (.slice Ao16 y457.length co16 : Value).ownBlock) (.slice Ao16 y457.length co16) t460 t461 w _ ?side1 ?side2 A10.out).mono ?_); (case side1 => exact u9_0); (case side2 => exact Kd.R_tight rfl HO459.out); rintro e w18 ⟨v462, rfl, ho0, hb, hkp⟩; refine ⟨_, rfl, ?_⟩; have n0_ := Aside0.mk (blk_kept u9_4 hkp (fun hs_ => (fun e_ => (Kd.R_ne HO459.out BK449.out (by decide)) e_) hs_)); have n1_ := Aside0.mk (Kd.R_mono (ok' := fun k_ => True) ho0 (fun k_ hk_ => trivial)); have n2_ := Aside0.mk (hb); clear BK449; clear HB; clear HO459; have BK449 := n0_; have HO463 := n1_; have HB := n2_; clear n0_ n1_ n2_; (try clear hb); (try clear hkp); (try clear ho0)))
  go_ret
  exact ⟨_, by first | rfl | (simp [errW_none, errW_some] <;> rfl) | (simp [*, errW_none, errW_some] <;> rfl), (by (with_reducible repeat (first | apply Kd.R_alloc | apply Kd.R_drewN | apply Kd.R_drew)); exact HO463.out), u9_0⟩

/-! ### impl_hasMajority: function 84 -/
def impl_hasMajority.l0 : Nat → List Int → List Int → Int → List Int → Int → Int → Option (Bool)
  | 0, _, _, _, _, _, _ => none
  | k + 1, x0, x1, x5, x8, x9, x10 => if x10 < x9 then (if 0 ≤ x10 then (if x10 < (x8.length : Int) then ((slices_Contains_int_int.f k x1 (rd x8 x10)).bind fun t465 => (if t465 = true then (impl_hasMajority.l0 k x0 x1 (wrap64 (x5 + 1)) x8 x9 (wrap64 (x10 + 1))) else (impl_hasMajority.l0 k x0 x1 x5 x8 x9 (wrap64 (x10 + 1))))) else (none)) else (none)) else (some (decide ((wrap64 (2 * x5)) > (x0.length : Int))))
def impl_hasMajority.f (k : Nat) (l0 : List Int) (l1 : List Int) : Option (Bool) := impl_hasMajority.l0 k l0 l1 0 l0 (l0.length : Int) 0
theorem impl_hasMajority.mono_l : ∀ k, (∀ y0 y1 y2 y3 y4 y5, LeO (impl_hasMajority.l0 k y0 y1 y2 y3 y4 y5) (impl_hasMajority.l0 (k + 1) y0 y1 y2 y3 y4 y5))
  | 0 => fun _ _ _ _ _ _ r h => by simp [impl_hasMajority.l0] at h
  | k + 1 => by
    have ih0 := impl_hasMajority.mono_l k
    · intro y0 y1 y2 y3 y4 y5
      unfold impl_hasMajority.l0
      repeat' first
      | (with_reducible exact ih0 _ _ _ _ _ _)
      | (with_reducible exact slices_Contains_int_int.mono _ _ _)
      | (with_reducible exact LeO.refl _)
      | (with_reducible exact LeO.none _)
      | (with_reducible refine LeO.ite ?_ ?_)
      | (with_reducible refine LeO.bind ?_ (fun _ => ?_))
      | exact ih0 _ _ _ _ _ _
      | exact slices_Contains_int_int.mono _ _ _
      | exact LeO.none _
      | refine LeO.ite ?_ ?_
      | refine LeO.bind ?_ (fun _ => ?_)
theorem impl_hasMajority.mono : ∀ a0 a1 k, LeO (impl_hasMajority.f k a0 a1) (impl_hasMajority.f (k + 1) a0 a1) := by
  intro a0 a1 k
  have ih0 := impl_hasMajority.mono_l k
  unfold impl_hasMajority.f
  repeat' first
      | (with_reducible exact ih0 _ _ _ _ _ _)
      | (with_reducible exact slices_Contains_int_int.mono _ _ _)
      | (with_reducible exact LeO.refl _)
      | (with_reducible exact LeO.none _)
      | (with_reducible refine LeO.ite ?_ ?_)
      | (with_reducible refine LeO.bind ?_ (fun _ => ?_))
      | exact ih0 _ _ _ _ _ _
      | exact slices_Contains_int_int.mono _ _ _
      | exact LeO.none _
      | refine LeO.ite ?_ ?_
      | refine LeO.bind ?_ (fun _ => ?_)
set_option maxHeartbeats 8000000 in
set_option maxRecDepth 100000 in
theorem impl_hasMajority.calls (k : Nat) (A0 : Option Addr) (c0 : Nat) (l0 : List Int) (A1 : Option Addr) (c1 : Nat) (l1 : List Int) (r : Bool) (w : World) (hr0 : Kd.C (Kd.int .i64) w A0 l0.length l0) (hc0 : l0.length ≤ c0) (hr1 : Kd.C (Kd.int .i64) w A1 l1.length l1) (hc1 : l1.length ≤ c1) (h : impl_hasMajority.f k l0 l1 = some r) :
    Calls Try.prog 84 #[.slice A0 l0.length c0, .slice A1 l1.length c1] w fun e w' => e = .returned (.bool r) ∧ Drawn0 w w' := by
  have HR0 := Aside0.mk hr0
  have HC0 := Aside0.mk hc0
  clear hr0 hc0
  have HR1 := Aside0.mk hr1
  have HC1 := Aside0.mk hc1
  clear hr1 hc1
  have H : (impl_hasMajority.l0 k l0 l1 0 l0 (l0.length : Int) 0) = some r := h
  clear h
  have H' := Aside0.mk H
  clear H
  go_enter Try.func84, Try.ntmps84
  go_wp2
  go_loopg [5, 10] k (fun kq v5 v10 w' => ∃ (x5_1 : Int) (x10_1 : Int), v5 = .int .i64 x5_1 ∧ v10 = .int .i64 x10_1 ∧ Aside0 (impl_hasMajority.l0 kq l0 l1 x5_1 l0 (l0.length : Int) x10_1 = some r) ∧ Aside0 (kq ≤ k) ∧ Drawn0 w w')
  case atStart => exact ⟨(0), (0), u9_7, u9_7, H', ⟨Nat.le_refl _⟩, u9_8⟩
  clear H'
  try clear c1
  try clear p2
  obtain ⟨x5_1, x10_1, rfl, rfl, HA, HK1, ⟨m1, rfl⟩⟩ := hrel
  cases gk with
  | zero => exact absurd HA.out (by simp [impl_hasMajority.l0])
  | succ k1 =>
    have H := HA.out
    clear HA
    simp only [impl_hasMajority.l0] at H
    by_cases c3 : x10_1 < (l0.length : Int)
    rotate_left
    · rw [if_neg c3] at H
      have c3b0 : decide (x10_1 < (l0.length : Int)) = false := decide_eq_false c3
      clear c3
      obtain rfl := Option.some.inj H
      go_wp2
      go_ret
      exact ⟨by first | rfl | (simp; done) | (simp [*]; done), u9_8⟩
    rw [if_pos c3] at H
    have c3b0 : decide (x10_1 < (l0.length : Int)) = true := decide_eq_true c3
    clear c3
    by_cases c4 : 0 ≤ x10_1
    rotate_left
    · rw [if_neg c4] at H
      exact absurd H (by simp)
    rw [if_pos c4] at H
    have c4b0 : decide (0 ≤ x10_1) = true := decide_eq_true c4
    clear c4
    by_cases c5 : x10_1 < (l0.length : Int)
    rotate_left
    · rw [if_neg c5] at H
      exact absurd H (by simp)
    rw [if_pos c5] at H
    have c5b0 : decide (x10_1 < (l0.length : Int)) = true := decide_eq_true c5
    clear c5
    replace H := Option.bind_eq_some_iff.mp H
    obtain ⟨t465, A60, H⟩ := H
    have A6 := Aside0.mk A60
    clear A60
    have H9 := Aside0.mk H
    clear H
    have p464 : 0 ≤ (x10_1 : Int) := of_decide_eq_true (by first | (with_reducible assumption) | assumption)
    have q464 : x10_1 < (l0.length : Int) := of_decide_eq_true (by first | (with_reducible assumption) | assumption)
    obtain ⟨ad464, e464, hx464_0⟩ := Kd.at_int HR0.out x10_1 p464 q464
    cases e464
    replace p464 := eq_true p464
    replace q464 := eq_true q464
    go_upto_if 16 with (first | ((with_reducible refine gate_callee (f := 71) rfl ?_); refine goesL_ (some 16) rfl rfl Try.func71 (by kernel_rfl) rfl #[.slice A1 l1.length c1, .int .i64 (rd l0 x10_1)] rfl u9_2 ?_; (with_reducible refine (slices_Contains_int_int.calls k1 _ _ l1 (rd l0 x10_1) t465 _ ?side1 ?side2 A6.out).mono ?_); (case side1 => exact (by repeat (first | exact HR1.out | (with_reducible refine Kd.C_alloc ?_ _) | (with_reducible refine Kd.C_drewN ?_ _) | (with_reducible refine Kd.C_drew ?_)))); (case side2 => exact HC1.out); rintro e w' ⟨rfl, ⟨nd, rfl⟩⟩; refine ⟨_, rfl, ?_⟩))
    have H := H9.out
    clear H9
    by_cases c7 : t465 = true
    · subst c7
      rw [if_pos rfl] at H
      have H' := Aside0.mk H
      clear H
      go_wp2
      go_roundg k1
      case measure => have := HK1.out; omega
      case rel => exact ⟨(wrap64 (x5_1 + 1)), (wrap64 (x10_1 + 1)), u9_7, u9_7, H', ⟨by have := HK1.out; omega⟩, u9_8⟩
    replace c7 := Bool.eq_false_iff.mpr c7
    subst c7
    rw [if_neg (show ¬ (false = true) by decide)] at H
    have H' := Aside0.mk H
    clear H
    go_wp2
    go_roundg k1
    case measure => have := HK1.out; omega
    case rel => exact ⟨(x5_1), (wrap64 (x10_1 + 1)), u9_7, u9_7, H', ⟨by have := HK1.out; omega⟩, u9_8⟩

/-! ### impl_quorum: function 65 -/
def impl_quorum.f (k : Nat) (l0_0 : List Int) (l0_1 : List Int) (l0_2 : List Int) (l1 : List Int) : Option (Bool) := (impl_hasMajority.f k l0_0 l1).bind fun t467 => (if t467 = true then (if (l0_1.length : Int) = 0 then (some true) else ((impl_hasMajority.f k l0_1 l1).bind fun t468 => (some t468))) else (some false))
theorem impl_quorum.mono : ∀ a0 a1 a2 a3 k, LeO (impl_quorum.f k a0 a1 a2 a3) (impl_quorum.f (k + 1) a0 a1 a2 a3) := by
  intro a0 a1 a2 a3 k
  unfold impl_quorum.f
  repeat' first
      | (with_reducible exact impl_hasMajority.mono _ _ _)
      | (with_reducible exact LeO.refl _)
      | (with_reducible exact LeO.none _)
      | (with_reducible refine LeO.ite ?_ ?_)
      | (with_reducible refine LeO.bind ?_ (fun _ => ?_))
      | exact impl_hasMajority.mono _ _ _
      | exact LeO.none _
      | refine LeO.ite ?_ ?_
      | refine LeO.bind ?_ (fun _ => ?_)
set_option maxHeartbeats 8000000 in
set_option maxRecDepth 100000 in
theorem impl_quorum.calls (k : Nat) (A0_0 : Option Addr) (c0_0 : Nat) (l0_0 : List Int) (A0_1 : Option Addr) (c0_1 : Nat) (l0_1 : List Int) (A0_2 : Option Addr) (c0_2 : Nat) (l0_2 : List Int) (A1 : Option Addr) (c1 : Nat) (l1 : List Int) (r : Bool) (w : World) (hr0_0 : Kd.C (Kd.int .i64) w A0_0 l0_0.length l0_0) (hc0_0 : l0_0.length ≤ c0_0) (hr0_1 : Kd.C (Kd.int .i64) w A0_1 l0_1.length l0_1) (hc0_1 : l0_1.length ≤ c0_1) (hr0_2 : Kd.C (Kd.int .i64) w A0_2 l0_2.length l0_2) (hc0_2 : l0_2.length ≤ c0_2) (hr1 : Kd.C (Kd.int .i64) w A1 l1.length l1) (hc1 : l1.length ≤ c1) (h : impl_quorum.f k l0_0 l0_1 l0_2 l1 = some r) :
    Calls Try.prog 65 #[.agg #[.slice A0_0 l0_0.length c0_0, .slice A0_1 l0_1.length c0_1, .slice A0_2 l0_2.length c0_2], .slice A1 l1.length c1] w fun e w' => e = .returned (.bool r) ∧ Below w.heap.size w w' := by
  have hu26 := Try.underlying26
  have HR0_0 := Aside0.mk hr0_0
  have HC0_0 := Aside0.mk hc0_0
  clear hr0_0 hc0_0
  have HR0_1 := Aside0.mk hr0_1
  have HC0_1 := Aside0.mk hc0_1
  clear hr0_1 hc0_1
  have HR0_2 := Aside0.mk hr0_2
  have HC0_2 := Aside0.mk hc0_2
  clear hr0_2 hc0_2
  have HR1 := Aside0.mk hr1
  have HC1 := Aside0.mk hc1
  clear hr1 hc1
  have HB := Aside0.mk (Below.refl w.heap.size w)
  have H : ((impl_hasMajority.f k l0_0 l1).bind fun t467 => (if t467 = true then (if (l0_1.length : Int) = 0 then (some true) else ((impl_hasMajority.f k l0_1 l1).bind fun t468 => (some t468))) else (some false))) = some r := h
  clear h
  replace H := Option.bind_eq_some_iff.mp H
  obtain ⟨t467, A30, H⟩ := H
  have A3 := Aside0.mk A30
  clear A30
  by_cases c4 : t467 = true
  rotate_left
  · replace c4 := Bool.eq_false_iff.mpr c4
    subst c4
    rw [if_neg (show ¬ (false = true) by decide)] at H
    obtain rfl := Option.some.inj H
    go_enter Try.func65, Try.ntmps65
    go_wp2_with (first | ((with_reducible refine gate_dst (N := 2) rfl ?_); (try (refine gate_guard (by rfl) ?_; dsimp only)); refine box_event ?hg (N := 2) ?hd (cs := #[.slice A0_0 l0_0.length c0_0, .slice A0_1 l0_1.length c0_1, .slice A0_2 l0_2.length c0_2]) (t := 26) ?hr ?_; (case hd => rfl); (case hg => rfl); (case hr => first | (go_simp; done) | (go_simp; rfl)); intro gb466 hg w11 hbox hb; have n0_ := Aside0.mk (below_step u9_1 hb); have n1_ := Aside0.mk (hbox); have n2_ := Aside0.mk ((by rw [hg]; exact (below_size u9_1) : w.heap.size ≤ gb466)); have n3_ := Aside0.mk ((by rw [hg]; exact (below_size u9_1) : w.heap.size ≤ gb466)); clear HB; have HB := n0_; have BK466 := n1_; have GW466 := n2_; have GE466 := n3_; clear n0_ n1_ n2_ n3_; clear hb hbox hg; have hcz12_0 : w11.cell? ⟨gb466, 0, none⟩ = some (.slice A0_0 l0_0.length c0_0) := (blk_cell BK466.out 0).trans rfl; have hcz12_1 : w11.cell? ⟨gb466, 1, none⟩ = some (.slice A0_1 l0_1.length c0_1) := (blk_cell BK466.out 1).trans rfl; have hcz12_2 : w11.cell? ⟨gb466, 2, none⟩ = some (.slice A0_2 l0_2.length c0_2) := (blk_cell BK466.out 2).trans rfl; have hfz12_0 := blk_frozen BK466.out 0; have hfz12_1 := blk_frozen BK466.out 1; have hfz12_2 := blk_frozen BK466.out 2) | ((with_reducible refine gate_callee (f := 84) rfl ?_); refine goesL_ (some 8) rfl rfl Try.func84 (by kernel_rfl) rfl #[.slice A0_0 l0_0.length c0_0, .slice A1 l1.length c1] rfl u9_2 ?_; (with_reducible refine (impl_hasMajority.calls k _ _ l0_0 _ _ l1 false _ ?side1 ?side2 ?side3 ?side4 A3.out).mono ?_); (case side1 => exact u9_5); (case side2 => exact HC0_0.out); (case side3 => exact u9_6); (case side4 => exact HC1.out); rintro e w' ⟨rfl, ⟨nd, rfl⟩⟩; refine ⟨_, rfl, ?_⟩))
    go_ret
    exact ⟨by first | rfl | (simp [errW_none, errW_some] <;> rfl) | (simp [*, errW_none, errW_some] <;> rfl), u9_3⟩
  subst c4
  rw [if_pos rfl] at H
  by_cases c5 : (l0_1.length : Int) = 0
  · rw [if_pos c5] at H
    have c5b0 : ((l0_1.length : Int) == 0) = true := beq_iff_eq.mpr c5
    have c5b1 : ((l0_1.length : Int) != 0) = false := bne_eq_false_iff_eq.mpr c5
    clear c5
    obtain rfl := Option.some.inj H
    go_enter Try.func65, Try.ntmps65
    go_wp2_with (first | ((with_reducible refine gate_dst (N := 2) rfl ?_); (try (refine gate_guard (by rfl) ?_; dsimp only)); refine box_event ?hg (N := 2) ?hd (cs := #[.slice A0_0 l0_0.length c0_0, .slice A0_1 l0_1.length c0_1, .slice A0_2 l0_2.length c0_2]) (t := 26) ?hr ?_; (case hd => rfl); (case hg => rfl); (case hr => first | (go_simp; done) | (go_simp; rfl)); intro gb466 hg w6 hbox hb; have n0_ := Aside0.mk (below_step u9_1 hb); have n1_ := Aside0.mk (hbox); have n2_ := Aside0.mk ((by rw [hg]; exact (below_size u9_1) : w.heap.size ≤ gb466)); have n3_ := Aside0.mk ((by rw [hg]; exact (below_size u9_1) : w.heap.size ≤ gb466)); clear HB; have HB := n0_; have BK466 := n1_; have GW466 := n2_; have GE466 := n3_; clear n0_ n1_ n2_ n3_; clear hb hbox hg; have hcz7_0 : w6.cell? ⟨gb466, 0, none⟩ = some (.slice A0_0 l0_0.length c0_0) := (blk_cell BK466.out 0).trans rfl; have hcz7_1 : w6.cell? ⟨gb466, 1, none⟩ = some (.slice A0_1 l0_1.length c0_1) := (blk_cell BK466.out 1).trans rfl; have hcz7_2 : w6.cell? ⟨gb466, 2, none⟩ = some (.slice A0_2 l0_2.length c0_2) := (blk_cell BK466.out 2).trans rfl; have hfz7_0 := blk_frozen BK466.out 0; have hfz7_1 := blk_frozen BK466.out 1; have hfz7_2 := blk_frozen BK466.out 2) | ((with_reducible refine gate_callee (f := 84) rfl ?_); refine goesL_ (some 8) rfl rfl Try.func84 (by kernel_rfl) rfl #[.slice A0_0 l0_0.length c0_0, .slice A1 l1.length c1] rfl u9_2 ?_; (with_reducible refine (impl_hasMajority.calls k _ _ l0_0 _ _ l1 true _ ?side1 ?side2 ?side3 ?side4 A3.out).mono ?_); (case side1 => exact u9_5); (case side2 => exact HC0_0.out); (case side3 => exact u9_6); (case side4 => exact HC1.out); rintro e w' ⟨rfl, ⟨nd, rfl⟩⟩; refine ⟨_, rfl, ?_⟩))
    go_ret
    exact ⟨by first | rfl | (simp [errW_none, errW_some] <;> rfl) | (simp [*, errW_none, errW_some] <;> rfl), u9_3⟩
  rw [if_neg c5] at H
  have c5b0 : ((l0_1.length : Int) == 0) = false := beq_eq_false_iff_ne.mpr c5
  have c5b1 : ((l0_1.length : Int) != 0) = true := bne_iff_ne.mpr c5
  have c5b2 : ¬ (l0_1 = []) := fun h_ => c5 (by rw [h_]; rfl)
  replace H := Option.bind_eq_some_iff.mp H
  obtain ⟨t468, A80, H⟩ := H
  replace H : (some t468) = some r := H
  have A8 := Aside0.mk A80
  clear A80
  obtain rfl := Option.some.inj H
  go_enter Try.func65, Try.ntmps65
  go_wp2_with (first | ((with_reducible refine gate_dst (N := 2) rfl ?_); (try (refine gate_guard (by rfl) ?_; dsimp only)); refine box_event ?hg (N := 2) ?hd (cs := #[.slice A0_0 l0_0.length c0_0, .slice A0_1 l0_1.length c0_1, .slice A0_2 l0_2.length c0_2]) (t := 26) ?hr ?_; (case hd => rfl); (case hg => rfl); (case hr => first | (go_simp; done) | (go_simp; rfl)); intro gb466 hg w9 hbox hb; have n0_ := Aside0.mk (below_step u9_1 hb); have n1_ := Aside0.mk (hbox); have n2_ := Aside0.mk ((by rw [hg]; exact (below_size u9_1) : w.heap.size ≤ gb466)); have n3_ := Aside0.mk ((by rw [hg]; exact (below_size u9_1) : w.heap.size ≤ gb466)); clear HB; have HB := n0_; have BK466 := n1_; have GW466 := n2_; have GE466 := n3_; clear n0_ n1_ n2_ n3_; clear hb hbox hg; have hcz10_0 : w9.cell? ⟨gb466, 0, none⟩ = some (.slice A0_0 l0_0.length c0_0) := (blk_cell BK466.out 0).trans rfl; have hcz10_1 : w9.cell? ⟨gb466, 1, none⟩ = some (.slice A0_1 l0_1.length c0_1) := (blk_cell BK466.out 1).trans rfl; have hcz10_2 : w9.cell? ⟨gb466, 2, none⟩ = some (.slice A0_2 l0_2.length c0_2) := (blk_cell BK466.out 2).trans rfl; have hfz10_0 := blk_frozen BK466.out 0; have hfz10_1 := blk_frozen BK466.out 1; have hfz10_2 := blk_frozen BK466.out 2) | ((with_reducible refine gate_callee (f := 84) rfl ?_); refine goesL_ (some 8) rfl rfl Try.func84 (by kernel_rfl) rfl #[.slice A0_0 l0_0.length c0_0, .slice A1 l1.length c1] rfl u9_2 ?_; (with_reducible refine (impl_hasMajority.calls k _ _ l0_0 _ _ l1 true _ ?side1 ?side2 ?side3 ?side4 A3.out).mono ?_); (case side1 => exact u9_5); (case side2 => exact HC0_0.out); (case side3 => exact u9_6); (case side4 => exact HC1.out); rintro e w' ⟨rfl, ⟨nd, rfl⟩⟩; refine ⟨_, rfl, ?_⟩) | (go_at_call 84; (with_reducible refine (impl_hasMajority.calls k _ _ l0_1 _ _ l1 t468 _ ?side1 ?side2 ?side3 ?side4 A8.out).mono ?_); (case side1 => exact (by repeat (first | exact (Kd.C_below HR0_1.out u9_3) | (with_reducible refine Kd.C_alloc ?_ _) | (with_reducible refine Kd.C_drewN ?_ _) | (with_reducible refine Kd.C_drew ?_)))); (case side2 => exact HC0_1.out); (case side3 => exact (by repeat (first | exact (Kd.C_below HR1.out u9_3) | (with_reducible refine Kd.C_alloc ?_ _) | (with_reducible refine Kd.C_drewN ?_ _) | (with_reducible refine Kd.C_drew ?_)))); (case side4 => exact HC1.out); rintro e w' ⟨rfl, ⟨nd, rfl⟩⟩))
  go_ret
  exact ⟨by first | rfl | (simp [errW_none, errW_some] <;> rfl) | (simp [*, errW_none, errW_some] <;> rfl), u9_3⟩

end Go.Proofs.Ytoemdmjdpikfbaa.QFnCommits
