-- Printed by the session's own program wip/prx.py.
import Derived.Test.YtfabcjkaoidmeaaQFnExactSplitRangex0
import Derived.Test.YtfabcjkaoidmeaaQFnExactSplitRangex2
import Derived.Test.YtfabcjkaoidmeaaQFnExactSplitRangex3
namespace Go.Proofs.Ytfabcjkaoidmeaa.QFnExactSplitRange
open Go.RowKit Go.Proofs.YtfabcjkaoidmeaaW.PrintWords Go.Proofs.YtfabcjkaoidmeaaW.PrintLast Go.Proofs.YtfabcjkaoidmeaaW.PrintMore
attribute [local go_sem] max2_int min2_int max_two min_two max_three min_three max_four min_four Go.Proofs.Ytfabcjkaoidmeaa.Set.isSome_setCell   -- for this text's walks alone
set_option linter.unusedVariables false
set_option linter.unusedSimpArgs false

-- squeezed
theorem u4_0 {P : Prop} (h : P := by repeat (first | (with_reducible first | exact HB.out | apply below_alloc | apply pw_below_drewN | apply below_drew1) | exact HB.out)) : P := h
theorem u4_1 {P : Prop} (h : P := by (try simp only [List.map_toArray, List.map_cons, List.map_nil]); first | done | rfl | (simp only [List.length_drop, List.length_take]; rfl)) : P := h
theorem u4_2 {P : Prop} (h : P := by repeat (first | (with_reducible first | exact HB.out | apply below_alloc | apply pw_below_drewN | apply below_drew1 | refine below_set ?_ GE133.out) | exact HB.out)) : P := h
theorem u4_3 {P : Prop} (h : P := by (with_reducible repeat (first | refine blk_drewN ?_ _ | refine blk_drew ?_ | refine blk_alloc ?_ _)); refine blk_put (cs := #[.int .u64 ((rd_T26 l0 t131).f0), .int .u64 ((rd_T26 l0 t131).f1), .int .i64 0]) ?_ 2 _ rfl; (with_reducible repeat (first | refine blk_drewN ?_ _ | refine blk_drew ?_ | refine blk_alloc ?_ _)); refine blk_put (cs := #[.int .u64 ((rd_T26 l0 t131).f0), .int .u64 0, .int .i64 0]) ?_ 1 _ rfl; (with_reducible repeat (first | refine blk_drewN ?_ _ | refine blk_drew ?_ | refine blk_alloc ?_ _)); refine blk_put (cs := #[.int .u64 0, .int .u64 0, .int .i64 0]) ?_ 0 _ rfl; (with_reducible repeat (first | refine blk_drewN ?_ _ | refine blk_drew ?_ | refine blk_alloc ?_ _)); exact BK133.out) : P := h
theorem u4_4 {P : Prop} (h : P := by (with_reducible repeat (first | refine blk_drewN ?_ _ | refine blk_drew ?_ | refine blk_alloc ?_ _)); exact BK133.out) : P := h
theorem u4_5 {P : Prop} (h : P := by first | (with_reducible assumption) | assumption) : P := h
theorem u4_6 {P : Prop} (h : P := by (with_reducible repeat (first | apply Kd.R_alloc | apply Kd.R_drewN | apply Kd.R_drew)); exact HO139.out) : P := h
theorem u4_7 {P : Prop} (h : P := by simp only [Nat.min_def]; split <;> omega) : P := h
theorem u4_8 {P : Prop} (h : P := by first | rfl | (simp; done) | (simp [*]; done)) : P := h
/-! ### impl_findRange: function 59 -/
def idxB {α : Type} (p : α → Bool) (xs : List α) : Int := match xs.findIdx? p with | some i => (i : Int) | none => -1
theorem idxB_hit {α : Type} (p : α → Bool) (xs : List α) (z : α) (i : Nat) (hi : i < xs.length) (h : p (xs.getD i z) = true) (hb : ∀ j, j < i → p (xs.getD j z) = false) : idxB p xs = (i : Int) := by
  have e : xs.findIdx? p = some i := by
    rw [List.findIdx?_eq_some_iff_getElem]
    refine ⟨hi, ?_, fun j hj => ?_⟩
    · rw [List.getD_eq_getElem?_getD, List.getElem?_eq_getElem hi] at h
      exact h
    · have := hb j hj
      rw [List.getD_eq_getElem?_getD, List.getElem?_eq_getElem (by omega)] at this
      simpa using this
  unfold idxB
  rw [e]
theorem idxB_miss {α : Type} (p : α → Bool) (xs : List α) (z : α) (hb : ∀ j, j < xs.length → p (xs.getD j z) = false) : idxB p xs = -1 := by
  have e : xs.findIdx? p = none := by
    rw [List.findIdx?_eq_none_iff]
    intro x hx
    obtain ⟨j, hj, rfl⟩ := List.mem_iff_getElem.1 hx
    have := hb j hj
    rw [List.getD_eq_getElem?_getD, List.getElem?_eq_getElem hj] at this
    exact this
  unfold idxB
  rw [e]
def impl_findRange.f (l0 : List S26) (a1 : Int) : Option Int := some (idxB (fun r => decide (a1 ≤ r.f1)) l0)
set_option maxHeartbeats 400000 in
theorem impl_findRange.lit (b : Nat) (a1 x0 x1 x2 : Int) (w : World) (hid : w.cell? ⟨b, 0, none⟩ = some (.int .u64 a1)) :
    Calls Try.prog 74 #[.agg #[.int .u64 x0, .int .u64 x1, .int .i64 x2], .pointer (some ⟨b, 0, none⟩)] w fun e w' => e = .returned (.bool (decide (a1 ≤ x1))) ∧ Below w.heap.size w w' := by
  have hu26 := Try.underlying26
  have hlt := World.block_lt_of_cell? w _ hid
  have hid2 : ∀ o, (w.alloc o).cell? ⟨b, 0, none⟩ = some (.int .u64 a1) := fun o => ((below_alloc (Below.refl w.heap.size w) o).cell (p := ⟨b, 0, none⟩) hlt).trans hid
  go_enter Try.func74, Try.ntmps74
  go_wp2
  go_ret
  exact ⟨rfl, below_alloc (Below.refl _ _) _⟩
set_option maxHeartbeats 800000 in
theorem impl_findRange.idx (b : Nat) (a1 : Int) (A0 : Option Addr) (c0 : Nat) (l0 : List S26) (w : World) (hid : w.cell? ⟨b, 0, none⟩ = some (.int .u64 a1)) (hr0 : Kd.C k26 w A0 l0.length l0) (hc0 : l0.length ≤ c0) :
    Calls Try.prog 73 #[.slice A0 l0.length c0, .func (.func 74) #[] #[.pointer (some ⟨b, 0, none⟩)]] w fun e w' => e = .returned (.int .i64 (idxB (fun r => decide (a1 ≤ r.f1)) l0)) ∧ Below w.heap.size w w' := by
  have hu26 := Try.underlying26
  have hn : l0.length ≤ 9223372036854775807 := hr0.2.1
  have HR := Aside0.mk hr0
  have HI := Aside0.mk hid
  clear hr0 hid
  go_enter Try.func73, Try.ntmps73
  go_wp2
  go_loopg [5, 8] l0.length (fun gg _ s8 wr => ∃ kk : Int, 0 ≤ kk ∧ kk ≤ l0.length ∧ l0.length - kk.toNat ≤ gg ∧ s8 = .int .i64 kk ∧ Aside0 (Below w.heap.size w wr) ∧ Aside0 (∀ j : Nat, (j : Int) < kk → decide (a1 ≤ (l0.getD j z26).f1) = false))
  case atStart => exact ⟨0, by omega, by omega, by omega, rfl, ⟨Below.refl _ w⟩, ⟨fun j hj => by omega⟩⟩
  case round =>
    obtain ⟨kk, h0, hk, hg, rfl, BW, HA⟩ := hrel
    by_cases hlt : kk < (l0.length : Int)
    · obtain ⟨ad, e, hx0, hx1, hx2⟩ := at_T26 HR.out kk h0 hlt
      cases e
      replace hx0 := (BW.out.cell (World.block_lt_of_cell? w _ hx0)).trans hx0
      replace hx1 := (BW.out.cell (World.block_lt_of_cell? w _ hx1)).trans hx1
      replace hx2 := (BW.out.cell (World.block_lt_of_cell? w _ hx2)).trans hx2
      have hcall := impl_findRange.lit b a1 (rd_T26 l0 kk).f0 (rd_T26 l0 kk).f1 (rd_T26 l0 kk).f2 wr ((BW.out.cell (World.block_lt_of_cell? w _ HI.out)).trans HI.out)
      have HC := Aside0.mk hcall
      clear hcall
      cases hq : decide (a1 ≤ (rd_T26 l0 kk).f1) with
      | true =>
        have HQ := Aside0.mk hq
        rw [hq] at HC
        clear hq
        go_wp2_with (go_at_call 74; refine HC.out.mono ?_; rintro e w' ⟨rfl, hb'⟩)
        go_ret
        refine ⟨?_, below_step BW.out hb'⟩
        rw [idxB_hit (fun r : S26 => decide (a1 ≤ r.f1)) l0 z26 kk.toNat (by omega) HQ.out (fun j hj => HA.out j (by omega)), Int.toNat_of_nonneg h0]
        rfl
      | false =>
        have HQ := Aside0.mk hq
        rw [hq] at HC
        clear hq
        go_wp2_with (go_at_call 74; refine HC.out.mono ?_; rintro e w' ⟨rfl, hb'⟩)
        go_roundg (l0.length - (kk + 1).toNat)
        case measure => omega
        case rel =>
          refine ⟨kk + 1, by omega, by omega, by omega, by go_num, ⟨below_step BW.out hb'⟩, ⟨fun j hj => ?_⟩⟩
          by_cases e : (j : Int) = kk
          · have := HQ.out
            rw [← e, rd_T26, Int.toNat_natCast] at this
            exact this
          · exact HA.out j (by omega)
    · go_wp2
      go_ret
      refine ⟨?_, BW.out⟩
      rw [idxB_miss (fun r : S26 => decide (a1 ≤ r.f1)) l0 z26 (fun j hj => HA.out j (by omega))]
      rfl
set_option maxHeartbeats 400000 in
theorem impl_findRange.calls (A0 : Option Addr) (c0 : Nat) (l0 : List (S26)) (a1 : Int) (r : Int) (w : World) (hr0 : Kd.C k26 w A0 l0.length l0) (hc0 : l0.length ≤ c0) (h : impl_findRange.f l0 a1 = some r) :
    Calls Try.prog 59 #[.slice A0 l0.length c0, .int .u64 a1] w fun e w' => e = .returned (.int .i64 r) ∧ Below w.heap.size w w' := by
  obtain rfl := Option.some.inj h
  have HR := Aside0.mk hr0
  have HC0 := Aside0.mk hc0
  clear hr0 hc0 h
  go_enter Try.func59, Try.ntmps59
  go_wp2_with (go_at_call 73; refine (impl_findRange.idx w.heap.size a1 A0 c0 l0 _ (by simp) (Kd.C_below HR.out (below_alloc (Below.refl _ _) _)) HC0.out).mono ?_; rintro e w' ⟨rfl, hb'⟩)
  go_ret
  exact ⟨rfl, below_step (below_alloc (Below.refl _ _) _) hb'⟩


/-! ### impl_Range: function 80 -/
def impl_Range.enc (x : S26) : List Value := [.int .u64 x.f0, .int .u64 x.f1, .int .i64 x.f2]
theorem impl_Range.flat : Go.Proofs.Ytfabcjkaoidmeaa.Slc.Flat k26 impl_Range.enc := ⟨fun w base ok x => k26_mkM w base ok x, fun h => k26_open h⟩
def impl_Range.f (l0 : List (S26)) (a1 : Int) (l2 : List (S26)) : Option (List (S26)) := if 0 ≤ a1 ∧ a1 ≤ (l0.length : Int) ∧ l2.length = 1 ∧ l0.length < 1000000 then some (l0.take a1.toNat ++ l2 ++ l0.drop a1.toNat) else none
theorem impl_Range.info : (Try.prog.info? 26).map (fun i => (i.zero, i.size, i.bytes)) = some (some (.agg #[.int .u64 0, .int .u64 0, .int .i64 0]), 3, 24) := by kernel_rfl
theorem impl_Range.size : (Try.prog.info? 26).map (·.size) = some 3 := by kernel_rfl
theorem impl_Range.sizeOf (w : World) : (Go.sizeOf 26).run Try.prog w = .ok 3 w := by kernel_rfl
set_option maxHeartbeats 2000000 in
set_option maxRecDepth 100000 in
theorem impl_Range.at_end (P0_ P2_ : Nat → Prop) (A0 : Option Addr) (n c0 : Nat) (l0 : List (S26)) (g2 : Nat) (c2 : Nat) (l2 : List (S26)) (w0 w : World) (hB : Below w0.heap.size w0 w) (ho0 : Kd.R k26 26 w w0.heap.size P0_ (.slice A0 n c0) l0) (hC2 : Kd.C k26 w (some ⟨g2, 0, none⟩) 1 l2) (hn : l0.length = n) (hl2 : l2.length = 1) (hc2 : 1 ≤ c2) (hl : n < 1000000) (hnc : n ≤ c0) (hm : c0 ≤ maxLen) :
    Calls Try.prog 80 #[.slice A0 n c0, .int .i64 (n : Int), .slice (some ⟨g2, 0, none⟩) 1 c2] w fun e w' => ∃ v0_ : Value, e = .returned (v0_) ∧ Kd.R k26 26 w' w0.heap.size (fun k_ => ((P0_ k_ ∨ P2_ k_) ∨ w.heap.size ≤ k_)) v0_ (l0 ++ l2) ∧ Below w0.heap.size w0 w' ∧ Kept w w' (fun k_ => P0_ k_ ∨ P2_ k_) := by
  have hown := ho0.1
  have HO := Aside0.mk (Kd.R_mono ho0 (ok' := fun k_ => ((P0_ k_ ∨ P2_ k_) ∨ w.heap.size ≤ k_)) (fun k hk => .inl (.inl hk)))
  have HB := Aside0.mk hB
  have HC2 := Aside0.mk hC2
  have HW := Aside0.mk hown
  have HL := Aside0.mk hl
  have HN := Aside0.mk hn
  unfold maxLen at hm
  have hm63 : c0 ≤ 9223372036854775807 := by omega
  clear ho0 hB hC2 hown hm
  have p1 : (n : Int) ≤ (n : Int) := Int.le_refl _
  cases A0 with
  | none =>
    go_enter Try.func80, Try.ntmps80
    go_wp2_with (first | ((with_reducible refine gate_dst (N := 25) rfl ?_); refine Kd.R_append_rows k26 (w0 := w0) w0.heap.size rfl (.tmp 23) (.tmp 24) 32 26 (.agg #[.int .u64 0, .int .u64 0, .int .i64 0]) 24 rfl Try.underlying32 impl_Range.info rfl (by decide) (by omega) _ l0 l2 _ _ _ (fun k_ => ((P0_ k_ ∨ P2_ k_) ∨ w.heap.size ≤ k_)) (fun _ => False) rfl rfl HO.out HC2.out (fun _ _ h => h) (fun _ h => h.elim) (fun _ hk => .inr hk) HB.out HB.out.size (by have := HL.out; have := HN.out; omega) ?_; intro v1 w1 ho hb hg hat; have R0 := Aside0.mk ho; have R1 := Aside0.mk hb; have R2 := Aside0.mk hg; clear ho hb hg hat))
    go_ret
    exact ⟨_, rfl, R0.out, R1.out, Kept.of_grown (W := w) R2.out (Kept.refl w _) (fun k hk => .inl (.inl (HW.out k hk)))⟩
  | some a =>
    obtain ⟨g, o, sp⟩ := a
    have hsp : o = 0 ∧ sp = none := by
      obtain ⟨_, inner, ⟨_, ho⟩, _⟩ := HO.out
      rcases ho with ⟨he, _⟩ | ⟨g', cap', cur, he, _⟩
      · cases he
      · injection he with e1 e2 e3
        injection e1 with e1
        injection e1 with e1 e2 e3
        exact ⟨e2, e3⟩
    obtain ⟨rfl, rfl⟩ := hsp
    by_cases hce : c0 = n
    · subst hce
      go_enter Try.func80, Try.ntmps80
      go_wp2_with (first | ((with_reducible refine gate_dst (N := 25) rfl ?_); refine Kd.R_append_rows k26 (w0 := w0) w0.heap.size rfl (.tmp 23) (.tmp 24) 32 26 (.agg #[.int .u64 0, .int .u64 0, .int .i64 0]) 24 rfl Try.underlying32 impl_Range.info rfl (by decide) (by omega) _ l0 l2 _ _ _ (fun k_ => ((P0_ k_ ∨ P2_ k_) ∨ w.heap.size ≤ k_)) (fun _ => False) rfl rfl HO.out HC2.out (fun _ _ h => h) (fun _ h => h.elim) (fun _ hk => .inr hk) HB.out HB.out.size (by have := HL.out; have := HN.out; omega) ?_; intro v1 w1 ho hb hg hat; have R0 := Aside0.mk ho; have R1 := Aside0.mk hb; have R2 := Aside0.mk hg; clear ho hb hg hat))
      go_ret
      exact ⟨_, rfl, R0.out, R1.out, Kept.of_grown (W := w) R2.out (Kept.refl w _) (fun k hk => .inl (.inl (HW.out k hk)))⟩
    · have hlt : n < c0 := by omega
      go_enter Try.func80, Try.ntmps80
      go_wp2_with (first | ((with_reducible refine gate_dst (N := 25) rfl ?_); refine Kd.R_append_rows k26 (w0 := w0) w0.heap.size rfl (.tmp 23) (.tmp 24) 32 26 (.agg #[.int .u64 0, .int .u64 0, .int .i64 0]) 24 rfl Try.underlying32 impl_Range.info rfl (by decide) (by omega) _ l0 l2 _ _ _ (fun k_ => ((P0_ k_ ∨ P2_ k_) ∨ w.heap.size ≤ k_)) (fun _ => False) rfl rfl HO.out HC2.out (fun _ _ h => h) (fun _ h => h.elim) (fun _ hk => .inr hk) HB.out HB.out.size (by have := HL.out; have := HN.out; omega) ?_; intro v1 w1 ho hb hg hat; have R0 := Aside0.mk ho; have R1 := Aside0.mk hb; have R2 := Aside0.mk hg; clear ho hb hg hat))
      go_ret
      exact ⟨_, rfl, R0.out, R1.out, Kept.of_grown (W := w) R2.out (Kept.refl w _) (fun k hk => .inl (.inl (HW.out k hk)))⟩
set_option maxHeartbeats 2000000 in
set_option maxRecDepth 100000 in
theorem impl_Range.shift (P0_ P2_ : Nat → Prop) (g n c i : Nat) (l0 : List (S26)) (y : S26) (cur cur2 : Array Value) (g2 c2 : Nat) (w0 w : World) (hB : Below w0.heap.size w0 w) (hg : w0.heap.size ≤ g) (hP : P0_ g) (hb : w.heap[g]? = some (.cells cur 26 (0, 0))) (hs : cur.size = c * 3) (ht : cur.toList.take (n * 3) = Go.Proofs.Ytfabcjkaoidmeaa.Slc.cellsOf impl_Range.enc l0)
    (hn : l0.length = n) (hi : i < n) (hr : n + 1 ≤ c) (hm : c ≤ maxLen) (hb2 : w.heap[g2]? = some (.cells cur2 26 (0, 0))) (ht2 : cur2.toList.take 3 = impl_Range.enc y) (hne : g2 ≠ g) (hc2 : 1 ≤ c2) :
    Calls Try.prog 80 #[.slice (some ⟨g, 0, none⟩) n c, .int .i64 (i : Int), .slice (some ⟨g2, 0, none⟩) 1 c2] w fun e w' => ∃ v0_ : Value, e = .returned (v0_) ∧ Kd.R k26 26 w' w0.heap.size (fun k_ => ((P0_ k_ ∨ P2_ k_) ∨ w.heap.size ≤ k_)) v0_ (l0.take i ++ y :: l0.drop i) ∧ Below w0.heap.size w0 w' ∧ Kept w w' (fun k_ => P0_ k_ ∨ P2_ k_) := by
  have hsz3 : (k26).sz = 3 := rfl
  have hsize := impl_Range.size
  have hcl : (Go.Proofs.Ytfabcjkaoidmeaa.Slc.cellsOf impl_Range.enc l0).length = n * 3 := by rw [impl_Range.flat.cells_len, hn]; rfl
  have hyl : (impl_Range.enc y).length = 3 := impl_Range.flat.len y
  have hdl : ((Go.Proofs.Ytfabcjkaoidmeaa.Slc.cellsOf impl_Range.enc l0).drop (i * 3)).length = (n - i) * 3 := by rw [List.length_drop, hcl, Nat.sub_mul]
  have hc63 : c ≤ 9223372036854775807 := by unfold maxLen at hm; omega
  have hk2 : 3 ≤ cur2.size := by
    have := congrArg List.length ht2
    rw [List.length_take, hyl] at this
    simp at this
    omega
  have hcs : ∀ j v, (Go.Proofs.Ytfabcjkaoidmeaa.Slc.cellsOf impl_Range.enc l0)[j]? = some v → cur[j]? = some v := fun j v hj => by
    have hlt := (List.getElem?_eq_some_iff.1 hj).1
    rw [← ht, List.getElem?_take_of_lt (by omega), Array.getElem?_toList] at hj
    exact hj
  have hvs : ∀ j v, (impl_Range.enc y)[j]? = some v → cur2[j]? = some v := fun j v hj => by
    have hlt := (List.getElem?_eq_some_iff.1 hj).1
    rw [← ht2, List.getElem?_take_of_lt (by omega), Array.getElem?_toList] at hj
    exact hj
  have hov : ∀ lb cb, (callFunc 93 #[.slice (some ⟨g2, 0, none⟩) 1 c2, .slice (some ⟨g, (i + 1) * 3, none⟩) lb cb]).run Try.prog w = .ok (.value (.bool false)) w := fun lb cb => by
    rw [run_callFunc_extern Try.func93 (by kernel_rfl) (by kernel_rfl) (by kernel_rfl) (e := Extern.SlicesOverlaps.overlaps #[32, 32] #[4]) (by kernel_rfl),
      Lib.run_overlaps_apart w 32 4 26 Try.underlying32 3 impl_Range.sizeOf ⟨g2, 0, none⟩ ⟨g, (i + 1) * 3, none⟩ 1 c2 lb cb hne 26 26 cur2.size cur.size (by simp [World.shape?, hb2]) (by simp [World.shape?, hb]) (by omega) (blk_frozen hb2 0) (blk_frozen hb2 _)]
    rfl
  have hcp1 : ∀ ty dc sc, (Builtin.copy_ #[32, 32] ty #[.slice (some ⟨g, (i + 1) * 3, none⟩) (n - i) dc, .slice (some ⟨g, i * 3, none⟩) (n + 1 - i) sc]).run Try.prog w.drew = .ok (goInt (n - i : Nat)) (w.drew.setCells g ((i + 1) * 3) ((Go.Proofs.Ytfabcjkaoidmeaa.Slc.cellsOf impl_Range.enc l0).drop (i * 3))) := fun ty dc sc =>
    Go.Proofs.Ytfabcjkaoidmeaa.Slc.run_copy_k w.drew _ _ ty 26 3 g ((i + 1) * 3) _ dc ⟨g, i * 3, none⟩ _ sc _ (n - i) Try.underlying32 hsize u4_7 hdl
      (fun j v hj => by
        rw [List.getElem?_drop] at hj
        rw [Addr.add_lit]
        exact (blk_cell (w := w.drew) hb _).trans (hcs _ v hj))
      (fun j hj => by
        rw [hdl, Nat.sub_mul] at hj
        have : i * 3 ≤ n * 3 := Nat.mul_le_mul_right _ (by omega)
        have : (n + 1) * 3 ≤ c * 3 := Nat.mul_le_mul_right _ hr
        have hlt : (i + 1) * 3 + j < cur.size := by rw [hs]; omega
        rw [blk_cell (w := w.drew) hb, Array.getElem?_eq_getElem hlt]; rfl)
      (fun j _ => blk_frozen (w := w.drew) hb _) (fun v hv => impl_Range.flat.cells_one l0 v (List.mem_of_mem_drop hv))
  obtain ⟨W1, hW1⟩ : ∃ W1, W1 = w.drew.setCells g ((i + 1) * 3) ((Go.Proofs.Ytfabcjkaoidmeaa.Slc.cellsOf impl_Range.enc l0).drop (i * 3)) := ⟨_, rfl⟩
  rw [← hW1] at hcp1
  obtain ⟨cur1, hb1, hs1, ho1, hi1⟩ := Go.Proofs.Ytfabcjkaoidmeaa.Slc.setCells_blk g 26 ((Go.Proofs.Ytfabcjkaoidmeaa.Slc.cellsOf impl_Range.enc l0).drop (i * 3)) ((i + 1) * 3) w.drew cur hb
  rw [← hW1] at hb1
  have hb21 : W1.heap[g2]? = some (.cells cur2 26 (0, 0)) := by
    rw [hW1]; exact (Go.Proofs.Ytfabcjkaoidmeaa.Slc.setCells_other g _ _ w.drew g2 hne).trans hb2
  have hcp2 : ∀ ty dc, (Builtin.copy_ #[32, 32] ty #[.slice (some ⟨g, i * 3, none⟩) (n + 1 - i) dc, .slice (some ⟨g2, 0, none⟩) 1 c2]).run Try.prog W1 = .ok (goInt (1 : Nat)) (W1.setCells g (i * 3) (impl_Range.enc y)) := fun ty dc =>
    Go.Proofs.Ytfabcjkaoidmeaa.Slc.run_copy_k W1 _ _ ty 26 3 g (i * 3) _ dc ⟨g2, 0, none⟩ 1 c2 _ 1 Try.underlying32 hsize u4_7 (by rw [hyl])
      (fun j v hj => by
        have := (blk_cell hb21 j).trans (hvs _ v hj)
        rw [Addr.add_lit, Nat.zero_add]
        exact this)
      (fun j hj => by
        rw [hyl] at hj
        have : (i + 1) * 3 ≤ c * 3 := Nat.mul_le_mul_right _ (by omega)
        have hlt : i * 3 + j < cur1.size := by rw [hs1, hs]; omega
        rw [blk_cell hb1, Array.getElem?_eq_getElem hlt]; rfl)
      (fun j _ => blk_frozen hb1 _) (impl_Range.flat.one y)
  obtain ⟨W2, hW2⟩ : ∃ W2, W2 = W1.setCells g (i * 3) (impl_Range.enc y) := ⟨_, rfl⟩
  rw [← hW2] at hcp2
  obtain ⟨cur3, hb3, hs3, ho3, hi3⟩ := Go.Proofs.Ytfabcjkaoidmeaa.Slc.setCells_blk g 26 (impl_Range.enc y) (i * 3) W1 cur1 hb1
  rw [← hW2] at hb3
  have hR : Kd.R k26 26 W2 w0.heap.size (fun k_ => ((P0_ k_ ∨ P2_ k_) ∨ w.heap.size ≤ k_)) (.slice (some ⟨g, 0, none⟩) (n + 1) c) (l0.take i ++ y :: l0.drop i) := by
    refine impl_Range.flat.row hb3 hg (.inl (.inl hP)) (by simp; omega) hr hm (hs3.trans (hs1.trans hs)) (impl_Range.flat.ins_cells hn (by omega) (fun q hq => ?_) (fun j hj => ?_) (fun j hj => ?_))
    · rw [hsz3] at hq
      have : i * 3 ≤ n * 3 := Nat.mul_le_mul_right _ (by omega)
      rw [ho3 q (.inl hq), ho1 q (.inl (by omega)), ← ht, List.getElem?_take_of_lt (by omega), Array.getElem?_toList]
    · rw [hsz3] at hj ⊢
      have : (i + 1) * 3 ≤ c * 3 := Nat.mul_le_mul_right _ (by omega)
      exact hi3 j (by omega) (by rw [hs1, hs]; omega)
    · rw [hsz3] at hj ⊢
      have h1 : i * 3 ≤ n * 3 := Nat.mul_le_mul_right _ (by omega)
      have h2 : (n + 1) * 3 ≤ c * 3 := Nat.mul_le_mul_right _ hr
      rw [Nat.sub_mul] at hj
      rw [ho3 _ (.inr (by rw [hyl]; omega)), hi1 j (by rw [hdl, Nat.sub_mul]; omega) (by rw [hs]; omega), List.getElem?_drop]
  have hBel : Below w0.heap.size w0 W2 := by
    rw [hW2, hW1]
    exact Go.Proofs.Ytfabcjkaoidmeaa.Slc.below_setCells hg _ _ (Go.Proofs.Ytfabcjkaoidmeaa.Slc.below_setCells hg _ _ (below_drew hB))
  have hKp : Kept w W2 (fun k_ => P0_ k_ ∨ P2_ k_) := by
    rw [hW2, hW1]
    exact Go.Proofs.Ytfabcjkaoidmeaa.Slc.kept_setCells (.inl (.inl hP)) _ _ (Go.Proofs.Ytfabcjkaoidmeaa.Slc.kept_setCells (.inl (.inl hP)) _ _ (Kept.drew (Kept.refl w _)))
  have HR := Aside0.mk hR
  have HBe := Aside0.mk hBel
  have HKp := Aside0.mk hKp
  have hz2 : ¬ ((i : Int) = (n : Int)) := by omega
  have hw1 : IntKind.i64.wrap ((i : Int) + 1) = (i : Int) + 1 := by rw [IntKind.wrap_i64]; omega
  have hb1' : (0 : Int) ≤ (i : Int) + 1 := by omega
  have hin : i ≤ n := by omega
  have htn : ((i : Int) + 1).toNat = i + 1 := by omega
  have hb2' : ¬ (c = i + 1) := by omega
  have hb3' : (i : Int) ≤ (n : Int) + 1 := by omega
  have hb4 : ¬ (c = i) := by omega
  clear hR hBel hKp hb hs ht hb2 ht2 hcs hvs hW1 hb1 hs1 ho1 hi1 hb21 hW2 hb3 hs3 ho3 hi3 hcl hyl hdl hB hg hP hm hk2 hsz3 hsize hn hne
  go_enter Try.func80, Try.ntmps80
  go_wp2_with (simp only [hov])
  go_region_law (refine Go.Proofs.Ytfabcjkaoidmeaa.Slc.step_copy rfl _ _ 32 32 rfl _ _ (by simp [Act.eval, Act.put]) (by simp [Act.eval, Act.put]) (hcp1 _ _ _) ?_)
  go_wp2_with (at_builtin; refine Go.Proofs.Ytfabcjkaoidmeaa.Slc.list_copy _ rfl _ _ 32 32 rfl _ _ rfl rfl (hcp2 _ _) ?_)
  go_ret
  exact ⟨_, rfl, HR.out, HBe.out, HKp.out⟩
theorem impl_Range.parts : ∃ i0, Try.prog.info? 26 = some i0 ∧ i0.zero = some (.agg #[.int .u64 0, .int .u64 0, .int .i64 0]) ∧ i0.size = 3 ∧ i0.bytes = 24 := by
  obtain ⟨i0, h, h2⟩ := Option.map_eq_some_iff.1 impl_Range.info
  simp only [Prod.mk.injEq] at h2
  exact ⟨i0, h, h2.1, h2.2.1, h2.2.2⟩
set_option maxHeartbeats 2000000 in
set_option maxRecDepth 100000 in
theorem impl_Range.grow (P0_ P2_ : Nat → Prop) (g n i : Nat) (l0 : List (S26)) (y : S26) (cur cur2 : Array Value) (g2 c2 : Nat) (w0 w : World) (hB : Below w0.heap.size w0 w) (hb : w.heap[g]? = some (.cells cur 26 (0, 0))) (hs : cur.size = n * 3) (ht : cur.toList.take (n * 3) = Go.Proofs.Ytfabcjkaoidmeaa.Slc.cellsOf impl_Range.enc l0)
    (hn : l0.length = n) (hi : i < n) (hl : n < 1000000) (hb2 : w.heap[g2]? = some (.cells cur2 26 (0, 0))) (ht2 : cur2.toList.take 3 = impl_Range.enc y) (hc2 : 1 ≤ c2) :
    Calls Try.prog 80 #[.slice (some ⟨g, 0, none⟩) n n, .int .i64 (i : Int), .slice (some ⟨g2, 0, none⟩) 1 c2] w fun e w' => ∃ v0_ : Value, e = .returned (v0_) ∧ Kd.R k26 26 w' w0.heap.size (fun k_ => ((P0_ k_ ∨ P2_ k_) ∨ w.heap.size ≤ k_)) v0_ (l0.take i ++ y :: l0.drop i) ∧ Below w0.heap.size w0 w' ∧ Kept w w' (fun k_ => P0_ k_ ∨ P2_ k_) := by
  have hsz3 : (k26).sz = 3 := rfl
  have hsize := impl_Range.size
  obtain ⟨i0, hi0, hz0, hzs, hzb⟩ := impl_Range.parts
  have hcl : (Go.Proofs.Ytfabcjkaoidmeaa.Slc.cellsOf impl_Range.enc l0).length = n * 3 := by rw [impl_Range.flat.cells_len, hn]; rfl
  have hyl : (impl_Range.enc y).length = 3 := impl_Range.flat.len y
  have hdl : ((Go.Proofs.Ytfabcjkaoidmeaa.Slc.cellsOf impl_Range.enc l0).drop (i * 3)).length = (n - i) * 3 := by rw [List.length_drop, hcl, Nat.sub_mul]
  have hin3 : i * 3 ≤ n * 3 := Nat.mul_le_mul_right _ (by omega)
  have htl : ((Go.Proofs.Ytfabcjkaoidmeaa.Slc.cellsOf impl_Range.enc l0).take (i * 3)).length = i * 3 := by rw [List.length_take, hcl]; omega
  have hgw : g < w.heap.size := blk_lt hb
  have hg2w : g2 < w.heap.size := blk_lt hb2
  have hcs : ∀ j v, (Go.Proofs.Ytfabcjkaoidmeaa.Slc.cellsOf impl_Range.enc l0)[j]? = some v → cur[j]? = some v := fun j v hj => by
    have hlt := (List.getElem?_eq_some_iff.1 hj).1
    rw [← ht, List.getElem?_take_of_lt (by omega), Array.getElem?_toList] at hj
    exact hj
  have hvs : ∀ j v, (impl_Range.enc y)[j]? = some v → cur2[j]? = some v := fun j v hj => by
    have hlt := (List.getElem?_eq_some_iff.1 hj).1
    rw [← ht2, List.getElem?_take_of_lt (by omega), Array.getElem?_toList] at hj
    exact hj
  have hold : (Builtin.firstCells i0.size i (.slice (some ⟨g, 0, none⟩) i n)).run Try.prog w.drew = .ok ((Go.Proofs.Ytfabcjkaoidmeaa.Slc.cellsOf impl_Range.enc l0).take (i * 3)).toArray w.drew := by
    rw [hzs]
    exact run_firstCells_some w.drew 3 i ⟨g, 0, none⟩ i n _ htl (fun j v hj => by
      have hj' : (Go.Proofs.Ytfabcjkaoidmeaa.Slc.cellsOf impl_Range.enc l0)[j]? = some v := by
        rw [List.getElem?_take] at hj
        split at hj
        · exact hj
        · cases hj
      rw [Addr.add_lit, Nat.zero_add]
      exact (blk_cell (w := w.drew) hb j).trans (hcs j v hj'))
  have hik : i + (n + 1 - i) = n + 1 := by omega
  have hkk : (n : Int) + 1 - (i : Int) = ((n + 1 - i : Nat) : Int) := by omega
  obtain ⟨G, hG⟩ : ∃ G, G = grownCap w (n + 1) n 26 := ⟨_, rfl⟩
  obtain ⟨ROW, hROW⟩ : ∃ ROW : Array Value, ROW = ((Go.Proofs.Ytfabcjkaoidmeaa.Slc.cellsOf impl_Range.enc l0).take (i * 3)).toArray ++ Builtin.zeroCells (.agg #[.int .u64 0, .int .u64 0, .int .i64 0] : Value).cells (n + 1 - i) ++ Builtin.zeroCells (.agg #[.int .u64 0, .int .u64 0, .int .i64 0] : Value).cells (G - (n + 1)) := ⟨_, rfl⟩
  have hrz : ∀ ty, (Builtin.append_ #[32, 3] ty #[.slice (some ⟨g, 0, none⟩) i n, .int .i64 ((n : Int) + 1 - (i : Int))]).run Try.prog w = .ok (.slice (some ⟨w.heap.size, 0, none⟩) (n + 1) G) (w.drew.alloc (.cells ROW 26)) := fun ty => by
    have h := Lib.run_append_grow_zeros (P := Try.prog) w 32 3 ty 26 i0 _ .i64 .i64 Try.underlying32 Try.underlying3 hi0 hz0 (some ⟨g, 0, none⟩) i n _ hold (n + 1 - i) (by omega) (by omega) (by omega) (by omega) (by rw [hzb]; omega) (by rw [hzb, hik]; exact growslice_fits (by omega) (by omega))
    rw [hik] at h
    rw [hkk, hROW, hG]
    exact h
  have hGn : n + 1 ≤ G := by rw [hG]; exact grownCap_ge w _ _ _
  have hGm : G ≤ maxLen := by rw [hG]; exact grownCap_le_maxLen w (n + 1) n 26 (by unfold maxLen; omega)
  have hRl : ROW.size = G * 3 := by
    have e1 : ∀ k, (Builtin.zeroCells (.agg #[.int .u64 0, .int .u64 0, .int .i64 0] : Value).cells k).size = k * 3 := fun k => by simp [Builtin.zeroCells, Value.cells]; try omega
    rw [hROW, Array.size_append, Array.size_append, e1, e1]
    simp only [List.size_toArray, htl]
    rw [← Nat.add_mul, ← Nat.add_mul]
    congr 1; omega
  have hR0 : ∀ q, q < i * 3 → ROW[q]? = (Go.Proofs.Ytfabcjkaoidmeaa.Slc.cellsOf impl_Range.enc l0)[q]? := fun q hq => by
    rw [hROW, Array.append_assoc, Array.getElem?_append_left (by simp only [List.size_toArray, htl]; exact hq), List.getElem?_toArray, List.getElem?_take_of_lt hq]
  obtain ⟨W1, hW1⟩ : ∃ W1, W1 = w.drew.alloc (.cells ROW 26) := ⟨_, rfl⟩
  rw [← hW1] at hrz
  have hbN : W1.heap[w.heap.size]? = some (.cells ROW 26 (0, 0)) := by rw [hW1]; exact Array.getElem?_push_size
  have hkeep : ∀ k, k < w.heap.size → W1.heap[k]? = w.heap[k]? := fun k hk => by rw [hW1]; show (w.heap.push _)[k]? = _; rw [Array.getElem?_push, if_neg (Nat.ne_of_lt hk)]
  have hb2N : W1.heap[g2]? = some (.cells cur2 26 (0, 0)) := (hkeep g2 hg2w).trans hb2
  have hB1 : Below w0.heap.size w0 W1 := by rw [hW1]; exact below_alloc (below_drew hB) _
  have hK1 : Kept w W1 (fun k_ => P0_ k_ ∨ P2_ k_) := by rw [hW1]; exact (Kept.drew (Kept.refl w _)).alloc _
  have hwN : w0.heap.size ≤ w.heap.size := hB.size
  obtain ⟨NB, hNB⟩ : ∃ NB, NB = w.heap.size := ⟨_, rfl⟩
  have hgN : g ≠ NB := by omega
  have hg2N : g2 ≠ NB := by omega
  have hcpA : ∀ ty dc, (Builtin.copy_ #[32, 32] ty #[.slice (some ⟨NB, i * 3, none⟩) (n + 1 - i) dc, .slice (some ⟨g2, 0, none⟩) 1 c2]).run Try.prog W1 = .ok (goInt (1 : Nat)) (W1.setCells NB (i * 3) (impl_Range.enc y)) := fun ty dc =>
    Go.Proofs.Ytfabcjkaoidmeaa.Slc.run_copy_k W1 _ _ ty 26 3 NB (i * 3) _ dc ⟨g2, 0, none⟩ 1 c2 _ 1 Try.underlying32 hsize u4_7 (by rw [hyl])
      (fun j v hj => by
        rw [Addr.add_lit, Nat.zero_add]
        exact (blk_cell hb2N j).trans (hvs _ v hj))
      (fun j hj => by
        rw [hyl] at hj
        have : (i + 1) * 3 ≤ G * 3 := Nat.mul_le_mul_right _ (by omega)
        have hlt : i * 3 + j < ROW.size := by omega
        rw [hNB, blk_cell hbN, Array.getElem?_eq_getElem hlt]; rfl)
      (fun j _ => by rw [hNB]; exact blk_frozen hbN _) (impl_Range.flat.one y)
  rw [← hNB] at hbN hrz
  obtain ⟨W2, hW2⟩ : ∃ W2, W2 = W1.setCells NB (i * 3) (impl_Range.enc y) := ⟨_, rfl⟩
  rw [← hW2] at hcpA
  obtain ⟨cur3, hb3, hs3, ho3, hi3⟩ := Go.Proofs.Ytfabcjkaoidmeaa.Slc.setCells_blk NB 26 (impl_Range.enc y) (i * 3) W1 ROW hbN
  rw [← hW2] at hb3
  have hb31 : W2.heap[g]? = some (.cells cur 26 (0, 0)) := by
    rw [hW2]; exact (Go.Proofs.Ytfabcjkaoidmeaa.Slc.setCells_other NB _ _ W1 g hgN).trans ((hkeep g hgw).trans hb)
  have hcpB : ∀ ty dc sc, (Builtin.copy_ #[32, 32] ty #[.slice (some ⟨NB, (i + 1) * 3, none⟩) (n - i) dc, .slice (some ⟨g, i * 3, none⟩) (n - i) sc]).run Try.prog W2.drew = .ok (goInt (n - i : Nat)) (W2.drew.setCells NB ((i + 1) * 3) ((Go.Proofs.Ytfabcjkaoidmeaa.Slc.cellsOf impl_Range.enc l0).drop (i * 3))) := fun ty dc sc =>
    Go.Proofs.Ytfabcjkaoidmeaa.Slc.run_copy_k W2.drew _ _ ty 26 3 NB ((i + 1) * 3) _ dc ⟨g, i * 3, none⟩ _ sc _ (n - i) Try.underlying32 hsize u4_7 hdl
      (fun j v hj => by
        rw [List.getElem?_drop] at hj
        rw [Addr.add_lit]
        exact (blk_cell (w := W2.drew) hb31 _).trans (hcs _ v hj))
      (fun j hj => by
        rw [hdl, Nat.sub_mul] at hj
        have : (n + 1) * 3 ≤ G * 3 := Nat.mul_le_mul_right _ hGn
        have hlt : (i + 1) * 3 + j < cur3.size := by rw [hs3, hRl]; omega
        rw [blk_cell (w := W2.drew) hb3, Array.getElem?_eq_getElem hlt]; rfl)
      (fun j _ => blk_frozen (w := W2.drew) hb3 _) (fun v hv => impl_Range.flat.cells_one l0 v (List.mem_of_mem_drop hv))
  obtain ⟨W3, hW3⟩ : ∃ W3, W3 = W2.drew.setCells NB ((i + 1) * 3) ((Go.Proofs.Ytfabcjkaoidmeaa.Slc.cellsOf impl_Range.enc l0).drop (i * 3)) := ⟨_, rfl⟩
  rw [← hW3] at hcpB
  obtain ⟨cur4, hb4, hs4, ho4, hi4⟩ := Go.Proofs.Ytfabcjkaoidmeaa.Slc.setCells_blk NB 26 ((Go.Proofs.Ytfabcjkaoidmeaa.Slc.cellsOf impl_Range.enc l0).drop (i * 3)) ((i + 1) * 3) W2.drew cur3 hb3
  rw [← hW3] at hb4
  have hR : Kd.R k26 26 W3 w0.heap.size (fun k_ => ((P0_ k_ ∨ P2_ k_) ∨ w.heap.size ≤ k_)) (.slice (some ⟨NB, 0, none⟩) (n + 1) G) (l0.take i ++ y :: l0.drop i) := by
    refine impl_Range.flat.row hb4 (by omega) (.inr (by omega)) (by simp; omega) hGn hGm (hs4.trans (hs3.trans hRl)) (impl_Range.flat.ins_cells hn (by omega) (fun q hq => ?_) (fun j hj => ?_) (fun j hj => ?_))
    · rw [hsz3] at hq
      rw [ho4 q (.inl (by omega)), ho3 q (.inl hq), hR0 q hq]
    · rw [hsz3] at hj ⊢
      have : (i + 1) * 3 ≤ G * 3 := Nat.mul_le_mul_right _ (by omega)
      rw [ho4 _ (.inl (by omega))]
      exact hi3 j (by omega) (by rw [hRl]; omega)
    · rw [hsz3] at hj ⊢
      have h2 : (n + 1) * 3 ≤ G * 3 := Nat.mul_le_mul_right _ hGn
      rw [Nat.sub_mul] at hj
      rw [hi4 j (by rw [hdl, Nat.sub_mul]; omega) (by rw [hs3, hRl]; omega), List.getElem?_drop]
  have hBel : Below w0.heap.size w0 W3 := by
    rw [hW3, hW2]
    exact Go.Proofs.Ytfabcjkaoidmeaa.Slc.below_setCells (by omega) _ _ (below_drew (Go.Proofs.Ytfabcjkaoidmeaa.Slc.below_setCells (by omega) _ _ hB1))
  have hKp : Kept w W3 (fun k_ => P0_ k_ ∨ P2_ k_) := by
    rw [hW3, hW2]
    exact Go.Proofs.Ytfabcjkaoidmeaa.Slc.kept_setCells (.inr (by omega)) _ _ (Kept.drew (Go.Proofs.Ytfabcjkaoidmeaa.Slc.kept_setCells (.inr (by omega)) _ _ hK1))
  have HR := Aside0.mk hR
  have HBe := Aside0.mk hBel
  have HKp := Aside0.mk hKp
  have hz2 : ¬ ((i : Int) = (n : Int)) := by omega
  have hz3 : (n : Int) < (n : Int) + 1 := by omega
  have hG63 : G ≤ 9223372036854775807 := by unfold maxLen at hGm; omega
  have hGi : ¬ (G = i) := by omega
  have hGim : ¬ (G = i + 1) := by omega
  have hci : ¬ (n = i) := by omega
  have hw1 : IntKind.i64.wrap ((i : Int) + 1) = (i : Int) + 1 := by rw [IntKind.wrap_i64]; omega
  have hb1 : (0 : Int) ≤ (i : Int) + 1 := by omega
  have hin : i ≤ n := by omega
  have htn : ((i : Int) + 1).toNat = i + 1 := by omega
  have hb3' : (i : Int) ≤ (n : Int) := by omega
  clear hR hBel hKp hb hs ht hb2 ht2 hcs hvs hW1 hW2 hW3 hb3 hs3 ho3 hi3 hb4 hs4 ho4 hi4 hcl hyl hdl hB hsz3 hsize hi0 hz0 hzs hzb hold hROW hG hRl hR0 hbN hkeep hb2N hB1 hK1 hb31 hGm hkk hik hin3 htl hgw hg2w hgN hg2N hwN hNB hn
  go_enter Try.func80, Try.ntmps80
  go_wp2_with (first
    | (at_builtin; refine Lib.wpList_append_run _ rfl _ _ _ _ rfl _ _ rfl rfl _ _ (hrz _) ?_)
    | (at_builtin; refine Go.Proofs.Ytfabcjkaoidmeaa.Slc.list_copy _ rfl _ _ 32 32 rfl _ _ rfl rfl (hcpA _ _) ?_))
  go_region_law (refine Go.Proofs.Ytfabcjkaoidmeaa.Slc.step_copy rfl _ _ 32 32 rfl _ _ (by simp [Act.eval, Act.put]) (by simp [Act.eval, Act.put]) (hcpB _ _ _) ?_)
  go_wp2
  go_ret
  exact ⟨_, rfl, HR.out, HBe.out, HKp.out⟩
set_option maxHeartbeats 2000000 in
theorem impl_Range.calls (P0_ : Nat → Prop) (u9000_ : Value) (l0 : List (S26)) (a1 : Int) (P2_ : Nat → Prop) (u9001_ : Value) (l2 : List (S26)) (r : List (S26)) (w0 w : World) (hB : Below w0.heap.size w0 w) (ho0 : Kd.R k26 26 w w0.heap.size P0_ u9000_ l0) (hp0_2 : ∀ k_, P0_ k_ → ¬ P2_ k_) (ho2 : Kd.R k26 26 w w0.heap.size P2_ u9001_ l2) (hp2_0 : ∀ k_, P2_ k_ → ¬ P0_ k_) (h : impl_Range.f l0 a1 l2 = some r) :
    Calls Try.prog 80 #[u9000_, .int .i64 a1, u9001_] w fun e w' => ∃ v0_ : Value, e = .returned (v0_) ∧ Kd.R k26 26 w' w0.heap.size (fun k_ => ((P0_ k_ ∨ P2_ k_) ∨ w.heap.size ≤ k_)) v0_ r ∧ Below w0.heap.size w0 w' ∧ Kept w w' (fun k_ => P0_ k_ ∨ P2_ k_) := by
  unfold impl_Range.f at h
  by_cases hc : 0 ≤ a1 ∧ a1 ≤ (l0.length : Int) ∧ l2.length = 1 ∧ l0.length < 1000000
  rotate_left
  · rw [if_neg hc] at h; cases h
  rw [if_pos hc] at h
  obtain rfl := Option.some.inj h
  clear h
  obtain ⟨h0, hle, hl2, hl⟩ := hc
  obtain ⟨i, rfl⟩ := Int.eq_ofNat_of_zero_le h0
  rw [Int.toNat_natCast]
  match l2, hl2, ho2 with
  | [y], hl2, ho2 =>
  obtain ⟨g2, c2, cur2, rfl, _, hP2, hb2, hc2, _, _, ht2⟩ := impl_Range.flat.block ho2 (by simp)
  have ht2' : cur2.toList.take (k26).sz = impl_Range.enc y := by simpa [Go.Proofs.Ytfabcjkaoidmeaa.Slc.cellsOf] using ht2
  by_cases hi : i < l0.length
  · obtain ⟨g, c, cur, rfl, hg, hP, hb, hcap, hm, hs, ht⟩ := impl_Range.flat.block ho0 (by omega)
    have hne : g2 ≠ g := fun e => hp0_2 g hP (e ▸ hP2)
    by_cases hr : l0.length + 1 ≤ c
    · exact (impl_Range.shift P0_ P2_ g l0.length c i l0 y cur cur2 g2 c2 w0 w hB hg hP hb hs ht rfl hi hr hm hb2 ht2' hne hc2).mono fun e w' h => by simpa using h
    · have hcn : c = l0.length := by omega
      subst hcn
      exact (impl_Range.grow P0_ P2_ g l0.length i l0 y cur cur2 g2 c2 w0 w hB hb hs ht rfl hi hl hb2 ht2' hc2).mono fun e w' h => by simpa using h
  · have hin : i = l0.length := by omega
    subst hin
    obtain ⟨A0, c0, rfl, hc0, _⟩ := Kd.R_reads ho0
    obtain ⟨hnl, hle2, hC2⟩ := Kd.R_reads' ho2
    have hm : c0 ≤ maxLen := by
      obtain ⟨_, inner, ⟨_, ho⟩, _⟩ := ho0
      rcases ho with ⟨he, _⟩ | ⟨g', cap', cur, he, _, _, _, hm, _⟩
      · injection he with e1 e2 e3; rw [e3]; exact Nat.zero_le _
      · injection he with e1 e2 e3; rw [e3]; exact hm
    exact (impl_Range.at_end P0_ P2_ A0 l0.length c0 l0 g2 c2 [y] w0 w hB ho0 hC2 rfl rfl hc2 hl hc0 hm).mono fun e w' h => by simpa using h


/-! ### impl_splitRange: function 68 -/
def impl_splitRange.j0 : Nat → List (S26) → Int → Int → Bool → Option ((List (S26)) × Bool)
  | 0, _, _, _, _ => none
  | k + 1, x0, x1, x2, x23 => if x23 = true then (some (([] : List (S26)), false)) else ((impl_findRange.f x0 x1).bind fun t131 => (if 0 ≤ t131 then (if t131 < (x0.length : Int) then (if ((rd_T26 x0 t131).f0) = x1 then (some (([] : List (S26)), false)) else ((some (([] : List (S26)) : List (S26))).bind fun y134 => (if y134.length + x0.length < 5864062014805 then ((some (y134 ++ x0 : List (S26))).bind fun y137 => (if t131 < (y137.length : Int) then ((impl_Range.f (y137.set (t131 : Int).toNat (⟨(rd_T26 y137 t131).f0, IntKind.u64.wrap (x1 - 1), (rd_T26 y137 t131).f2⟩ : S26)) (wrap64 (t131 + 1)) (([(⟨x1, (rd_T26 x0 t131).f1, x2⟩ : S26)] : List (S26)))).bind fun t144 => (some (t144, true))) else (none))) else (none)))) else (none)) else (none)))
def impl_splitRange.f (k : Nat) (l0 : List (S26)) (a1 : Int) (a2 : Int) : Option ((List (S26)) × Bool) := (impl_areRanges.f k l0).bind fun t129 => (if t129 = true then ((impl_isGroupId.f a2).bind fun t130 => (if t130 = true then (impl_splitRange.j0 k l0 a1 a2 ((l0.length : Int) == 24)) else (impl_splitRange.j0 k l0 a1 a2 true))) else (impl_splitRange.j0 k l0 a1 a2 true))
theorem impl_splitRange.mono_l : ∀ k, (∀ y0 y1 y2 y3, LeO (impl_splitRange.j0 k y0 y1 y2 y3) (impl_splitRange.j0 (k + 1) y0 y1 y2 y3))
  | 0 => fun _ _ _ _ r h => by simp [impl_splitRange.j0] at h
  | k + 1 => by
    have ih0 := impl_splitRange.mono_l k
    · intro y0 y1 y2 y3
      unfold impl_splitRange.j0
      repeat' first
      | (with_reducible exact ih0 _ _ _ _)
      | (with_reducible exact impl_areRanges.mono _ _)
      | (with_reducible exact LeO.refl _)
      | (with_reducible exact LeO.none _)
      | (with_reducible refine LeO.ite ?_ ?_)
      | (with_reducible refine LeO.bind ?_ (fun _ => ?_))
      | exact ih0 _ _ _ _
      | exact impl_areRanges.mono _ _
      | exact LeO.none _
      | refine LeO.ite ?_ ?_
      | refine LeO.bind ?_ (fun _ => ?_)
theorem impl_splitRange.mono : ∀ a0 a1 a2 k, LeO (impl_splitRange.f k a0 a1 a2) (impl_splitRange.f (k + 1) a0 a1 a2) := by
  intro a0 a1 a2 k
  have ih0 := impl_splitRange.mono_l k
  unfold impl_splitRange.f
  repeat' first
      | (with_reducible exact ih0 _ _ _ _)
      | (with_reducible exact impl_areRanges.mono _ _)
      | (with_reducible exact LeO.refl _)
      | (with_reducible exact LeO.none _)
      | (with_reducible refine LeO.ite ?_ ?_)
      | (with_reducible refine LeO.bind ?_ (fun _ => ?_))
      | exact ih0 _ _ _ _
      | exact impl_areRanges.mono _ _
      | exact LeO.none _
      | refine LeO.ite ?_ ?_
      | refine LeO.bind ?_ (fun _ => ?_)
set_option maxHeartbeats 8000000 in
set_option maxRecDepth 100000 in
theorem impl_splitRange.calls (k : Nat) (A0 : Option Addr) (c0 : Nat) (l0 : List (S26)) (a1 : Int) (a2 : Int) (r1 : List (S26)) (r2 : Bool) (w : World) (hr0 : Kd.C k26 w A0 l0.length l0) (hc0 : l0.length ≤ c0) (h : impl_splitRange.f k l0 a1 a2 = some (r1, r2)) :
    Calls Try.prog 68 #[.slice A0 l0.length c0, .int .u64 a1, .int .i64 a2] w fun e w' => ∃ v0_ : Value, e = .returned (.tuple #[v0_, .bool r2]) ∧ Kd.R k26 26 w' w.heap.size (fun _ => True) v0_ r1 ∧ Below w.heap.size w w' := by
  have hu26 := Try.underlying26
  have HR0 := Aside0.mk hr0
  have HC0 := Aside0.mk hc0
  clear hr0 hc0
  have HB := Aside0.mk (Below.refl w.heap.size w)
  have H : ((impl_areRanges.f k l0).bind fun t129 => (if t129 = true then ((impl_isGroupId.f a2).bind fun t130 => (if t130 = true then (impl_splitRange.j0 k l0 a1 a2 ((l0.length : Int) == 24)) else (impl_splitRange.j0 k l0 a1 a2 true))) else (impl_splitRange.j0 k l0 a1 a2 true))) = some (r1, r2) := h
  clear h
  have HC4 := Aside0.mk H
  clear H
  go_enter Try.func68, Try.ntmps68
  go_upto_region 1 with (fail)
  go_cut [23] (fun v23 wc => ∃ (kq : Nat) (x23_3 : Bool), v23 = .bool x23_3 ∧ Aside0 (impl_splitRange.j0 kq l0 a1 a2 x23_3 = some (r1, r2)) ∧ Aside0 (kq ≤ k) ∧ Aside0 (Below w.heap.size w wc))
  case first =>
    have H := HC4.out
    clear HC4
    replace H := Option.bind_eq_some_iff.mp H
    obtain ⟨t129, A50, H⟩ := H
    replace H : (if t129 = true then ((impl_isGroupId.f a2).bind fun t130 => (if t130 = true then (impl_splitRange.j0 k l0 a1 a2 ((l0.length : Int) == 24)) else (impl_splitRange.j0 k l0 a1 a2 true))) else (impl_splitRange.j0 k l0 a1 a2 true)) = some (r1, r2) := H
    have A5 := Aside0.mk A50
    clear A50
    by_cases c6 : t129 = true
    · subst c6
      have H1 : ((impl_isGroupId.f a2).bind fun t130 => (if t130 = true then (impl_splitRange.j0 k l0 a1 a2 ((l0.length : Int) == 24)) else (impl_splitRange.j0 k l0 a1 a2 true))) = some (r1, r2) := by rw [if_pos rfl] at H; exact H
      clear H
      have H := H1
      clear H1
      replace H := Option.bind_eq_some_iff.mp H
      obtain ⟨t130, A70, H⟩ := H
      replace H : (if t130 = true then (impl_splitRange.j0 k l0 a1 a2 ((l0.length : Int) == 24)) else (impl_splitRange.j0 k l0 a1 a2 true)) = some (r1, r2) := H
      have A7 := Aside0.mk A70
      clear A70
      by_cases c8 : t130 = true
      · subst c8
        have H1 : (impl_splitRange.j0 k l0 a1 a2 ((l0.length : Int) == 24)) = some (r1, r2) := by rw [if_pos rfl] at H; exact H
        clear H
        have H := H1
        clear H1
        have H' := Aside0.mk H
        clear H
        go_wp2_with (first | ((with_reducible refine gate_callee (f := 56) rfl ?_); refine goesL_ (some 12) rfl rfl Try.func56 (by kernel_rfl) rfl #[.slice A0 l0.length c0] rfl u4_1 ?_; (with_reducible refine (impl_areRanges.calls k _ _ l0 true _ ?side1 ?side2 A5.out).mono ?_); (case side1 => repeat (first | exact (Kd.C_below HR0.out HB.out) | (with_reducible refine Kd.C_alloc ?_ _) | (with_reducible refine Kd.C_drewN ?_ _) | (with_reducible refine Kd.C_drew ?_))); (case side2 => exact HC0.out); rintro e w9 ⟨rfl, hb⟩; refine ⟨_, rfl, ?_⟩; have n0_ := Aside0.mk (below_step u4_0 hb); clear HB; have HB := n0_; clear n0_; (try clear hb); (try clear hb2); (try clear hk); (try clear hi)) | (go_at_call 58; (with_reducible refine (impl_isGroupId.calls a2 true _ A7.out).mono ?_); rintro e w' ⟨rfl, ⟨nd, rfl⟩⟩))
        go_meet
        case rel => exact ⟨_, (((l0.length : Int) == 24)), u4_8, H', ⟨by first | omega | exact Nat.le_refl _⟩, ⟨by repeat (first | (with_reducible first | exact HB.out | apply below_alloc | apply pw_below_drewN | apply below_drew1) | exact HB.out)⟩⟩
      · replace c8 := Bool.eq_false_iff.mpr c8
        subst c8
        have H1 : (impl_splitRange.j0 k l0 a1 a2 true) = some (r1, r2) := by rw [if_neg (show ¬ (false = true) by decide)] at H; exact H
        clear H
        have H := H1
        clear H1
        have H' := Aside0.mk H
        clear H
        go_wp2_with (first | ((with_reducible refine gate_callee (f := 56) rfl ?_); refine goesL_ (some 12) rfl rfl Try.func56 (by kernel_rfl) rfl #[.slice A0 l0.length c0] rfl u4_1 ?_; (with_reducible refine (impl_areRanges.calls k _ _ l0 true _ ?side1 ?side2 A5.out).mono ?_); (case side1 => repeat (first | exact (Kd.C_below HR0.out HB.out) | (with_reducible refine Kd.C_alloc ?_ _) | (with_reducible refine Kd.C_drewN ?_ _) | (with_reducible refine Kd.C_drew ?_))); (case side2 => exact HC0.out); rintro e w10 ⟨rfl, hb⟩; refine ⟨_, rfl, ?_⟩; have n0_ := Aside0.mk (below_step u4_0 hb); clear HB; have HB := n0_; clear n0_; (try clear hb); (try clear hb2); (try clear hk); (try clear hi)) | (go_at_call 58; (with_reducible refine (impl_isGroupId.calls a2 false _ A7.out).mono ?_); rintro e w' ⟨rfl, ⟨nd, rfl⟩⟩))
        go_meet
        case rel => exact ⟨_, (true), u4_8, H', ⟨by first | omega | exact Nat.le_refl _⟩, ⟨by repeat (first | (with_reducible first | exact HB.out | apply below_alloc | apply pw_below_drewN | apply below_drew1) | exact HB.out)⟩⟩
    · replace c6 := Bool.eq_false_iff.mpr c6
      subst c6
      have H1 : (impl_splitRange.j0 k l0 a1 a2 true) = some (r1, r2) := by rw [if_neg (show ¬ (false = true) by decide)] at H; exact H
      clear H
      have H := H1
      clear H1
      have H' := Aside0.mk H
      clear H
      go_wp2_with (first | ((with_reducible refine gate_callee (f := 56) rfl ?_); refine goesL_ (some 12) rfl rfl Try.func56 (by kernel_rfl) rfl #[.slice A0 l0.length c0] rfl u4_1 ?_; (with_reducible refine (impl_areRanges.calls k _ _ l0 false _ ?side1 ?side2 A5.out).mono ?_); (case side1 => repeat (first | exact (Kd.C_below HR0.out HB.out) | (with_reducible refine Kd.C_alloc ?_ _) | (with_reducible refine Kd.C_drewN ?_ _) | (with_reducible refine Kd.C_drew ?_))); (case side2 => exact HC0.out); rintro e w11 ⟨rfl, hb⟩; refine ⟨_, rfl, ?_⟩; have n0_ := Aside0.mk (below_step u4_0 hb); clear HB; have HB := n0_; clear n0_; (try clear hb); (try clear hb2); (try clear hk); (try clear hi)))
      go_meet
      case rel => exact ⟨_, (true), u4_8, H', ⟨by first | omega | exact Nat.le_refl _⟩, ⟨by repeat (first | (with_reducible first | exact HB.out | apply below_alloc | apply pw_below_drewN | apply below_drew1) | exact HB.out)⟩⟩
  case rest =>
    clear HC4
    try clear p2
    try clear c5
    try clear c6
    try clear c8
    obtain ⟨kq, x23_3, rfl, HA, HJ3, HB⟩ := hcut
    cases kq with
    | zero => exact absurd HA.out (by simp [impl_splitRange.j0])
    | succ kj3 =>
      have H := HA.out
      clear HA
      simp only [impl_splitRange.j0] at H
      by_cases c12 : x23_3 = true
      · subst c12
        have H1 : (some (([] : List (S26)), false)) = some (r1, r2) := by rw [if_pos rfl] at H; exact H
        clear H
        have H := H1
        clear H1
        simp only [Option.some.injEq, Prod.mk.injEq] at H
        obtain ⟨rfl, rfl⟩ := H
        go_wp2
        go_ret2
        exact ⟨_, by first | rfl | (simp [errW_none, errW_some] <;> rfl) | (simp [*, errW_none, errW_some] <;> rfl), by first | exact Kd.R_nil _ _ _ _ _ | exact Kd.N_nil _ _ _ _ _ | exact Kd.V_nil _ _ _ _ _ | exact Kd.Q_nil _ _ _ _ _ | exact Kd.S_nil _ _ _ _ _, by repeat (first | (with_reducible first | exact HB.out | apply below_alloc | apply pw_below_drewN | apply below_drew1) | exact HB.out)⟩
      · replace c12 := Bool.eq_false_iff.mpr c12
        subst c12
        have H1 : ((impl_findRange.f l0 a1).bind fun t131 => (if 0 ≤ t131 then (if t131 < (l0.length : Int) then (if ((rd_T26 l0 t131).f0) = a1 then (some (([] : List (S26)), false)) else ((some (([] : List (S26)) : List (S26))).bind fun y134 => (if y134.length + l0.length < 5864062014805 then ((some (y134 ++ l0 : List (S26))).bind fun y137 => (if t131 < (y137.length : Int) then ((impl_Range.f (y137.set (t131 : Int).toNat (⟨(rd_T26 y137 t131).f0, IntKind.u64.wrap (a1 - 1), (rd_T26 y137 t131).f2⟩ : S26)) (wrap64 (t131 + 1)) (([(⟨a1, (rd_T26 l0 t131).f1, a2⟩ : S26)] : List (S26)))).bind fun t144 => (some (t144, true))) else (none))) else (none)))) else (none)) else (none))) = some (r1, r2) := by rw [if_neg (show ¬ (false = true) by decide)] at H; exact H
        clear H
        have H := H1
        clear H1
        replace H := Option.bind_eq_some_iff.mp H
        obtain ⟨t131, A130, H⟩ := H
        replace H : (if 0 ≤ t131 then (if t131 < (l0.length : Int) then (if ((rd_T26 l0 t131).f0) = a1 then (some (([] : List (S26)), false)) else ((some (([] : List (S26)) : List (S26))).bind fun y134 => (if y134.length + l0.length < 5864062014805 then ((some (y134 ++ l0 : List (S26))).bind fun y137 => (if t131 < (y137.length : Int) then ((impl_Range.f (y137.set (t131 : Int).toNat (⟨(rd_T26 y137 t131).f0, IntKind.u64.wrap (a1 - 1), (rd_T26 y137 t131).f2⟩ : S26)) (wrap64 (t131 + 1)) (([(⟨a1, (rd_T26 l0 t131).f1, a2⟩ : S26)] : List (S26)))).bind fun t144 => (some (t144, true))) else (none))) else (none)))) else (none)) else (none)) = some (r1, r2) := H
        have A13 := Aside0.mk A130
        clear A130
        by_cases c14 : 0 ≤ t131
        · rw [if_pos c14] at H
          have c14b0 : decide (0 ≤ t131) = true := decide_eq_true c14
          clear c14
          by_cases c15 : t131 < (l0.length : Int)
          · rw [if_pos c15] at H
            have c15b0 : decide (t131 < (l0.length : Int)) = true := decide_eq_true c15
            clear c15
            by_cases c16 : ((rd_T26 l0 t131).f0) = a1
            · rw [if_pos c16] at H
              have c16b0 : (((rd_T26 l0 t131).f0) == a1) = true := beq_iff_eq.mpr c16
              have c16b1 : (((rd_T26 l0 t131).f0) != a1) = false := bne_eq_false_iff_eq.mpr c16
              clear c16
              simp only [Option.some.injEq, Prod.mk.injEq] at H
              obtain ⟨rfl, rfl⟩ := H
              go_wp2_with (first | ((with_reducible refine gate_callee (f := 59) rfl ?_); refine goesL_ (some 26) rfl rfl Try.func59 (by kernel_rfl) rfl #[.slice A0 l0.length c0, .int .u64 a1] rfl u4_1 ?_; (with_reducible refine (impl_findRange.calls _ _ l0 a1 t131 _ ?side1 ?side2 A13.out).mono ?_); (case side1 => repeat (first | exact (Kd.C_below HR0.out HB.out) | (with_reducible refine Kd.C_alloc ?_ _) | (with_reducible refine Kd.C_drewN ?_ _) | (with_reducible refine Kd.C_drew ?_))); (case side2 => exact HC0.out); rintro e w17 ⟨rfl, hb⟩; refine ⟨_, rfl, ?_⟩; have n0_ := Aside0.mk (below_step u4_0 hb); clear HB; have HB := n0_; clear n0_; (try clear hb); (try clear hb2); (try clear hk); (try clear hi); have p132 : 0 ≤ (t131 : Int) := of_decide_eq_true u4_5; have q132 : t131 < (l0.length : Int) := of_decide_eq_true u4_5; obtain ⟨ad132, e132, hx132_0, hx132_1, hx132_2⟩ := at_T26 HR0.out t131 p132 q132; cases e132; replace hx132_0 := (HB.out.cell (World.block_lt_of_cell? w _ hx132_0)).trans hx132_0; replace hx132_1 := (HB.out.cell (World.block_lt_of_cell? w _ hx132_1)).trans hx132_1; replace hx132_2 := (HB.out.cell (World.block_lt_of_cell? w _ hx132_2)).trans hx132_2; replace p132 := eq_true p132; replace q132 := eq_true q132) | ((with_reducible refine gate_dst (N := 9) rfl ?_); (try (refine gate_guard (by rfl) ?_; dsimp only)); refine box_event ?hg (N := 9) ?hd (cs := #[.int .u64 0, .int .u64 0, .int .i64 0]) (t := 26) ?hr ?_; (case hd => rfl); (case hg => rfl); (case hr => first | (go_simp; done) | (go_simp; rfl)); intro gb133 hg w18 hbox hb; have n0_ := Aside0.mk (below_step u4_0 hb); have n1_ := Aside0.mk (hbox); have n2_ := Aside0.mk ((by rw [hg]; exact (below_size u4_0) : w.heap.size ≤ gb133)); have n3_ := Aside0.mk ((by rw [hg]; exact (below_size u4_0) : w.heap.size ≤ gb133)); clear HB; have HB := n0_; have BK133 := n1_; have GW133 := n2_; have GE133 := n3_; clear n0_ n1_ n2_ n3_; clear hb hbox hg; have hcz19_0 : w18.cell? ⟨gb133, 0, none⟩ = some (.int .u64 0) := (blk_cell BK133.out 0).trans rfl; have hcz19_1 : w18.cell? ⟨gb133, 1, none⟩ = some (.int .u64 0) := (blk_cell BK133.out 1).trans rfl; have hcz19_2 : w18.cell? ⟨gb133, 2, none⟩ = some (.int .i64 0) := (blk_cell BK133.out 2).trans rfl; have hfz19_0 := blk_frozen BK133.out 0; have hfz19_1 := blk_frozen BK133.out 1; have hfz19_2 := blk_frozen BK133.out 2))
              go_ret2
              exact ⟨_, by first | rfl | (simp [errW_none, errW_some] <;> rfl) | (simp [*, errW_none, errW_some] <;> rfl), by first | exact Kd.R_nil _ _ _ _ _ | exact Kd.N_nil _ _ _ _ _ | exact Kd.V_nil _ _ _ _ _ | exact Kd.Q_nil _ _ _ _ _ | exact Kd.S_nil _ _ _ _ _, by repeat (first | (with_reducible first | exact HB.out | apply below_alloc | apply pw_below_drewN | apply below_drew1 | refine below_set ?_ GE133.out) | exact HB.out)⟩
            · rw [if_neg c16] at H
              have c16b0 : (((rd_T26 l0 t131).f0) == a1) = false := beq_eq_false_iff_ne.mpr c16
              have c16b1 : (((rd_T26 l0 t131).f0) != a1) = true := bne_iff_ne.mpr c16
              obtain ⟨y134, hy134⟩ : ∃ y_ : List (S26), y_ = (([] : List (S26))) := ⟨_, rfl⟩
              replace H : (if y134.length + l0.length < 5864062014805 then ((some (y134 ++ l0 : List (S26))).bind fun y137 => (if t131 < (y137.length : Int) then ((impl_Range.f (y137.set (t131 : Int).toNat (⟨(rd_T26 y137 t131).f0, IntKind.u64.wrap (a1 - 1), (rd_T26 y137 t131).f2⟩ : S26)) (wrap64 (t131 + 1)) (([(⟨a1, (rd_T26 l0 t131).f1, a2⟩ : S26)] : List (S26)))).bind fun t144 => (some (t144, true))) else (none))) else (none)) = some (r1, r2) := by first | (rw [hy134]; with_reducible exact H) | (have H2_ := (Option.bind_some _ _).symm.trans H; rw [hy134]; with_reducible exact H2_) | (have H2_ := (Option.bind_some _ _).symm.trans H; with_reducible exact H2_) | with_reducible exact H | (rw [hy134]; exact H) | exact H
              have Ny134 := Aside0.mk hy134
              clear hy134
              by_cases c20 : y134.length + l0.length < 5864062014805
              · rw [if_pos c20] at H
                have LMc20 := Aside0.mk c20
                clear c20
                obtain ⟨y137, hy137⟩ : ∃ y_ : List (S26), y_ = (y134 ++ l0) := ⟨_, rfl⟩
                replace H : (if t131 < (y137.length : Int) then ((impl_Range.f (y137.set (t131 : Int).toNat (⟨(rd_T26 y137 t131).f0, IntKind.u64.wrap (a1 - 1), (rd_T26 y137 t131).f2⟩ : S26)) (wrap64 (t131 + 1)) (([(⟨a1, (rd_T26 l0 t131).f1, a2⟩ : S26)] : List (S26)))).bind fun t144 => (some (t144, true))) else (none)) = some (r1, r2) := by first | (rw [hy137]; with_reducible exact H) | (have H2_ := (Option.bind_some _ _).symm.trans H; rw [hy137]; with_reducible exact H2_) | (have H2_ := (Option.bind_some _ _).symm.trans H; with_reducible exact H2_) | with_reducible exact H | (rw [hy137]; exact H) | exact H
                have Ny137 := Aside0.mk hy137
                clear hy137
                by_cases c21 : t131 < (y137.length : Int)
                · rw [if_pos c21] at H
                  have c21b0 : decide (t131 < (y137.length : Int)) = true := decide_eq_true c21
                  clear c21
                  obtain ⟨y140, hy140⟩ : ∃ y_ : List (S26), y_ = (y137.set (t131 : Int).toNat (⟨(rd_T26 y137 t131).f0, IntKind.u64.wrap (a1 - 1), (rd_T26 y137 t131).f2⟩ : S26)) := ⟨_, rfl⟩
                  replace H : ((impl_Range.f y140 (wrap64 (t131 + 1)) (([(⟨a1, (rd_T26 l0 t131).f1, a2⟩ : S26)] : List (S26)))).bind fun t144 => (some (t144, true))) = some (r1, r2) := by first | (rw [hy140]; with_reducible exact H) | (have H2_ := (Option.bind_some _ _).symm.trans H; rw [hy140]; with_reducible exact H2_) | (have H2_ := (Option.bind_some _ _).symm.trans H; with_reducible exact H2_) | with_reducible exact H | (rw [hy140]; exact H) | exact H
                  have Ny140 := Aside0.mk hy140
                  clear hy140
                  obtain ⟨y141, hy141⟩ : ∃ y_ : List (S26), y_ = (([(⟨a1, (rd_T26 l0 t131).f1, a2⟩ : S26)] : List (S26))) := ⟨_, rfl⟩
                  replace H : ((impl_Range.f y140 (wrap64 (t131 + 1)) y141).bind fun t144 => (some (t144, true))) = some (r1, r2) := by first | (rw [hy141]; with_reducible exact H) | (have H2_ := (Option.bind_some _ _).symm.trans H; rw [hy141]; with_reducible exact H2_) | (have H2_ := (Option.bind_some _ _).symm.trans H; with_reducible exact H2_) | with_reducible exact H | (rw [hy141]; exact H) | exact H
                  have Ny141 := Aside0.mk hy141
                  clear hy141
                  replace H := Option.bind_eq_some_iff.mp H
                  obtain ⟨t144, A230, H⟩ := H
                  replace H : (some (t144, true)) = some (r1, r2) := H
                  have A23 := Aside0.mk A230
                  clear A230
                  simp only [Option.some.injEq, Prod.mk.injEq] at H
                  obtain ⟨rfl, rfl⟩ := H
                  go_wp2_with (first | ((with_reducible refine gate_callee (f := 59) rfl ?_); refine goesL_ (some 26) rfl rfl Try.func59 (by kernel_rfl) rfl #[.slice A0 l0.length c0, .int .u64 a1] rfl u4_1 ?_; (with_reducible refine (impl_findRange.calls _ _ l0 a1 t131 _ ?side1 ?side2 A13.out).mono ?_); (case side1 => repeat (first | exact (Kd.C_below HR0.out HB.out) | (with_reducible refine Kd.C_alloc ?_ _) | (with_reducible refine Kd.C_drewN ?_ _) | (with_reducible refine Kd.C_drew ?_))); (case side2 => exact HC0.out); rintro e w24 ⟨rfl, hb⟩; refine ⟨_, rfl, ?_⟩; have n0_ := Aside0.mk (below_step u4_0 hb); clear HB; have HB := n0_; clear n0_; (try clear hb); (try clear hb2); (try clear hk); (try clear hi); have p132 : 0 ≤ (t131 : Int) := of_decide_eq_true u4_5; have q132 : t131 < (l0.length : Int) := of_decide_eq_true u4_5; obtain ⟨ad132, e132, hx132_0, hx132_1, hx132_2⟩ := at_T26 HR0.out t131 p132 q132; cases e132; replace hx132_0 := (HB.out.cell (World.block_lt_of_cell? w _ hx132_0)).trans hx132_0; replace hx132_1 := (HB.out.cell (World.block_lt_of_cell? w _ hx132_1)).trans hx132_1; replace hx132_2 := (HB.out.cell (World.block_lt_of_cell? w _ hx132_2)).trans hx132_2; replace p132 := eq_true p132; replace q132 := eq_true q132) | ((with_reducible refine gate_dst (N := 9) rfl ?_); (try (refine gate_guard (by rfl) ?_; dsimp only)); refine box_event ?hg (N := 9) ?hd (cs := #[.int .u64 0, .int .u64 0, .int .i64 0]) (t := 26) ?hr ?_; (case hd => rfl); (case hg => rfl); (case hr => first | (go_simp; done) | (go_simp; rfl)); intro gb133 hg w25 hbox hb; have n0_ := Aside0.mk (below_step u4_0 hb); have n1_ := Aside0.mk (hbox); have n2_ := Aside0.mk ((by rw [hg]; exact (below_size u4_0) : w.heap.size ≤ gb133)); have n3_ := Aside0.mk ((by rw [hg]; exact (below_size u4_0) : w.heap.size ≤ gb133)); clear HB; have HB := n0_; have BK133 := n1_; have GW133 := n2_; have GE133 := n3_; clear n0_ n1_ n2_ n3_; clear hb hbox hg; have hcz26_0 : w25.cell? ⟨gb133, 0, none⟩ = some (.int .u64 0) := (blk_cell BK133.out 0).trans rfl; have hcz26_1 : w25.cell? ⟨gb133, 1, none⟩ = some (.int .u64 0) := (blk_cell BK133.out 1).trans rfl; have hcz26_2 : w25.cell? ⟨gb133, 2, none⟩ = some (.int .i64 0) := (blk_cell BK133.out 2).trans rfl; have hfz26_0 := blk_frozen BK133.out 0; have hfz26_1 := blk_frozen BK133.out 1; have hfz26_2 := blk_frozen BK133.out 2) | ((with_reducible refine gate_dst (N := 35) rfl ?_); (try (refine gate_guard (by rfl) ?_; dsimp only)); refine Kd.R_lit k26 _ 26 ?hg (N := 35) ?hd (xs := ([] : List (S26))) (inner := []) (ok := fun _ => True) (okp := fun _ => True) ?hr ?hp (fun _ hk => hk) trivial (Below.refl _ _) (Nat.le_refl _) (by simp) ?_; (case hd => rfl); (case hg => rfl); (case hr => first | (go_simp; done) | (go_simp; rfl)); (case hp => exact (Reps.none _ _)); intro v135 w27 ho28 hb hg_ hnew_; clear hg_ hnew_; (first | rw [← Ny134.out] at ho28 | (simp only [Int.reduceToNat] at ho28; rw [← Ny134.out] at ho28)); have n0_ := Aside0.mk (Kd.R_lower (Kd.R_newB ho28 (g := gb133) (o := .cells #[.int .u64 ((rd_T26 l0 t131).f0), .int .u64 ((rd_T26 l0 t131).f1), .int .i64 ((rd_T26 l0 t131).f2)] 26 (0, 0)) u4_3) (below_size u4_2)); have n1_ := Aside0.mk (blk_below (g := gb133) (o := .cells #[.int .u64 ((rd_T26 l0 t131).f0), .int .u64 ((rd_T26 l0 t131).f1), .int .i64 ((rd_T26 l0 t131).f2)] 26 (0, 0)) u4_3 hb); have n2_ := Aside0.mk (below_step u4_2 hb); clear BK133; clear HB; have HO136 := n0_; have BK133 := n1_; have HB := n2_; clear n0_ n1_ n2_; clear hb ho28) | ((with_reducible refine gate_builtin (b := .append) (xs := #[.tmp 35, .tmp 36]) rfl ?_); (try (refine gate_guard (by rfl) ?_; dsimp only)); at_builtin; refine Kd.R_append_rows k26 (w0 := w) w.heap.size rfl (.tmp 35) (.tmp 36) 32 26 (.agg #[(.int .u64 0), (.int .u64 0), (.int .i64 0)]) 24 rfl Try.underlying32 info26 rfl (by decide) (by omega) v135 y134 l0 _ _ _ (fun k_ => k_ ≠ gb133) (fun _ => False) rfl rfl ?aO ?aR (fun _ _ h => h) (fun _ h => h.elim) ?aF ?aB ?aS ?aL ?_; (case aR => repeat (first | exact (Kd.C_below HR0.out HB.out) | (with_reducible refine Kd.C_alloc ?_ _) | (with_reducible refine Kd.C_drewN ?_ _) | (with_reducible refine Kd.C_drew ?_))); (case aB => exact u4_2); (case aF => exact (fun k_ hk => Kd.freshB (g := gb133) (o := .cells #[.int .u64 ((rd_T26 l0 t131).f0), .int .u64 ((rd_T26 l0 t131).f1), .int .i64 ((rd_T26 l0 t131).f2)] 26 (0, 0)) u4_4 k_ hk)); (case aO => exact (by (with_reducible repeat (first | apply Kd.R_alloc | apply Kd.R_drewN | apply Kd.R_drew)); exact Kd.R_mono HO136.out (fun _ hk => hk.2))); (case aS => exact (below_size u4_2)); (case aL => have := LMc20.out; omega); intro v138 w29 ho hb hg hat; rw [← Ny137.out] at ho; have n0_ := Aside0.mk (blk_grown (g := gb133) (o := .cells #[.int .u64 ((rd_T26 l0 t131).f0), .int .u64 ((rd_T26 l0 t131).f1), .int .i64 ((rd_T26 l0 t131).f2)] 26 (0, 0)) u4_4 hg (Kd.R_away HO136.out (fun _ hk => hk.2))); have n1_ := Aside0.mk (hb); have n2_ := Aside0.mk (ho); clear BK133; clear HB; clear HO136; have BK133 := n0_; have HB := n1_; have HO139 := n2_; clear n0_ n1_ n2_; clear ho hb hg hat; have p22 : 0 ≤ (t131 : Int) := of_decide_eq_true u4_5; have q22 : (t131 : Int) < ((y137.length : Int) : Int) := of_decide_eq_true u4_5; obtain ⟨go22, co22, eo22, gb22, gl22, cl22, HG22⟩ := Kd.R_form HO139.out (by omega); (first | cases eo22 | (injection eo22 with ea_ en_ ec_; (first | subst ea_ | (injection ea_ with ea_; subst ea_)); subst ec_; clear en_)); have GB22 := Aside0.mk gb22; have GG22 := Aside0.mk HG22; clear gb22 gl22 HG22; obtain ⟨ce22, hcl22, hM22, hcc22, hfr22⟩ := Kd.R_elem HO139.out z26 (t131 : Int) p22 q22; obtain rfl := k26_openM hM22; have hx22_0 : w29.cell? ⟨go22, (t131 : Int).toNat * 3, none⟩ = some (.int .u64 ((rd_T26 y137 t131).f0)) := hcc22 0 _ rfl; have hx22_1 : w29.cell? ⟨go22, (t131 : Int).toNat * 3 + 1, none⟩ = some (.int .u64 ((rd_T26 y137 t131).f1)) := hcc22 1 _ rfl; have hx22_2 : w29.cell? ⟨go22, (t131 : Int).toNat * 3 + 2, none⟩ = some (.int .i64 ((rd_T26 y137 t131).f2)) := hcc22 2 _ rfl; have hf22_0 : w29.frozen? ⟨go22, (t131 : Int).toNat * 3, none⟩ = false := hfr22 0; have hf22_1 : w29.frozen? ⟨go22, (t131 : Int).toNat * 3 + 1, none⟩ = false := hfr22 1; have hf22_2 : w29.frozen? ⟨go22, (t131 : Int).toNat * 3 + 2, none⟩ = false := hfr22 2; clear hcl22 hcc22 hfr22 hM22; replace p22 := eq_true p22; replace q22 := eq_true q22; have HX30 := Aside0.mk (show Kd.R k26 26 w29 w.heap.size (fun k_ => k_ ≠ gb133) (.slice (some ⟨go22, 0, none⟩) y137.length co22) y137 from u4_6); obtain ⟨ce30, hcl30, hM30, hcc30, hfr30⟩ := Kd.R_elem HX30.out z26 (t131 : Int) (of_decide_eq_true u4_5) (by have h_ : (t131 : Int) < ((y137.length : Int) : Int) := of_decide_eq_true u4_5; first | exact h_ | (have e_ := (Kd.R_reads' HO139.out).1; omega) | simpa using h_); obtain rfl := k26_openM hM30; have HP30 := Kd.R_seg HX30.out (t131 : Int) (of_decide_eq_true u4_5) (by have h_ : (t131 : Int) < ((y137.length : Int) : Int) := of_decide_eq_true u4_5; first | exact h_ | (have e_ := (Kd.R_reads' HO139.out).1; omega) | simpa using h_) (seg := [.int .u64 (IntKind.u64.wrap (a1 - 1))]) (j := 1) hcl30 hcc30 (show 2 ≤ 3 from by decide) (x' := (⟨(rd_T26 y137 t131).f0, IntKind.u64.wrap (a1 - 1), (rd_T26 y137 t131).f2⟩ : S26)) (k26_mkM _ _ _ (⟨(rd_T26 y137 t131).f0, IntKind.u64.wrap (a1 - 1), (rd_T26 y137 t131).f2⟩ : S26) ) (fun _ hk => hk); have hx30_1 := hcc30 1 _ rfl; (try simp only [show (k26).sz = 3 from rfl, Nat.mul_one, Nat.add_zero] at hx30_1); have hf30_1 := hfr30 1; (try simp only [show (k26).sz = 3 from rfl, Nat.mul_one, Nat.add_zero] at hf30_1); clear hcl30 hcc30 hfr30 hM30) | ((with_reducible refine gate_store (t := 22) (p := 43) rfl ?_); refine store_event (t := 22) (p := 43) (v := ?vo_w31) (w1 := (w29.setCell ⟨go22, (t131 : Int).toNat * 3 + 1, none⟩ (.int .u64 (IntKind.u64.wrap (a1 - 1))))) ?hg ?ho ?hn ?hr ?_; (case ho => rfl); (case hg => rfl); (case hn => rfl); (case hr => first | (go_simp; done) | (go_simp; rfl)); intro w31 hw; have hg : w29.grownBy w31 (some go22) := (by rw [hw]; exact HP30.2); have hp_ : Kd.R k26 26 w31 w.heap.size (fun k_ => k_ ≠ gb133) (.slice (some ⟨go22, 0, none⟩) y137.length co22) y140 := (by rw [hw, Ny140.out]; exact HP30.1); clear HP30; have n0_ := Aside0.mk (blk_grown (g := gb133) (o := .cells #[.int .u64 ((rd_T26 l0 t131).f0), .int .u64 ((rd_T26 l0 t131).f1), .int .i64 ((rd_T26 l0 t131).f2)] 26 (0, 0)) u4_4 hg (Kd.R_away HO139.out (fun _ hk => hk))); have n1_ := Aside0.mk (hp_); have n2_ := Aside0.mk ((by rw [hw]; exact below_set (HB.out) GB22.out : Below w.heap.size w w31)); clear BK133; clear HO139; clear HB; have BK133 := n0_; have HO139 := n1_; have HB := n2_; clear n0_ n1_ n2_; clear hg hw hp_; have hcz32_0 : w31.cell? ⟨gb133, 0, none⟩ = some (.int .u64 ((rd_T26 l0 t131).f0)) := (blk_cell BK133.out 0).trans rfl; have hcz32_1 : w31.cell? ⟨gb133, 1, none⟩ = some (.int .u64 ((rd_T26 l0 t131).f1)) := (blk_cell BK133.out 1).trans rfl; have hcz32_2 : w31.cell? ⟨gb133, 2, none⟩ = some (.int .i64 ((rd_T26 l0 t131).f2)) := (blk_cell BK133.out 2).trans rfl; have hfz32_0 := blk_frozen BK133.out 0; have hfz32_1 := blk_frozen BK133.out 1; have hfz32_2 := blk_frozen BK133.out 2) | ((with_reducible refine gate_dst (N := 52) rfl ?_); (try (refine gate_guard (by rfl) ?_; dsimp only)); refine Kd.R_lit k26 _ 26 ?hg (N := 52) ?hd (xs := ([(⟨a1, (rd_T26 l0 t131).f1, a2⟩ : S26)] : List (S26))) (inner := [.int .u64 a1, .int .u64 ((rd_T26 l0 t131).f1), .int .i64 a2]) (ok := fun _ => True) (okp := fun _ => True) ?hr ?hp (fun _ hk => hk) trivial (Below.refl _ _) (Nat.le_refl _) (by simp) ?_; (case hd => rfl); (case hg => rfl); (case hr => first | (go_simp; done) | (go_simp; rfl)); (case hp => exact (Reps.c3 (show Kd.M k26 _ _ _ (⟨a1, (rd_T26 l0 t131).f1, a2⟩ : S26) [.int .u64 a1, .int .u64 ((rd_T26 l0 t131).f1), .int .i64 a2] from (k26_mkM _ _ _ (⟨a1, (rd_T26 l0 t131).f1, a2⟩ : S26) )) (Reps.none _ _))); intro v142 w33 ho34 hb hg_ hnew_; clear hg_ hnew_; (first | rw [← Ny141.out] at ho34 | (simp only [Int.reduceToNat] at ho34; rw [← Ny141.out] at ho34)); have n0_ := Aside0.mk (Kd.R_elder' u4_6 (Kd.R_base ho34) hb); have n1_ := Aside0.mk (Kd.R_lower (Kd.R_newB (Kd.R_new' ho34 (Kd.R_lt u4_6)) (g := gb133) (o := .cells #[.int .u64 ((rd_T26 l0 t131).f0), .int .u64 ((rd_T26 l0 t131).f1), .int .i64 ((rd_T26 l0 t131).f2)] 26 (0, 0)) u4_4) (below_size u4_2)); have n2_ := Aside0.mk (blk_below (g := gb133) (o := .cells #[.int .u64 ((rd_T26 l0 t131).f0), .int .u64 ((rd_T26 l0 t131).f1), .int .i64 ((rd_T26 l0 t131).f2)] 26 (0, 0)) u4_4 hb); have n3_ := Aside0.mk (below_step u4_2 hb); clear HO139; clear BK133; clear HB; have HO139 := n0_; have HO143 := n1_; have BK133 := n2_; have HB := n3_; clear n0_ n1_ n2_ n3_; clear hb ho34; obtain ⟨Ao35, co35, eo35⟩ := Kd.R_slice HO143.out; subst eo35) | ((with_reducible refine gate_callee (f := 80) rfl ?_); refine goesL_ (some 53) rfl rfl Try.func80 (by kernel_rfl) rfl #[.slice (some ⟨go22, 0, none⟩) y137.length co22, .int .i64 (wrap64 (t131 + 1)), .slice Ao35 y141.length co35] rfl u4_1 ?_; (with_reducible refine (impl_Range.calls (fun k_ => some k_ = (.slice (some ⟨go22, 0, none⟩) y137.length co22 : Value).ownBlock) (.slice (some ⟨go22, 0, none⟩) y137.length co22) y140 (wrap64 (t131 + 1)) (fun k_ => some k_ = (.slice Ao35 y141.length co35 : Value).ownBlock) (.slice Ao35 y141.length co35) y141 t144 w _ ?side1 ?side2 ?side3 ?side4 ?side5 A23.out).mono ?_); (case side1 => repeat (first | (with_reducible first | exact HB.out | apply below_alloc | apply pw_below_drewN | apply below_drew1 | refine below_set ?_ GE133.out) | exact HB.out)); (case side2 => exact Kd.R_tight rfl HO139.out); (case side3 => exact fun k_ e_ => (HO139.out.1 k_ e_.symm).2); (case side4 => exact Kd.R_tight rfl HO143.out); (case side5 => exact fun k_ e_ => (HO143.out.1 k_ e_.symm).1.2); rintro e w36 ⟨v145, rfl, ho0, hb, hkp⟩; refine ⟨_, rfl, ?_⟩; have n0_ := Aside0.mk (blk_kept u4_4 hkp (fun hs_ => Or.elim hs_ (fun e_ => (fun e_ => (Kd.R_away HO139.out (fun _ hk => hk.1)) e_) e_) (fun e_ => (fun e_ => (Kd.R_away HO143.out (fun _ hk => hk.2)) e_) e_))); have n1_ := Aside0.mk (Kd.R_mono (ok' := fun k_ => k_ ≠ gb133) ho0 (fun k_ hk_ => Or.elim hk_ (fun hs_ => Or.elim hs_ (fun hs_ => fun e_ => (Kd.R_away HO139.out (fun _ hk => hk.1)) (by rw [← e_]; exact hs_)) (fun hs_ => fun e_ => (Kd.R_away HO143.out (fun _ hk => hk.2)) (by rw [← e_]; exact hs_))) (fun hn_ => (Kd.freshB (g := gb133) (o := .cells #[.int .u64 ((rd_T26 l0 t131).f0), .int .u64 ((rd_T26 l0 t131).f1), .int .i64 ((rd_T26 l0 t131).f2)] 26 (0, 0)) u4_4 k_ hn_)))); have n2_ := Aside0.mk (hb); clear BK133; clear HB; clear HO139; clear HO143; have BK133 := n0_; have HO146 := n1_; have HB := n2_; clear n0_ n1_ n2_; (try clear hb); (try clear hkp); (try clear ho0)))
                  go_ret2
                  exact ⟨_, by first | rfl | (simp [errW_none, errW_some] <;> rfl) | (simp [*, errW_none, errW_some] <;> rfl), by (with_reducible repeat (first | apply Kd.R_alloc | apply Kd.R_drewN | apply Kd.R_drew)); exact Kd.R_mono HO146.out (fun _ hk => trivial), by repeat (first | (with_reducible first | exact HB.out | apply below_alloc | apply pw_below_drewN | apply below_drew1 | refine below_set ?_ GE133.out) | exact HB.out)⟩
                · rw [if_neg c21] at H
                  exact absurd H (by simp)
              · rw [if_neg c20] at H
                exact absurd H (by simp)
          · rw [if_neg c15] at H
            exact absurd H (by simp)
        · rw [if_neg c14] at H
          exact absurd H (by simp)

/-! ### impl_SplitRange: function 40 -/
def impl_SplitRange.f (k : Nat) (l0 : List (S26)) (a1 : Int) (a2 : Int) : Option ((List (S26)) × Bool) := (impl_splitRange.f k l0 a1 a2).bind fun bt147 => (some (bt147.1, bt147.2))
theorem impl_SplitRange.mono : ∀ a0 a1 a2 k, LeO (impl_SplitRange.f k a0 a1 a2) (impl_SplitRange.f (k + 1) a0 a1 a2) := by
  intro a0 a1 a2 k
  unfold impl_SplitRange.f
  repeat' first
      | (with_reducible exact impl_splitRange.mono _ _ _ _)
      | (with_reducible exact LeO.refl _)
      | (with_reducible exact LeO.none _)
      | (with_reducible refine LeO.ite ?_ ?_)
      | (with_reducible refine LeO.bind ?_ (fun _ => ?_))
      | exact impl_splitRange.mono _ _ _ _
      | exact LeO.none _
      | refine LeO.ite ?_ ?_
      | refine LeO.bind ?_ (fun _ => ?_)
set_option maxHeartbeats 8000000 in
set_option maxRecDepth 100000 in
theorem impl_SplitRange.calls (k : Nat) (A0 : Option Addr) (c0 : Nat) (l0 : List (S26)) (a1 : Int) (a2 : Int) (r1 : List (S26)) (r2 : Bool) (w : World) (hr0 : Kd.C k26 w A0 l0.length l0) (hc0 : l0.length ≤ c0) (h : impl_SplitRange.f k l0 a1 a2 = some (r1, r2)) :
    Calls Try.prog 40 #[.slice A0 l0.length c0, .int .u64 a1, .int .i64 a2] w fun e w' => ∃ v0_ : Value, e = .returned (.tuple #[v0_, .bool r2]) ∧ Kd.R k26 26 w' w.heap.size (fun _ => True) v0_ r1 ∧ Below w.heap.size w w' := by
  have HR0 := Aside0.mk hr0
  have HC0 := Aside0.mk hc0
  clear hr0 hc0
  have HB := Aside0.mk (Below.refl w.heap.size w)
  have H : ((impl_splitRange.f k l0 a1 a2).bind fun bt147 => (some (bt147.1, bt147.2))) = some (r1, r2) := h
  clear h
  replace H := Option.bind_eq_some_iff.mp H
  obtain ⟨⟨t147, t148⟩, A40, H⟩ := H
  replace H : (some (t147, t148)) = some (r1, r2) := H
  have A4 := Aside0.mk A40
  clear A40
  simp only [Option.some.injEq, Prod.mk.injEq] at H
  obtain ⟨rfl, rfl⟩ := H
  go_enter Try.func40, Try.ntmps40
  go_wp2_with (first | ((with_reducible refine gate_callee (f := 68) rfl ?_); refine goesL_ (some 11) rfl rfl Try.func68 (by kernel_rfl) rfl #[.slice A0 l0.length c0, .int .u64 a1, .int .i64 a2] rfl u4_1 ?_; (with_reducible refine (impl_splitRange.calls k _ _ l0 a1 a2 t147 t148 _ ?side1 ?side2 A4.out).mono ?_); (case side1 => repeat (first | exact HR0.out | (with_reducible refine Kd.C_alloc ?_ _) | (with_reducible refine Kd.C_drewN ?_ _) | (with_reducible refine Kd.C_drew ?_))); (case side2 => exact HC0.out); rintro e w5 ⟨v149, rfl, ho0, hb⟩; refine ⟨_, rfl, ?_⟩; have n0_ := Aside0.mk (Kd.R_lower ho0 (below_size u4_0)); have n1_ := Aside0.mk (below_step u4_0 hb); clear HB; have HO150 := n0_; have HB := n1_; clear n0_ n1_; (try clear hb); (try clear hb2); (try clear hk); (try clear hi); (try clear ho0)))
  go_ret2
  exact ⟨_, by first | rfl | (simp [errW_none, errW_some] <;> rfl) | (simp [*, errW_none, errW_some] <;> rfl), by (with_reducible repeat (first | apply Kd.R_alloc | apply Kd.R_drewN | apply Kd.R_drew)); exact HO150.out, by repeat (first | (with_reducible first | exact HB.out | apply below_alloc | apply pw_below_drewN | apply below_drew1) | exact HB.out)⟩

/-! ### spec_Covers: function 15 -/
def spec_Covers.f (a0_0 : Int) (a0_1 : Int) (a0_2 : Int) (a1 : Int) : Option (Bool) := if a0_0 ≤ a1 then (some (decide (a1 ≤ a0_1))) else (some false)
set_option maxHeartbeats 8000000 in
set_option maxRecDepth 100000 in
theorem spec_Covers.calls (a0_0 : Int) (a0_1 : Int) (a0_2 : Int) (a1 : Int) (r : Bool) (w : World) (h : spec_Covers.f a0_0 a0_1 a0_2 a1 = some r) :
    Calls Try.prog 15 #[.agg #[.int .u64 a0_0, .int .u64 a0_1, .int .i64 a0_2], .int .u64 a1] w fun e w' => e = .returned (.bool r) ∧ Below w.heap.size w w' := by
  have hu26 := Try.underlying26
  have HB := Aside0.mk (Below.refl w.heap.size w)
  have H : (if a0_0 ≤ a1 then (some (decide (a1 ≤ a0_1))) else (some false)) = some r := h
  clear h
  by_cases c3 : a0_0 ≤ a1
  · rw [if_pos c3] at H
    have c3b0 : decide (a0_0 ≤ a1) = true := decide_eq_true c3
    clear c3
    obtain rfl := Option.some.inj H
    go_enter Try.func15, Try.ntmps15
    go_wp2_with (first | ((with_reducible refine gate_dst (N := 2) rfl ?_); refine box_event ?hg (N := 2) ?hd (cs := #[.int .u64 a0_0, .int .u64 a0_1, .int .i64 a0_2]) (t := 26) ?hr ?_; (case hd => rfl); (case hg => rfl); (case hr => first | (go_simp; done) | (go_simp; rfl)); intro gb151 hg w4 hbox hb; have n0_ := Aside0.mk (below_step u4_0 hb); have n1_ := Aside0.mk (hbox); have n2_ := Aside0.mk ((by rw [hg]; exact (below_size u4_0) : w.heap.size ≤ gb151)); have n3_ := Aside0.mk ((by rw [hg]; exact (below_size u4_0) : w.heap.size ≤ gb151)); clear HB; have HB := n0_; have BK151 := n1_; have GW151 := n2_; have GE151 := n3_; clear n0_ n1_ n2_ n3_; clear hb hbox hg; have hcz5_0 : w4.cell? ⟨gb151, 0, none⟩ = some (.int .u64 a0_0) := (blk_cell BK151.out 0).trans rfl; have hcz5_1 : w4.cell? ⟨gb151, 1, none⟩ = some (.int .u64 a0_1) := (blk_cell BK151.out 1).trans rfl; have hcz5_2 : w4.cell? ⟨gb151, 2, none⟩ = some (.int .i64 a0_2) := (blk_cell BK151.out 2).trans rfl; have hfz5_0 := blk_frozen BK151.out 0; have hfz5_1 := blk_frozen BK151.out 1; have hfz5_2 := blk_frozen BK151.out 2))
    go_ret
    exact ⟨by first | rfl | (simp [errW_none, errW_some] <;> rfl) | (simp [*, errW_none, errW_some] <;> rfl), by repeat (first | (with_reducible first | exact HB.out | apply below_alloc | apply pw_below_drewN | apply below_drew1 | refine below_set ?_ GE151.out) | exact HB.out)⟩
  · rw [if_neg c3] at H
    have c3b0 : decide (a0_0 ≤ a1) = false := decide_eq_false c3
    clear c3
    obtain rfl := Option.some.inj H
    go_enter Try.func15, Try.ntmps15
    go_wp2_with (first | ((with_reducible refine gate_dst (N := 2) rfl ?_); refine box_event ?hg (N := 2) ?hd (cs := #[.int .u64 a0_0, .int .u64 a0_1, .int .i64 a0_2]) (t := 26) ?hr ?_; (case hd => rfl); (case hg => rfl); (case hr => first | (go_simp; done) | (go_simp; rfl)); intro gb151 hg w6 hbox hb; have n0_ := Aside0.mk (below_step u4_0 hb); have n1_ := Aside0.mk (hbox); have n2_ := Aside0.mk ((by rw [hg]; exact (below_size u4_0) : w.heap.size ≤ gb151)); have n3_ := Aside0.mk ((by rw [hg]; exact (below_size u4_0) : w.heap.size ≤ gb151)); clear HB; have HB := n0_; have BK151 := n1_; have GW151 := n2_; have GE151 := n3_; clear n0_ n1_ n2_ n3_; clear hb hbox hg; have hcz7_0 : w6.cell? ⟨gb151, 0, none⟩ = some (.int .u64 a0_0) := (blk_cell BK151.out 0).trans rfl; have hcz7_1 : w6.cell? ⟨gb151, 1, none⟩ = some (.int .u64 a0_1) := (blk_cell BK151.out 1).trans rfl; have hcz7_2 : w6.cell? ⟨gb151, 2, none⟩ = some (.int .i64 a0_2) := (blk_cell BK151.out 2).trans rfl; have hfz7_0 := blk_frozen BK151.out 0; have hfz7_1 := blk_frozen BK151.out 1; have hfz7_2 := blk_frozen BK151.out 2))
    go_ret
    exact ⟨by first | rfl | (simp [errW_none, errW_some] <;> rfl) | (simp [*, errW_none, errW_some] <;> rfl), by repeat (first | (with_reducible first | exact HB.out | apply below_alloc | apply pw_below_drewN | apply below_drew1 | refine below_set ?_ GE151.out) | exact HB.out)⟩

/-! ### spec_l01In: function 55 -/
def spec_l01In.f (a0 : Int) (a1 : Int) (a2 : Int) : Option (Bool) := if a1 ≤ a0 then (some (decide (a0 ≤ a2))) else (some false)
set_option maxHeartbeats 8000000 in
set_option maxRecDepth 100000 in
theorem spec_l01In.calls (a0 : Int) (a1 : Int) (a2 : Int) (r : Bool) (w : World) (h : spec_l01In.f a0 a1 a2 = some r) :
    Calls Try.prog 55 #[.int .i64 a0, .int .i64 a1, .int .i64 a2] w fun e w' => e = .returned (.bool r) ∧ Drawn0 w w' := by
  have H : (if a1 ≤ a0 then (some (decide (a0 ≤ a2))) else (some false)) = some r := h
  clear h
  by_cases c4 : a1 ≤ a0
  · rw [if_pos c4] at H
    have c4b0 : decide (a1 ≤ a0) = true := decide_eq_true c4
    clear c4
    obtain rfl := Option.some.inj H
    go_enter Try.func55, Try.ntmps55
    go_wp2
    go_ret
    exact ⟨by first | rfl | (simp; done) | (simp [*]; done), by repeat (first | exact Drawn0.refl _ | apply Drawn0.step)⟩
  · rw [if_neg c4] at H
    have c4b0 : decide (a1 ≤ a0) = false := decide_eq_false c4
    clear c4
    obtain rfl := Option.some.inj H
    go_enter Try.func55, Try.ntmps55
    go_wp2
    go_ret
    exact ⟨by first | rfl | (simp; done) | (simp [*]; done), by repeat (first | exact Drawn0.refl _ | apply Drawn0.step)⟩

end Go.Proofs.Ytfabcjkaoidmeaa.QFnExactSplitRange
