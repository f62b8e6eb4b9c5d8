-- Printed by the session's own program wip/prx.py.
import Derived.Test.YtdbfjakhkclggaaQFnBookx0
import Derived.Test.YtdbfjakhkclggaaQFnBookx2
import Derived.Test.YtdbfjakhkclggaaQFnBookx4
import Derived.Test.YtdbfjakhkclggaaQFnBookx6
import Derived.Test.YtdbfjakhkclggaaQFnBookx7
namespace Go.Proofs.Ytdbfjakhkclggaa.QFnBook
open Go.RowKit Go.Proofs.YtdbfjakhkclggaaW.PrintWords Go.Proofs.YtdbfjakhkclggaaW.PrintLast Go.Proofs.YtdbfjakhkclggaaW.PrintMore
attribute [local go_sem] max2_int min2_int max_two min_two max_three min_three max_four min_four Go.Proofs.Ytdbfjakhkclggaa.Set.isSome_setCell Go.Proofs.Ytdbfjakhkclggaa.Add.add64   -- for this text's walks alone
set_option linter.unusedVariables false
set_option linter.unusedSimpArgs false

-- squeezed
theorem u8_0 {P : Prop} (h : P := by (with_reducible repeat (first | refine blk_drewN ?_ _ | refine blk_drew ?_ | refine blk_alloc ?_ _)); refine blk_put (cs := #[.int .u64 t214, .int .u64 t215, .int .u64 t216, .int .u64 t217, .int .i64 0]) ?_ 4 _ rfl; (with_reducible repeat (first | refine blk_drewN ?_ _ | refine blk_drew ?_ | refine blk_alloc ?_ _)); refine blk_put (cs := #[.int .u64 t214, .int .u64 t215, .int .u64 t216, .int .u64 0, .int .i64 0]) ?_ 3 _ rfl; (with_reducible repeat (first | refine blk_drewN ?_ _ | refine blk_drew ?_ | refine blk_alloc ?_ _)); refine blk_put (cs := #[.int .u64 t214, .int .u64 t215, .int .u64 0, .int .u64 0, .int .i64 0]) ?_ 2 _ rfl; (with_reducible repeat (first | refine blk_drewN ?_ _ | refine blk_drew ?_ | refine blk_alloc ?_ _)); refine blk_put (cs := #[.int .u64 t214, .int .u64 0, .int .u64 0, .int .u64 0, .int .i64 0]) ?_ 1 _ rfl; (with_reducible repeat (first | refine blk_drewN ?_ _ | refine blk_drew ?_ | refine blk_alloc ?_ _)); refine blk_put (cs := #[.int .u64 0, .int .u64 0, .int .u64 0, .int .u64 0, .int .i64 0]) ?_ 0 _ rfl; (with_reducible repeat (first | refine blk_drewN ?_ _ | refine blk_drew ?_ | refine blk_alloc ?_ _)); exact BK220.out) : P := h
theorem u8_1 {P : Prop} (h : P := by (with_reducible repeat (first | refine blk_drewN ?_ _ | refine blk_drew ?_ | refine blk_alloc ?_ _)); refine blk_put (cs := #[.int .u64 t232, .int .u64 t233, .int .u64 t234, .int .u64 t235, .int .i64 0]) ?_ 4 _ rfl; (with_reducible repeat (first | refine blk_drewN ?_ _ | refine blk_drew ?_ | refine blk_alloc ?_ _)); refine blk_put (cs := #[.int .u64 t232, .int .u64 t233, .int .u64 t234, .int .u64 0, .int .i64 0]) ?_ 3 _ rfl; (with_reducible repeat (first | refine blk_drewN ?_ _ | refine blk_drew ?_ | refine blk_alloc ?_ _)); refine blk_put (cs := #[.int .u64 t232, .int .u64 t233, .int .u64 0, .int .u64 0, .int .i64 0]) ?_ 2 _ rfl; (with_reducible repeat (first | refine blk_drewN ?_ _ | refine blk_drew ?_ | refine blk_alloc ?_ _)); refine blk_put (cs := #[.int .u64 t232, .int .u64 0, .int .u64 0, .int .u64 0, .int .i64 0]) ?_ 1 _ rfl; (with_reducible repeat (first | refine blk_drewN ?_ _ | refine blk_drew ?_ | refine blk_alloc ?_ _)); refine blk_put (cs := #[.int .u64 0, .int .u64 0, .int .u64 0, .int .u64 0, .int .i64 0]) ?_ 0 _ rfl; (with_reducible repeat (first | refine blk_drewN ?_ _ | refine blk_drew ?_ | refine blk_alloc ?_ _)); exact BK238.out) : P := h
theorem u8_2 {P : Prop} (h : P := by repeat (first | (with_reducible first | exact HB.out | apply below_alloc | apply pw_below_drewN | apply below_drew1) | exact HB.out)) : P := h
theorem u8_3 {P : Prop} (h : P := by repeat (first | (with_reducible first | exact HB.out | apply below_alloc | apply pw_below_drewN | apply below_drew1 | refine below_set ?_ G3.out | refine below_set ?_ G6.out | refine below_set ?_ G8.out) | exact HB.out)) : P := h
theorem u8_4 {P : Prop} (h : P := by repeat (first | (with_reducible first | exact HB.out | apply below_alloc | apply pw_below_drewN | apply below_drew1 | refine below_set ?_ GE212.out | refine below_set ?_ GE213.out | refine below_set ?_ GE220.out) | exact HB.out)) : P := h
theorem u8_5 {P : Prop} (h : P := by repeat (first | (with_reducible first | exact HB.out | apply below_alloc | apply pw_below_drewN | apply below_drew1 | refine below_set ?_ GE230.out | refine below_set ?_ GE231.out | refine below_set ?_ GE238.out) | exact HB.out)) : P := h
theorem u8_6 {P : Prop} (h : P := by (with_reducible repeat (first | refine blk_drewN ?_ _ | refine blk_drew ?_ | refine blk_alloc ?_ _)); exact BK212.out) : P := h
theorem u8_7 {P : Prop} (h : P := by (with_reducible repeat (first | refine blk_drewN ?_ _ | refine blk_drew ?_ | refine blk_alloc ?_ _)); exact BK230.out) : P := h
theorem u8_8 {P : Prop} (h : P := by repeat (first | (with_reducible first | exact HB.out | apply below_alloc | apply pw_below_drewN | apply below_drew1 | refine below_set ?_ GE212.out | refine below_set ?_ GE213.out) | exact HB.out)) : P := h
theorem u8_9 {P : Prop} (h : P := by repeat (first | (with_reducible first | exact HB.out | apply below_alloc | apply pw_below_drewN | apply below_drew1 | refine below_set ?_ GE230.out | refine below_set ?_ GE231.out) | exact HB.out)) : P := h
theorem u8_10 {P : Prop} (h : P := by (with_reducible repeat (first | refine blk_drewN ?_ _ | refine blk_drew ?_ | refine blk_alloc ?_ _)); exact BK3.out) : P := h
theorem u8_11 {P : Prop} (h : P := by (with_reducible repeat (first | refine blk_drewN ?_ _ | refine blk_drew ?_ | refine blk_alloc ?_ _)); refine blk_far ?_ NB212_220.out _; (with_reducible repeat (first | refine blk_drewN ?_ _ | refine blk_drew ?_ | refine blk_alloc ?_ _)); refine blk_far ?_ NB212_220.out _; (with_reducible repeat (first | refine blk_drewN ?_ _ | refine blk_drew ?_ | refine blk_alloc ?_ _)); refine blk_far ?_ NB212_220.out _; (with_reducible repeat (first | refine blk_drewN ?_ _ | refine blk_drew ?_ | refine blk_alloc ?_ _)); refine blk_far ?_ NB212_220.out _; (with_reducible repeat (first | refine blk_drewN ?_ _ | refine blk_drew ?_ | refine blk_alloc ?_ _)); refine blk_far ?_ NB212_220.out _; (with_reducible repeat (first | refine blk_drewN ?_ _ | refine blk_drew ?_ | refine blk_alloc ?_ _)); exact BK212.out) : P := h
theorem u8_12 {P : Prop} (h : P := by (with_reducible repeat (first | refine blk_drewN ?_ _ | refine blk_drew ?_ | refine blk_alloc ?_ _)); refine blk_far ?_ NB213_220.out _; (with_reducible repeat (first | refine blk_drewN ?_ _ | refine blk_drew ?_ | refine blk_alloc ?_ _)); refine blk_far ?_ NB213_220.out _; (with_reducible repeat (first | refine blk_drewN ?_ _ | refine blk_drew ?_ | refine blk_alloc ?_ _)); refine blk_far ?_ NB213_220.out _; (with_reducible repeat (first | refine blk_drewN ?_ _ | refine blk_drew ?_ | refine blk_alloc ?_ _)); refine blk_far ?_ NB213_220.out _; (with_reducible repeat (first | refine blk_drewN ?_ _ | refine blk_drew ?_ | refine blk_alloc ?_ _)); refine blk_far ?_ NB213_220.out _; (with_reducible repeat (first | refine blk_drewN ?_ _ | refine blk_drew ?_ | refine blk_alloc ?_ _)); exact BK213.out) : P := h
theorem u8_13 {P : Prop} (h : P := by (with_reducible repeat (first | refine blk_drewN ?_ _ | refine blk_drew ?_ | refine blk_alloc ?_ _)); refine blk_far ?_ NB230_238.out _; (with_reducible repeat (first | refine blk_drewN ?_ _ | refine blk_drew ?_ | refine blk_alloc ?_ _)); refine blk_far ?_ NB230_238.out _; (with_reducible repeat (first | refine blk_drewN ?_ _ | refine blk_drew ?_ | refine blk_alloc ?_ _)); refine blk_far ?_ NB230_238.out _; (with_reducible repeat (first | refine blk_drewN ?_ _ | refine blk_drew ?_ | refine blk_alloc ?_ _)); refine blk_far ?_ NB230_238.out _; (with_reducible repeat (first | refine blk_drewN ?_ _ | refine blk_drew ?_ | refine blk_alloc ?_ _)); refine blk_far ?_ NB230_238.out _; (with_reducible repeat (first | refine blk_drewN ?_ _ | refine blk_drew ?_ | refine blk_alloc ?_ _)); exact BK230.out) : P := h
theorem u8_14 {P : Prop} (h : P := by (with_reducible repeat (first | refine blk_drewN ?_ _ | refine blk_drew ?_ | refine blk_alloc ?_ _)); refine blk_far ?_ NB231_238.out _; (with_reducible repeat (first | refine blk_drewN ?_ _ | refine blk_drew ?_ | refine blk_alloc ?_ _)); refine blk_far ?_ NB231_238.out _; (with_reducible repeat (first | refine blk_drewN ?_ _ | refine blk_drew ?_ | refine blk_alloc ?_ _)); refine blk_far ?_ NB231_238.out _; (with_reducible repeat (first | refine blk_drewN ?_ _ | refine blk_drew ?_ | refine blk_alloc ?_ _)); refine blk_far ?_ NB231_238.out _; (with_reducible repeat (first | refine blk_drewN ?_ _ | refine blk_drew ?_ | refine blk_alloc ?_ _)); refine blk_far ?_ NB231_238.out _; (with_reducible repeat (first | refine blk_drewN ?_ _ | refine blk_drew ?_ | refine blk_alloc ?_ _)); exact BK231.out) : P := h
theorem u8_15 {P : Prop} (h : P := by (try simp only [List.map_toArray, List.map_cons, List.map_nil]); first | done | rfl | (simp only [List.length_drop, List.length_take]; rfl)) : P := h
theorem u8_16 {P : Prop} (h : P := by repeat (first | (with_reducible first | exact HB.out | apply below_alloc | apply pw_below_drewN | apply below_drew1 | refine below_set ?_ GE212.out) | exact HB.out)) : P := h
theorem u8_17 {P : Prop} (h : P := by repeat (first | (with_reducible first | exact HB.out | apply below_alloc | apply pw_below_drewN | apply below_drew1 | refine below_set ?_ GE230.out) | exact HB.out)) : P := h
theorem u8_18 {P : Prop} (h : P := by (with_reducible repeat (first | refine blk_drewN ?_ _ | refine blk_drew ?_ | refine blk_alloc ?_ _)); exact BK213.out) : P := h
theorem u8_19 {P : Prop} (h : P := by (with_reducible repeat (first | refine blk_drewN ?_ _ | refine blk_drew ?_ | refine blk_alloc ?_ _)); exact BK231.out) : P := h
theorem u8_20 {P : Prop} (h : P := by first | (with_reducible assumption) | assumption | rfl | (simp [Act.eval, Act.put]; done)) : P := h
theorem u8_21 {P : Prop} (h : P := by repeat (first | exact (Kd.C_below HR0_0.out HB.out) | (with_reducible refine Kd.C_alloc ?_ _) | (with_reducible refine Kd.C_drewN ?_ _) | (with_reducible refine Kd.C_drew ?_))) : P := h
theorem u8_22 {P : Prop} (h : P := by repeat (first | (with_reducible first | exact HBW.out | apply below_alloc | apply pw_below_drewN | apply below_drew1) | exact HBW.out)) : P := h
theorem u8_23 {P : Prop} (h : P := by (with_reducible repeat (first | refine blk_drewN ?_ _ | refine blk_drew ?_ | refine blk_alloc ?_ _)); exact BK6.out) : P := h
theorem u8_24 {P : Prop} (h : P := by (with_reducible repeat (first | refine blk_drewN ?_ _ | refine blk_drew ?_ | refine blk_alloc ?_ _)); refine blk_put (cs := #[.slice none 0 0]) ?_ 0 _ rfl; (with_reducible repeat (first | refine blk_drewN ?_ _ | refine blk_drew ?_ | refine blk_alloc ?_ _)); exact BK213.out) : P := h
theorem u8_25 {P : Prop} (h : P := by (with_reducible repeat (first | refine blk_drewN ?_ _ | refine blk_drew ?_ | refine blk_alloc ?_ _)); refine blk_put (cs := #[.slice none 0 0]) ?_ 0 _ rfl; (with_reducible repeat (first | refine blk_drewN ?_ _ | refine blk_drew ?_ | refine blk_alloc ?_ _)); exact BK231.out) : P := h
theorem u8_26 {P : Prop} (h : P := by (with_reducible repeat (first | refine blk_drewN ?_ _ | refine blk_drew ?_ | refine blk_alloc ?_ _)); exact BK5.out) : P := h
theorem u8_27 {P : Prop} (h : P := by repeat (first | exact (Kd.C_below HR.out u8_3) | (with_reducible refine Kd.C_alloc ?_ _) | (with_reducible refine Kd.C_drewN ?_ _) | (with_reducible refine Kd.C_drew ?_))) : P := h
theorem u8_28 {P : Prop} (h : P := by repeat (first | exact Kept.refl _ _ | apply Kept.drew)) : P := h
theorem u8_29 {P : Prop} (h : P := by repeat (first | exact HBl.out | apply below_drew)) : P := h
theorem u8_30 {P : Prop} (h : P := by first | rfl | (simp; done) | (simp [*]; done)) : P := h
theorem u8_31 {P : Prop} (h : P := by first | exact hbW | exact (show W.drew.heap[g]? = _ from hbW) | exact (show W.drew.drew.heap[g]? = _ from hbW)) : P := h
theorem u8_32 {P : Prop} (h : P := by (with_reducible repeat (first | apply Kd.R_alloc | apply Kd.R_drewN | apply Kd.R_drew)); exact HO.out) : P := h
theorem u8_33 {P : Prop} (h : P := by rw [List.getD_eq_getElem?_getD, List.getElem?_set_self HI.out]; first | done | rfl) : P := h
/-! ### impl_Deposit: function 35 -/
def impl_Deposit.enc (x : S53) : List Value := [.int .u64 x.f0, .int .u64 x.f1, .int .u64 x.f2, .int .u64 x.f3, .int .i64 x.f4]
theorem impl_Deposit.flat : Go.Proofs.Ytdbfjakhkclggaa.Slc.Flat k53 impl_Deposit.enc := ⟨fun w base ok x => k53_mkM w base ok x, fun h => k53_open h⟩
/-- What the literal makes of an account, and its code. -/
def impl_Deposit.g (a2 : Int) (x : S53) : S53 × Int := if ¬ x.f4 = 0 then (x, 6) else if IntKind.u64.wrap (x.f1 + a2) < x.f1 then (x, 5) else (⟨x.f0, IntKind.u64.wrap (x.f1 + a2), x.f2, x.f3, x.f4⟩, 0)
set_option maxHeartbeats 1600000 in
theorem impl_Deposit.lit (g n cap i : Nat) (l0 : List S53) (ok : Nat → Prop) (a2 : Int) (b2 : Nat) (w0 w : World) (hB : Below w0.heap.size w0 w) (ho : Kd.R k53 53 w w0.heap.size ok (.slice (some ⟨g, 0, none⟩) n cap) l0) (hi : i < l0.length) (p2 : w.cell? ⟨b2, 0, none⟩ = some (.int .u64 a2)) (q2 : b2 ≠ g) :
    Calls Try.prog 64 #[.pointer (some ⟨g, i * 5, none⟩), .pointer (some ⟨b2, 0, none⟩)] w fun e w' => e = .returned (.int .i64 (impl_Deposit.g a2 (l0.getD i z53)).2) ∧ Kd.R k53 53 w' w0.heap.size ok (.slice (some ⟨g, 0, none⟩) n cap) (l0.set i (impl_Deposit.g a2 (l0.getD i z53)).1) ∧ Below w0.heap.size w0 w' ∧ Kept w w' (fun k => k = g) := by
  obtain ⟨_, hg, _, _, _, cur, hb, hs, _⟩ := impl_Deposit.flat.blockG ho
  obtain ⟨x, hx⟩ : ∃ x, x = l0.getD i z53 := ⟨_, rfl⟩
  have he : ∀ j, j < 5 → cur[i * 5 + j]? = (impl_Deposit.enc x)[j]? := fun j hj => by rw [hx]; exact Go.Proofs.Ytdbfjakhkclggaa.Slc.flat_elem impl_Deposit.flat ho hb hi z53 j hj
  have hlt : ∀ j, j < 5 → i * 5 + j < cur.size := fun j hj => by
    have := he j hj
    rcases Nat.lt_or_ge (i * 5 + j) cur.size with h | h
    · exact h
    · rw [Array.getElem?_eq_none h, List.getElem?_eq_getElem hj] at this
      cases this
  have x0 : w.cell? ⟨g, i * 5, none⟩ = some (.int .u64 x.f0) := (blk_cell hb _).trans (he 0 (by omega))
  have x1 : w.cell? ⟨g, i * 5 + 1, none⟩ = some (.int .u64 x.f1) := (blk_cell hb _).trans (he 1 (by omega))
  have x2 : w.cell? ⟨g, i * 5 + 2, none⟩ = some (.int .u64 x.f2) := (blk_cell hb _).trans (he 2 (by omega))
  have x3 : w.cell? ⟨g, i * 5 + 3, none⟩ = some (.int .u64 x.f3) := (blk_cell hb _).trans (he 3 (by omega))
  have x4 : w.cell? ⟨g, i * 5 + 4, none⟩ = some (.int .i64 x.f4) := (blk_cell hb _).trans (he 4 (by omega))
  have f0 : w.frozen? ⟨g, i * 5, none⟩ = false := blk_frozen hb _
  have f1 : w.frozen? ⟨g, i * 5 + 1, none⟩ = false := blk_frozen hb _
  have f2 : w.frozen? ⟨g, i * 5 + 2, none⟩ = false := blk_frozen hb _
  have f3 : w.frozen? ⟨g, i * 5 + 3, none⟩ = false := blk_frozen hb _
  have f4 : w.frozen? ⟨g, i * 5 + 4, none⟩ = false := blk_frozen hb _
  rw [← hx]
  -- the row as it was, and as it is when cells of the element are written
  have same : ∀ W : World, (∀ k, W.heap[k]? = w.heap[k]?) → Kd.R k53 53 W w0.heap.size ok (.slice (some ⟨g, 0, none⟩) n cap) (l0.set i x) := fun W hW => by
    refine Go.Proofs.Ytdbfjakhkclggaa.Slc.flat_upd impl_Deposit.flat ho hi hb ((hW g).trans hb) rfl (fun j hj => he j hj) (fun q _ => rfl)
  have HS := Aside0.mk same
  have HBl := Aside0.mk hB
  have HG := Aside0.mk hg
  have HO := Aside0.mk ho
  have Hb := Aside0.mk hb
  have HE := Aside0.mk he
  have HI := Aside0.mk hi
  have HL := Aside0.mk hlt
  clear same hB hg ho hb he hi hlt hs hx
  have hu := Try.underlying53
  by_cases h4 : ¬ x.f4 = 0
  · have ch4 := show (x.f4 != 0) = true by simpa using h4
    go_enter Try.func64, Try.ntmps64
    go_wp2
    repeat (go_region; try go_wp2)
    go_ret
    rw [show impl_Deposit.g a2 x = (x, 6) by simp [impl_Deposit.g, h4]]
    exact ⟨rfl, HS.out _ (fun _ => rfl), u8_29, u8_28⟩
  have ch4 := show (x.f4 != 0) = false by simpa using h4
  by_cases h5 : IntKind.u64.wrap (x.f1 + a2) < x.f1
  · have ch5 := decide_eq_true h5
    go_enter Try.func64, Try.ntmps64
    go_wp2
    repeat (go_region; try go_wp2)
    go_ret
    rw [show impl_Deposit.g a2 x = (x, 5) by simp [impl_Deposit.g, h4, h5]]
    exact ⟨rfl, HS.out _ (fun _ => rfl), u8_29, u8_28⟩
  have ch5 := decide_eq_false h5
  go_enter Try.func64, Try.ntmps64
  go_wp2
  repeat (go_region; try go_wp2)
  go_ret
  rw [show impl_Deposit.g a2 x = (⟨x.f0, IntKind.u64.wrap (x.f1 + a2), x.f2, x.f3, x.f4⟩, 0) by simp [impl_Deposit.g, h4, h5]]
  obtain ⟨W, hW⟩ : ∃ W, W = (w.setCell ⟨g, i * 5 + 1, none⟩ (.int .u64 (IntKind.u64.wrap (x.f1 + a2)))) := ⟨_, rfl⟩
  have hbW : W.heap[g]? = some (.cells (cur.setIfInBounds (i * 5 + 1) (.int .u64 (IntKind.u64.wrap (x.f1 + a2)))) 53 (0, 0)) := by rw [hW]; exact (blk_set (w := w) Hb.out (i * 5 + 1) (.int .u64 (IntKind.u64.wrap (x.f1 + a2))))
  have hBW : Below w0.heap.size w0 W := by rw [hW]; exact (below_set HBl.out HG.out)
  have hKW : Kept w W (fun k => k = g) := by rw [hW]; exact (Kept.setCell (S := fun k => k = g) (Kept.refl _ _) (p := ⟨g, i * 5 + 1, none⟩) (.inl rfl) (.int .u64 (IntKind.u64.wrap (x.f1 + a2))))
  rw [← hW]
  clear hW
  refine ⟨rfl, Go.Proofs.Ytdbfjakhkclggaa.Slc.flat_upd impl_Deposit.flat HO.out HI.out Hb.out (cur' := (cur.setIfInBounds (i * 5 + 1) (.int .u64 (IntKind.u64.wrap (x.f1 + a2))))) u8_31 (by simp) (fun j hj => ?_) (fun q hq => ?_), by repeat (first | exact hBW | apply below_drew), by repeat (first | exact hKW | apply Kept.drew)⟩
  · have hj : j < 5 := hj
    have e := HE.out j hj
    have hl := HL.out j hj
    show (cur.setIfInBounds (i * 5 + 1) (.int .u64 (IntKind.u64.wrap (x.f1 + a2))))[i * 5 + j]? = _
    rcases (show j = 0 ∨ j = 1 ∨ j = 2 ∨ j = 3 ∨ j = 4 by omega) with rfl | rfl | rfl | rfl | rfl
    · rw [Array.getElem?_setIfInBounds, if_neg (by omega)]; exact e
    · rw [Array.getElem?_setIfInBounds, if_pos rfl, if_pos (by simpa using hl)]; first | done | rfl
    · rw [Array.getElem?_setIfInBounds, if_neg (by omega)]; exact e
    · rw [Array.getElem?_setIfInBounds, if_neg (by omega)]; exact e
    rw [Array.getElem?_setIfInBounds, if_neg (by omega)]; exact e
  have hq : q < i * 5 ∨ i * 5 + 5 ≤ q := hq
  rw [Array.getElem?_setIfInBounds, if_neg (by omega)]

/-- What 'change' makes of a book. -/
def impl_Deposit.cf (k : Nat) (l0 : List S53) (a1 a2 : Int) : Option (List S53 × Int) :=
  if l0.length < 2000000 then (impl_isBook.f k l0).bind fun b => (if b = true then (impl_accountOf.f k l0 a1).bind fun y => (if y.2 = true then (if 0 ≤ y.1 ∧ y.1 < (l0.length : Int) then (if (impl_Deposit.g a2 (l0.getD y.1.toNat z53)).2 = 0 then (if (impl_Deposit.g a2 (l0.getD y.1.toNat z53)).1.f4 = -1 then some ((l0.set y.1.toNat (impl_Deposit.g a2 (l0.getD y.1.toNat z53)).1).eraseIdx y.1.toNat, 0) else some (l0.set y.1.toNat (impl_Deposit.g a2 (l0.getD y.1.toNat z53)).1, 0)) else some (l0, (impl_Deposit.g a2 (l0.getD y.1.toNat z53)).2)) else none) else some (l0, 2)) else some (l0, 1)) else none
theorem impl_Deposit.cf_mono (l0 : List S53) (a1 a2 : Int) (k : Nat) : LeO (impl_Deposit.cf k l0 a1 a2) (impl_Deposit.cf (k + 1) l0 a1 a2) := by
  unfold impl_Deposit.cf
  refine LeO.ite (LeO.bind (impl_isBook.mono _ k) fun b => LeO.ite (LeO.bind (impl_accountOf.mono _ _ k) fun y => LeO.refl _) (LeO.refl _)) (LeO.refl _)
theorem impl_Deposit.own {w : World} {base : Nat} {ok : Nat → Prop} {g n cap : Nat} {l : List S53} (h : Kd.R k53 53 w base ok (.slice (some ⟨g, 0, none⟩) n cap) l) : Kd.R k53 53 w base (fun k => k = g) (.slice (some ⟨g, 0, none⟩) n cap) l := by
  obtain ⟨h1, h2, _, h4, h5, cur, h6, h7, h8⟩ := impl_Deposit.flat.blockG h
  exact impl_Deposit.flat.row h6 h2 rfl h1.symm h4 h5 h7 (by rw [h1]; exact h8)
set_option maxHeartbeats 8000000 in
set_option maxRecDepth 100000 in
theorem impl_Deposit.change (k : Nat) (A0 : Option Addr) (c0 : Nat) (l0 : List S53) (a1 a2 : Int) (b2 : Nat) (r1 : List S53) (r2 : Int) (w : World) (hr0 : Kd.C k53 w A0 l0.length l0) (hc0 : l0.length ≤ c0) (p2 : w.cell? ⟨b2, 0, none⟩ = some (.int .u64 a2)) (h : impl_Deposit.cf k l0 a1 a2 = some (r1, r2)) :
    Calls Try.prog 60 #[.agg #[.slice A0 l0.length c0], .int .u64 a1, .func (.func 64) #[] #[.pointer (some ⟨b2, 0, none⟩)]] w fun e w' => ∃ v0_ : Value, e = .returned (.tuple #[.agg #[v0_], .int .i64 r2]) ∧ Kd.R k53 53 w' w.heap.size (fun _ => True) v0_ r1 ∧ Below w.heap.size w w' := by
  have hu := Try.underlying29
  have hu2 := Try.underlying27
  have hu3 := Try.underlying53
  have HR := Aside0.mk hr0
  have HC := Aside0.mk hc0
  have HB := Aside0.mk (Below.refl w.heap.size w)
  unfold impl_Deposit.cf at h
  by_cases hl : l0.length < 2000000
  rotate_left
  · rw [if_neg hl] at h; cases h
  rw [if_pos hl] at h
  have hcopy : impl_copyBook.f l0 = some l0 := by
    unfold impl_copyBook.f
    show (if ([] : List S53).length + l0.length < 3518437208883 then some ([] ++ l0) else none) = some l0
    rw [if_pos (by simp; omega), List.nil_append]
  obtain ⟨b, hb, h⟩ := Option.bind_eq_some_iff.1 h
  have HCOPY := Aside0.mk hcopy
  have HIS := Aside0.mk hb
  have HLT := Aside0.mk hl
  have hcap : Aside0 (w.cell? ⟨b2, 0, none⟩ = some (.int .u64 a2)) := ⟨p2⟩
  clear hr0 hc0 hcopy hb hl p2
  go_enter Try.func60, Try.ntmps60
  go_upto_if 16 with (first | ((with_reducible refine gate_dst (N := 3) rfl ?_); refine box_event ?hg (N := 3) ?hd (cs := #[.slice A0 l0.length c0]) (t := 29) ?hr ?_; (case hd => rfl); (case hg => rfl); (case hr => first | (go_simp; done) | (go_simp; rfl)); intro gb3 hg w3 hbox hb; have n0_ := Aside0.mk (below_step u8_3 hb); have n1_ := Aside0.mk (show w.heap.size ≤ gb3 by rw [hg]; exact (below_size u8_3)); have n2_ := Aside0.mk hbox; clear HB; have HB := n0_; have G3 := n1_; have BK3 := n2_; clear n0_ n1_ n2_; clear hbox hg hb; (try clear c3_ f3_); have c3_ : w3.cell? ⟨gb3, 0, none⟩ = some (.slice A0 l0.length c0) := (blk_cell BK3.out 0).trans rfl; have f3_ := blk_frozen BK3.out 0) | ((with_reducible refine gate_dst (N := 6) rfl ?_); refine box_event ?hg (N := 6) ?hd (cs := #[.slice none 0 0]) (t := 29) ?hr ?_; (case hd => rfl); (case hg => rfl); (case hr => first | (go_simp; done) | (go_simp; rfl)); intro gb6 hg w6 hbox hb; have n0_ := Aside0.mk (below_step u8_3 hb); have n1_ := Aside0.mk (show w.heap.size ≤ gb6 by rw [hg]; exact (below_size u8_3)); have n2_ := Aside0.mk hbox; have m3_ := Aside0.mk (blk_below (g := gb3) (o := .cells #[.slice A0 l0.length c0] 29 (0, 0)) u8_10 hb); have N3_6 := (show gb3 ≠ gb6 by rw [hg]; exact Nat.ne_of_lt (blk_lt (g := gb3) (o := .cells #[.slice A0 l0.length c0] 29 (0, 0)) u8_10)); have N6_3 := (N3_6).symm; clear HB; have HB := n0_; have G6 := n1_; have BK6 := n2_; clear n0_ n1_ n2_; clear BK3; have BK3 := m3_; clear m3_; clear hbox hg hb; (try clear c3_ f3_); have c3_ : w6.cell? ⟨gb3, 0, none⟩ = some (.slice A0 l0.length c0) := (blk_cell BK3.out 0).trans rfl; have f3_ := blk_frozen BK3.out 0; (try clear c6_ f6_); have c6_ : w6.cell? ⟨gb6, 0, none⟩ = some (.slice none 0 0) := (blk_cell BK6.out 0).trans rfl; have f6_ := blk_frozen BK6.out 0) | ((with_reducible refine gate_callee (f := 56) rfl ?_); refine goesL_ (some 13) rfl rfl Try.func56 (by kernel_rfl) rfl #[.agg #[.slice A0 l0.length c0]] rfl u8_20 ?_; (with_reducible refine (impl_copyBook.calls _ _ l0 l0 _ ?side1 ?side2 HCOPY.out).mono ?_); (case side1 => exact u8_27); (case side2 => exact HC.out); rintro e w7 ⟨v7, rfl, ho0, hb⟩; refine ⟨_, rfl, ?_⟩; have n0_ := Aside0.mk (Kd.R_lower ho0 (below_size u8_3)); have n1_ := Aside0.mk (below_step u8_3 hb); have m3_ := Aside0.mk (blk_below (g := gb3) (o := .cells #[.slice A0 l0.length c0] 29 (0, 0)) u8_10 hb); have m6_ := Aside0.mk (blk_below (g := gb6) (o := .cells #[.slice none 0 0] 29 (0, 0)) u8_23 hb); clear HB BK3 BK6; have HO := n0_; have HB := n1_; have BK3 := m3_; have BK6 := m6_; clear n0_ n1_ m3_ m6_; clear ho0 hb) | ((with_reducible refine gate_dst (N := 8) rfl ?_); refine box_event ?hg (N := 8) ?hd (cs := #[.slice none 0 0]) (t := 29) ?hr ?_; (case hd => rfl); (case hg => rfl); (case hr => first | (go_simp; done) | (go_simp; rfl)); intro gb8 hg w8 hbox hb; have n0_ := Aside0.mk (below_step u8_3 hb); have n1_ := Aside0.mk (show w.heap.size ≤ gb8 by rw [hg]; exact (below_size u8_3)); have n2_ := Aside0.mk hbox; have m3_ := Aside0.mk (blk_below (g := gb3) (o := .cells #[.slice A0 l0.length c0] 29 (0, 0)) u8_10 hb); have N3_8 := (show gb3 ≠ gb8 by rw [hg]; exact Nat.ne_of_lt (blk_lt (g := gb3) (o := .cells #[.slice A0 l0.length c0] 29 (0, 0)) u8_10)); have N8_3 := (N3_8).symm; have m6_ := Aside0.mk (blk_below (g := gb6) (o := .cells #[.slice none 0 0] 29 (0, 0)) u8_23 hb); have N6_8 := (show gb6 ≠ gb8 by rw [hg]; exact Nat.ne_of_lt (blk_lt (g := gb6) (o := .cells #[.slice none 0 0] 29 (0, 0)) u8_23)); have N8_6 := (N6_8).symm; have m0_ := Aside0.mk (Kd.R_below u8_32 hb); clear HO; have HO := m0_; clear m0_; obtain ⟨A1, c1, ev1⟩ := Kd.R_slice HO.out; subst ev1; clear HB; have HB := n0_; have G8 := n1_; have BK8 := n2_; clear n0_ n1_ n2_; clear BK3; have BK3 := m3_; clear m3_; clear BK6; have BK6 := m6_; clear m6_; clear hbox hg hb; (try clear c3_ f3_); have c3_ : w8.cell? ⟨gb3, 0, none⟩ = some (.slice A0 l0.length c0) := (blk_cell BK3.out 0).trans rfl; have f3_ := blk_frozen BK3.out 0; (try clear c6_ f6_); have c6_ : w8.cell? ⟨gb6, 0, none⟩ = some (.slice none 0 0) := (blk_cell BK6.out 0).trans rfl; have f6_ := blk_frozen BK6.out 0; (try clear c8_ f8_); have c8_ : w8.cell? ⟨gb8, 0, none⟩ = some (.slice none 0 0) := (blk_cell BK8.out 0).trans rfl; have f8_ := blk_frozen BK8.out 0) | ((with_reducible refine gate_callee (f := 50) rfl ?_); refine goesL_ (some 15) rfl rfl Try.func50 (by kernel_rfl) rfl #[.agg #[.slice A0 l0.length c0]] rfl u8_20 ?_; (with_reducible refine (impl_isBook.calls k _ _ l0 _ _ ?side1 ?side2 HIS.out).mono ?_); (case side1 => exact Kd.C_below HR.out (below_set HB.out G8.out)); (case side2 => exact HC.out); rintro e w9 ⟨rfl, hb⟩; refine ⟨_, rfl, ?_⟩; have n0_ := Aside0.mk (Kd.R_below (Kd.R_mono (ok' := fun _ => True) (Kd.R_far (p := ⟨gb8, 0, none⟩) (Kd.R_types HO.out BK8.out (by decide)) (fun _ hk => hk.2) (.slice A1 l0.length c1)) (fun _ _ => trivial)) hb); have n1_ := Aside0.mk (below_step (below_set HB.out G8.out) hb); have m3_ := Aside0.mk (blk_below (g := gb3) (o := .cells #[.slice A0 l0.length c0] 29 (0, 0)) (blk_far BK3.out N3_8 _) hb); have m6_ := Aside0.mk (blk_below (g := gb6) (o := .cells #[.slice none 0 0] 29 (0, 0)) (blk_far BK6.out N6_8 _) hb); have m8_ := Aside0.mk (blk_below (g := gb8) (o := .cells #[.slice A1 l0.length c1] 29 (0, 0)) (blk_put (cs := #[.slice none 0 0]) BK8.out 0 _ rfl) hb); clear HO HB BK3 BK6 BK8; have HO := n0_; have HB := n1_; have BK3 := m3_; have BK6 := m6_; have BK8 := m8_; clear n0_ n1_ m3_ m6_ m8_; clear hb; (try clear c3_ f3_); have c3_ : w9.cell? ⟨gb3, 0, none⟩ = some (.slice A0 l0.length c0) := (blk_cell BK3.out 0).trans rfl; have f3_ := blk_frozen BK3.out 0; (try clear c6_ f6_); have c6_ : w9.cell? ⟨gb6, 0, none⟩ = some (.slice none 0 0) := (blk_cell BK6.out 0).trans rfl; have f6_ := blk_frozen BK6.out 0; (try clear c8_ f8_); have c8_ : w9.cell? ⟨gb8, 0, none⟩ = some (.slice A1 l0.length c1) := (blk_cell BK8.out 0).trans rfl; have f8_ := blk_frozen BK8.out 0))
  cases b with
  | false =>
    rw [if_neg (by decide)] at h
    obtain ⟨rfl, rfl⟩ : l0 = r1 ∧ 1 = r2 := by injection h with h; injection h with h1 h2; exact ⟨h1, h2⟩
    clear h
    go_wp2
    refine bodyPost_ret (results_ct rfl _ _ gb6 29 #[.slice A1 l0.length c1] (0, 0) _ rfl (blk_put (cs := #[.slice none 0 0]) BK6.out 0 _ rfl) Try.underlying29 rfl (by kernel_rfl)) rfl ?_
    exact ⟨_, rfl, Kd.R_mono (Kd.R_far (p := ⟨gb6, 0, none⟩) (Kd.R_types HO.out BK6.out (by decide)) (fun _ hk => hk.2) _) (fun _ _ => trivial), below_set HB.out G6.out⟩
  | true =>
    rw [if_pos rfl] at h
    obtain ⟨⟨I, y2⟩, hy, h⟩ := Option.bind_eq_some_iff.1 h
    have HAC := Aside0.mk hy
    clear hy
    go_upto_if 25 with (first | ((with_reducible refine gate_callee (f := 57) rfl ?_); refine goesL_ (some 21) rfl rfl Try.func57 (by kernel_rfl) rfl #[.agg #[.slice A0 l0.length c0], .int .u64 a1] rfl u8_20 ?_; (with_reducible refine (impl_accountOf.calls k _ _ l0 a1 _ _ _ ?side1 ?side2 HAC.out).mono ?_); (case side1 => exact Kd.C_below HR.out HB.out); (case side2 => exact HC.out); rintro e w10 ⟨rfl, hb⟩; refine ⟨_, rfl, ?_⟩; have n0_ := Aside0.mk (Kd.R_below HO.out hb); have n1_ := Aside0.mk (below_step HB.out hb); have m3_ := Aside0.mk (blk_below (g := gb3) (o := .cells #[.slice A0 l0.length c0] 29 (0, 0)) BK3.out hb); have m6_ := Aside0.mk (blk_below (g := gb6) (o := .cells #[.slice none 0 0] 29 (0, 0)) BK6.out hb); have m8_ := Aside0.mk (blk_below (g := gb8) (o := .cells #[.slice A1 l0.length c1] 29 (0, 0)) BK8.out hb); clear HO HB BK3 BK6 BK8; have HO := n0_; have HB := n1_; have BK3 := m3_; have BK6 := m6_; have BK8 := m8_; clear n0_ n1_ m3_ m6_ m8_; clear hb; (try clear c3_ f3_); have c3_ : w10.cell? ⟨gb3, 0, none⟩ = some (.slice A0 l0.length c0) := (blk_cell BK3.out 0).trans rfl; have f3_ := blk_frozen BK3.out 0; (try clear c6_ f6_); have c6_ : w10.cell? ⟨gb6, 0, none⟩ = some (.slice none 0 0) := (blk_cell BK6.out 0).trans rfl; have f6_ := blk_frozen BK6.out 0; (try clear c8_ f8_); have c8_ : w10.cell? ⟨gb8, 0, none⟩ = some (.slice A1 l0.length c1) := (blk_cell BK8.out 0).trans rfl; have f8_ := blk_frozen BK8.out 0))
    cases y2 with
    | false =>
      rw [if_neg (by simp)] at h
      obtain ⟨rfl, rfl⟩ : l0 = r1 ∧ 2 = r2 := by injection h with h; injection h with h1 h2; exact ⟨h1, h2⟩
      clear h
      go_wp2
      refine bodyPost_ret (results_ct rfl _ _ gb6 29 #[.slice A1 l0.length c1] (0, 0) _ rfl (blk_put (cs := #[.slice none 0 0]) BK6.out 0 _ rfl) Try.underlying29 rfl (by kernel_rfl)) rfl ?_
      exact ⟨_, rfl, Kd.R_mono (Kd.R_far (p := ⟨gb6, 0, none⟩) (Kd.R_types HO.out BK6.out (by decide)) (fun _ hk => hk.2) _) (fun _ _ => trivial), below_set HB.out G6.out⟩
    | true =>
      rw [if_pos rfl] at h
      by_cases hI : 0 ≤ I ∧ I < (l0.length : Int)
      rotate_left
      · rw [if_neg hI] at h; cases h
      rw [if_pos hI] at h
      obtain ⟨i, rfl⟩ := Int.eq_ofNat_of_zero_le hI.1
      have hi : i < l0.length := by omega
      have p1 := eq_true (show 0 ≤ (i : Int) from hI.1)
      have p2 := eq_true (show (i : Int) < (l0.length : Int) from hI.2)
      have p3 : (i : Int).toNat = i := Int.toNat_natCast i
      rw [p3] at h
      obtain ⟨Y, hY⟩ : ∃ Y, Y = impl_Deposit.g a2 (l0.getD i z53) := ⟨_, rfl⟩
      rw [← hY] at h
      have HLIT : Aside0 (∀ (g1 c1 : Nat) (W : World), w.heap.size ≤ g1 → Below w.heap.size w W → Kd.R k53 53 W w.heap.size (fun k => k = g1) (.slice (some ⟨g1, 0, none⟩) l0.length c1) l0 →
          Calls Try.prog 64 #[.pointer (some ⟨g1, i * 5, none⟩), .pointer (some ⟨b2, 0, none⟩)] W fun e w' => e = .returned (.int .i64 Y.2) ∧ Kd.R k53 53 w' w.heap.size (fun k => k = g1) (.slice (some ⟨g1, 0, none⟩) l0.length c1) (l0.set i Y.1) ∧ Below w.heap.size w w' ∧ Kept W w' (fun k => k = g1)) := ⟨fun g1 c1 W hg hB ho => by
        obtain p2 := hcap.out
        rw [hY]
        exact impl_Deposit.lit g1 l0.length c1 i l0 (fun k => k = g1) a2 b2 w W hB ho hi ((hB.cell (World.block_lt_of_cell? w _ p2)).trans p2) (Nat.ne_of_lt (Nat.lt_of_lt_of_le (World.block_lt_of_cell? w _ p2) hg))⟩
      clear hY hI
      have HI := Aside0.mk hi
      clear hi
      obtain ⟨g1, c1, ev1, hg1, _, _, _⟩ := Kd.R_form HO.out (by have := HI.out; omega)
      cases ev1
      have HG1 := Aside0.mk hg1
      clear hg1
      go_upto_if 34 with (first | (go_at_call 64; refine (HLIT.out g1 c1 _ HG1.out HB.out (impl_Deposit.own HO.out)).mono ?_; rintro e w11 ⟨rfl, ho, hb, hk⟩; have NG3 : gb3 ≠ g1 := fun e => Kd.R_ne HO.out BK3.out (by decide) (by rw [e]; rfl); have NG6 : gb6 ≠ g1 := fun e => Kd.R_ne HO.out BK6.out (by decide) (by rw [e]; rfl); have NG8 : gb8 ≠ g1 := fun e => Kd.R_ne HO.out BK8.out (by decide) (by rw [e]; rfl); have m3_ := Aside0.mk (blk_kept BK3.out hk NG3); have m6_ := Aside0.mk (blk_kept BK6.out hk NG6); have m8_ := Aside0.mk (blk_kept BK8.out hk NG8); clear HB BK3 BK6 BK8 HO; have HB := Aside0.mk hb; have BK3 := m3_; have BK6 := m6_; have BK8 := m8_; clear m3_ m6_ m8_ hb hk; have HO := Aside0.mk ho; have x4_ : w11.cell? ⟨g1, i * 5 + 4, none⟩ = some (.int .i64 Y.1.f4) := (by obtain ⟨_, _, _, _, _, cur1, hb1, _, _⟩ := impl_Deposit.flat.blockG ho; exact (blk_cell hb1 _).trans ((Go.Proofs.Ytdbfjakhkclggaa.Slc.flat_elem impl_Deposit.flat ho hb1 (by rw [List.length_set]; exact HI.out) z53 4 (show 4 < 5 by omega)).trans u8_33)); clear ho; (try clear c3_ f3_); have c3_ : w11.cell? ⟨gb3, 0, none⟩ = some (.slice A0 l0.length c0) := (blk_cell BK3.out 0).trans rfl; have f3_ := blk_frozen BK3.out 0; (try clear c6_ f6_); have c6_ : w11.cell? ⟨gb6, 0, none⟩ = some (.slice none 0 0) := (blk_cell BK6.out 0).trans rfl; have f6_ := blk_frozen BK6.out 0; (try clear c8_ f8_); have c8_ : w11.cell? ⟨gb8, 0, none⟩ = some (.slice (some ⟨g1, 0, none⟩) l0.length c1) := (blk_cell BK8.out 0).trans rfl; have f8_ := blk_frozen BK8.out 0))
      by_cases hz : Y.2 = 0
      rotate_left
      · rw [if_neg hz] at h
        obtain ⟨rfl, rfl⟩ : l0 = r1 ∧ Y.2 = r2 := by injection h with h; injection h with h1 h2; exact ⟨h1, h2⟩
        clear h
        have hz' : (Y.2 != 0) = true := by simpa using hz
        clear hz p3
        (first | rw [hz'] | skip)
        go_wp2_with (first | ((with_reducible refine gate_callee (f := 56) rfl ?_); refine goesL_ (some 36) rfl rfl Try.func56 (by kernel_rfl) rfl #[.agg #[.slice A0 l0.length c0]] rfl u8_20 ?_; (with_reducible refine (impl_copyBook.calls _ _ l0 l0 _ ?side1 ?side2 HCOPY.out).mono ?_); (case side1 => exact Kd.C_below HR.out HB.out); (case side2 => exact HC.out); rintro e w12 ⟨v12, rfl, ho0, hb⟩; refine ⟨_, rfl, ?_⟩; have HO2 := Aside0.mk (Kd.R_lower ho0 HB.out.size); obtain ⟨A2, c2, ev2⟩ := Kd.R_slice HO2.out; subst ev2; have n1_ := Aside0.mk (below_step HB.out hb); have m3_ := Aside0.mk (blk_below (g := gb3) (o := .cells #[.slice A0 l0.length c0] 29 (0, 0)) BK3.out hb); have m6_ := Aside0.mk (blk_below (g := gb6) (o := .cells #[.slice none 0 0] 29 (0, 0)) BK6.out hb); have m8_ := Aside0.mk (blk_below (g := gb8) (o := .cells #[.slice (some ⟨g1, 0, none⟩) l0.length c1] 29 (0, 0)) BK8.out hb); clear HB BK3 BK6 BK8; have HB := n1_; have BK3 := m3_; have BK6 := m6_; have BK8 := m8_; clear n1_ m3_ m6_ m8_; clear hb ho0; (try clear c3_ f3_); have c3_ : w12.cell? ⟨gb3, 0, none⟩ = some (.slice A0 l0.length c0) := (blk_cell BK3.out 0).trans rfl; have f3_ := blk_frozen BK3.out 0; (try clear c6_ f6_); have c6_ : w12.cell? ⟨gb6, 0, none⟩ = some (.slice none 0 0) := (blk_cell BK6.out 0).trans rfl; have f6_ := blk_frozen BK6.out 0; (try clear c8_ f8_); have c8_ : w12.cell? ⟨gb8, 0, none⟩ = some (.slice (some ⟨g1, 0, none⟩) l0.length c1) := (blk_cell BK8.out 0).trans rfl; have f8_ := blk_frozen BK8.out 0))
        refine bodyPost_ret (results_ct rfl _ _ gb6 29 #[.slice A2 l0.length c2] (0, 0) _ rfl (blk_put (cs := #[.slice none 0 0]) BK6.out 0 _ rfl) Try.underlying29 rfl (by kernel_rfl)) rfl ?_
        exact ⟨_, rfl, Kd.R_mono (Kd.R_far (p := ⟨gb6, 0, none⟩) (Kd.R_types HO2.out BK6.out (by decide)) (fun _ hk => hk.2) _) (fun _ _ => trivial), below_set HB.out G6.out⟩
      rw [if_pos hz] at h
      have hz' : (Y.2 != 0) = false := by simpa using hz
      clear hz
      (first | rw [hz'] | skip)
      by_cases hf : Y.1.f4 = -1
      rotate_left
      · rw [if_neg hf] at h
        obtain ⟨rfl, rfl⟩ : l0.set i Y.1 = r1 ∧ 0 = r2 := by injection h with h; injection h with h1 h2; exact ⟨h1, h2⟩
        clear h
        have hf' : (Y.1.f4 == -1) = false := by simpa using hf
        clear hf p3
        go_wp2
        refine bodyPost_ret (results_ct rfl _ _ gb6 29 #[.slice (some ⟨g1, 0, none⟩) l0.length c1] (0, 0) _ rfl (blk_put (cs := #[.slice none 0 0]) BK6.out 0 _ rfl) Try.underlying29 rfl (by kernel_rfl)) rfl ?_
        exact ⟨_, rfl, Kd.R_mono (Kd.R_far (p := ⟨gb6, 0, none⟩) (Kd.R_types HO.out BK6.out (by decide)) (fun _ hk => hk.2) _) (fun _ _ => trivial), below_set HB.out G6.out⟩
      rw [if_pos hf] at h
      obtain ⟨rfl, rfl⟩ : (l0.set i Y.1).eraseIdx i = r1 ∧ 0 = r2 := by injection h with h; injection h with h1 h2; exact ⟨h1, h2⟩
      clear h
      have hf' : (Y.1.f4 == -1) = true := by simpa using hf
      have hdel : impl_Account.f (l0.set i Y.1) (i : Int) ((i : Int) + 1) = some ((l0.set i Y.1).eraseIdx i) := by
        unfold impl_Account.f
        rw [if_pos ⟨of_eq_true p1, rfl, by rw [List.length_set]; exact of_eq_true p2⟩, p3]
      have HDEL := Aside0.mk hdel
      clear hdel hf p3
      have hw1 : IntKind.i64.wrap ((i : Int) + 1) = (i : Int) + 1 := by have := HLT.out; have := HI.out; rw [IntKind.wrap_i64]; omega
      go_wp2_with (first | ((with_reducible refine gate_callee (f := 78) rfl ?_); refine goesL_ (some 50) rfl rfl Try.func78 (by kernel_rfl) rfl #[.slice (some ⟨g1, 0, none⟩) l0.length c1, .int .i64 (i : Int), .int .i64 ((i : Int) + 1)] rfl u8_20 ?_; (with_reducible refine (impl_Account.calls (fun k => k = g1) _ (l0.set i Y.1) _ _ _ w _ HB.out HO.out HDEL.out).mono ?_); rintro e w12 ⟨v12, rfl, ho0, hb, hk⟩; refine ⟨_, rfl, ?_⟩; have NG3 : gb3 ≠ g1 := fun e => Kd.R_ne HO.out BK3.out (by decide) (by rw [e]; rfl); have NG6 : gb6 ≠ g1 := fun e => Kd.R_ne HO.out BK6.out (by decide) (by rw [e]; rfl); have NG8 : gb8 ≠ g1 := fun e => Kd.R_ne HO.out BK8.out (by decide) (by rw [e]; rfl); have m3_ := Aside0.mk (blk_kept BK3.out hk NG3); have m6_ := Aside0.mk (blk_kept BK6.out hk NG6); have m8_ := Aside0.mk (blk_kept BK8.out hk NG8); clear HB BK3 BK6 BK8 HO; have HB := Aside0.mk hb; have BK3 := m3_; have BK6 := m6_; have BK8 := m8_; clear m3_ m6_ m8_ hb hk; have HO2 := Aside0.mk ho0; clear ho0; obtain ⟨A2, c2, ev2⟩ := Kd.R_slice HO2.out; subst ev2; (try clear c3_ f3_); have c3_ : w12.cell? ⟨gb3, 0, none⟩ = some (.slice A0 l0.length c0) := (blk_cell BK3.out 0).trans rfl; have f3_ := blk_frozen BK3.out 0; (try clear c6_ f6_); have c6_ : w12.cell? ⟨gb6, 0, none⟩ = some (.slice none 0 0) := (blk_cell BK6.out 0).trans rfl; have f6_ := blk_frozen BK6.out 0; (try clear c8_ f8_); have c8_ : w12.cell? ⟨gb8, 0, none⟩ = some (.slice (some ⟨g1, 0, none⟩) l0.length c1) := (blk_cell BK8.out 0).trans rfl; have f8_ := blk_frozen BK8.out 0))
      refine bodyPost_ret (results_ct rfl _ _ gb6 29 #[.slice A2 ((l0.set i Y.1).eraseIdx i).length c2] (0, 0) _ rfl (blk_put (cs := #[.slice none 0 0]) (blk_far BK6.out N6_8 _) 0 _ rfl) Try.underlying29 rfl (by kernel_rfl)) rfl ?_
      exact ⟨_, rfl, Kd.R_mono (Kd.R_far (p := ⟨gb6, 0, none⟩) (Kd.R_far (p := ⟨gb8, 0, none⟩) (Kd.R_types (Kd.R_types HO2.out BK6.out (by decide)) BK8.out (by decide)) (fun _ hk => hk.2) _) (fun _ hk => hk.1.2) _) (fun _ _ => trivial), below_set (below_set HB.out G8.out) G6.out⟩
def impl_Deposit.f (k : Nat) (l0 : List S53) (a1 : Int) (a2 : Int) : Option (List S53 × Int) := impl_Deposit.cf k l0 a1 a2
theorem impl_Deposit.mono : ∀ (l0 : List S53) (a1 : Int) (a2 : Int) (k : Nat), LeO (impl_Deposit.f k l0 a1 a2) (impl_Deposit.f (k + 1) l0 a1 a2) := fun l0 a1 a2 k => by
  unfold impl_Deposit.f
  exact impl_Deposit.cf_mono _ _ _ k
set_option maxHeartbeats 4000000 in
set_option maxRecDepth 100000 in
theorem impl_Deposit.calls (k : Nat) (A0 : Option Addr) (c0 : Nat) (l0 : List S53) (a1 : Int) (a2 : Int) (r1 : List S53) (r2 : Int) (w : World) (hr0 : Kd.C k53 w A0 l0.length l0) (hc0 : l0.length ≤ c0) (h : impl_Deposit.f k l0 a1 a2 = some (r1, r2)) :
    Calls Try.prog 35 #[.agg #[.slice A0 l0.length c0], .int .u64 a1, .int .u64 a2] w fun e w' => ∃ v0_ : Value, e = .returned (.tuple #[.agg #[v0_], .int .i64 r2]) ∧ Kd.R k53 53 w' w.heap.size (fun _ => True) v0_ r1 ∧ Below w.heap.size w w' := by
  have hu := Try.underlying29
  have HR := Aside0.mk hr0
  have HC := Aside0.mk hc0
  have HB := Aside0.mk (Below.refl w.heap.size w)
  clear hr0 hc0
  unfold impl_Deposit.f at h
  have HF := Aside0.mk h
  clear h
  go_enter Try.func35, Try.ntmps35
  go_wp2_with (first | ((with_reducible refine gate_dst (N := 3) rfl ?_); refine box_event ?hg (N := 3) ?hd (cs := #[.slice A0 l0.length c0]) (t := 29) ?hr ?_; (case hd => rfl); (case hg => rfl); (case hr => first | (go_simp; done) | (go_simp; rfl)); intro gb3 hg w3 hbox hb; have n0_ := Aside0.mk (below_step u8_2 hb); have n1_ := Aside0.mk (show w.heap.size ≤ gb3 by rw [hg]; exact (below_size u8_2)); have n2_ := Aside0.mk hbox; clear HB; have HB := n0_; have G3 := n1_; have BK3 := n2_; clear n0_ n1_ n2_; clear hbox hg hb; (try clear c3_ f3_); have c3_ : w3.cell? ⟨gb3, 0, none⟩ = some (.slice A0 l0.length c0) := (blk_cell BK3.out 0).trans rfl; have f3_ := blk_frozen BK3.out 0) | ((with_reducible refine gate_dst (N := 5) rfl ?_); refine box_event ?hg (N := 5) ?hd (cs := #[.int .u64 a2]) (t := 33) ?hr ?_; (case hd => rfl); (case hg => rfl); (case hr => first | (go_simp; done) | (go_simp; rfl)); intro gb5 hg w5 hbox hb; have n0_ := Aside0.mk (below_step u8_2 hb); have n1_ := Aside0.mk (show w.heap.size ≤ gb5 by rw [hg]; exact (below_size u8_2)); have n2_ := Aside0.mk hbox; have m3_ := Aside0.mk (blk_below (g := gb3) (o := .cells #[.slice A0 l0.length c0] 29 (0, 0)) u8_10 hb); have N3_5 := (show gb3 ≠ gb5 by rw [hg]; exact Nat.ne_of_lt (blk_lt (g := gb3) (o := .cells #[.slice A0 l0.length c0] 29 (0, 0)) u8_10)); have N5_3 := (N3_5).symm; clear HB; have HB := n0_; have G5 := n1_; have BK5 := n2_; clear n0_ n1_ n2_; clear BK3; have BK3 := m3_; clear m3_; clear hbox hg hb; (try clear c3_ f3_); have c3_ : w5.cell? ⟨gb3, 0, none⟩ = some (.slice A0 l0.length c0) := (blk_cell BK3.out 0).trans rfl; have f3_ := blk_frozen BK3.out 0; (try clear c5_ f5_); have c5_ : w5.cell? ⟨gb5, 0, none⟩ = some (.int .u64 a2) := (blk_cell BK5.out 0).trans rfl; have f5_ := blk_frozen BK5.out 0) | ((with_reducible refine gate_dst (N := 6) rfl ?_); refine box_event ?hg (N := 6) ?hd (cs := #[.slice none 0 0]) (t := 29) ?hr ?_; (case hd => rfl); (case hg => rfl); (case hr => first | (go_simp; done) | (go_simp; rfl)); intro gb6 hg w6 hbox hb; have n0_ := Aside0.mk (below_step u8_2 hb); have n1_ := Aside0.mk (show w.heap.size ≤ gb6 by rw [hg]; exact (below_size u8_2)); have n2_ := Aside0.mk hbox; have m3_ := Aside0.mk (blk_below (g := gb3) (o := .cells #[.slice A0 l0.length c0] 29 (0, 0)) u8_10 hb); have N3_6 := (show gb3 ≠ gb6 by rw [hg]; exact Nat.ne_of_lt (blk_lt (g := gb3) (o := .cells #[.slice A0 l0.length c0] 29 (0, 0)) u8_10)); have N6_3 := (N3_6).symm; have m5_ := Aside0.mk (blk_below (g := gb5) (o := .cells #[.int .u64 a2] 33 (0, 0)) u8_26 hb); have N5_6 := (show gb5 ≠ gb6 by rw [hg]; exact Nat.ne_of_lt (blk_lt (g := gb5) (o := .cells #[.int .u64 a2] 33 (0, 0)) u8_26)); have N6_5 := (N5_6).symm; clear HB; have HB := n0_; have G6 := n1_; have BK6 := n2_; clear n0_ n1_ n2_; clear BK3; have BK3 := m3_; clear m3_; clear BK5; have BK5 := m5_; clear m5_; clear hbox hg hb; (try clear c3_ f3_); have c3_ : w6.cell? ⟨gb3, 0, none⟩ = some (.slice A0 l0.length c0) := (blk_cell BK3.out 0).trans rfl; have f3_ := blk_frozen BK3.out 0; (try clear c5_ f5_); have c5_ : w6.cell? ⟨gb5, 0, none⟩ = some (.int .u64 a2) := (blk_cell BK5.out 0).trans rfl; have f5_ := blk_frozen BK5.out 0; (try clear c6_ f6_); have c6_ : w6.cell? ⟨gb6, 0, none⟩ = some (.slice none 0 0) := (blk_cell BK6.out 0).trans rfl; have f6_ := blk_frozen BK6.out 0) | ((with_reducible refine gate_callee (f := 60) rfl ?_); refine goesL_ (some 11) rfl rfl Try.func60 (by kernel_rfl) rfl #[.agg #[.slice A0 l0.length c0], .int .u64 a1, .func (.func 64) #[] #[.pointer (some ⟨gb5, 0, none⟩)]] rfl u8_20 ?_; (with_reducible refine (impl_Deposit.change k _ _ l0 a1 a2 gb5 _ _ _ ?side1 ?side2 c5_ HF.out).mono ?_); (case side1 => exact Kd.C_below HR.out HB.out); (case side2 => exact HC.out); rintro e w20 ⟨v20, rfl, ho0, hb⟩; refine ⟨_, rfl, ?_⟩; have HO := Aside0.mk (Kd.R_lower ho0 HB.out.size); obtain ⟨A1, c1, ev1⟩ := Kd.R_slice HO.out; subst ev1; have n1_ := Aside0.mk (below_step HB.out hb); have m_ := Aside0.mk (blk_below (g := gb6) (o := .cells #[.slice none 0 0] 29 (0, 0)) BK6.out hb); clear HB BK6; have HB := n1_; have BK6 := m_; clear n1_ m_; clear hb ho0; (try clear c6_ f6_); have c6_ : w20.cell? ⟨gb6, 0, none⟩ = some (.slice none 0 0) := (blk_cell BK6.out 0).trans rfl; have f6_ := blk_frozen BK6.out 0))
  refine bodyPost_ret (results_ct rfl _ _ gb6 29 #[.slice A1 r1.length c1] (0, 0) _ rfl (blk_put (cs := #[.slice none 0 0]) BK6.out 0 _ rfl) Try.underlying29 rfl (by kernel_rfl)) rfl ?_
  exact ⟨_, rfl, Kd.R_mono (Kd.R_far (p := ⟨gb6, 0, none⟩) (Kd.R_types HO.out BK6.out (by decide)) (fun _ hk => hk.2) _) (fun _ _ => trivial), below_set HB.out G6.out⟩


/-! ### impl_Withdraw: function 37 -/
def impl_Withdraw.enc (x : S53) : List Value := [.int .u64 x.f0, .int .u64 x.f1, .int .u64 x.f2, .int .u64 x.f3, .int .i64 x.f4]
theorem impl_Withdraw.flat : Go.Proofs.Ytdbfjakhkclggaa.Slc.Flat k53 impl_Withdraw.enc := ⟨fun w base ok x => k53_mkM w base ok x, fun h => k53_open h⟩
/-- What the literal makes of an account, and its code. -/
def impl_Withdraw.g (a2 : Int) (x : S53) : S53 × Int := if ¬ x.f4 = 0 then (x, 6) else if x.f1 < a2 then (x, 4) else (⟨x.f0, IntKind.u64.wrap (x.f1 - a2), x.f2, x.f3, x.f4⟩, 0)
set_option maxHeartbeats 1600000 in
theorem impl_Withdraw.lit (g n cap i : Nat) (l0 : List S53) (ok : Nat → Prop) (a2 : Int) (b2 : Nat) (w0 w : World) (hB : Below w0.heap.size w0 w) (ho : Kd.R k53 53 w w0.heap.size ok (.slice (some ⟨g, 0, none⟩) n cap) l0) (hi : i < l0.length) (p2 : w.cell? ⟨b2, 0, none⟩ = some (.int .u64 a2)) (q2 : b2 ≠ g) :
    Calls Try.prog 65 #[.pointer (some ⟨g, i * 5, none⟩), .pointer (some ⟨b2, 0, none⟩)] w fun e w' => e = .returned (.int .i64 (impl_Withdraw.g a2 (l0.getD i z53)).2) ∧ Kd.R k53 53 w' w0.heap.size ok (.slice (some ⟨g, 0, none⟩) n cap) (l0.set i (impl_Withdraw.g a2 (l0.getD i z53)).1) ∧ Below w0.heap.size w0 w' ∧ Kept w w' (fun k => k = g) := by
  obtain ⟨_, hg, _, _, _, cur, hb, hs, _⟩ := impl_Withdraw.flat.blockG ho
  obtain ⟨x, hx⟩ : ∃ x, x = l0.getD i z53 := ⟨_, rfl⟩
  have he : ∀ j, j < 5 → cur[i * 5 + j]? = (impl_Withdraw.enc x)[j]? := fun j hj => by rw [hx]; exact Go.Proofs.Ytdbfjakhkclggaa.Slc.flat_elem impl_Withdraw.flat ho hb hi z53 j hj
  have hlt : ∀ j, j < 5 → i * 5 + j < cur.size := fun j hj => by
    have := he j hj
    rcases Nat.lt_or_ge (i * 5 + j) cur.size with h | h
    · exact h
    · rw [Array.getElem?_eq_none h, List.getElem?_eq_getElem hj] at this
      cases this
  have x0 : w.cell? ⟨g, i * 5, none⟩ = some (.int .u64 x.f0) := (blk_cell hb _).trans (he 0 (by omega))
  have x1 : w.cell? ⟨g, i * 5 + 1, none⟩ = some (.int .u64 x.f1) := (blk_cell hb _).trans (he 1 (by omega))
  have x2 : w.cell? ⟨g, i * 5 + 2, none⟩ = some (.int .u64 x.f2) := (blk_cell hb _).trans (he 2 (by omega))
  have x3 : w.cell? ⟨g, i * 5 + 3, none⟩ = some (.int .u64 x.f3) := (blk_cell hb _).trans (he 3 (by omega))
  have x4 : w.cell? ⟨g, i * 5 + 4, none⟩ = some (.int .i64 x.f4) := (blk_cell hb _).trans (he 4 (by omega))
  have f0 : w.frozen? ⟨g, i * 5, none⟩ = false := blk_frozen hb _
  have f1 : w.frozen? ⟨g, i * 5 + 1, none⟩ = false := blk_frozen hb _
  have f2 : w.frozen? ⟨g, i * 5 + 2, none⟩ = false := blk_frozen hb _
  have f3 : w.frozen? ⟨g, i * 5 + 3, none⟩ = false := blk_frozen hb _
  have f4 : w.frozen? ⟨g, i * 5 + 4, none⟩ = false := blk_frozen hb _
  rw [← hx]
  -- the row as it was, and as it is when cells of the element are written
  have same : ∀ W : World, (∀ k, W.heap[k]? = w.heap[k]?) → Kd.R k53 53 W w0.heap.size ok (.slice (some ⟨g, 0, none⟩) n cap) (l0.set i x) := fun W hW => by
    refine Go.Proofs.Ytdbfjakhkclggaa.Slc.flat_upd impl_Withdraw.flat ho hi hb ((hW g).trans hb) rfl (fun j hj => he j hj) (fun q _ => rfl)
  have HS := Aside0.mk same
  have HBl := Aside0.mk hB
  have HG := Aside0.mk hg
  have HO := Aside0.mk ho
  have Hb := Aside0.mk hb
  have HE := Aside0.mk he
  have HI := Aside0.mk hi
  have HL := Aside0.mk hlt
  clear same hB hg ho hb he hi hlt hs hx
  have hu := Try.underlying53
  by_cases h4 : ¬ x.f4 = 0
  · have ch4 := show (x.f4 != 0) = true by simpa using h4
    go_enter Try.func65, Try.ntmps65
    go_wp2
    repeat (go_region; try go_wp2)
    go_ret
    rw [show impl_Withdraw.g a2 x = (x, 6) by simp [impl_Withdraw.g, h4]]
    exact ⟨rfl, HS.out _ (fun _ => rfl), u8_29, u8_28⟩
  have ch4 := show (x.f4 != 0) = false by simpa using h4
  by_cases h5 : x.f1 < a2
  · have ch5 := decide_eq_true h5
    go_enter Try.func65, Try.ntmps65
    go_wp2
    repeat (go_region; try go_wp2)
    go_ret
    rw [show impl_Withdraw.g a2 x = (x, 4) by simp [impl_Withdraw.g, h4, h5]]
    exact ⟨rfl, HS.out _ (fun _ => rfl), u8_29, u8_28⟩
  have ch5 := decide_eq_false h5
  go_enter Try.func65, Try.ntmps65
  go_wp2
  repeat (go_region; try go_wp2)
  go_ret
  rw [show impl_Withdraw.g a2 x = (⟨x.f0, IntKind.u64.wrap (x.f1 - a2), x.f2, x.f3, x.f4⟩, 0) by simp [impl_Withdraw.g, h4, h5]]
  obtain ⟨W, hW⟩ : ∃ W, W = (w.setCell ⟨g, i * 5 + 1, none⟩ (.int .u64 (IntKind.u64.wrap (x.f1 - a2)))) := ⟨_, rfl⟩
  have hbW : W.heap[g]? = some (.cells (cur.setIfInBounds (i * 5 + 1) (.int .u64 (IntKind.u64.wrap (x.f1 - a2)))) 53 (0, 0)) := by rw [hW]; exact (blk_set (w := w) Hb.out (i * 5 + 1) (.int .u64 (IntKind.u64.wrap (x.f1 - a2))))
  have hBW : Below w0.heap.size w0 W := by rw [hW]; exact (below_set HBl.out HG.out)
  have hKW : Kept w W (fun k => k = g) := by rw [hW]; exact (Kept.setCell (S := fun k => k = g) (Kept.refl _ _) (p := ⟨g, i * 5 + 1, none⟩) (.inl rfl) (.int .u64 (IntKind.u64.wrap (x.f1 - a2))))
  rw [← hW]
  clear hW
  refine ⟨rfl, Go.Proofs.Ytdbfjakhkclggaa.Slc.flat_upd impl_Withdraw.flat HO.out HI.out Hb.out (cur' := (cur.setIfInBounds (i * 5 + 1) (.int .u64 (IntKind.u64.wrap (x.f1 - a2))))) u8_31 (by simp) (fun j hj => ?_) (fun q hq => ?_), by repeat (first | exact hBW | apply below_drew), by repeat (first | exact hKW | apply Kept.drew)⟩
  · have hj : j < 5 := hj
    have e := HE.out j hj
    have hl := HL.out j hj
    show (cur.setIfInBounds (i * 5 + 1) (.int .u64 (IntKind.u64.wrap (x.f1 - a2))))[i * 5 + j]? = _
    rcases (show j = 0 ∨ j = 1 ∨ j = 2 ∨ j = 3 ∨ j = 4 by omega) with rfl | rfl | rfl | rfl | rfl
    · rw [Array.getElem?_setIfInBounds, if_neg (by omega)]; exact e
    · rw [Array.getElem?_setIfInBounds, if_pos rfl, if_pos (by simpa using hl)]; first | done | rfl
    · rw [Array.getElem?_setIfInBounds, if_neg (by omega)]; exact e
    · rw [Array.getElem?_setIfInBounds, if_neg (by omega)]; exact e
    rw [Array.getElem?_setIfInBounds, if_neg (by omega)]; exact e
  have hq : q < i * 5 ∨ i * 5 + 5 ≤ q := hq
  rw [Array.getElem?_setIfInBounds, if_neg (by omega)]

/-- What 'change' makes of a book. -/
def impl_Withdraw.cf (k : Nat) (l0 : List S53) (a1 a2 : Int) : Option (List S53 × Int) :=
  if l0.length < 2000000 then (impl_isBook.f k l0).bind fun b => (if b = true then (impl_accountOf.f k l0 a1).bind fun y => (if y.2 = true then (if 0 ≤ y.1 ∧ y.1 < (l0.length : Int) then (if (impl_Withdraw.g a2 (l0.getD y.1.toNat z53)).2 = 0 then (if (impl_Withdraw.g a2 (l0.getD y.1.toNat z53)).1.f4 = -1 then some ((l0.set y.1.toNat (impl_Withdraw.g a2 (l0.getD y.1.toNat z53)).1).eraseIdx y.1.toNat, 0) else some (l0.set y.1.toNat (impl_Withdraw.g a2 (l0.getD y.1.toNat z53)).1, 0)) else some (l0, (impl_Withdraw.g a2 (l0.getD y.1.toNat z53)).2)) else none) else some (l0, 2)) else some (l0, 1)) else none
theorem impl_Withdraw.cf_mono (l0 : List S53) (a1 a2 : Int) (k : Nat) : LeO (impl_Withdraw.cf k l0 a1 a2) (impl_Withdraw.cf (k + 1) l0 a1 a2) := by
  unfold impl_Withdraw.cf
  refine LeO.ite (LeO.bind (impl_isBook.mono _ k) fun b => LeO.ite (LeO.bind (impl_accountOf.mono _ _ k) fun y => LeO.refl _) (LeO.refl _)) (LeO.refl _)
theorem impl_Withdraw.own {w : World} {base : Nat} {ok : Nat → Prop} {g n cap : Nat} {l : List S53} (h : Kd.R k53 53 w base ok (.slice (some ⟨g, 0, none⟩) n cap) l) : Kd.R k53 53 w base (fun k => k = g) (.slice (some ⟨g, 0, none⟩) n cap) l := by
  obtain ⟨h1, h2, _, h4, h5, cur, h6, h7, h8⟩ := impl_Withdraw.flat.blockG h
  exact impl_Withdraw.flat.row h6 h2 rfl h1.symm h4 h5 h7 (by rw [h1]; exact h8)
set_option maxHeartbeats 8000000 in
set_option maxRecDepth 100000 in
theorem impl_Withdraw.change (k : Nat) (A0 : Option Addr) (c0 : Nat) (l0 : List S53) (a1 a2 : Int) (b2 : Nat) (r1 : List S53) (r2 : Int) (w : World) (hr0 : Kd.C k53 w A0 l0.length l0) (hc0 : l0.length ≤ c0) (p2 : w.cell? ⟨b2, 0, none⟩ = some (.int .u64 a2)) (h : impl_Withdraw.cf k l0 a1 a2 = some (r1, r2)) :
    Calls Try.prog 60 #[.agg #[.slice A0 l0.length c0], .int .u64 a1, .func (.func 65) #[] #[.pointer (some ⟨b2, 0, none⟩)]] w fun e w' => ∃ v0_ : Value, e = .returned (.tuple #[.agg #[v0_], .int .i64 r2]) ∧ Kd.R k53 53 w' w.heap.size (fun _ => True) v0_ r1 ∧ Below w.heap.size w w' := by
  have hu := Try.underlying29
  have hu2 := Try.underlying27
  have hu3 := Try.underlying53
  have HR := Aside0.mk hr0
  have HC := Aside0.mk hc0
  have HB := Aside0.mk (Below.refl w.heap.size w)
  unfold impl_Withdraw.cf at h
  by_cases hl : l0.length < 2000000
  rotate_left
  · rw [if_neg hl] at h; cases h
  rw [if_pos hl] at h
  have hcopy : impl_copyBook.f l0 = some l0 := by
    unfold impl_copyBook.f
    show (if ([] : List S53).length + l0.length < 3518437208883 then some ([] ++ l0) else none) = some l0
    rw [if_pos (by simp; omega), List.nil_append]
  obtain ⟨b, hb, h⟩ := Option.bind_eq_some_iff.1 h
  have HCOPY := Aside0.mk hcopy
  have HIS := Aside0.mk hb
  have HLT := Aside0.mk hl
  have hcap : Aside0 (w.cell? ⟨b2, 0, none⟩ = some (.int .u64 a2)) := ⟨p2⟩
  clear hr0 hc0 hcopy hb hl p2
  go_enter Try.func60, Try.ntmps60
  go_upto_if 16 with (first | ((with_reducible refine gate_dst (N := 3) rfl ?_); refine box_event ?hg (N := 3) ?hd (cs := #[.slice A0 l0.length c0]) (t := 29) ?hr ?_; (case hd => rfl); (case hg => rfl); (case hr => first | (go_simp; done) | (go_simp; rfl)); intro gb3 hg w3 hbox hb; have n0_ := Aside0.mk (below_step u8_3 hb); have n1_ := Aside0.mk (show w.heap.size ≤ gb3 by rw [hg]; exact (below_size u8_3)); have n2_ := Aside0.mk hbox; clear HB; have HB := n0_; have G3 := n1_; have BK3 := n2_; clear n0_ n1_ n2_; clear hbox hg hb; (try clear c3_ f3_); have c3_ : w3.cell? ⟨gb3, 0, none⟩ = some (.slice A0 l0.length c0) := (blk_cell BK3.out 0).trans rfl; have f3_ := blk_frozen BK3.out 0) | ((with_reducible refine gate_dst (N := 6) rfl ?_); refine box_event ?hg (N := 6) ?hd (cs := #[.slice none 0 0]) (t := 29) ?hr ?_; (case hd => rfl); (case hg => rfl); (case hr => first | (go_simp; done) | (go_simp; rfl)); intro gb6 hg w6 hbox hb; have n0_ := Aside0.mk (below_step u8_3 hb); have n1_ := Aside0.mk (show w.heap.size ≤ gb6 by rw [hg]; exact (below_size u8_3)); have n2_ := Aside0.mk hbox; have m3_ := Aside0.mk (blk_below (g := gb3) (o := .cells #[.slice A0 l0.length c0] 29 (0, 0)) u8_10 hb); have N3_6 := (show gb3 ≠ gb6 by rw [hg]; exact Nat.ne_of_lt (blk_lt (g := gb3) (o := .cells #[.slice A0 l0.length c0] 29 (0, 0)) u8_10)); have N6_3 := (N3_6).symm; clear HB; have HB := n0_; have G6 := n1_; have BK6 := n2_; clear n0_ n1_ n2_; clear BK3; have BK3 := m3_; clear m3_; clear hbox hg hb; (try clear c3_ f3_); have c3_ : w6.cell? ⟨gb3, 0, none⟩ = some (.slice A0 l0.length c0) := (blk_cell BK3.out 0).trans rfl; have f3_ := blk_frozen BK3.out 0; (try clear c6_ f6_); have c6_ : w6.cell? ⟨gb6, 0, none⟩ = some (.slice none 0 0) := (blk_cell BK6.out 0).trans rfl; have f6_ := blk_frozen BK6.out 0) | ((with_reducible refine gate_callee (f := 56) rfl ?_); refine goesL_ (some 13) rfl rfl Try.func56 (by kernel_rfl) rfl #[.agg #[.slice A0 l0.length c0]] rfl u8_20 ?_; (with_reducible refine (impl_copyBook.calls _ _ l0 l0 _ ?side1 ?side2 HCOPY.out).mono ?_); (case side1 => exact u8_27); (case side2 => exact HC.out); rintro e w7 ⟨v7, rfl, ho0, hb⟩; refine ⟨_, rfl, ?_⟩; have n0_ := Aside0.mk (Kd.R_lower ho0 (below_size u8_3)); have n1_ := Aside0.mk (below_step u8_3 hb); have m3_ := Aside0.mk (blk_below (g := gb3) (o := .cells #[.slice A0 l0.length c0] 29 (0, 0)) u8_10 hb); have m6_ := Aside0.mk (blk_below (g := gb6) (o := .cells #[.slice none 0 0] 29 (0, 0)) u8_23 hb); clear HB BK3 BK6; have HO := n0_; have HB := n1_; have BK3 := m3_; have BK6 := m6_; clear n0_ n1_ m3_ m6_; clear ho0 hb) | ((with_reducible refine gate_dst (N := 8) rfl ?_); refine box_event ?hg (N := 8) ?hd (cs := #[.slice none 0 0]) (t := 29) ?hr ?_; (case hd => rfl); (case hg => rfl); (case hr => first | (go_simp; done) | (go_simp; rfl)); intro gb8 hg w8 hbox hb; have n0_ := Aside0.mk (below_step u8_3 hb); have n1_ := Aside0.mk (show w.heap.size ≤ gb8 by rw [hg]; exact (below_size u8_3)); have n2_ := Aside0.mk hbox; have m3_ := Aside0.mk (blk_below (g := gb3) (o := .cells #[.slice A0 l0.length c0] 29 (0, 0)) u8_10 hb); have N3_8 := (show gb3 ≠ gb8 by rw [hg]; exact Nat.ne_of_lt (blk_lt (g := gb3) (o := .cells #[.slice A0 l0.length c0] 29 (0, 0)) u8_10)); have N8_3 := (N3_8).symm; have m6_ := Aside0.mk (blk_below (g := gb6) (o := .cells #[.slice none 0 0] 29 (0, 0)) u8_23 hb); have N6_8 := (show gb6 ≠ gb8 by rw [hg]; exact Nat.ne_of_lt (blk_lt (g := gb6) (o := .cells #[.slice none 0 0] 29 (0, 0)) u8_23)); have N8_6 := (N6_8).symm; have m0_ := Aside0.mk (Kd.R_below u8_32 hb); clear HO; have HO := m0_; clear m0_; obtain ⟨A1, c1, ev1⟩ := Kd.R_slice HO.out; subst ev1; clear HB; have HB := n0_; have G8 := n1_; have BK8 := n2_; clear n0_ n1_ n2_; clear BK3; have BK3 := m3_; clear m3_; clear BK6; have BK6 := m6_; clear m6_; clear hbox hg hb; (try clear c3_ f3_); have c3_ : w8.cell? ⟨gb3, 0, none⟩ = some (.slice A0 l0.length c0) := (blk_cell BK3.out 0).trans rfl; have f3_ := blk_frozen BK3.out 0; (try clear c6_ f6_); have c6_ : w8.cell? ⟨gb6, 0, none⟩ = some (.slice none 0 0) := (blk_cell BK6.out 0).trans rfl; have f6_ := blk_frozen BK6.out 0; (try clear c8_ f8_); have c8_ : w8.cell? ⟨gb8, 0, none⟩ = some (.slice none 0 0) := (blk_cell BK8.out 0).trans rfl; have f8_ := blk_frozen BK8.out 0) | ((with_reducible refine gate_callee (f := 50) rfl ?_); refine goesL_ (some 15) rfl rfl Try.func50 (by kernel_rfl) rfl #[.agg #[.slice A0 l0.length c0]] rfl u8_20 ?_; (with_reducible refine (impl_isBook.calls k _ _ l0 _ _ ?side1 ?side2 HIS.out).mono ?_); (case side1 => exact Kd.C_below HR.out (below_set HB.out G8.out)); (case side2 => exact HC.out); rintro e w9 ⟨rfl, hb⟩; refine ⟨_, rfl, ?_⟩; have n0_ := Aside0.mk (Kd.R_below (Kd.R_mono (ok' := fun _ => True) (Kd.R_far (p := ⟨gb8, 0, none⟩) (Kd.R_types HO.out BK8.out (by decide)) (fun _ hk => hk.2) (.slice A1 l0.length c1)) (fun _ _ => trivial)) hb); have n1_ := Aside0.mk (below_step (below_set HB.out G8.out) hb); have m3_ := Aside0.mk (blk_below (g := gb3) (o := .cells #[.slice A0 l0.length c0] 29 (0, 0)) (blk_far BK3.out N3_8 _) hb); have m6_ := Aside0.mk (blk_below (g := gb6) (o := .cells #[.slice none 0 0] 29 (0, 0)) (blk_far BK6.out N6_8 _) hb); have m8_ := Aside0.mk (blk_below (g := gb8) (o := .cells #[.slice A1 l0.length c1] 29 (0, 0)) (blk_put (cs := #[.slice none 0 0]) BK8.out 0 _ rfl) hb); clear HO HB BK3 BK6 BK8; have HO := n0_; have HB := n1_; have BK3 := m3_; have BK6 := m6_; have BK8 := m8_; clear n0_ n1_ m3_ m6_ m8_; clear hb; (try clear c3_ f3_); have c3_ : w9.cell? ⟨gb3, 0, none⟩ = some (.slice A0 l0.length c0) := (blk_cell BK3.out 0).trans rfl; have f3_ := blk_frozen BK3.out 0; (try clear c6_ f6_); have c6_ : w9.cell? ⟨gb6, 0, none⟩ = some (.slice none 0 0) := (blk_cell BK6.out 0).trans rfl; have f6_ := blk_frozen BK6.out 0; (try clear c8_ f8_); have c8_ : w9.cell? ⟨gb8, 0, none⟩ = some (.slice A1 l0.length c1) := (blk_cell BK8.out 0).trans rfl; have f8_ := blk_frozen BK8.out 0))
  cases b with
  | false =>
    rw [if_neg (by decide)] at h
    obtain ⟨rfl, rfl⟩ : l0 = r1 ∧ 1 = r2 := by injection h with h; injection h with h1 h2; exact ⟨h1, h2⟩
    clear h
    go_wp2
    refine bodyPost_ret (results_ct rfl _ _ gb6 29 #[.slice A1 l0.length c1] (0, 0) _ rfl (blk_put (cs := #[.slice none 0 0]) BK6.out 0 _ rfl) Try.underlying29 rfl (by kernel_rfl)) rfl ?_
    exact ⟨_, rfl, Kd.R_mono (Kd.R_far (p := ⟨gb6, 0, none⟩) (Kd.R_types HO.out BK6.out (by decide)) (fun _ hk => hk.2) _) (fun _ _ => trivial), below_set HB.out G6.out⟩
  | true =>
    rw [if_pos rfl] at h
    obtain ⟨⟨I, y2⟩, hy, h⟩ := Option.bind_eq_some_iff.1 h
    have HAC := Aside0.mk hy
    clear hy
    go_upto_if 25 with (first | ((with_reducible refine gate_callee (f := 57) rfl ?_); refine goesL_ (some 21) rfl rfl Try.func57 (by kernel_rfl) rfl #[.agg #[.slice A0 l0.length c0], .int .u64 a1] rfl u8_20 ?_; (with_reducible refine (impl_accountOf.calls k _ _ l0 a1 _ _ _ ?side1 ?side2 HAC.out).mono ?_); (case side1 => exact Kd.C_below HR.out HB.out); (case side2 => exact HC.out); rintro e w10 ⟨rfl, hb⟩; refine ⟨_, rfl, ?_⟩; have n0_ := Aside0.mk (Kd.R_below HO.out hb); have n1_ := Aside0.mk (below_step HB.out hb); have m3_ := Aside0.mk (blk_below (g := gb3) (o := .cells #[.slice A0 l0.length c0] 29 (0, 0)) BK3.out hb); have m6_ := Aside0.mk (blk_below (g := gb6) (o := .cells #[.slice none 0 0] 29 (0, 0)) BK6.out hb); have m8_ := Aside0.mk (blk_below (g := gb8) (o := .cells #[.slice A1 l0.length c1] 29 (0, 0)) BK8.out hb); clear HO HB BK3 BK6 BK8; have HO := n0_; have HB := n1_; have BK3 := m3_; have BK6 := m6_; have BK8 := m8_; clear n0_ n1_ m3_ m6_ m8_; clear hb; (try clear c3_ f3_); have c3_ : w10.cell? ⟨gb3, 0, none⟩ = some (.slice A0 l0.length c0) := (blk_cell BK3.out 0).trans rfl; have f3_ := blk_frozen BK3.out 0; (try clear c6_ f6_); have c6_ : w10.cell? ⟨gb6, 0, none⟩ = some (.slice none 0 0) := (blk_cell BK6.out 0).trans rfl; have f6_ := blk_frozen BK6.out 0; (try clear c8_ f8_); have c8_ : w10.cell? ⟨gb8, 0, none⟩ = some (.slice A1 l0.length c1) := (blk_cell BK8.out 0).trans rfl; have f8_ := blk_frozen BK8.out 0))
    cases y2 with
    | false =>
      rw [if_neg (by simp)] at h
      obtain ⟨rfl, rfl⟩ : l0 = r1 ∧ 2 = r2 := by injection h with h; injection h with h1 h2; exact ⟨h1, h2⟩
      clear h
      go_wp2
      refine bodyPost_ret (results_ct rfl _ _ gb6 29 #[.slice A1 l0.length c1] (0, 0) _ rfl (blk_put (cs := #[.slice none 0 0]) BK6.out 0 _ rfl) Try.underlying29 rfl (by kernel_rfl)) rfl ?_
      exact ⟨_, rfl, Kd.R_mono (Kd.R_far (p := ⟨gb6, 0, none⟩) (Kd.R_types HO.out BK6.out (by decide)) (fun _ hk => hk.2) _) (fun _ _ => trivial), below_set HB.out G6.out⟩
    | true =>
      rw [if_pos rfl] at h
      by_cases hI : 0 ≤ I ∧ I < (l0.length : Int)
      rotate_left
      · rw [if_neg hI] at h; cases h
      rw [if_pos hI] at h
      obtain ⟨i, rfl⟩ := Int.eq_ofNat_of_zero_le hI.1
      have hi : i < l0.length := by omega
      have p1 := eq_true (show 0 ≤ (i : Int) from hI.1)
      have p2 := eq_true (show (i : Int) < (l0.length : Int) from hI.2)
      have p3 : (i : Int).toNat = i := Int.toNat_natCast i
      rw [p3] at h
      obtain ⟨Y, hY⟩ : ∃ Y, Y = impl_Withdraw.g a2 (l0.getD i z53) := ⟨_, rfl⟩
      rw [← hY] at h
      have HLIT : Aside0 (∀ (g1 c1 : Nat) (W : World), w.heap.size ≤ g1 → Below w.heap.size w W → Kd.R k53 53 W w.heap.size (fun k => k = g1) (.slice (some ⟨g1, 0, none⟩) l0.length c1) l0 →
          Calls Try.prog 65 #[.pointer (some ⟨g1, i * 5, none⟩), .pointer (some ⟨b2, 0, none⟩)] W fun e w' => e = .returned (.int .i64 Y.2) ∧ Kd.R k53 53 w' w.heap.size (fun k => k = g1) (.slice (some ⟨g1, 0, none⟩) l0.length c1) (l0.set i Y.1) ∧ Below w.heap.size w w' ∧ Kept W w' (fun k => k = g1)) := ⟨fun g1 c1 W hg hB ho => by
        obtain p2 := hcap.out
        rw [hY]
        exact impl_Withdraw.lit g1 l0.length c1 i l0 (fun k => k = g1) a2 b2 w W hB ho hi ((hB.cell (World.block_lt_of_cell? w _ p2)).trans p2) (Nat.ne_of_lt (Nat.lt_of_lt_of_le (World.block_lt_of_cell? w _ p2) hg))⟩
      clear hY hI
      have HI := Aside0.mk hi
      clear hi
      obtain ⟨g1, c1, ev1, hg1, _, _, _⟩ := Kd.R_form HO.out (by have := HI.out; omega)
      cases ev1
      have HG1 := Aside0.mk hg1
      clear hg1
      go_upto_if 34 with (first | (go_at_call 65; refine (HLIT.out g1 c1 _ HG1.out HB.out (impl_Withdraw.own HO.out)).mono ?_; rintro e w11 ⟨rfl, ho, hb, hk⟩; have NG3 : gb3 ≠ g1 := fun e => Kd.R_ne HO.out BK3.out (by decide) (by rw [e]; rfl); have NG6 : gb6 ≠ g1 := fun e => Kd.R_ne HO.out BK6.out (by decide) (by rw [e]; rfl); have NG8 : gb8 ≠ g1 := fun e => Kd.R_ne HO.out BK8.out (by decide) (by rw [e]; rfl); have m3_ := Aside0.mk (blk_kept BK3.out hk NG3); have m6_ := Aside0.mk (blk_kept BK6.out hk NG6); have m8_ := Aside0.mk (blk_kept BK8.out hk NG8); clear HB BK3 BK6 BK8 HO; have HB := Aside0.mk hb; have BK3 := m3_; have BK6 := m6_; have BK8 := m8_; clear m3_ m6_ m8_ hb hk; have HO := Aside0.mk ho; have x4_ : w11.cell? ⟨g1, i * 5 + 4, none⟩ = some (.int .i64 Y.1.f4) := (by obtain ⟨_, _, _, _, _, cur1, hb1, _, _⟩ := impl_Withdraw.flat.blockG ho; exact (blk_cell hb1 _).trans ((Go.Proofs.Ytdbfjakhkclggaa.Slc.flat_elem impl_Withdraw.flat ho hb1 (by rw [List.length_set]; exact HI.out) z53 4 (show 4 < 5 by omega)).trans u8_33)); clear ho; (try clear c3_ f3_); have c3_ : w11.cell? ⟨gb3, 0, none⟩ = some (.slice A0 l0.length c0) := (blk_cell BK3.out 0).trans rfl; have f3_ := blk_frozen BK3.out 0; (try clear c6_ f6_); have c6_ : w11.cell? ⟨gb6, 0, none⟩ = some (.slice none 0 0) := (blk_cell BK6.out 0).trans rfl; have f6_ := blk_frozen BK6.out 0; (try clear c8_ f8_); have c8_ : w11.cell? ⟨gb8, 0, none⟩ = some (.slice (some ⟨g1, 0, none⟩) l0.length c1) := (blk_cell BK8.out 0).trans rfl; have f8_ := blk_frozen BK8.out 0))
      by_cases hz : Y.2 = 0
      rotate_left
      · rw [if_neg hz] at h
        obtain ⟨rfl, rfl⟩ : l0 = r1 ∧ Y.2 = r2 := by injection h with h; injection h with h1 h2; exact ⟨h1, h2⟩
        clear h
        have hz' : (Y.2 != 0) = true := by simpa using hz
        clear hz p3
        (first | rw [hz'] | skip)
        go_wp2_with (first | ((with_reducible refine gate_callee (f := 56) rfl ?_); refine goesL_ (some 36) rfl rfl Try.func56 (by kernel_rfl) rfl #[.agg #[.slice A0 l0.length c0]] rfl u8_20 ?_; (with_reducible refine (impl_copyBook.calls _ _ l0 l0 _ ?side1 ?side2 HCOPY.out).mono ?_); (case side1 => exact Kd.C_below HR.out HB.out); (case side2 => exact HC.out); rintro e w12 ⟨v12, rfl, ho0, hb⟩; refine ⟨_, rfl, ?_⟩; have HO2 := Aside0.mk (Kd.R_lower ho0 HB.out.size); obtain ⟨A2, c2, ev2⟩ := Kd.R_slice HO2.out; subst ev2; have n1_ := Aside0.mk (below_step HB.out hb); have m3_ := Aside0.mk (blk_below (g := gb3) (o := .cells #[.slice A0 l0.length c0] 29 (0, 0)) BK3.out hb); have m6_ := Aside0.mk (blk_below (g := gb6) (o := .cells #[.slice none 0 0] 29 (0, 0)) BK6.out hb); have m8_ := Aside0.mk (blk_below (g := gb8) (o := .cells #[.slice (some ⟨g1, 0, none⟩) l0.length c1] 29 (0, 0)) BK8.out hb); clear HB BK3 BK6 BK8; have HB := n1_; have BK3 := m3_; have BK6 := m6_; have BK8 := m8_; clear n1_ m3_ m6_ m8_; clear hb ho0; (try clear c3_ f3_); have c3_ : w12.cell? ⟨gb3, 0, none⟩ = some (.slice A0 l0.length c0) := (blk_cell BK3.out 0).trans rfl; have f3_ := blk_frozen BK3.out 0; (try clear c6_ f6_); have c6_ : w12.cell? ⟨gb6, 0, none⟩ = some (.slice none 0 0) := (blk_cell BK6.out 0).trans rfl; have f6_ := blk_frozen BK6.out 0; (try clear c8_ f8_); have c8_ : w12.cell? ⟨gb8, 0, none⟩ = some (.slice (some ⟨g1, 0, none⟩) l0.length c1) := (blk_cell BK8.out 0).trans rfl; have f8_ := blk_frozen BK8.out 0))
        refine bodyPost_ret (results_ct rfl _ _ gb6 29 #[.slice A2 l0.length c2] (0, 0) _ rfl (blk_put (cs := #[.slice none 0 0]) BK6.out 0 _ rfl) Try.underlying29 rfl (by kernel_rfl)) rfl ?_
        exact ⟨_, rfl, Kd.R_mono (Kd.R_far (p := ⟨gb6, 0, none⟩) (Kd.R_types HO2.out BK6.out (by decide)) (fun _ hk => hk.2) _) (fun _ _ => trivial), below_set HB.out G6.out⟩
      rw [if_pos hz] at h
      have hz' : (Y.2 != 0) = false := by simpa using hz
      clear hz
      (first | rw [hz'] | skip)
      by_cases hf : Y.1.f4 = -1
      rotate_left
      · rw [if_neg hf] at h
        obtain ⟨rfl, rfl⟩ : l0.set i Y.1 = r1 ∧ 0 = r2 := by injection h with h; injection h with h1 h2; exact ⟨h1, h2⟩
        clear h
        have hf' : (Y.1.f4 == -1) = false := by simpa using hf
        clear hf p3
        go_wp2
        refine bodyPost_ret (results_ct rfl _ _ gb6 29 #[.slice (some ⟨g1, 0, none⟩) l0.length c1] (0, 0) _ rfl (blk_put (cs := #[.slice none 0 0]) BK6.out 0 _ rfl) Try.underlying29 rfl (by kernel_rfl)) rfl ?_
        exact ⟨_, rfl, Kd.R_mono (Kd.R_far (p := ⟨gb6, 0, none⟩) (Kd.R_types HO.out BK6.out (by decide)) (fun _ hk => hk.2) _) (fun _ _ => trivial), below_set HB.out G6.out⟩
      rw [if_pos hf] at h
      obtain ⟨rfl, rfl⟩ : (l0.set i Y.1).eraseIdx i = r1 ∧ 0 = r2 := by injection h with h; injection h with h1 h2; exact ⟨h1, h2⟩
      clear h
      have hf' : (Y.1.f4 == -1) = true := by simpa using hf
      have hdel : impl_Account.f (l0.set i Y.1) (i : Int) ((i : Int) + 1) = some ((l0.set i Y.1).eraseIdx i) := by
        unfold impl_Account.f
        rw [if_pos ⟨of_eq_true p1, rfl, by rw [List.length_set]; exact of_eq_true p2⟩, p3]
      have HDEL := Aside0.mk hdel
      clear hdel hf p3
      have hw1 : IntKind.i64.wrap ((i : Int) + 1) = (i : Int) + 1 := by have := HLT.out; have := HI.out; rw [IntKind.wrap_i64]; omega
      go_wp2_with (first | ((with_reducible refine gate_callee (f := 78) rfl ?_); refine goesL_ (some 50) rfl rfl Try.func78 (by kernel_rfl) rfl #[.slice (some ⟨g1, 0, none⟩) l0.length c1, .int .i64 (i : Int), .int .i64 ((i : Int) + 1)] rfl u8_20 ?_; (with_reducible refine (impl_Account.calls (fun k => k = g1) _ (l0.set i Y.1) _ _ _ w _ HB.out HO.out HDEL.out).mono ?_); rintro e w12 ⟨v12, rfl, ho0, hb, hk⟩; refine ⟨_, rfl, ?_⟩; have NG3 : gb3 ≠ g1 := fun e => Kd.R_ne HO.out BK3.out (by decide) (by rw [e]; rfl); have NG6 : gb6 ≠ g1 := fun e => Kd.R_ne HO.out BK6.out (by decide) (by rw [e]; rfl); have NG8 : gb8 ≠ g1 := fun e => Kd.R_ne HO.out BK8.out (by decide) (by rw [e]; rfl); have m3_ := Aside0.mk (blk_kept BK3.out hk NG3); have m6_ := Aside0.mk (blk_kept BK6.out hk NG6); have m8_ := Aside0.mk (blk_kept BK8.out hk NG8); clear HB BK3 BK6 BK8 HO; have HB := Aside0.mk hb; have BK3 := m3_; have BK6 := m6_; have BK8 := m8_; clear m3_ m6_ m8_ hb hk; have HO2 := Aside0.mk ho0; clear ho0; obtain ⟨A2, c2, ev2⟩ := Kd.R_slice HO2.out; subst ev2; (try clear c3_ f3_); have c3_ : w12.cell? ⟨gb3, 0, none⟩ = some (.slice A0 l0.length c0) := (blk_cell BK3.out 0).trans rfl; have f3_ := blk_frozen BK3.out 0; (try clear c6_ f6_); have c6_ : w12.cell? ⟨gb6, 0, none⟩ = some (.slice none 0 0) := (blk_cell BK6.out 0).trans rfl; have f6_ := blk_frozen BK6.out 0; (try clear c8_ f8_); have c8_ : w12.cell? ⟨gb8, 0, none⟩ = some (.slice (some ⟨g1, 0, none⟩) l0.length c1) := (blk_cell BK8.out 0).trans rfl; have f8_ := blk_frozen BK8.out 0))
      refine bodyPost_ret (results_ct rfl _ _ gb6 29 #[.slice A2 ((l0.set i Y.1).eraseIdx i).length c2] (0, 0) _ rfl (blk_put (cs := #[.slice none 0 0]) (blk_far BK6.out N6_8 _) 0 _ rfl) Try.underlying29 rfl (by kernel_rfl)) rfl ?_
      exact ⟨_, rfl, Kd.R_mono (Kd.R_far (p := ⟨gb6, 0, none⟩) (Kd.R_far (p := ⟨gb8, 0, none⟩) (Kd.R_types (Kd.R_types HO2.out BK6.out (by decide)) BK8.out (by decide)) (fun _ hk => hk.2) _) (fun _ hk => hk.1.2) _) (fun _ _ => trivial), below_set (below_set HB.out G8.out) G6.out⟩
def impl_Withdraw.f (k : Nat) (l0 : List S53) (a1 : Int) (a2 : Int) : Option (List S53 × Int) := impl_Withdraw.cf k l0 a1 a2
theorem impl_Withdraw.mono : ∀ (l0 : List S53) (a1 : Int) (a2 : Int) (k : Nat), LeO (impl_Withdraw.f k l0 a1 a2) (impl_Withdraw.f (k + 1) l0 a1 a2) := fun l0 a1 a2 k => by
  unfold impl_Withdraw.f
  exact impl_Withdraw.cf_mono _ _ _ k
set_option maxHeartbeats 4000000 in
set_option maxRecDepth 100000 in
theorem impl_Withdraw.calls (k : Nat) (A0 : Option Addr) (c0 : Nat) (l0 : List S53) (a1 : Int) (a2 : Int) (r1 : List S53) (r2 : Int) (w : World) (hr0 : Kd.C k53 w A0 l0.length l0) (hc0 : l0.length ≤ c0) (h : impl_Withdraw.f k l0 a1 a2 = some (r1, r2)) :
    Calls Try.prog 37 #[.agg #[.slice A0 l0.length c0], .int .u64 a1, .int .u64 a2] w fun e w' => ∃ v0_ : Value, e = .returned (.tuple #[.agg #[v0_], .int .i64 r2]) ∧ Kd.R k53 53 w' w.heap.size (fun _ => True) v0_ r1 ∧ Below w.heap.size w w' := by
  have hu := Try.underlying29
  have HR := Aside0.mk hr0
  have HC := Aside0.mk hc0
  have HB := Aside0.mk (Below.refl w.heap.size w)
  clear hr0 hc0
  unfold impl_Withdraw.f at h
  have HF := Aside0.mk h
  clear h
  go_enter Try.func37, Try.ntmps37
  go_wp2_with (first | ((with_reducible refine gate_dst (N := 3) rfl ?_); refine box_event ?hg (N := 3) ?hd (cs := #[.slice A0 l0.length c0]) (t := 29) ?hr ?_; (case hd => rfl); (case hg => rfl); (case hr => first | (go_simp; done) | (go_simp; rfl)); intro gb3 hg w3 hbox hb; have n0_ := Aside0.mk (below_step u8_2 hb); have n1_ := Aside0.mk (show w.heap.size ≤ gb3 by rw [hg]; exact (below_size u8_2)); have n2_ := Aside0.mk hbox; clear HB; have HB := n0_; have G3 := n1_; have BK3 := n2_; clear n0_ n1_ n2_; clear hbox hg hb; (try clear c3_ f3_); have c3_ : w3.cell? ⟨gb3, 0, none⟩ = some (.slice A0 l0.length c0) := (blk_cell BK3.out 0).trans rfl; have f3_ := blk_frozen BK3.out 0) | ((with_reducible refine gate_dst (N := 5) rfl ?_); refine box_event ?hg (N := 5) ?hd (cs := #[.int .u64 a2]) (t := 33) ?hr ?_; (case hd => rfl); (case hg => rfl); (case hr => first | (go_simp; done) | (go_simp; rfl)); intro gb5 hg w5 hbox hb; have n0_ := Aside0.mk (below_step u8_2 hb); have n1_ := Aside0.mk (show w.heap.size ≤ gb5 by rw [hg]; exact (below_size u8_2)); have n2_ := Aside0.mk hbox; have m3_ := Aside0.mk (blk_below (g := gb3) (o := .cells #[.slice A0 l0.length c0] 29 (0, 0)) u8_10 hb); have N3_5 := (show gb3 ≠ gb5 by rw [hg]; exact Nat.ne_of_lt (blk_lt (g := gb3) (o := .cells #[.slice A0 l0.length c0] 29 (0, 0)) u8_10)); have N5_3 := (N3_5).symm; clear HB; have HB := n0_; have G5 := n1_; have BK5 := n2_; clear n0_ n1_ n2_; clear BK3; have BK3 := m3_; clear m3_; clear hbox hg hb; (try clear c3_ f3_); have c3_ : w5.cell? ⟨gb3, 0, none⟩ = some (.slice A0 l0.length c0) := (blk_cell BK3.out 0).trans rfl; have f3_ := blk_frozen BK3.out 0; (try clear c5_ f5_); have c5_ : w5.cell? ⟨gb5, 0, none⟩ = some (.int .u64 a2) := (blk_cell BK5.out 0).trans rfl; have f5_ := blk_frozen BK5.out 0) | ((with_reducible refine gate_dst (N := 6) rfl ?_); refine box_event ?hg (N := 6) ?hd (cs := #[.slice none 0 0]) (t := 29) ?hr ?_; (case hd => rfl); (case hg => rfl); (case hr => first | (go_simp; done) | (go_simp; rfl)); intro gb6 hg w6 hbox hb; have n0_ := Aside0.mk (below_step u8_2 hb); have n1_ := Aside0.mk (show w.heap.size ≤ gb6 by rw [hg]; exact (below_size u8_2)); have n2_ := Aside0.mk hbox; have m3_ := Aside0.mk (blk_below (g := gb3) (o := .cells #[.slice A0 l0.length c0] 29 (0, 0)) u8_10 hb); have N3_6 := (show gb3 ≠ gb6 by rw [hg]; exact Nat.ne_of_lt (blk_lt (g := gb3) (o := .cells #[.slice A0 l0.length c0] 29 (0, 0)) u8_10)); have N6_3 := (N3_6).symm; have m5_ := Aside0.mk (blk_below (g := gb5) (o := .cells #[.int .u64 a2] 33 (0, 0)) u8_26 hb); have N5_6 := (show gb5 ≠ gb6 by rw [hg]; exact Nat.ne_of_lt (blk_lt (g := gb5) (o := .cells #[.int .u64 a2] 33 (0, 0)) u8_26)); have N6_5 := (N5_6).symm; clear HB; have HB := n0_; have G6 := n1_; have BK6 := n2_; clear n0_ n1_ n2_; clear BK3; have BK3 := m3_; clear m3_; clear BK5; have BK5 := m5_; clear m5_; clear hbox hg hb; (try clear c3_ f3_); have c3_ : w6.cell? ⟨gb3, 0, none⟩ = some (.slice A0 l0.length c0) := (blk_cell BK3.out 0).trans rfl; have f3_ := blk_frozen BK3.out 0; (try clear c5_ f5_); have c5_ : w6.cell? ⟨gb5, 0, none⟩ = some (.int .u64 a2) := (blk_cell BK5.out 0).trans rfl; have f5_ := blk_frozen BK5.out 0; (try clear c6_ f6_); have c6_ : w6.cell? ⟨gb6, 0, none⟩ = some (.slice none 0 0) := (blk_cell BK6.out 0).trans rfl; have f6_ := blk_frozen BK6.out 0) | ((with_reducible refine gate_callee (f := 60) rfl ?_); refine goesL_ (some 11) rfl rfl Try.func60 (by kernel_rfl) rfl #[.agg #[.slice A0 l0.length c0], .int .u64 a1, .func (.func 65) #[] #[.pointer (some ⟨gb5, 0, none⟩)]] rfl u8_20 ?_; (with_reducible refine (impl_Withdraw.change k _ _ l0 a1 a2 gb5 _ _ _ ?side1 ?side2 c5_ HF.out).mono ?_); (case side1 => exact Kd.C_below HR.out HB.out); (case side2 => exact HC.out); rintro e w20 ⟨v20, rfl, ho0, hb⟩; refine ⟨_, rfl, ?_⟩; have HO := Aside0.mk (Kd.R_lower ho0 HB.out.size); obtain ⟨A1, c1, ev1⟩ := Kd.R_slice HO.out; subst ev1; have n1_ := Aside0.mk (below_step HB.out hb); have m_ := Aside0.mk (blk_below (g := gb6) (o := .cells #[.slice none 0 0] 29 (0, 0)) BK6.out hb); clear HB BK6; have HB := n1_; have BK6 := m_; clear n1_ m_; clear hb ho0; (try clear c6_ f6_); have c6_ : w20.cell? ⟨gb6, 0, none⟩ = some (.slice none 0 0) := (blk_cell BK6.out 0).trans rfl; have f6_ := blk_frozen BK6.out 0))
  refine bodyPost_ret (results_ct rfl _ _ gb6 29 #[.slice A1 r1.length c1] (0, 0) _ rfl (blk_put (cs := #[.slice none 0 0]) BK6.out 0 _ rfl) Try.underlying29 rfl (by kernel_rfl)) rfl ?_
  exact ⟨_, rfl, Kd.R_mono (Kd.R_far (p := ⟨gb6, 0, none⟩) (Kd.R_types HO.out BK6.out (by decide)) (fun _ hk => hk.2) _) (fun _ _ => trivial), below_set HB.out G6.out⟩


/-! ### laws_big: function 44 -/
def laws_big.f (l0 : List Int) : Option (Bool) := some (decide ((l0.length : Int) > 1048576))
set_option maxHeartbeats 8000000 in
set_option maxRecDepth 100000 in
theorem laws_big.calls (A0 : Option Addr) (c0 : Nat) (l0 : List Int) (r : Bool) (w : World) (hr0 : Kd.C (Kd.int .u8) w A0 l0.length l0) (hc0 : l0.length ≤ c0) (h : laws_big.f l0 = some r) :
    Calls Try.prog 44 #[.slice A0 l0.length c0] w fun e w' => e = .returned (.bool r) ∧ Drawn0 w w' := by
  have HR0 := Aside0.mk hr0
  have HC0 := Aside0.mk hc0
  clear hr0 hc0
  have H : (some (decide ((l0.length : Int) > 1048576))) = some r := h
  clear h
  obtain rfl := Option.some.inj H
  go_enter Try.func44, Try.ntmps44
  go_wp2
  go_ret
  exact ⟨by first | rfl | (simp; done) | (simp [*]; done), (by repeat (first | exact Drawn0.refl _ | apply Drawn0.step))⟩

/-- A state of type 83 at block g of W; what its slices lead to came in by w0. -/
def IsS83 (w0 W : World) (g : Nat) (f0 : List Int) (f1 : Int) (f2 : Int) : Prop := ∃ A0 c0, W.heap[g]? = some (.cells #[.slice A0 f0.length c0, .int .i64 f1, .int .i64 f2] 83 (0, 0)) ∧ w0.heap.size ≤ g ∧ Kd.C (Kd.int .u8) w0 A0 f0.length f0
theorem IsS83.grown {w0 W : World} {g : Nat} {f0 : List Int} {f1 : Int} {f2 : Int} {W1 : World} {row : Option Nat} (h : IsS83 w0 W g f0 f1 f2) (hw : W.grownBy W1 row) (hne : some g ≠ row) : IsS83 w0 W1 g f0 f1 f2 := by
  obtain ⟨A0, c0, hb, hg, hr0⟩ := h
  exact ⟨A0, c0, blk_grown hb hw hne, hg, hr0⟩
theorem IsS83.own_neN {w0 W : World} {g : Nat} {f0 : List Int} {f1 : Int} {f2 : Int} {α : Type} {d : Kd α} {e : Nat} {base : Nat} {ok : Nat → Prop} {v : Value} {xs : List α} (h : IsS83 w0 W g f0 f1 f2) (ho : Kd.N d e W base ok v xs) (ht : e ≠ 83) : some g ≠ v.ownBlock := by
  obtain ⟨A0, c0, hb, hg, hr0⟩ := h
  exact Kd.N_ne ho hb ht
theorem IsS83.fresh {w0 W : World} {g : Nat} {f0 : List Int} {f1 : Int} {f2 : Int} (h : IsS83 w0 W g f0 f1 f2) : ∀ k, W.heap.size ≤ k → k ≠ g := by
  obtain ⟨A0, c0, hb, hg, hr0⟩ := h
  exact Kd.freshB hb
theorem IsS83.kept {w0 W : World} {g : Nat} {f0 : List Int} {f1 : Int} {f2 : Int} {W1 : World} {S : Nat → Prop} (h : IsS83 w0 W g f0 f1 f2) (hk : Kept W W1 S) (hne : ¬ S g) : IsS83 w0 W1 g f0 f1 f2 := by
  obtain ⟨A0, c0, hb, hg, hr0⟩ := h
  exact ⟨A0, c0, blk_kept hb hk hne, hg, hr0⟩
theorem IsS83.below {w0 W : World} {g : Nat} {f0 : List Int} {f1 : Int} {f2 : Int} {W1 : World} (h : IsS83 w0 W g f0 f1 f2) (hw : Below W.heap.size W W1) : IsS83 w0 W1 g f0 f1 f2 := h.grown (grown_of_below hw none) (by simp)
theorem IsS83.alloc {w0 W : World} {g : Nat} {f0 : List Int} {f1 : Int} {f2 : Int} (h : IsS83 w0 W g f0 f1 f2) (o : Obj) : IsS83 w0 (W.alloc o) g f0 f1 f2 := h.below (below_alloc (Below.refl _ _) o)
theorem IsS83.drewN {w0 W : World} {g : Nat} {f0 : List Int} {f1 : Int} {f2 : Int} (h : IsS83 w0 W g f0 f1 f2) (m : Nat) : IsS83 w0 (W.drewN m) g f0 f1 f2 := h
theorem IsS83.drew {w0 W : World} {g : Nat} {f0 : List Int} {f1 : Int} {f2 : Int} (h : IsS83 w0 W g f0 f1 f2) : IsS83 w0 W.drew g f0 f1 f2 := h
theorem IsS83.at_ {w0 W : World} {g : Nat} {f0 : List Int} {f1 : Int} {f2 : Int} {w' : World} {m : Nat} (hq : W.drewN m = w') (h : IsS83 w0 W g f0 f1 f2) : IsS83 w0 w' g f0 f1 f2 := by subst hq; exact IsS83.drewN h m
theorem IsS83.apart {w0 W : World} {g : Nat} {f0 : List Int} {f1 : Int} {f2 : Int} {α : Type} {d : Kd α} {e : Nat} {base : Nat} {ok : Nat → Prop} {v : Value} {xs : List α} (h : IsS83 w0 W g f0 f1 f2) (ho : d.R e W base ok v xs) (ht : ∀ q, q ∈ e :: d.E → q ≠ 83) : d.R e W base (fun k => ok k ∧ k ≠ g) v xs := by
  obtain ⟨A0, c0, hb, hg, hr0⟩ := h
  exact Kd.R_types ho hb ht
theorem IsS83.own_ne {w0 W : World} {g : Nat} {f0 : List Int} {f1 : Int} {f2 : Int} {α : Type} {d : Kd α} {e : Nat} {base : Nat} {ok : Nat → Prop} {v : Value} {xs : List α} (h : IsS83 w0 W g f0 f1 f2) (ho : d.R e W base ok v xs) (ht : e ≠ 83) : some g ≠ v.ownBlock := by
  obtain ⟨A0, c0, hb, hg, hr0⟩ := h
  exact Kd.R_ne ho hb ht
theorem IsS83.apartQ {w0 W : World} {g : Nat} {f0 : List Int} {f1 : Int} {f2 : Int} {α : Type} {d : Kd α} {e : Nat} {base : Nat} {ok : Nat → Prop} {v : Value} {xs : List α} (h : IsS83 w0 W g f0 f1 f2) (ho : d.Q e W base ok v xs) (ht : ∀ q, q ∈ e :: d.E → q ≠ 83) : d.Q e W base (fun k => ok k ∧ k ≠ g) v xs := by
  obtain ⟨A0, c0, hb, hg, hr0⟩ := h
  exact Kd.Q_types ho hb ht
theorem IsS83.own_neQ {w0 W : World} {g : Nat} {f0 : List Int} {f1 : Int} {f2 : Int} {α : Type} {d : Kd α} {e : Nat} {base : Nat} {ok : Nat → Prop} {v : Value} {xs : List α} (h : IsS83 w0 W g f0 f1 f2) (ho : d.Q e W base ok v xs) (ht : e ≠ 83) : some g ≠ v.ownBlock := by
  obtain ⟨A0, c0, hb, hg, hr0⟩ := h
  exact Kd.Q_ne ho hb ht
theorem IsS83.apartS {w0 W : World} {g : Nat} {f0 : List Int} {f1 : Int} {f2 : Int} {α : Type} {d : Kd α} {e : Nat} {base : Nat} {ok : Nat → Prop} {v : Value} {xs : List α} (h : IsS83 w0 W g f0 f1 f2) (ho : d.S e W base ok v xs) (ht : ∀ q, q ∈ e :: d.E → q ≠ 83) : d.S e W base (fun k => ok k ∧ k ≠ g) v xs := by
  obtain ⟨A0, c0, hb, hg, hr0⟩ := h
  exact Kd.S_types ho hb ht
theorem IsS83.own_neS {w0 W : World} {g : Nat} {f0 : List Int} {f1 : Int} {f2 : Int} {α : Type} {d : Kd α} {e : Nat} {base : Nat} {ok : Nat → Prop} {v : Value} {xs : List α} (h : IsS83 w0 W g f0 f1 f2) (ho : d.S e W base ok v xs) (ht : e ≠ 83) : some g ≠ v.ownBlock := by
  obtain ⟨A0, c0, hb, hg, hr0⟩ := h
  exact Kd.S_ne ho hb ht
theorem IsS83.lt {w0 W : World} {g : Nat} {f0 : List Int} {f1 : Int} {f2 : Int} (h : IsS83 w0 W g f0 f1 f2) : g < W.heap.size := by
  obtain ⟨A0, c0, hb, hg, hr0⟩ := h
  exact blk_lt hb
theorem IsS83.ge {w0 W : World} {g : Nat} {f0 : List Int} {f1 : Int} {f2 : Int} (h : IsS83 w0 W g f0 f1 f2) : w0.heap.size ≤ g := by
  obtain ⟨A0, c0, hb, hg, hr0⟩ := h
  exact hg
theorem IsS83.ne_blk {w0 W : World} {g : Nat} {f0 : List Int} {f1 : Int} {f2 : Int} {a : Nat} {cs : Array Value} {t : TypeId} {fr : Nat × Nat} (h : IsS83 w0 W g f0 f1 f2) (hb2 : W.heap[a]? = some (.cells cs t fr)) (ht : t ≠ 83) : g ≠ a := by
  obtain ⟨A0, c0, hb, hg, hr0⟩ := h
  rintro rfl
  rw [hb] at hb2
  injection hb2 with hb2
  injection hb2 with _ ht2
  exact ht ht2.symm
theorem IsS83.far {w0 W : World} {g : Nat} {f0 : List Int} {f1 : Int} {f2 : Int} {p : Addr} (h : IsS83 w0 W g f0 f1 f2) (hne : g ≠ p.block) (u : Value) : IsS83 w0 (W.setCell p u) g f0 f1 f2 := by
  obtain ⟨A0, c0, hb, hg, hr0⟩ := h
  exact ⟨A0, c0, blk_far hb hne u, hg, hr0⟩
theorem cellS83_0 {W : World} {g : Nat} {A0 : Option Addr} {c0 : Nat} {f0 : List Int} {f1 : Int} {f2 : Int} (h : W.heap[g]? = some (.cells #[.slice A0 f0.length c0, .int .i64 f1, .int .i64 f2] 83 (0, 0))) : W.cell? ⟨g, 0, none⟩ = some (.slice A0 f0.length c0) := (blk_cell h 0).trans rfl
theorem cellS83_1 {W : World} {g : Nat} {A0 : Option Addr} {c0 : Nat} {f0 : List Int} {f1 : Int} {f2 : Int} (h : W.heap[g]? = some (.cells #[.slice A0 f0.length c0, .int .i64 f1, .int .i64 f2] 83 (0, 0))) : W.cell? ⟨g, 1, none⟩ = some (.int .i64 f1) := (blk_cell h 1).trans rfl
theorem IsS83.set_1 {w0 W : World} {g : Nat} {f0 : List Int} {f1 : Int} {f2 : Int} (h : IsS83 w0 W g f0 f1 f2) (x : Int) : IsS83 w0 (W.setCell ⟨g, 1, none⟩ (.int .i64 x)) g f0 x f2 := by
  obtain ⟨A0, c0, hb, hg, hr0⟩ := h
  exact ⟨A0, c0, (by simpa using blk_set hb 1 (.int .i64 x)), hg, hr0⟩
theorem cellS83_2 {W : World} {g : Nat} {A0 : Option Addr} {c0 : Nat} {f0 : List Int} {f1 : Int} {f2 : Int} (h : W.heap[g]? = some (.cells #[.slice A0 f0.length c0, .int .i64 f1, .int .i64 f2] 83 (0, 0))) : W.cell? ⟨g, 2, none⟩ = some (.int .i64 f2) := (blk_cell h 2).trans rfl
theorem IsS83.set_2 {w0 W : World} {g : Nat} {f0 : List Int} {f1 : Int} {f2 : Int} (h : IsS83 w0 W g f0 f1 f2) (x : Int) : IsS83 w0 (W.setCell ⟨g, 2, none⟩ (.int .i64 x)) g f0 f1 x := by
  obtain ⟨A0, c0, hb, hg, hr0⟩ := h
  exact ⟨A0, c0, (by simpa using blk_set hb 2 (.int .i64 x)), hg, hr0⟩
theorem IsS83.new (w0 W : World) (A0 : Option Addr) (c0 : Nat) (f0 : List Int) (f1 : Int) (f2 : Int) (hB : Below w0.heap.size w0 W) (hr0 : Kd.C (Kd.int .u8) w0 A0 f0.length f0) : IsS83 w0 (W.alloc (.cells #[.slice A0 f0.length c0, .int .i64 f1, .int .i64 f2] 83)) W.heap.size f0 f1 f2 := ⟨A0, c0, by simpa using heap_alloc_new W _, hB.size, hr0⟩

/-! ### spec_l01New: function 70 -/
def spec_l01New.l0 : Nat → List Int → Int → Int → Option (List Int × Int × Int)
  | 0, _, _, _ => none
  | k + 1, x0, x3, x4 => if x4 < (x0.length : Int) then (if x4 < 4000 then (if 0 ≤ x4 then (spec_l01New.l0 k x0 (Go.bits .and .i64 (wrap64 ((wrap64 ((wrap64 (x3 * 149)) + (wrap64 (rd x0 x4)))) + 11)) 1073741823) (wrap64 (x4 + 1))) else (none)) else (some (x0, 0, x3))) else (some (x0, 0, x3))
def spec_l01New.f (k : Nat) (l0 : List Int) : Option (List Int × Int × Int) := spec_l01New.l0 k l0 (wrap64 (138138 + (l0.length : Int))) 0
theorem spec_l01New.mono_l : ∀ k, (∀ y0 y1 y2, LeO (spec_l01New.l0 k y0 y1 y2) (spec_l01New.l0 (k + 1) y0 y1 y2))
  | 0 => fun _ _ _ r h => by simp [spec_l01New.l0] at h
  | k + 1 => by
    have ih0 := spec_l01New.mono_l k
    · intro y0 y1 y2
      unfold spec_l01New.l0
      repeat' first
      | (with_reducible exact ih0 _ _ _)
      | (with_reducible exact LeO.refl _)
      | (with_reducible exact LeO.none _)
      | (with_reducible refine LeO.ite ?_ ?_)
      | (with_reducible refine LeO.bind ?_ (fun _ => ?_))
      | exact ih0 _ _ _
      | exact LeO.none _
      | refine LeO.ite ?_ ?_
      | refine LeO.bind ?_ (fun _ => ?_)
theorem spec_l01New.mono : ∀ a0 k, LeO (spec_l01New.f k a0) (spec_l01New.f (k + 1) a0) := by
  intro a0 k
  have ih0 := spec_l01New.mono_l k
  unfold spec_l01New.f
  repeat' first
      | (with_reducible exact ih0 _ _ _)
      | (with_reducible exact LeO.refl _)
      | (with_reducible exact LeO.none _)
      | (with_reducible refine LeO.ite ?_ ?_)
      | (with_reducible refine LeO.bind ?_ (fun _ => ?_))
      | exact ih0 _ _ _
      | exact LeO.none _
      | refine LeO.ite ?_ ?_
      | refine LeO.bind ?_ (fun _ => ?_)
set_option maxHeartbeats 8000000 in
set_option maxRecDepth 100000 in
theorem spec_l01New.calls (k : Nat) (A0 : Option Addr) (c0 : Nat) (l0 : List Int) (r1 : List Int) (r2 : Int) (r3 : Int) (w0 w : World) (hB : Below w0.heap.size w0 w) (hr0 : Kd.C (Kd.int .u8) w0 A0 l0.length l0) (hc0 : l0.length ≤ c0) (h : spec_l01New.f k l0 = some (r1, r2, r3)) :
    Calls Try.prog 70 #[.slice A0 l0.length c0] w fun e w' => ∃ g_ : Nat, e = .returned (.pointer (some ⟨g_, 0, none⟩)) ∧ IsS83 w0 w' g_ r1 r2 r3 ∧ Below w0.heap.size w0 w' ∧ Below w.heap.size w w' := by
  have hu83 := Try.underlying83
  have HR0 := Aside0.mk hr0
  have HC0 := Aside0.mk hc0
  clear hr0 hc0
  have HBW := Aside0.mk (Below.refl w.heap.size w)
  have HW0 := Aside0.mk hB.size
  have HB := Aside0.mk hB
  clear hB
  have H : (spec_l01New.l0 k l0 (wrap64 (138138 + (l0.length : Int))) 0) = some (r1, r2, r3) := h
  clear h
  have H' := Aside0.mk H
  clear H
  go_enter Try.func70, Try.ntmps70
  go_wp2
  go_loopg [3, 4] k (fun kq v3 v4 w' => ∃ (x3_1 : Int) (x4_1 : Int), v3 = .int .i64 x3_1 ∧ v4 = .int .i64 x4_1 ∧ Aside0 (spec_l01New.l0 kq l0 x3_1 x4_1 = some (r1, r2, r3)) ∧ Aside0 (kq ≤ k) ∧ Aside0 (Below w0.heap.size w0 w') ∧ Aside0 (Below w.heap.size w w'))
  case atStart => exact ⟨(wrap64 (138138 + (l0.length : Int))), (0), u8_30, u8_30, H', ⟨Nat.le_refl _⟩, ⟨u8_2⟩, ⟨u8_22⟩⟩
  clear H'
  obtain ⟨x3_1, x4_1, rfl, rfl, HA, HK1, HB, HBW⟩ := hrel
  cases gk with
  | zero => exact absurd HA.out (by simp [spec_l01New.l0])
  | succ k1 =>
    have H := HA.out
    clear HA
    simp only [spec_l01New.l0] at H
    by_cases c2 : x4_1 < (l0.length : Int)
    rotate_left
    · rw [if_neg c2] at H
      have c2b0 : decide (x4_1 < (l0.length : Int)) = false := decide_eq_false c2
      clear c2
      simp only [Option.some.injEq, Prod.mk.injEq] at H
      obtain ⟨rfl, rfl, rfl⟩ := H
      go_wp2_with (first | ((with_reducible refine gate_dst (N := 31) rfl ?_); refine box_event ?hg (N := 31) ?hd (cs := #[.slice A0 l0.length c0, .int .i64 0, .int .i64 x3_1]) (t := 83) ?hr ?_; (case hd => rfl); (case hg => rfl); (case hr => first | (go_simp; done) | (go_simp; rfl)); intro gb211 hg w6 hbox hb; have n0_ := Aside0.mk (below_step HBW.out hb); have n1_ := Aside0.mk (below_step u8_2 hb); have n2_ := Aside0.mk (hbox); have n3_ := Aside0.mk ((by rw [hg]; exact (below_size u8_22) : w.heap.size ≤ gb211)); have n4_ := Aside0.mk ((Nat.le_trans HW0.out (by rw [hg]; exact (below_size u8_22) : w.heap.size ≤ gb211) : w0.heap.size ≤ gb211)); clear HBW; clear HB; have HBW := n0_; have HB := n1_; have BK211 := n2_; have GW211 := n3_; have GE211 := n4_; clear n0_ n1_ n2_ n3_ n4_; clear hb hbox hg))
      go_ret
      exact ⟨_, rfl, (show IsS83 w0 _ gb211 l0 0 x3_1 from ⟨_, _, (by (with_reducible repeat (first | refine blk_drewN ?_ _ | refine blk_drew ?_ | refine blk_alloc ?_ _)); exact BK211.out), GE211.out, HR0.out⟩), (by repeat (first | (with_reducible first | exact HB.out | apply below_alloc | apply pw_below_drewN | apply below_drew1 | refine below_set ?_ GE211.out) | exact HB.out)), (by repeat (first | (with_reducible first | exact HBW.out | apply below_alloc | apply pw_below_drewN | apply below_drew1 | refine below_set ?_ GW211.out) | exact HBW.out))⟩
    rw [if_pos c2] at H
    have c2b0 : decide (x4_1 < (l0.length : Int)) = true := decide_eq_true c2
    clear c2
    by_cases c3 : x4_1 < 4000
    · rw [if_pos c3] at H
      have c3b0 : decide (x4_1 < 4000) = true := decide_eq_true c3
      clear c3
      by_cases c4 : 0 ≤ x4_1
      rotate_left
      · rw [if_neg c4] at H
        exact absurd H (by simp)
      rw [if_pos c4] at H
      have c4b0 : decide (0 ≤ x4_1) = true := decide_eq_true c4
      clear c4
      have H' := Aside0.mk H
      clear H
      have p209 : 0 ≤ (x4_1 : Int) := of_decide_eq_true (by first | (with_reducible assumption) | assumption)
      have q209 : x4_1 < (l0.length : Int) := of_decide_eq_true (by first | (with_reducible assumption) | assumption)
      obtain ⟨ad209, e209, hx209_0⟩ := Kd.at_int HR0.out x4_1 p209 q209
      cases e209
      replace hx209_0 := pw_cell_below HB.out hx209_0
      replace p209 := eq_true p209
      replace q209 := eq_true q209
      go_wp2
      go_roundg k1
      case measure => have := HK1.out; omega
      case rel => exact ⟨(Go.bits .and .i64 (wrap64 ((wrap64 ((wrap64 (x3_1 * 149)) + (wrap64 (rd l0 x4_1)))) + 11)) 1073741823), (wrap64 (x4_1 + 1)), u8_30, u8_30, H', ⟨by have := HK1.out; omega⟩, ⟨u8_2⟩, ⟨u8_22⟩⟩
    rw [if_neg c3] at H
    have c3b0 : decide (x4_1 < 4000) = false := decide_eq_false c3
    clear c3
    simp only [Option.some.injEq, Prod.mk.injEq] at H
    obtain ⟨rfl, rfl, rfl⟩ := H
    go_wp2_with (first | ((with_reducible refine gate_dst (N := 31) rfl ?_); refine box_event ?hg (N := 31) ?hd (cs := #[.slice A0 l0.length c0, .int .i64 0, .int .i64 x3_1]) (t := 83) ?hr ?_; (case hd => rfl); (case hg => rfl); (case hr => first | (go_simp; done) | (go_simp; rfl)); intro gb210 hg w5 hbox hb; have n0_ := Aside0.mk (below_step HBW.out hb); have n1_ := Aside0.mk (below_step u8_2 hb); have n2_ := Aside0.mk (hbox); have n3_ := Aside0.mk ((by rw [hg]; exact (below_size u8_22) : w.heap.size ≤ gb210)); have n4_ := Aside0.mk ((Nat.le_trans HW0.out (by rw [hg]; exact (below_size u8_22) : w.heap.size ≤ gb210) : w0.heap.size ≤ gb210)); clear HBW; clear HB; have HBW := n0_; have HB := n1_; have BK210 := n2_; have GW210 := n3_; have GE210 := n4_; clear n0_ n1_ n2_ n3_ n4_; clear hb hbox hg))
    go_ret
    exact ⟨_, rfl, (show IsS83 w0 _ gb210 l0 0 x3_1 from ⟨_, _, (by (with_reducible repeat (first | refine blk_drewN ?_ _ | refine blk_drew ?_ | refine blk_alloc ?_ _)); exact BK210.out), GE210.out, HR0.out⟩), (by repeat (first | (with_reducible first | exact HB.out | apply below_alloc | apply pw_below_drewN | apply below_drew1 | refine below_set ?_ GE210.out) | exact HB.out)), (by repeat (first | (with_reducible first | exact HBW.out | apply below_alloc | apply pw_below_drewN | apply below_drew1 | refine below_set ?_ GW210.out) | exact HBW.out))⟩

/-! ### spec_ReleaseHold: function 30 -/
def spec_ReleaseHold.f (k : Nat) (l0_0 : List (S53)) (a1 : Int) (a2 : Int) : Option ((List (S53)) × Int) := (spec_l10Of.f k l0_0 a1 a2).bind fun bt214 => (if bt214.2.2.2.2.2 = 0 then (if bt214.2.2.2.2.1 = a2 then ((spec_l10With.f k l0_0 a1 (IntKind.u64.wrap (bt214.2.1 + bt214.2.2.1)) 0 0 0).bind fun t221 => (some (t221, 0))) else ((spec_l10Copy.f k l0_0).bind fun t224 => (some (t224, 7)))) else ((spec_l10Copy.f k l0_0).bind fun t227 => (some (t227, bt214.2.2.2.2.2))))
theorem spec_ReleaseHold.mono : ∀ a0 a1 a2 k, LeO (spec_ReleaseHold.f k a0 a1 a2) (spec_ReleaseHold.f (k + 1) a0 a1 a2) := by
  intro a0 a1 a2 k
  unfold spec_ReleaseHold.f
  repeat' first
      | (with_reducible exact spec_l10Copy.mono _ _)
      | (with_reducible exact spec_l10Of.mono _ _ _ _)
      | (with_reducible exact spec_l10With.mono _ _ _ _ _ _ _)
      | (with_reducible exact LeO.refl _)
      | (with_reducible exact LeO.none _)
      | (with_reducible refine LeO.ite ?_ ?_)
      | (with_reducible refine LeO.bind ?_ (fun _ => ?_))
      | exact spec_l10Copy.mono _ _
      | exact spec_l10Of.mono _ _ _ _
      | exact spec_l10With.mono _ _ _ _ _ _ _
      | exact LeO.none _
      | refine LeO.ite ?_ ?_
      | refine LeO.bind ?_ (fun _ => ?_)
set_option maxHeartbeats 8000000 in
set_option maxRecDepth 100000 in
theorem spec_ReleaseHold.calls (k : Nat) (A0_0 : Option Addr) (c0_0 : Nat) (l0_0 : List (S53)) (a1 : Int) (a2 : Int) (r1 : List (S53)) (r2 : Int) (w : World) (hr0_0 : Kd.C k53 w A0_0 l0_0.length l0_0) (hc0_0 : l0_0.length ≤ c0_0) (h : spec_ReleaseHold.f k l0_0 a1 a2 = some (r1, r2)) :
    Calls Try.prog 30 #[.agg #[.slice A0_0 l0_0.length c0_0], .int .u64 a1, .int .i64 a2] w fun e w' => ∃ v0_ : Value, e = .returned (.tuple #[.agg #[v0_], .int .i64 r2]) ∧ Kd.R k53 53 w' w.heap.size (fun _ => True) v0_ r1 ∧ Below w.heap.size w w' := by
  have hu29 := Try.underlying29
  have hu53 := Try.underlying53
  have HR0_0 := Aside0.mk hr0_0
  have HC0_0 := Aside0.mk hc0_0
  clear hr0_0 hc0_0
  have HB := Aside0.mk (Below.refl w.heap.size w)
  have H : ((spec_l10Of.f k l0_0 a1 a2).bind fun bt214 => (if bt214.2.2.2.2.2 = 0 then (if bt214.2.2.2.2.1 = a2 then ((spec_l10With.f k l0_0 a1 (IntKind.u64.wrap (bt214.2.1 + bt214.2.2.1)) 0 0 0).bind fun t221 => (some (t221, 0))) else ((spec_l10Copy.f k l0_0).bind fun t224 => (some (t224, 7)))) else ((spec_l10Copy.f k l0_0).bind fun t227 => (some (t227, bt214.2.2.2.2.2))))) = some (r1, r2) := h
  clear h
  replace H := Option.bind_eq_some_iff.mp H
  obtain ⟨⟨t214, t215, t216, t217, t218, t219⟩, A40, H⟩ := H
  (try dsimp only at H)
  have A4 := Aside0.mk A40
  clear A40
  by_cases c5 : t219 = 0
  rotate_left
  · rw [if_neg c5] at H
    have c5b0 : (t219 == 0) = false := beq_eq_false_iff_ne.mpr c5
    have c5b1 : (t219 != 0) = true := bne_iff_ne.mpr c5
    replace H := Option.bind_eq_some_iff.mp H
    obtain ⟨t227, A350, H⟩ := H
    replace H : (some (t227, t219)) = some (r1, r2) := H
    have A35 := Aside0.mk A350
    clear A350
    simp only [Option.some.injEq, Prod.mk.injEq] at H
    obtain ⟨rfl, rfl⟩ := H
    go_enter Try.func30, Try.ntmps30
    go_wp2_with (first | ((with_reducible refine gate_dst (N := 3) rfl ?_); refine box_event ?hg (N := 3) ?hd (cs := #[.slice A0_0 l0_0.length c0_0]) (t := 29) ?hr ?_; (case hd => rfl); (case hg => rfl); (case hr => first | (go_simp; done) | (go_simp; rfl)); intro gb212 hg w36 hbox hb; have n0_ := Aside0.mk (below_step u8_2 hb); have n1_ := Aside0.mk (hbox); have n2_ := Aside0.mk ((by rw [hg]; exact (below_size u8_2) : w.heap.size ≤ gb212)); have n3_ := Aside0.mk ((by rw [hg]; exact (below_size u8_2) : w.heap.size ≤ gb212)); clear HB; have HB := n0_; have BK212 := n1_; have GW212 := n2_; have GE212 := n3_; clear n0_ n1_ n2_ n3_; clear hb hbox hg) | ((with_reducible refine gate_dst (N := 6) rfl ?_); refine box_event ?hg (N := 6) ?hd (cs := #[.slice none 0 0]) (t := 29) ?hr ?_; (case hd => rfl); (case hg => rfl); (case hr => first | (go_simp; done) | (go_simp; rfl)); intro gb213 hg w37 hbox hb; have n0_ := Aside0.mk (blk_below (g := gb212) (o := .cells #[.slice A0_0 l0_0.length c0_0] 29 (0, 0)) u8_6 hb); have n1_ := Aside0.mk (below_step u8_16 hb); have n2_ := Aside0.mk (hbox); have n3_ := Aside0.mk ((by rw [hg]; exact (below_size u8_16) : w.heap.size ≤ gb213)); have n4_ := Aside0.mk ((by rw [hg]; exact (below_size u8_16) : w.heap.size ≤ gb213)); have n5_ := Aside0.mk ((by rw [hg]; exact Nat.ne_of_lt (blk_lt (g := gb212) (o := .cells #[.slice A0_0 l0_0.length c0_0] 29 (0, 0)) u8_6) : gb212 ≠ gb213)); have n6_ := Aside0.mk ((by rw [hg]; exact Nat.ne_of_gt (blk_lt (g := gb212) (o := .cells #[.slice A0_0 l0_0.length c0_0] 29 (0, 0)) u8_6) : gb213 ≠ gb212)); clear BK212; clear HB; have BK212 := n0_; have HB := n1_; have BK213 := n2_; have GW213 := n3_; have GE213 := n4_; have NB212_213 := n5_; have NB213_212 := n6_; clear n0_ n1_ n2_ n3_ n4_ n5_ n6_; clear hb hbox hg; have hnb38 := NB212_213.out; have hnc38 := NB213_212.out; have hcz39_0 : w37.cell? ⟨gb212, 0, none⟩ = some (.slice A0_0 l0_0.length c0_0) := (blk_cell BK212.out 0).trans rfl; have hfz39_0 := blk_frozen BK212.out 0) | ((with_reducible refine gate_callee (f := 53) rfl ?_); refine goesL_ (some 14) rfl rfl Try.func53 (by kernel_rfl) rfl #[.agg #[.slice A0_0 l0_0.length c0_0], .int .u64 a1, .int .i64 a2] rfl u8_15 ?_; (with_reducible refine (spec_l10Of.calls k _ _ l0_0 a1 a2 t214 t215 t216 t217 t218 t219 _ ?side1 ?side2 A4.out).mono ?_); (case side1 => exact u8_21); (case side2 => exact HC0_0.out); rintro e w40 ⟨rfl, hb⟩; refine ⟨_, rfl, ?_⟩; have n0_ := Aside0.mk (blk_below (g := gb212) (o := .cells #[.slice A0_0 l0_0.length c0_0] 29 (0, 0)) u8_6 hb); have n1_ := Aside0.mk (blk_below (g := gb213) (o := .cells #[.slice none 0 0] 29 (0, 0)) u8_18 hb); have n2_ := Aside0.mk (below_step u8_8 hb); clear BK212; clear BK213; clear HB; have BK212 := n0_; have BK213 := n1_; have HB := n2_; clear n0_ n1_ n2_; (try clear hb); (try clear hb2); (try clear hk); (try clear hi)) | ((with_reducible refine gate_dst (N := 8) rfl ?_); refine box_event ?hg (N := 8) ?hd (cs := #[.int .u64 0, .int .u64 0, .int .u64 0, .int .u64 0, .int .i64 0]) (t := 53) ?hr ?_; (case hd => rfl); (case hg => rfl); (case hr => first | (go_simp; done) | (go_simp; rfl)); intro gb220 hg w41 hbox hb; have n0_ := Aside0.mk (blk_below (g := gb212) (o := .cells #[.slice A0_0 l0_0.length c0_0] 29 (0, 0)) u8_6 hb); have n1_ := Aside0.mk (blk_below (g := gb213) (o := .cells #[.slice none 0 0] 29 (0, 0)) u8_18 hb); have n2_ := Aside0.mk (below_step u8_8 hb); have n3_ := Aside0.mk (hbox); have n4_ := Aside0.mk ((by rw [hg]; exact (below_size u8_8) : w.heap.size ≤ gb220)); have n5_ := Aside0.mk ((by rw [hg]; exact (below_size u8_8) : w.heap.size ≤ gb220)); have n6_ := Aside0.mk ((by rw [hg]; exact Nat.ne_of_lt (blk_lt (g := gb212) (o := .cells #[.slice A0_0 l0_0.length c0_0] 29 (0, 0)) u8_6) : gb212 ≠ gb220)); have n7_ := Aside0.mk ((by rw [hg]; exact Nat.ne_of_gt (blk_lt (g := gb212) (o := .cells #[.slice A0_0 l0_0.length c0_0] 29 (0, 0)) u8_6) : gb220 ≠ gb212)); have n8_ := Aside0.mk ((by rw [hg]; exact Nat.ne_of_lt (blk_lt (g := gb213) (o := .cells #[.slice none 0 0] 29 (0, 0)) u8_18) : gb213 ≠ gb220)); have n9_ := Aside0.mk ((by rw [hg]; exact Nat.ne_of_gt (blk_lt (g := gb213) (o := .cells #[.slice none 0 0] 29 (0, 0)) u8_18) : gb220 ≠ gb213)); clear BK212; clear BK213; clear HB; have BK212 := n0_; have BK213 := n1_; have HB := n2_; have BK220 := n3_; have GW220 := n4_; have GE220 := n5_; have NB212_220 := n6_; have NB220_212 := n7_; have NB213_220 := n8_; have NB220_213 := n9_; clear n0_ n1_ n2_ n3_ n4_ n5_ n6_ n7_ n8_ n9_; clear hb hbox hg; have hnb42 := NB220_212.out; have hnc42 := NB212_220.out; have hnb43 := NB220_213.out; have hnc43 := NB213_220.out; have hcz44_0 : w41.cell? ⟨gb220, 0, none⟩ = some (.int .u64 0) := (blk_cell BK220.out 0).trans rfl; have hcz44_1 : w41.cell? ⟨gb220, 1, none⟩ = some (.int .u64 0) := (blk_cell BK220.out 1).trans rfl; have hcz44_2 : w41.cell? ⟨gb220, 2, none⟩ = some (.int .u64 0) := (blk_cell BK220.out 2).trans rfl; have hcz44_3 : w41.cell? ⟨gb220, 3, none⟩ = some (.int .u64 0) := (blk_cell BK220.out 3).trans rfl; have hcz44_4 : w41.cell? ⟨gb220, 4, none⟩ = some (.int .i64 0) := (blk_cell BK220.out 4).trans rfl; have hfz44_0 := blk_frozen BK220.out 0; have hfz44_1 := blk_frozen BK220.out 1; have hfz44_2 := blk_frozen BK220.out 2; have hfz44_3 := blk_frozen BK220.out 3; have hfz44_4 := blk_frozen BK220.out 4; have hcz45_0 : w41.cell? ⟨gb212, 0, none⟩ = some (.slice A0_0 l0_0.length c0_0) := (blk_cell BK212.out 0).trans rfl; have hfz45_0 := blk_frozen BK212.out 0) | ((with_reducible refine gate_callee (f := 54) rfl ?_); refine goesL_ (some 21) rfl rfl Try.func54 (by kernel_rfl) rfl #[.agg #[.slice A0_0 l0_0.length c0_0]] rfl u8_15 ?_; (with_reducible refine (spec_l10Copy.calls k _ _ l0_0 t227 _ ?side1 ?side2 A35.out).mono ?_); (case side1 => exact (by exact Kd.C_below HR0_0.out u8_4)); (case side2 => exact HC0_0.out); rintro e w46 ⟨v228, rfl, ho0, hb⟩; refine ⟨_, rfl, ?_⟩; have n0_ := Aside0.mk (Kd.R_lower (Kd.R_newB ho0 (g := gb220) (o := .cells #[.int .u64 t214, .int .u64 t215, .int .u64 t216, .int .u64 t217, .int .i64 t218] 53 (0, 0)) u8_0) (below_size u8_4)); have n1_ := Aside0.mk (blk_below (g := gb212) (o := .cells #[.slice A0_0 l0_0.length c0_0] 29 (0, 0)) u8_11 hb); have n2_ := Aside0.mk (blk_below (g := gb213) (o := .cells #[.slice none 0 0] 29 (0, 0)) u8_12 hb); have n3_ := Aside0.mk (blk_below (g := gb220) (o := .cells #[.int .u64 t214, .int .u64 t215, .int .u64 t216, .int .u64 t217, .int .i64 t218] 53 (0, 0)) u8_0 hb); have n4_ := Aside0.mk (below_step u8_4 hb); clear BK212; clear BK213; clear BK220; clear HB; have HO229 := n0_; have BK212 := n1_; have BK213 := n2_; have BK220 := n3_; have HB := n4_; clear n0_ n1_ n2_ n3_ n4_; (try clear hb); (try clear hb2); (try clear hk); (try clear hi); (try clear ho0); obtain ⟨Ao47, co47, eo47⟩ := Kd.R_slice HO229.out; subst eo47; have hcz48_0 : w46.cell? ⟨gb213, 0, none⟩ = some (.slice none 0 0) := (blk_cell BK213.out 0).trans rfl; have hfz48_0 := blk_frozen BK213.out 0))
    refine bodyPost_ret (results_ct rfl _ _ gb213 29 #[.slice Ao47 t227.length co47] (0, 0) _ rfl u8_24 Try.underlying29 rfl (by kernel_rfl)) rfl ?_
    exact ⟨_, by first | rfl | (simp [errW_none, errW_some] <;> rfl) | (simp [*, errW_none, errW_some] <;> rfl), (by (with_reducible repeat (first | apply Kd.R_alloc | apply Kd.R_drewN | apply Kd.R_drew)); exact Kd.R_mono (Kd.R_far (p := ⟨gb213, 0, none⟩) (Kd.R_types HO229.out BK213.out (by decide)) (fun _ hk => hk.2) (.slice Ao47 t227.length co47)) (fun _ hk => trivial)), u8_4⟩
  rw [if_pos c5] at H
  have c5b0 : (t219 == 0) = true := beq_iff_eq.mpr c5
  have c5b1 : (t219 != 0) = false := bne_eq_false_iff_eq.mpr c5
  clear c5
  by_cases c6 : t218 = a2
  rotate_left
  · rw [if_neg c6] at H
    have c6b0 : (t218 == a2) = false := beq_eq_false_iff_ne.mpr c6
    have c6b1 : (t218 != a2) = true := bne_iff_ne.mpr c6
    replace H := Option.bind_eq_some_iff.mp H
    obtain ⟨t224, A210, H⟩ := H
    replace H : (some (t224, 7)) = some (r1, r2) := H
    have A21 := Aside0.mk A210
    clear A210
    simp only [Option.some.injEq, Prod.mk.injEq] at H
    obtain ⟨rfl, rfl⟩ := H
    go_enter Try.func30, Try.ntmps30
    go_wp2_with (first | ((with_reducible refine gate_dst (N := 3) rfl ?_); refine box_event ?hg (N := 3) ?hd (cs := #[.slice A0_0 l0_0.length c0_0]) (t := 29) ?hr ?_; (case hd => rfl); (case hg => rfl); (case hr => first | (go_simp; done) | (go_simp; rfl)); intro gb212 hg w22 hbox hb; have n0_ := Aside0.mk (below_step u8_2 hb); have n1_ := Aside0.mk (hbox); have n2_ := Aside0.mk ((by rw [hg]; exact (below_size u8_2) : w.heap.size ≤ gb212)); have n3_ := Aside0.mk ((by rw [hg]; exact (below_size u8_2) : w.heap.size ≤ gb212)); clear HB; have HB := n0_; have BK212 := n1_; have GW212 := n2_; have GE212 := n3_; clear n0_ n1_ n2_ n3_; clear hb hbox hg) | ((with_reducible refine gate_dst (N := 6) rfl ?_); refine box_event ?hg (N := 6) ?hd (cs := #[.slice none 0 0]) (t := 29) ?hr ?_; (case hd => rfl); (case hg => rfl); (case hr => first | (go_simp; done) | (go_simp; rfl)); intro gb213 hg w23 hbox hb; have n0_ := Aside0.mk (blk_below (g := gb212) (o := .cells #[.slice A0_0 l0_0.length c0_0] 29 (0, 0)) u8_6 hb); have n1_ := Aside0.mk (below_step u8_16 hb); have n2_ := Aside0.mk (hbox); have n3_ := Aside0.mk ((by rw [hg]; exact (below_size u8_16) : w.heap.size ≤ gb213)); have n4_ := Aside0.mk ((by rw [hg]; exact (below_size u8_16) : w.heap.size ≤ gb213)); have n5_ := Aside0.mk ((by rw [hg]; exact Nat.ne_of_lt (blk_lt (g := gb212) (o := .cells #[.slice A0_0 l0_0.length c0_0] 29 (0, 0)) u8_6) : gb212 ≠ gb213)); have n6_ := Aside0.mk ((by rw [hg]; exact Nat.ne_of_gt (blk_lt (g := gb212) (o := .cells #[.slice A0_0 l0_0.length c0_0] 29 (0, 0)) u8_6) : gb213 ≠ gb212)); clear BK212; clear HB; have BK212 := n0_; have HB := n1_; have BK213 := n2_; have GW213 := n3_; have GE213 := n4_; have NB212_213 := n5_; have NB213_212 := n6_; clear n0_ n1_ n2_ n3_ n4_ n5_ n6_; clear hb hbox hg; have hnb24 := NB212_213.out; have hnc24 := NB213_212.out; have hcz25_0 : w23.cell? ⟨gb212, 0, none⟩ = some (.slice A0_0 l0_0.length c0_0) := (blk_cell BK212.out 0).trans rfl; have hfz25_0 := blk_frozen BK212.out 0) | ((with_reducible refine gate_callee (f := 53) rfl ?_); refine goesL_ (some 14) rfl rfl Try.func53 (by kernel_rfl) rfl #[.agg #[.slice A0_0 l0_0.length c0_0], .int .u64 a1, .int .i64 a2] rfl u8_15 ?_; (with_reducible refine (spec_l10Of.calls k _ _ l0_0 a1 a2 t214 t215 t216 t217 t218 t219 _ ?side1 ?side2 A4.out).mono ?_); (case side1 => exact u8_21); (case side2 => exact HC0_0.out); rintro e w26 ⟨rfl, hb⟩; refine ⟨_, rfl, ?_⟩; have n0_ := Aside0.mk (blk_below (g := gb212) (o := .cells #[.slice A0_0 l0_0.length c0_0] 29 (0, 0)) u8_6 hb); have n1_ := Aside0.mk (blk_below (g := gb213) (o := .cells #[.slice none 0 0] 29 (0, 0)) u8_18 hb); have n2_ := Aside0.mk (below_step u8_8 hb); clear BK212; clear BK213; clear HB; have BK212 := n0_; have BK213 := n1_; have HB := n2_; clear n0_ n1_ n2_; (try clear hb); (try clear hb2); (try clear hk); (try clear hi)) | ((with_reducible refine gate_dst (N := 8) rfl ?_); refine box_event ?hg (N := 8) ?hd (cs := #[.int .u64 0, .int .u64 0, .int .u64 0, .int .u64 0, .int .i64 0]) (t := 53) ?hr ?_; (case hd => rfl); (case hg => rfl); (case hr => first | (go_simp; done) | (go_simp; rfl)); intro gb220 hg w27 hbox hb; have n0_ := Aside0.mk (blk_below (g := gb212) (o := .cells #[.slice A0_0 l0_0.length c0_0] 29 (0, 0)) u8_6 hb); have n1_ := Aside0.mk (blk_below (g := gb213) (o := .cells #[.slice none 0 0] 29 (0, 0)) u8_18 hb); have n2_ := Aside0.mk (below_step u8_8 hb); have n3_ := Aside0.mk (hbox); have n4_ := Aside0.mk ((by rw [hg]; exact (below_size u8_8) : w.heap.size ≤ gb220)); have n5_ := Aside0.mk ((by rw [hg]; exact (below_size u8_8) : w.heap.size ≤ gb220)); have n6_ := Aside0.mk ((by rw [hg]; exact Nat.ne_of_lt (blk_lt (g := gb212) (o := .cells #[.slice A0_0 l0_0.length c0_0] 29 (0, 0)) u8_6) : gb212 ≠ gb220)); have n7_ := Aside0.mk ((by rw [hg]; exact Nat.ne_of_gt (blk_lt (g := gb212) (o := .cells #[.slice A0_0 l0_0.length c0_0] 29 (0, 0)) u8_6) : gb220 ≠ gb212)); have n8_ := Aside0.mk ((by rw [hg]; exact Nat.ne_of_lt (blk_lt (g := gb213) (o := .cells #[.slice none 0 0] 29 (0, 0)) u8_18) : gb213 ≠ gb220)); have n9_ := Aside0.mk ((by rw [hg]; exact Nat.ne_of_gt (blk_lt (g := gb213) (o := .cells #[.slice none 0 0] 29 (0, 0)) u8_18) : gb220 ≠ gb213)); clear BK212; clear BK213; clear HB; have BK212 := n0_; have BK213 := n1_; have HB := n2_; have BK220 := n3_; have GW220 := n4_; have GE220 := n5_; have NB212_220 := n6_; have NB220_212 := n7_; have NB213_220 := n8_; have NB220_213 := n9_; clear n0_ n1_ n2_ n3_ n4_ n5_ n6_ n7_ n8_ n9_; clear hb hbox hg; have hnb28 := NB220_212.out; have hnc28 := NB212_220.out; have hnb29 := NB220_213.out; have hnc29 := NB213_220.out; have hcz30_0 : w27.cell? ⟨gb220, 0, none⟩ = some (.int .u64 0) := (blk_cell BK220.out 0).trans rfl; have hcz30_1 : w27.cell? ⟨gb220, 1, none⟩ = some (.int .u64 0) := (blk_cell BK220.out 1).trans rfl; have hcz30_2 : w27.cell? ⟨gb220, 2, none⟩ = some (.int .u64 0) := (blk_cell BK220.out 2).trans rfl; have hcz30_3 : w27.cell? ⟨gb220, 3, none⟩ = some (.int .u64 0) := (blk_cell BK220.out 3).trans rfl; have hcz30_4 : w27.cell? ⟨gb220, 4, none⟩ = some (.int .i64 0) := (blk_cell BK220.out 4).trans rfl; have hfz30_0 := blk_frozen BK220.out 0; have hfz30_1 := blk_frozen BK220.out 1; have hfz30_2 := blk_frozen BK220.out 2; have hfz30_3 := blk_frozen BK220.out 3; have hfz30_4 := blk_frozen BK220.out 4; have hcz31_0 : w27.cell? ⟨gb212, 0, none⟩ = some (.slice A0_0 l0_0.length c0_0) := (blk_cell BK212.out 0).trans rfl; have hfz31_0 := blk_frozen BK212.out 0) | ((with_reducible refine gate_callee (f := 54) rfl ?_); refine goesL_ (some 29) rfl rfl Try.func54 (by kernel_rfl) rfl #[.agg #[.slice A0_0 l0_0.length c0_0]] rfl u8_15 ?_; (with_reducible refine (spec_l10Copy.calls k _ _ l0_0 t224 _ ?side1 ?side2 A21.out).mono ?_); (case side1 => exact (by exact Kd.C_below HR0_0.out u8_4)); (case side2 => exact HC0_0.out); rintro e w32 ⟨v225, rfl, ho0, hb⟩; refine ⟨_, rfl, ?_⟩; have n0_ := Aside0.mk (Kd.R_lower (Kd.R_newB ho0 (g := gb220) (o := .cells #[.int .u64 t214, .int .u64 t215, .int .u64 t216, .int .u64 t217, .int .i64 t218] 53 (0, 0)) u8_0) (below_size u8_4)); have n1_ := Aside0.mk (blk_below (g := gb212) (o := .cells #[.slice A0_0 l0_0.length c0_0] 29 (0, 0)) u8_11 hb); have n2_ := Aside0.mk (blk_below (g := gb213) (o := .cells #[.slice none 0 0] 29 (0, 0)) u8_12 hb); have n3_ := Aside0.mk (blk_below (g := gb220) (o := .cells #[.int .u64 t214, .int .u64 t215, .int .u64 t216, .int .u64 t217, .int .i64 t218] 53 (0, 0)) u8_0 hb); have n4_ := Aside0.mk (below_step u8_4 hb); clear BK212; clear BK213; clear BK220; clear HB; have HO226 := n0_; have BK212 := n1_; have BK213 := n2_; have BK220 := n3_; have HB := n4_; clear n0_ n1_ n2_ n3_ n4_; (try clear hb); (try clear hb2); (try clear hk); (try clear hi); (try clear ho0); obtain ⟨Ao33, co33, eo33⟩ := Kd.R_slice HO226.out; subst eo33; have hcz34_0 : w32.cell? ⟨gb213, 0, none⟩ = some (.slice none 0 0) := (blk_cell BK213.out 0).trans rfl; have hfz34_0 := blk_frozen BK213.out 0))
    refine bodyPost_ret (results_ct rfl _ _ gb213 29 #[.slice Ao33 t224.length co33] (0, 0) _ rfl u8_24 Try.underlying29 rfl (by kernel_rfl)) rfl ?_
    exact ⟨_, by first | rfl | (simp [errW_none, errW_some] <;> rfl) | (simp [*, errW_none, errW_some] <;> rfl), (by (with_reducible repeat (first | apply Kd.R_alloc | apply Kd.R_drewN | apply Kd.R_drew)); exact Kd.R_mono (Kd.R_far (p := ⟨gb213, 0, none⟩) (Kd.R_types HO226.out BK213.out (by decide)) (fun _ hk => hk.2) (.slice Ao33 t224.length co33)) (fun _ hk => trivial)), u8_4⟩
  rw [if_pos c6] at H
  have c6b0 : (t218 == a2) = true := beq_iff_eq.mpr c6
  have c6b1 : (t218 != a2) = false := bne_eq_false_iff_eq.mpr c6
  clear c6
  replace H := Option.bind_eq_some_iff.mp H
  obtain ⟨t221, A70, H⟩ := H
  replace H : (some (t221, 0)) = some (r1, r2) := H
  have A7 := Aside0.mk A70
  clear A70
  simp only [Option.some.injEq, Prod.mk.injEq] at H
  obtain ⟨rfl, rfl⟩ := H
  go_enter Try.func30, Try.ntmps30
  go_wp2_with (first | ((with_reducible refine gate_dst (N := 3) rfl ?_); refine box_event ?hg (N := 3) ?hd (cs := #[.slice A0_0 l0_0.length c0_0]) (t := 29) ?hr ?_; (case hd => rfl); (case hg => rfl); (case hr => first | (go_simp; done) | (go_simp; rfl)); intro gb212 hg w8 hbox hb; have n0_ := Aside0.mk (below_step u8_2 hb); have n1_ := Aside0.mk (hbox); have n2_ := Aside0.mk ((by rw [hg]; exact (below_size u8_2) : w.heap.size ≤ gb212)); have n3_ := Aside0.mk ((by rw [hg]; exact (below_size u8_2) : w.heap.size ≤ gb212)); clear HB; have HB := n0_; have BK212 := n1_; have GW212 := n2_; have GE212 := n3_; clear n0_ n1_ n2_ n3_; clear hb hbox hg) | ((with_reducible refine gate_dst (N := 6) rfl ?_); refine box_event ?hg (N := 6) ?hd (cs := #[.slice none 0 0]) (t := 29) ?hr ?_; (case hd => rfl); (case hg => rfl); (case hr => first | (go_simp; done) | (go_simp; rfl)); intro gb213 hg w9 hbox hb; have n0_ := Aside0.mk (blk_below (g := gb212) (o := .cells #[.slice A0_0 l0_0.length c0_0] 29 (0, 0)) u8_6 hb); have n1_ := Aside0.mk (below_step u8_16 hb); have n2_ := Aside0.mk (hbox); have n3_ := Aside0.mk ((by rw [hg]; exact (below_size u8_16) : w.heap.size ≤ gb213)); have n4_ := Aside0.mk ((by rw [hg]; exact (below_size u8_16) : w.heap.size ≤ gb213)); have n5_ := Aside0.mk ((by rw [hg]; exact Nat.ne_of_lt (blk_lt (g := gb212) (o := .cells #[.slice A0_0 l0_0.length c0_0] 29 (0, 0)) u8_6) : gb212 ≠ gb213)); have n6_ := Aside0.mk ((by rw [hg]; exact Nat.ne_of_gt (blk_lt (g := gb212) (o := .cells #[.slice A0_0 l0_0.length c0_0] 29 (0, 0)) u8_6) : gb213 ≠ gb212)); clear BK212; clear HB; have BK212 := n0_; have HB := n1_; have BK213 := n2_; have GW213 := n3_; have GE213 := n4_; have NB212_213 := n5_; have NB213_212 := n6_; clear n0_ n1_ n2_ n3_ n4_ n5_ n6_; clear hb hbox hg; have hnb10 := NB212_213.out; have hnc10 := NB213_212.out; have hcz11_0 : w9.cell? ⟨gb212, 0, none⟩ = some (.slice A0_0 l0_0.length c0_0) := (blk_cell BK212.out 0).trans rfl; have hfz11_0 := blk_frozen BK212.out 0) | ((with_reducible refine gate_callee (f := 53) rfl ?_); refine goesL_ (some 14) rfl rfl Try.func53 (by kernel_rfl) rfl #[.agg #[.slice A0_0 l0_0.length c0_0], .int .u64 a1, .int .i64 a2] rfl u8_15 ?_; (with_reducible refine (spec_l10Of.calls k _ _ l0_0 a1 a2 t214 t215 t216 t217 t218 t219 _ ?side1 ?side2 A4.out).mono ?_); (case side1 => exact u8_21); (case side2 => exact HC0_0.out); rintro e w12 ⟨rfl, hb⟩; refine ⟨_, rfl, ?_⟩; have n0_ := Aside0.mk (blk_below (g := gb212) (o := .cells #[.slice A0_0 l0_0.length c0_0] 29 (0, 0)) u8_6 hb); have n1_ := Aside0.mk (blk_below (g := gb213) (o := .cells #[.slice none 0 0] 29 (0, 0)) u8_18 hb); have n2_ := Aside0.mk (below_step u8_8 hb); clear BK212; clear BK213; clear HB; have BK212 := n0_; have BK213 := n1_; have HB := n2_; clear n0_ n1_ n2_; (try clear hb); (try clear hb2); (try clear hk); (try clear hi)) | ((with_reducible refine gate_dst (N := 8) rfl ?_); refine box_event ?hg (N := 8) ?hd (cs := #[.int .u64 0, .int .u64 0, .int .u64 0, .int .u64 0, .int .i64 0]) (t := 53) ?hr ?_; (case hd => rfl); (case hg => rfl); (case hr => first | (go_simp; done) | (go_simp; rfl)); intro gb220 hg w13 hbox hb; have n0_ := Aside0.mk (blk_below (g := gb212) (o := .cells #[.slice A0_0 l0_0.length c0_0] 29 (0, 0)) u8_6 hb); have n1_ := Aside0.mk (blk_below (g := gb213) (o := .cells #[.slice none 0 0] 29 (0, 0)) u8_18 hb); have n2_ := Aside0.mk (below_step u8_8 hb); have n3_ := Aside0.mk (hbox); have n4_ := Aside0.mk ((by rw [hg]; exact (below_size u8_8) : w.heap.size ≤ gb220)); have n5_ := Aside0.mk ((by rw [hg]; exact (below_size u8_8) : w.heap.size ≤ gb220)); have n6_ := Aside0.mk ((by rw [hg]; exact Nat.ne_of_lt (blk_lt (g := gb212) (o := .cells #[.slice A0_0 l0_0.length c0_0] 29 (0, 0)) u8_6) : gb212 ≠ gb220)); have n7_ := Aside0.mk ((by rw [hg]; exact Nat.ne_of_gt (blk_lt (g := gb212) (o := .cells #[.slice A0_0 l0_0.length c0_0] 29 (0, 0)) u8_6) : gb220 ≠ gb212)); have n8_ := Aside0.mk ((by rw [hg]; exact Nat.ne_of_lt (blk_lt (g := gb213) (o := .cells #[.slice none 0 0] 29 (0, 0)) u8_18) : gb213 ≠ gb220)); have n9_ := Aside0.mk ((by rw [hg]; exact Nat.ne_of_gt (blk_lt (g := gb213) (o := .cells #[.slice none 0 0] 29 (0, 0)) u8_18) : gb220 ≠ gb213)); clear BK212; clear BK213; clear HB; have BK212 := n0_; have BK213 := n1_; have HB := n2_; have BK220 := n3_; have GW220 := n4_; have GE220 := n5_; have NB212_220 := n6_; have NB220_212 := n7_; have NB213_220 := n8_; have NB220_213 := n9_; clear n0_ n1_ n2_ n3_ n4_ n5_ n6_ n7_ n8_ n9_; clear hb hbox hg; have hnb14 := NB220_212.out; have hnc14 := NB212_220.out; have hnb15 := NB220_213.out; have hnc15 := NB213_220.out; have hcz16_0 : w13.cell? ⟨gb220, 0, none⟩ = some (.int .u64 0) := (blk_cell BK220.out 0).trans rfl; have hcz16_1 : w13.cell? ⟨gb220, 1, none⟩ = some (.int .u64 0) := (blk_cell BK220.out 1).trans rfl; have hcz16_2 : w13.cell? ⟨gb220, 2, none⟩ = some (.int .u64 0) := (blk_cell BK220.out 2).trans rfl; have hcz16_3 : w13.cell? ⟨gb220, 3, none⟩ = some (.int .u64 0) := (blk_cell BK220.out 3).trans rfl; have hcz16_4 : w13.cell? ⟨gb220, 4, none⟩ = some (.int .i64 0) := (blk_cell BK220.out 4).trans rfl; have hfz16_0 := blk_frozen BK220.out 0; have hfz16_1 := blk_frozen BK220.out 1; have hfz16_2 := blk_frozen BK220.out 2; have hfz16_3 := blk_frozen BK220.out 3; have hfz16_4 := blk_frozen BK220.out 4; have hcz17_0 : w13.cell? ⟨gb212, 0, none⟩ = some (.slice A0_0 l0_0.length c0_0) := (blk_cell BK212.out 0).trans rfl; have hfz17_0 := blk_frozen BK212.out 0) | ((with_reducible refine gate_callee (f := 55) rfl ?_); refine goesL_ (some 38) rfl rfl Try.func55 (by kernel_rfl) rfl #[.agg #[.slice A0_0 l0_0.length c0_0], .agg #[.int .u64 a1, .int .u64 (IntKind.u64.wrap (t215 + t216)), .int .u64 0, .int .u64 0, .int .i64 0]] rfl u8_15 ?_; (with_reducible refine (spec_l10With.calls k _ _ l0_0 a1 (IntKind.u64.wrap (t215 + t216)) 0 0 0 t221 _ ?side1 ?side2 A7.out).mono ?_); (case side1 => exact (by exact Kd.C_below HR0_0.out u8_4)); (case side2 => exact HC0_0.out); rintro e w18 ⟨v222, rfl, ho0, hb⟩; refine ⟨_, rfl, ?_⟩; have n0_ := Aside0.mk (Kd.R_lower (Kd.R_newB ho0 (g := gb220) (o := .cells #[.int .u64 t214, .int .u64 t215, .int .u64 t216, .int .u64 t217, .int .i64 t218] 53 (0, 0)) u8_0) (below_size u8_4)); have n1_ := Aside0.mk (blk_below (g := gb212) (o := .cells #[.slice A0_0 l0_0.length c0_0] 29 (0, 0)) u8_11 hb); have n2_ := Aside0.mk (blk_below (g := gb213) (o := .cells #[.slice none 0 0] 29 (0, 0)) u8_12 hb); have n3_ := Aside0.mk (blk_below (g := gb220) (o := .cells #[.int .u64 t214, .int .u64 t215, .int .u64 t216, .int .u64 t217, .int .i64 t218] 53 (0, 0)) u8_0 hb); have n4_ := Aside0.mk (below_step u8_4 hb); clear BK212; clear BK213; clear BK220; clear HB; have HO223 := n0_; have BK212 := n1_; have BK213 := n2_; have BK220 := n3_; have HB := n4_; clear n0_ n1_ n2_ n3_ n4_; (try clear hb); (try clear hb2); (try clear hk); (try clear hi); (try clear ho0); obtain ⟨Ao19, co19, eo19⟩ := Kd.R_slice HO223.out; subst eo19; have hcz20_0 : w18.cell? ⟨gb213, 0, none⟩ = some (.slice none 0 0) := (blk_cell BK213.out 0).trans rfl; have hfz20_0 := blk_frozen BK213.out 0))
  refine bodyPost_ret (results_ct rfl _ _ gb213 29 #[.slice Ao19 t221.length co19] (0, 0) _ rfl u8_24 Try.underlying29 rfl (by kernel_rfl)) rfl ?_
  exact ⟨_, by first | rfl | (simp [errW_none, errW_some] <;> rfl) | (simp [*, errW_none, errW_some] <;> rfl), (by (with_reducible repeat (first | apply Kd.R_alloc | apply Kd.R_drewN | apply Kd.R_drew)); exact Kd.R_mono (Kd.R_far (p := ⟨gb213, 0, none⟩) (Kd.R_types HO223.out BK213.out (by decide)) (fun _ hk => hk.2) (.slice Ao19 t221.length co19)) (fun _ hk => trivial)), u8_4⟩

/-! ### spec_SettleHold: function 32 -/
def spec_SettleHold.f (k : Nat) (l0_0 : List (S53)) (a1 : Int) (a2 : Int) : Option ((List (S53)) × Int) := (spec_l10Of.f k l0_0 a1 a2).bind fun bt232 => (if bt232.2.2.2.2.2 = 0 then (if bt232.2.2.2.2.1 = a2 then ((spec_l10With.f k l0_0 a1 (IntKind.u64.wrap (bt232.2.1 + bt232.2.2.2.1)) 0 0 0).bind fun t239 => (some (t239, 0))) else ((spec_l10Copy.f k l0_0).bind fun t242 => (some (t242, 7)))) else ((spec_l10Copy.f k l0_0).bind fun t245 => (some (t245, bt232.2.2.2.2.2))))
theorem spec_SettleHold.mono : ∀ a0 a1 a2 k, LeO (spec_SettleHold.f k a0 a1 a2) (spec_SettleHold.f (k + 1) a0 a1 a2) := by
  intro a0 a1 a2 k
  unfold spec_SettleHold.f
  repeat' first
      | (with_reducible exact spec_l10Copy.mono _ _)
      | (with_reducible exact spec_l10Of.mono _ _ _ _)
      | (with_reducible exact spec_l10With.mono _ _ _ _ _ _ _)
      | (with_reducible exact LeO.refl _)
      | (with_reducible exact LeO.none _)
      | (with_reducible refine LeO.ite ?_ ?_)
      | (with_reducible refine LeO.bind ?_ (fun _ => ?_))
      | exact spec_l10Copy.mono _ _
      | exact spec_l10Of.mono _ _ _ _
      | exact spec_l10With.mono _ _ _ _ _ _ _
      | exact LeO.none _
      | refine LeO.ite ?_ ?_
      | refine LeO.bind ?_ (fun _ => ?_)
set_option maxHeartbeats 8000000 in
set_option maxRecDepth 100000 in
theorem spec_SettleHold.calls (k : Nat) (A0_0 : Option Addr) (c0_0 : Nat) (l0_0 : List (S53)) (a1 : Int) (a2 : Int) (r1 : List (S53)) (r2 : Int) (w : World) (hr0_0 : Kd.C k53 w A0_0 l0_0.length l0_0) (hc0_0 : l0_0.length ≤ c0_0) (h : spec_SettleHold.f k l0_0 a1 a2 = some (r1, r2)) :
    Calls Try.prog 32 #[.agg #[.slice A0_0 l0_0.length c0_0], .int .u64 a1, .int .i64 a2] w fun e w' => ∃ v0_ : Value, e = .returned (.tuple #[.agg #[v0_], .int .i64 r2]) ∧ Kd.R k53 53 w' w.heap.size (fun _ => True) v0_ r1 ∧ Below w.heap.size w w' := by
  have hu29 := Try.underlying29
  have hu53 := Try.underlying53
  have HR0_0 := Aside0.mk hr0_0
  have HC0_0 := Aside0.mk hc0_0
  clear hr0_0 hc0_0
  have HB := Aside0.mk (Below.refl w.heap.size w)
  have H : ((spec_l10Of.f k l0_0 a1 a2).bind fun bt232 => (if bt232.2.2.2.2.2 = 0 then (if bt232.2.2.2.2.1 = a2 then ((spec_l10With.f k l0_0 a1 (IntKind.u64.wrap (bt232.2.1 + bt232.2.2.2.1)) 0 0 0).bind fun t239 => (some (t239, 0))) else ((spec_l10Copy.f k l0_0).bind fun t242 => (some (t242, 7)))) else ((spec_l10Copy.f k l0_0).bind fun t245 => (some (t245, bt232.2.2.2.2.2))))) = some (r1, r2) := h
  clear h
  replace H := Option.bind_eq_some_iff.mp H
  obtain ⟨⟨t232, t233, t234, t235, t236, t237⟩, A40, H⟩ := H
  (try dsimp only at H)
  have A4 := Aside0.mk A40
  clear A40
  by_cases c5 : t237 = 0
  rotate_left
  · rw [if_neg c5] at H
    have c5b0 : (t237 == 0) = false := beq_eq_false_iff_ne.mpr c5
    have c5b1 : (t237 != 0) = true := bne_iff_ne.mpr c5
    replace H := Option.bind_eq_some_iff.mp H
    obtain ⟨t245, A350, H⟩ := H
    replace H : (some (t245, t237)) = some (r1, r2) := H
    have A35 := Aside0.mk A350
    clear A350
    simp only [Option.some.injEq, Prod.mk.injEq] at H
    obtain ⟨rfl, rfl⟩ := H
    go_enter Try.func32, Try.ntmps32
    go_wp2_with (first | ((with_reducible refine gate_dst (N := 3) rfl ?_); refine box_event ?hg (N := 3) ?hd (cs := #[.slice A0_0 l0_0.length c0_0]) (t := 29) ?hr ?_; (case hd => rfl); (case hg => rfl); (case hr => first | (go_simp; done) | (go_simp; rfl)); intro gb230 hg w36 hbox hb; have n0_ := Aside0.mk (below_step u8_2 hb); have n1_ := Aside0.mk (hbox); have n2_ := Aside0.mk ((by rw [hg]; exact (below_size u8_2) : w.heap.size ≤ gb230)); have n3_ := Aside0.mk ((by rw [hg]; exact (below_size u8_2) : w.heap.size ≤ gb230)); clear HB; have HB := n0_; have BK230 := n1_; have GW230 := n2_; have GE230 := n3_; clear n0_ n1_ n2_ n3_; clear hb hbox hg) | ((with_reducible refine gate_dst (N := 6) rfl ?_); refine box_event ?hg (N := 6) ?hd (cs := #[.slice none 0 0]) (t := 29) ?hr ?_; (case hd => rfl); (case hg => rfl); (case hr => first | (go_simp; done) | (go_simp; rfl)); intro gb231 hg w37 hbox hb; have n0_ := Aside0.mk (blk_below (g := gb230) (o := .cells #[.slice A0_0 l0_0.length c0_0] 29 (0, 0)) u8_7 hb); have n1_ := Aside0.mk (below_step u8_17 hb); have n2_ := Aside0.mk (hbox); have n3_ := Aside0.mk ((by rw [hg]; exact (below_size u8_17) : w.heap.size ≤ gb231)); have n4_ := Aside0.mk ((by rw [hg]; exact (below_size u8_17) : w.heap.size ≤ gb231)); have n5_ := Aside0.mk ((by rw [hg]; exact Nat.ne_of_lt (blk_lt (g := gb230) (o := .cells #[.slice A0_0 l0_0.length c0_0] 29 (0, 0)) u8_7) : gb230 ≠ gb231)); have n6_ := Aside0.mk ((by rw [hg]; exact Nat.ne_of_gt (blk_lt (g := gb230) (o := .cells #[.slice A0_0 l0_0.length c0_0] 29 (0, 0)) u8_7) : gb231 ≠ gb230)); clear BK230; clear HB; have BK230 := n0_; have HB := n1_; have BK231 := n2_; have GW231 := n3_; have GE231 := n4_; have NB230_231 := n5_; have NB231_230 := n6_; clear n0_ n1_ n2_ n3_ n4_ n5_ n6_; clear hb hbox hg; have hnb38 := NB230_231.out; have hnc38 := NB231_230.out; have hcz39_0 : w37.cell? ⟨gb230, 0, none⟩ = some (.slice A0_0 l0_0.length c0_0) := (blk_cell BK230.out 0).trans rfl; have hfz39_0 := blk_frozen BK230.out 0) | ((with_reducible refine gate_callee (f := 53) rfl ?_); refine goesL_ (some 14) rfl rfl Try.func53 (by kernel_rfl) rfl #[.agg #[.slice A0_0 l0_0.length c0_0], .int .u64 a1, .int .i64 a2] rfl u8_15 ?_; (with_reducible refine (spec_l10Of.calls k _ _ l0_0 a1 a2 t232 t233 t234 t235 t236 t237 _ ?side1 ?side2 A4.out).mono ?_); (case side1 => exact u8_21); (case side2 => exact HC0_0.out); rintro e w40 ⟨rfl, hb⟩; refine ⟨_, rfl, ?_⟩; have n0_ := Aside0.mk (blk_below (g := gb230) (o := .cells #[.slice A0_0 l0_0.length c0_0] 29 (0, 0)) u8_7 hb); have n1_ := Aside0.mk (blk_below (g := gb231) (o := .cells #[.slice none 0 0] 29 (0, 0)) u8_19 hb); have n2_ := Aside0.mk (below_step u8_9 hb); clear BK230; clear BK231; clear HB; have BK230 := n0_; have BK231 := n1_; have HB := n2_; clear n0_ n1_ n2_; (try clear hb); (try clear hb2); (try clear hk); (try clear hi)) | ((with_reducible refine gate_dst (N := 8) rfl ?_); refine box_event ?hg (N := 8) ?hd (cs := #[.int .u64 0, .int .u64 0, .int .u64 0, .int .u64 0, .int .i64 0]) (t := 53) ?hr ?_; (case hd => rfl); (case hg => rfl); (case hr => first | (go_simp; done) | (go_simp; rfl)); intro gb238 hg w41 hbox hb; have n0_ := Aside0.mk (blk_below (g := gb230) (o := .cells #[.slice A0_0 l0_0.length c0_0] 29 (0, 0)) u8_7 hb); have n1_ := Aside0.mk (blk_below (g := gb231) (o := .cells #[.slice none 0 0] 29 (0, 0)) u8_19 hb); have n2_ := Aside0.mk (below_step u8_9 hb); have n3_ := Aside0.mk (hbox); have n4_ := Aside0.mk ((by rw [hg]; exact (below_size u8_9) : w.heap.size ≤ gb238)); have n5_ := Aside0.mk ((by rw [hg]; exact (below_size u8_9) : w.heap.size ≤ gb238)); have n6_ := Aside0.mk ((by rw [hg]; exact Nat.ne_of_lt (blk_lt (g := gb230) (o := .cells #[.slice A0_0 l0_0.length c0_0] 29 (0, 0)) u8_7) : gb230 ≠ gb238)); have n7_ := Aside0.mk ((by rw [hg]; exact Nat.ne_of_gt (blk_lt (g := gb230) (o := .cells #[.slice A0_0 l0_0.length c0_0] 29 (0, 0)) u8_7) : gb238 ≠ gb230)); have n8_ := Aside0.mk ((by rw [hg]; exact Nat.ne_of_lt (blk_lt (g := gb231) (o := .cells #[.slice none 0 0] 29 (0, 0)) u8_19) : gb231 ≠ gb238)); have n9_ := Aside0.mk ((by rw [hg]; exact Nat.ne_of_gt (blk_lt (g := gb231) (o := .cells #[.slice none 0 0] 29 (0, 0)) u8_19) : gb238 ≠ gb231)); clear BK230; clear BK231; clear HB; have BK230 := n0_; have BK231 := n1_; have HB := n2_; have BK238 := n3_; have GW238 := n4_; have GE238 := n5_; have NB230_238 := n6_; have NB238_230 := n7_; have NB231_238 := n8_; have NB238_231 := n9_; clear n0_ n1_ n2_ n3_ n4_ n5_ n6_ n7_ n8_ n9_; clear hb hbox hg; have hnb42 := NB238_230.out; have hnc42 := NB230_238.out; have hnb43 := NB238_231.out; have hnc43 := NB231_238.out; have hcz44_0 : w41.cell? ⟨gb238, 0, none⟩ = some (.int .u64 0) := (blk_cell BK238.out 0).trans rfl; have hcz44_1 : w41.cell? ⟨gb238, 1, none⟩ = some (.int .u64 0) := (blk_cell BK238.out 1).trans rfl; have hcz44_2 : w41.cell? ⟨gb238, 2, none⟩ = some (.int .u64 0) := (blk_cell BK238.out 2).trans rfl; have hcz44_3 : w41.cell? ⟨gb238, 3, none⟩ = some (.int .u64 0) := (blk_cell BK238.out 3).trans rfl; have hcz44_4 : w41.cell? ⟨gb238, 4, none⟩ = some (.int .i64 0) := (blk_cell BK238.out 4).trans rfl; have hfz44_0 := blk_frozen BK238.out 0; have hfz44_1 := blk_frozen BK238.out 1; have hfz44_2 := blk_frozen BK238.out 2; have hfz44_3 := blk_frozen BK238.out 3; have hfz44_4 := blk_frozen BK238.out 4; have hcz45_0 : w41.cell? ⟨gb230, 0, none⟩ = some (.slice A0_0 l0_0.length c0_0) := (blk_cell BK230.out 0).trans rfl; have hfz45_0 := blk_frozen BK230.out 0) | ((with_reducible refine gate_callee (f := 54) rfl ?_); refine goesL_ (some 21) rfl rfl Try.func54 (by kernel_rfl) rfl #[.agg #[.slice A0_0 l0_0.length c0_0]] rfl u8_15 ?_; (with_reducible refine (spec_l10Copy.calls k _ _ l0_0 t245 _ ?side1 ?side2 A35.out).mono ?_); (case side1 => exact (by exact Kd.C_below HR0_0.out u8_5)); (case side2 => exact HC0_0.out); rintro e w46 ⟨v246, rfl, ho0, hb⟩; refine ⟨_, rfl, ?_⟩; have n0_ := Aside0.mk (Kd.R_lower (Kd.R_newB ho0 (g := gb238) (o := .cells #[.int .u64 t232, .int .u64 t233, .int .u64 t234, .int .u64 t235, .int .i64 t236] 53 (0, 0)) u8_1) (below_size u8_5)); have n1_ := Aside0.mk (blk_below (g := gb230) (o := .cells #[.slice A0_0 l0_0.length c0_0] 29 (0, 0)) u8_13 hb); have n2_ := Aside0.mk (blk_below (g := gb231) (o := .cells #[.slice none 0 0] 29 (0, 0)) u8_14 hb); have n3_ := Aside0.mk (blk_below (g := gb238) (o := .cells #[.int .u64 t232, .int .u64 t233, .int .u64 t234, .int .u64 t235, .int .i64 t236] 53 (0, 0)) u8_1 hb); have n4_ := Aside0.mk (below_step u8_5 hb); clear BK230; clear BK231; clear BK238; clear HB; have HO247 := n0_; have BK230 := n1_; have BK231 := n2_; have BK238 := n3_; have HB := n4_; clear n0_ n1_ n2_ n3_ n4_; (try clear hb); (try clear hb2); (try clear hk); (try clear hi); (try clear ho0); obtain ⟨Ao47, co47, eo47⟩ := Kd.R_slice HO247.out; subst eo47; have hcz48_0 : w46.cell? ⟨gb231, 0, none⟩ = some (.slice none 0 0) := (blk_cell BK231.out 0).trans rfl; have hfz48_0 := blk_frozen BK231.out 0))
    refine bodyPost_ret (results_ct rfl _ _ gb231 29 #[.slice Ao47 t245.length co47] (0, 0) _ rfl u8_25 Try.underlying29 rfl (by kernel_rfl)) rfl ?_
    exact ⟨_, by first | rfl | (simp [errW_none, errW_some] <;> rfl) | (simp [*, errW_none, errW_some] <;> rfl), (by (with_reducible repeat (first | apply Kd.R_alloc | apply Kd.R_drewN | apply Kd.R_drew)); exact Kd.R_mono (Kd.R_far (p := ⟨gb231, 0, none⟩) (Kd.R_types HO247.out BK231.out (by decide)) (fun _ hk => hk.2) (.slice Ao47 t245.length co47)) (fun _ hk => trivial)), u8_5⟩
  rw [if_pos c5] at H
  have c5b0 : (t237 == 0) = true := beq_iff_eq.mpr c5
  have c5b1 : (t237 != 0) = false := bne_eq_false_iff_eq.mpr c5
  clear c5
  by_cases c6 : t236 = a2
  rotate_left
  · rw [if_neg c6] at H
    have c6b0 : (t236 == a2) = false := beq_eq_false_iff_ne.mpr c6
    have c6b1 : (t236 != a2) = true := bne_iff_ne.mpr c6
    replace H := Option.bind_eq_some_iff.mp H
    obtain ⟨t242, A210, H⟩ := H
    replace H : (some (t242, 7)) = some (r1, r2) := H
    have A21 := Aside0.mk A210
    clear A210
    simp only [Option.some.injEq, Prod.mk.injEq] at H
    obtain ⟨rfl, rfl⟩ := H
    go_enter Try.func32, Try.ntmps32
    go_wp2_with (first | ((with_reducible refine gate_dst (N := 3) rfl ?_); refine box_event ?hg (N := 3) ?hd (cs := #[.slice A0_0 l0_0.length c0_0]) (t := 29) ?hr ?_; (case hd => rfl); (case hg => rfl); (case hr => first | (go_simp; done) | (go_simp; rfl)); intro gb230 hg w22 hbox hb; have n0_ := Aside0.mk (below_step u8_2 hb); have n1_ := Aside0.mk (hbox); have n2_ := Aside0.mk ((by rw [hg]; exact (below_size u8_2) : w.heap.size ≤ gb230)); have n3_ := Aside0.mk ((by rw [hg]; exact (below_size u8_2) : w.heap.size ≤ gb230)); clear HB; have HB := n0_; have BK230 := n1_; have GW230 := n2_; have GE230 := n3_; clear n0_ n1_ n2_ n3_; clear hb hbox hg) | ((with_reducible refine gate_dst (N := 6) rfl ?_); refine box_event ?hg (N := 6) ?hd (cs := #[.slice none 0 0]) (t := 29) ?hr ?_; (case hd => rfl); (case hg => rfl); (case hr => first | (go_simp; done) | (go_simp; rfl)); intro gb231 hg w23 hbox hb; have n0_ := Aside0.mk (blk_below (g := gb230) (o := .cells #[.slice A0_0 l0_0.length c0_0] 29 (0, 0)) u8_7 hb); have n1_ := Aside0.mk (below_step u8_17 hb); have n2_ := Aside0.mk (hbox); have n3_ := Aside0.mk ((by rw [hg]; exact (below_size u8_17) : w.heap.size ≤ gb231)); have n4_ := Aside0.mk ((by rw [hg]; exact (below_size u8_17) : w.heap.size ≤ gb231)); have n5_ := Aside0.mk ((by rw [hg]; exact Nat.ne_of_lt (blk_lt (g := gb230) (o := .cells #[.slice A0_0 l0_0.length c0_0] 29 (0, 0)) u8_7) : gb230 ≠ gb231)); have n6_ := Aside0.mk ((by rw [hg]; exact Nat.ne_of_gt (blk_lt (g := gb230) (o := .cells #[.slice A0_0 l0_0.length c0_0] 29 (0, 0)) u8_7) : gb231 ≠ gb230)); clear BK230; clear HB; have BK230 := n0_; have HB := n1_; have BK231 := n2_; have GW231 := n3_; have GE231 := n4_; have NB230_231 := n5_; have NB231_230 := n6_; clear n0_ n1_ n2_ n3_ n4_ n5_ n6_; clear hb hbox hg; have hnb24 := NB230_231.out; have hnc24 := NB231_230.out; have hcz25_0 : w23.cell? ⟨gb230, 0, none⟩ = some (.slice A0_0 l0_0.length c0_0) := (blk_cell BK230.out 0).trans rfl; have hfz25_0 := blk_frozen BK230.out 0) | ((with_reducible refine gate_callee (f := 53) rfl ?_); refine goesL_ (some 14) rfl rfl Try.func53 (by kernel_rfl) rfl #[.agg #[.slice A0_0 l0_0.length c0_0], .int .u64 a1, .int .i64 a2] rfl u8_15 ?_; (with_reducible refine (spec_l10Of.calls k _ _ l0_0 a1 a2 t232 t233 t234 t235 t236 t237 _ ?side1 ?side2 A4.out).mono ?_); (case side1 => exact u8_21); (case side2 => exact HC0_0.out); rintro e w26 ⟨rfl, hb⟩; refine ⟨_, rfl, ?_⟩; have n0_ := Aside0.mk (blk_below (g := gb230) (o := .cells #[.slice A0_0 l0_0.length c0_0] 29 (0, 0)) u8_7 hb); have n1_ := Aside0.mk (blk_below (g := gb231) (o := .cells #[.slice none 0 0] 29 (0, 0)) u8_19 hb); have n2_ := Aside0.mk (below_step u8_9 hb); clear BK230; clear BK231; clear HB; have BK230 := n0_; have BK231 := n1_; have HB := n2_; clear n0_ n1_ n2_; (try clear hb); (try clear hb2); (try clear hk); (try clear hi)) | ((with_reducible refine gate_dst (N := 8) rfl ?_); refine box_event ?hg (N := 8) ?hd (cs := #[.int .u64 0, .int .u64 0, .int .u64 0, .int .u64 0, .int .i64 0]) (t := 53) ?hr ?_; (case hd => rfl); (case hg => rfl); (case hr => first | (go_simp; done) | (go_simp; rfl)); intro gb238 hg w27 hbox hb; have n0_ := Aside0.mk (blk_below (g := gb230) (o := .cells #[.slice A0_0 l0_0.length c0_0] 29 (0, 0)) u8_7 hb); have n1_ := Aside0.mk (blk_below (g := gb231) (o := .cells #[.slice none 0 0] 29 (0, 0)) u8_19 hb); have n2_ := Aside0.mk (below_step u8_9 hb); have n3_ := Aside0.mk (hbox); have n4_ := Aside0.mk ((by rw [hg]; exact (below_size u8_9) : w.heap.size ≤ gb238)); have n5_ := Aside0.mk ((by rw [hg]; exact (below_size u8_9) : w.heap.size ≤ gb238)); have n6_ := Aside0.mk ((by rw [hg]; exact Nat.ne_of_lt (blk_lt (g := gb230) (o := .cells #[.slice A0_0 l0_0.length c0_0] 29 (0, 0)) u8_7) : gb230 ≠ gb238)); have n7_ := Aside0.mk ((by rw [hg]; exact Nat.ne_of_gt (blk_lt (g := gb230) (o := .cells #[.slice A0_0 l0_0.length c0_0] 29 (0, 0)) u8_7) : gb238 ≠ gb230)); have n8_ := Aside0.mk ((by rw [hg]; exact Nat.ne_of_lt (blk_lt (g := gb231) (o := .cells #[.slice none 0 0] 29 (0, 0)) u8_19) : gb231 ≠ gb238)); have n9_ := Aside0.mk ((by rw [hg]; exact Nat.ne_of_gt (blk_lt (g := gb231) (o := .cells #[.slice none 0 0] 29 (0, 0)) u8_19) : gb238 ≠ gb231)); clear BK230; clear BK231; clear HB; have BK230 := n0_; have BK231 := n1_; have HB := n2_; have BK238 := n3_; have GW238 := n4_; have GE238 := n5_; have NB230_238 := n6_; have NB238_230 := n7_; have NB231_238 := n8_; have NB238_231 := n9_; clear n0_ n1_ n2_ n3_ n4_ n5_ n6_ n7_ n8_ n9_; clear hb hbox hg; have hnb28 := NB238_230.out; have hnc28 := NB230_238.out; have hnb29 := NB238_231.out; have hnc29 := NB231_238.out; have hcz30_0 : w27.cell? ⟨gb238, 0, none⟩ = some (.int .u64 0) := (blk_cell BK238.out 0).trans rfl; have hcz30_1 : w27.cell? ⟨gb238, 1, none⟩ = some (.int .u64 0) := (blk_cell BK238.out 1).trans rfl; have hcz30_2 : w27.cell? ⟨gb238, 2, none⟩ = some (.int .u64 0) := (blk_cell BK238.out 2).trans rfl; have hcz30_3 : w27.cell? ⟨gb238, 3, none⟩ = some (.int .u64 0) := (blk_cell BK238.out 3).trans rfl; have hcz30_4 : w27.cell? ⟨gb238, 4, none⟩ = some (.int .i64 0) := (blk_cell BK238.out 4).trans rfl; have hfz30_0 := blk_frozen BK238.out 0; have hfz30_1 := blk_frozen BK238.out 1; have hfz30_2 := blk_frozen BK238.out 2; have hfz30_3 := blk_frozen BK238.out 3; have hfz30_4 := blk_frozen BK238.out 4; have hcz31_0 : w27.cell? ⟨gb230, 0, none⟩ = some (.slice A0_0 l0_0.length c0_0) := (blk_cell BK230.out 0).trans rfl; have hfz31_0 := blk_frozen BK230.out 0) | ((with_reducible refine gate_callee (f := 54) rfl ?_); refine goesL_ (some 29) rfl rfl Try.func54 (by kernel_rfl) rfl #[.agg #[.slice A0_0 l0_0.length c0_0]] rfl u8_15 ?_; (with_reducible refine (spec_l10Copy.calls k _ _ l0_0 t242 _ ?side1 ?side2 A21.out).mono ?_); (case side1 => exact (by exact Kd.C_below HR0_0.out u8_5)); (case side2 => exact HC0_0.out); rintro e w32 ⟨v243, rfl, ho0, hb⟩; refine ⟨_, rfl, ?_⟩; have n0_ := Aside0.mk (Kd.R_lower (Kd.R_newB ho0 (g := gb238) (o := .cells #[.int .u64 t232, .int .u64 t233, .int .u64 t234, .int .u64 t235, .int .i64 t236] 53 (0, 0)) u8_1) (below_size u8_5)); have n1_ := Aside0.mk (blk_below (g := gb230) (o := .cells #[.slice A0_0 l0_0.length c0_0] 29 (0, 0)) u8_13 hb); have n2_ := Aside0.mk (blk_below (g := gb231) (o := .cells #[.slice none 0 0] 29 (0, 0)) u8_14 hb); have n3_ := Aside0.mk (blk_below (g := gb238) (o := .cells #[.int .u64 t232, .int .u64 t233, .int .u64 t234, .int .u64 t235, .int .i64 t236] 53 (0, 0)) u8_1 hb); have n4_ := Aside0.mk (below_step u8_5 hb); clear BK230; clear BK231; clear BK238; clear HB; have HO244 := n0_; have BK230 := n1_; have BK231 := n2_; have BK238 := n3_; have HB := n4_; clear n0_ n1_ n2_ n3_ n4_; (try clear hb); (try clear hb2); (try clear hk); (try clear hi); (try clear ho0); obtain ⟨Ao33, co33, eo33⟩ := Kd.R_slice HO244.out; subst eo33; have hcz34_0 : w32.cell? ⟨gb231, 0, none⟩ = some (.slice none 0 0) := (blk_cell BK231.out 0).trans rfl; have hfz34_0 := blk_frozen BK231.out 0))
    refine bodyPost_ret (results_ct rfl _ _ gb231 29 #[.slice Ao33 t242.length co33] (0, 0) _ rfl u8_25 Try.underlying29 rfl (by kernel_rfl)) rfl ?_
    exact ⟨_, by first | rfl | (simp [errW_none, errW_some] <;> rfl) | (simp [*, errW_none, errW_some] <;> rfl), (by (with_reducible repeat (first | apply Kd.R_alloc | apply Kd.R_drewN | apply Kd.R_drew)); exact Kd.R_mono (Kd.R_far (p := ⟨gb231, 0, none⟩) (Kd.R_types HO244.out BK231.out (by decide)) (fun _ hk => hk.2) (.slice Ao33 t242.length co33)) (fun _ hk => trivial)), u8_5⟩
  rw [if_pos c6] at H
  have c6b0 : (t236 == a2) = true := beq_iff_eq.mpr c6
  have c6b1 : (t236 != a2) = false := bne_eq_false_iff_eq.mpr c6
  clear c6
  replace H := Option.bind_eq_some_iff.mp H
  obtain ⟨t239, A70, H⟩ := H
  replace H : (some (t239, 0)) = some (r1, r2) := H
  have A7 := Aside0.mk A70
  clear A70
  simp only [Option.some.injEq, Prod.mk.injEq] at H
  obtain ⟨rfl, rfl⟩ := H
  go_enter Try.func32, Try.ntmps32
  go_wp2_with (first | ((with_reducible refine gate_dst (N := 3) rfl ?_); refine box_event ?hg (N := 3) ?hd (cs := #[.slice A0_0 l0_0.length c0_0]) (t := 29) ?hr ?_; (case hd => rfl); (case hg => rfl); (case hr => first | (go_simp; done) | (go_simp; rfl)); intro gb230 hg w8 hbox hb; have n0_ := Aside0.mk (below_step u8_2 hb); have n1_ := Aside0.mk (hbox); have n2_ := Aside0.mk ((by rw [hg]; exact (below_size u8_2) : w.heap.size ≤ gb230)); have n3_ := Aside0.mk ((by rw [hg]; exact (below_size u8_2) : w.heap.size ≤ gb230)); clear HB; have HB := n0_; have BK230 := n1_; have GW230 := n2_; have GE230 := n3_; clear n0_ n1_ n2_ n3_; clear hb hbox hg) | ((with_reducible refine gate_dst (N := 6) rfl ?_); refine box_event ?hg (N := 6) ?hd (cs := #[.slice none 0 0]) (t := 29) ?hr ?_; (case hd => rfl); (case hg => rfl); (case hr => first | (go_simp; done) | (go_simp; rfl)); intro gb231 hg w9 hbox hb; have n0_ := Aside0.mk (blk_below (g := gb230) (o := .cells #[.slice A0_0 l0_0.length c0_0] 29 (0, 0)) u8_7 hb); have n1_ := Aside0.mk (below_step u8_17 hb); have n2_ := Aside0.mk (hbox); have n3_ := Aside0.mk ((by rw [hg]; exact (below_size u8_17) : w.heap.size ≤ gb231)); have n4_ := Aside0.mk ((by rw [hg]; exact (below_size u8_17) : w.heap.size ≤ gb231)); have n5_ := Aside0.mk ((by rw [hg]; exact Nat.ne_of_lt (blk_lt (g := gb230) (o := .cells #[.slice A0_0 l0_0.length c0_0] 29 (0, 0)) u8_7) : gb230 ≠ gb231)); have n6_ := Aside0.mk ((by rw [hg]; exact Nat.ne_of_gt (blk_lt (g := gb230) (o := .cells #[.slice A0_0 l0_0.length c0_0] 29 (0, 0)) u8_7) : gb231 ≠ gb230)); clear BK230; clear HB; have BK230 := n0_; have HB := n1_; have BK231 := n2_; have GW231 := n3_; have GE231 := n4_; have NB230_231 := n5_; have NB231_230 := n6_; clear n0_ n1_ n2_ n3_ n4_ n5_ n6_; clear hb hbox hg; have hnb10 := NB230_231.out; have hnc10 := NB231_230.out; have hcz11_0 : w9.cell? ⟨gb230, 0, none⟩ = some (.slice A0_0 l0_0.length c0_0) := (blk_cell BK230.out 0).trans rfl; have hfz11_0 := blk_frozen BK230.out 0) | ((with_reducible refine gate_callee (f := 53) rfl ?_); refine goesL_ (some 14) rfl rfl Try.func53 (by kernel_rfl) rfl #[.agg #[.slice A0_0 l0_0.length c0_0], .int .u64 a1, .int .i64 a2] rfl u8_15 ?_; (with_reducible refine (spec_l10Of.calls k _ _ l0_0 a1 a2 t232 t233 t234 t235 t236 t237 _ ?side1 ?side2 A4.out).mono ?_); (case side1 => exact u8_21); (case side2 => exact HC0_0.out); rintro e w12 ⟨rfl, hb⟩; refine ⟨_, rfl, ?_⟩; have n0_ := Aside0.mk (blk_below (g := gb230) (o := .cells #[.slice A0_0 l0_0.length c0_0] 29 (0, 0)) u8_7 hb); have n1_ := Aside0.mk (blk_below (g := gb231) (o := .cells #[.slice none 0 0] 29 (0, 0)) u8_19 hb); have n2_ := Aside0.mk (below_step u8_9 hb); clear BK230; clear BK231; clear HB; have BK230 := n0_; have BK231 := n1_; have HB := n2_; clear n0_ n1_ n2_; (try clear hb); (try clear hb2); (try clear hk); (try clear hi)) | ((with_reducible refine gate_dst (N := 8) rfl ?_); refine box_event ?hg (N := 8) ?hd (cs := #[.int .u64 0, .int .u64 0, .int .u64 0, .int .u64 0, .int .i64 0]) (t := 53) ?hr ?_; (case hd => rfl); (case hg => rfl); (case hr => first | (go_simp; done) | (go_simp; rfl)); intro gb238 hg w13 hbox hb; have n0_ := Aside0.mk (blk_below (g := gb230) (o := .cells #[.slice A0_0 l0_0.length c0_0] 29 (0, 0)) u8_7 hb); have n1_ := Aside0.mk (blk_below (g := gb231) (o := .cells #[.slice none 0 0] 29 (0, 0)) u8_19 hb); have n2_ := Aside0.mk (below_step u8_9 hb); have n3_ := Aside0.mk (hbox); have n4_ := Aside0.mk ((by rw [hg]; exact (below_size u8_9) : w.heap.size ≤ gb238)); have n5_ := Aside0.mk ((by rw [hg]; exact (below_size u8_9) : w.heap.size ≤ gb238)); have n6_ := Aside0.mk ((by rw [hg]; exact Nat.ne_of_lt (blk_lt (g := gb230) (o := .cells #[.slice A0_0 l0_0.length c0_0] 29 (0, 0)) u8_7) : gb230 ≠ gb238)); have n7_ := Aside0.mk ((by rw [hg]; exact Nat.ne_of_gt (blk_lt (g := gb230) (o := .cells #[.slice A0_0 l0_0.length c0_0] 29 (0, 0)) u8_7) : gb238 ≠ gb230)); have n8_ := Aside0.mk ((by rw [hg]; exact Nat.ne_of_lt (blk_lt (g := gb231) (o := .cells #[.slice none 0 0] 29 (0, 0)) u8_19) : gb231 ≠ gb238)); have n9_ := Aside0.mk ((by rw [hg]; exact Nat.ne_of_gt (blk_lt (g := gb231) (o := .cells #[.slice none 0 0] 29 (0, 0)) u8_19) : gb238 ≠ gb231)); clear BK230; clear BK231; clear HB; have BK230 := n0_; have BK231 := n1_; have HB := n2_; have BK238 := n3_; have GW238 := n4_; have GE238 := n5_; have NB230_238 := n6_; have NB238_230 := n7_; have NB231_238 := n8_; have NB238_231 := n9_; clear n0_ n1_ n2_ n3_ n4_ n5_ n6_ n7_ n8_ n9_; clear hb hbox hg; have hnb14 := NB238_230.out; have hnc14 := NB230_238.out; have hnb15 := NB238_231.out; have hnc15 := NB231_238.out; have hcz16_0 : w13.cell? ⟨gb238, 0, none⟩ = some (.int .u64 0) := (blk_cell BK238.out 0).trans rfl; have hcz16_1 : w13.cell? ⟨gb238, 1, none⟩ = some (.int .u64 0) := (blk_cell BK238.out 1).trans rfl; have hcz16_2 : w13.cell? ⟨gb238, 2, none⟩ = some (.int .u64 0) := (blk_cell BK238.out 2).trans rfl; have hcz16_3 : w13.cell? ⟨gb238, 3, none⟩ = some (.int .u64 0) := (blk_cell BK238.out 3).trans rfl; have hcz16_4 : w13.cell? ⟨gb238, 4, none⟩ = some (.int .i64 0) := (blk_cell BK238.out 4).trans rfl; have hfz16_0 := blk_frozen BK238.out 0; have hfz16_1 := blk_frozen BK238.out 1; have hfz16_2 := blk_frozen BK238.out 2; have hfz16_3 := blk_frozen BK238.out 3; have hfz16_4 := blk_frozen BK238.out 4; have hcz17_0 : w13.cell? ⟨gb230, 0, none⟩ = some (.slice A0_0 l0_0.length c0_0) := (blk_cell BK230.out 0).trans rfl; have hfz17_0 := blk_frozen BK230.out 0) | ((with_reducible refine gate_callee (f := 55) rfl ?_); refine goesL_ (some 38) rfl rfl Try.func55 (by kernel_rfl) rfl #[.agg #[.slice A0_0 l0_0.length c0_0], .agg #[.int .u64 a1, .int .u64 (IntKind.u64.wrap (t233 + t235)), .int .u64 0, .int .u64 0, .int .i64 0]] rfl u8_15 ?_; (with_reducible refine (spec_l10With.calls k _ _ l0_0 a1 (IntKind.u64.wrap (t233 + t235)) 0 0 0 t239 _ ?side1 ?side2 A7.out).mono ?_); (case side1 => exact (by exact Kd.C_below HR0_0.out u8_5)); (case side2 => exact HC0_0.out); rintro e w18 ⟨v240, rfl, ho0, hb⟩; refine ⟨_, rfl, ?_⟩; have n0_ := Aside0.mk (Kd.R_lower (Kd.R_newB ho0 (g := gb238) (o := .cells #[.int .u64 t232, .int .u64 t233, .int .u64 t234, .int .u64 t235, .int .i64 t236] 53 (0, 0)) u8_1) (below_size u8_5)); have n1_ := Aside0.mk (blk_below (g := gb230) (o := .cells #[.slice A0_0 l0_0.length c0_0] 29 (0, 0)) u8_13 hb); have n2_ := Aside0.mk (blk_below (g := gb231) (o := .cells #[.slice none 0 0] 29 (0, 0)) u8_14 hb); have n3_ := Aside0.mk (blk_below (g := gb238) (o := .cells #[.int .u64 t232, .int .u64 t233, .int .u64 t234, .int .u64 t235, .int .i64 t236] 53 (0, 0)) u8_1 hb); have n4_ := Aside0.mk (below_step u8_5 hb); clear BK230; clear BK231; clear BK238; clear HB; have HO241 := n0_; have BK230 := n1_; have BK231 := n2_; have BK238 := n3_; have HB := n4_; clear n0_ n1_ n2_ n3_ n4_; (try clear hb); (try clear hb2); (try clear hk); (try clear hi); (try clear ho0); obtain ⟨Ao19, co19, eo19⟩ := Kd.R_slice HO241.out; subst eo19; have hcz20_0 : w18.cell? ⟨gb231, 0, none⟩ = some (.slice none 0 0) := (blk_cell BK231.out 0).trans rfl; have hfz20_0 := blk_frozen BK231.out 0))
  refine bodyPost_ret (results_ct rfl _ _ gb231 29 #[.slice Ao19 t239.length co19] (0, 0) _ rfl u8_25 Try.underlying29 rfl (by kernel_rfl)) rfl ?_
  exact ⟨_, by first | rfl | (simp [errW_none, errW_some] <;> rfl) | (simp [*, errW_none, errW_some] <;> rfl), (by (with_reducible repeat (first | apply Kd.R_alloc | apply Kd.R_drewN | apply Kd.R_drew)); exact Kd.R_mono (Kd.R_far (p := ⟨gb231, 0, none⟩) (Kd.R_types HO241.out BK231.out (by decide)) (fun _ hk => hk.2) (.slice Ao19 t239.length co19)) (fun _ hk => trivial)), u8_5⟩

end Go.Proofs.Ytdbfjakhkclggaa.QFnBook
