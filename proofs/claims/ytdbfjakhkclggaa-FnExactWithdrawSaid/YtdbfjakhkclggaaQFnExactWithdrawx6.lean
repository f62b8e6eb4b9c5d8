-- Printed by the session's own program wip/prx.py.
import Derived.Test.YtdbfjakhkclggaaQFnExactWithdrawx0
import Derived.Test.YtdbfjakhkclggaaQFnExactWithdrawx1
import Derived.Test.YtdbfjakhkclggaaQFnExactWithdrawx2
import Derived.Test.YtdbfjakhkclggaaQFnExactWithdrawx5
namespace Go.Proofs.Ytdbfjakhkclggaa.QFnExactWithdraw
open Go.RowKit Go.Proofs.YtdbfjakhkclggaaW.PrintWords Go.Proofs.YtdbfjakhkclggaaW.PrintLast Go.Proofs.YtdbfjakhkclggaaW.PrintMore
attribute [local go_sem] max2_int min2_int max_two min_two max_three min_three max_four min_four Go.Proofs.Ytdbfjakhkclggaa.Set.isSome_setCell Go.Proofs.Ytdbfjakhkclggaa.Add.add64   -- for this text's walks alone
set_option linter.unusedVariables false
set_option linter.unusedSimpArgs false

-- squeezed
theorem u6_0 {P : Prop} (h : P := by repeat (first | (with_reducible first | exact HB.out | apply below_alloc | apply pw_below_drewN | apply below_drew1 | refine below_set ?_ GE209.out | refine below_set ?_ GE218.out | refine below_set ?_ GE222.out | refine below_set ?_ GE227.out) | exact HB.out)) : P := h
theorem u6_1 {P : Prop} (h : P := by (with_reducible repeat (first | refine blk_drewN ?_ _ | refine blk_drew ?_ | refine blk_alloc ?_ _)); exact BK209.out) : P := h
theorem u6_2 {P : Prop} (h : P := by (with_reducible repeat (first | refine blk_drewN ?_ _ | refine blk_drew ?_ | refine blk_alloc ?_ _)); exact BK218.out) : P := h
theorem u6_3 {P : Prop} (h : P := by repeat (first | (with_reducible first | exact HB.out | apply below_alloc | apply pw_below_drewN | apply below_drew1 | refine below_set ?_ G3.out | refine below_set ?_ G6.out | refine below_set ?_ G8.out) | exact HB.out)) : P := h
theorem u6_4 {P : Prop} (h : P := by (try simp only [List.map_toArray, List.map_cons, List.map_nil]); first | done | rfl | (simp only [List.length_drop, List.length_take]; rfl)) : P := h
theorem u6_5 {P : Prop} (h : P := by (with_reducible repeat (first | refine blk_drewN ?_ _ | refine blk_drew ?_ | refine blk_alloc ?_ _)); exact BK222.out) : P := h
theorem u6_6 {P : Prop} (h : P := by (with_reducible repeat (first | apply Kd.R_alloc | apply Kd.R_drewN | apply Kd.R_drew)); exact HO213.out) : P := h
theorem u6_7 {P : Prop} (h : P := by (with_reducible repeat (first | apply Kd.R_alloc | apply Kd.R_drewN | apply Kd.R_drew)); exact HO216.out) : P := h
theorem u6_8 {P : Prop} (h : P := by repeat (first | (with_reducible first | exact HB.out | apply below_alloc | apply pw_below_drewN | apply below_drew1 | refine below_set ?_ GE209.out) | exact HB.out)) : P := h
theorem u6_9 {P : Prop} (h : P := by (with_reducible repeat (first | refine blk_drewN ?_ _ | refine blk_drew ?_ | refine blk_alloc ?_ _)); exact BK227.out) : P := h
theorem u6_10 {P : Prop} (h : P := by (with_reducible repeat (first | apply Kd.R_alloc | apply Kd.R_drewN | apply Kd.R_drew)); exact HO221.out) : P := h
theorem u6_11 {P : Prop} (h : P := by (with_reducible repeat (first | apply Kd.R_alloc | apply Kd.R_drewN | apply Kd.R_drew)); exact HO225.out) : P := h
theorem u6_12 {P : Prop} (h : P := by repeat (first | (with_reducible first | exact HB.out | apply below_alloc | apply pw_below_drewN | apply below_drew1) | exact HB.out)) : P := h
theorem u6_13 {P : Prop} (h : P := by repeat (first | (with_reducible first | exact HB.out | apply below_alloc | apply pw_below_drewN | apply below_drew1 | refine below_set ?_ GE209.out | refine below_set ?_ GE218.out) | exact HB.out)) : P := h
theorem u6_14 {P : Prop} (h : P := by repeat (first | (with_reducible first | exact HB.out | apply below_alloc | apply pw_below_drewN | apply below_drew1 | refine below_set ?_ GE209.out | refine below_set ?_ GE218.out | refine below_set ?_ GE222.out) | exact HB.out)) : P := h
theorem u6_15 {P : Prop} (h : P := by (with_reducible repeat (first | refine blk_drewN ?_ _ | refine blk_drew ?_ | refine blk_alloc ?_ _)); exact BK3.out) : P := h
theorem u6_16 {P : Prop} (h : P := by (with_reducible repeat (first | apply Kd.R_alloc | apply Kd.R_drewN | apply Kd.R_drew)); exact HO231.out) : P := h
theorem u6_17 {P : Prop} (h : P := by repeat (first | (with_reducible first | exact HB.out | apply below_alloc | apply pw_below_drewN | apply below_drew1 | refine below_set ?_ GE209.out | refine below_set ?_ GE218.out | refine below_set ?_ GE222.out | refine below_set ?_ GE227.out | refine below_set ?_ GE246.out) | exact HB.out)) : P := h
theorem u6_18 {P : Prop} (h : P := by repeat (first | exact (Kd.C_below HR0_0.out HB.out) | (with_reducible refine Kd.C_alloc ?_ _) | (with_reducible refine Kd.C_drewN ?_ _) | (with_reducible refine Kd.C_drew ?_))) : P := h
theorem u6_19 {P : Prop} (h : P := by (with_reducible repeat (first | apply Kd.R_alloc | apply Kd.R_drewN | apply Kd.R_drew)); exact (Kd.R_mono (Kd.R_far (p := ⟨gb222, 0, none⟩) (Kd.R_types HO221.out BK222.out (by decide)) (fun _ hk => hk.2) (.slice Ao46 t219.length co46)) (fun _ h_ => h_.1))) : P := h
theorem u6_20 {P : Prop} (h : P := by first | (with_reducible assumption) | assumption | rfl | (simp [Act.eval, Act.put]; done)) : P := h
theorem u6_21 {P : Prop} (h : P := by repeat (first | exact (Kd.R_reads' HO225.out).2.2 | (with_reducible refine Kd.C_alloc ?_ _) | (with_reducible refine Kd.C_drewN ?_ _) | (with_reducible refine Kd.C_drew ?_))) : P := h
theorem u6_22 {P : Prop} (h : P := by (with_reducible repeat (first | apply Kd.R_alloc | apply Kd.R_drewN | apply Kd.R_drew)); exact HO241.out) : P := h
theorem u6_23 {P : Prop} (h : P := by (with_reducible repeat (first | apply Kd.R_alloc | apply Kd.R_drewN | apply Kd.R_drew)); exact (Kd.R_mono (Kd.R_far (p := ⟨gb218, 0, none⟩) (Kd.R_types HO213.out BK218.out (by decide)) (fun _ hk => hk.2) (.slice Ao40 t214.length co40)) (fun _ h_ => h_.1))) : P := h
theorem u6_24 {P : Prop} (h : P := by (with_reducible repeat (first | apply Kd.R_alloc | apply Kd.R_drewN | apply Kd.R_drew)); exact (Kd.R_mono (Kd.R_far (p := ⟨gb218, 0, none⟩) (Kd.R_types HO216.out BK218.out (by decide)) (fun _ hk => hk.2) (.slice Ao40 t214.length co40)) (fun _ h_ => h_.1))) : P := h
theorem u6_25 {P : Prop} (h : P := by (with_reducible repeat (first | apply Kd.R_alloc | apply Kd.R_drewN | apply Kd.R_drew)); exact (Kd.R_mono (Kd.R_far (p := ⟨gb222, 0, none⟩) (Kd.R_types HO213.out BK222.out (by decide)) (fun _ hk => hk.2) (.slice Ao46 t219.length co46)) (fun _ h_ => h_.1))) : P := h
theorem u6_26 {P : Prop} (h : P := by (with_reducible repeat (first | apply Kd.R_alloc | apply Kd.R_drewN | apply Kd.R_drew)); exact (Kd.R_mono (Kd.R_far (p := ⟨gb222, 0, none⟩) (Kd.R_types HO216.out BK222.out (by decide)) (fun _ hk => hk.2) (.slice Ao46 t219.length co46)) (fun _ h_ => h_.1))) : P := h
theorem u6_27 {P : Prop} (h : P := by (with_reducible repeat (first | apply Kd.R_alloc | apply Kd.R_drewN | apply Kd.R_drew)); exact (Kd.R_mono (Kd.R_far (p := ⟨gb227, 0, none⟩) (Kd.R_types HO225.out BK227.out (by decide)) (fun _ hk => hk.2) (.slice Ao52 t223.length co52)) (fun _ h_ => h_.1))) : P := h
theorem u6_28 {P : Prop} (h : P := by (with_reducible repeat (first | apply Kd.R_alloc | apply Kd.R_drewN | apply Kd.R_drew)); exact (Kd.R_mono (Kd.R_far (p := ⟨gb227, 0, none⟩) (Kd.R_types HO216.out BK227.out (by decide)) (fun _ hk => hk.2) (.slice Ao52 t223.length co52)) (fun _ h_ => h_.1))) : P := h
theorem u6_29 {P : Prop} (h : P := by (with_reducible repeat (first | apply Kd.R_alloc | apply Kd.R_drewN | apply Kd.R_drew)); exact (Kd.R_mono (Kd.R_far (p := ⟨gb246, 0, none⟩) (Kd.R_types HO244.out BK246.out (by decide)) (fun _ hk => hk.2) (.slice Ao77 t242.length co77)) (fun _ h_ => h_.1))) : P := h
theorem u6_30 {P : Prop} (h : P := by (with_reducible repeat (first | apply Kd.R_alloc | apply Kd.R_drewN | apply Kd.R_drew)); exact (Kd.R_mono (Kd.R_far (p := ⟨gb246, 0, none⟩) (Kd.R_types HO216.out BK246.out (by decide)) (fun _ hk => hk.2) (.slice Ao77 t242.length co77)) (fun _ h_ => h_.1))) : P := h
theorem u6_31 {P : Prop} (h : P := by (with_reducible repeat (first | refine blk_drewN ?_ _ | refine blk_drew ?_ | refine blk_alloc ?_ _)); exact BK6.out) : P := h
theorem u6_32 {P : Prop} (h : P := by (try simp only [List.map_toArray, List.map_cons, List.map_nil]); first | done | (rw [show t237.length = t223.length from (Kd.R_reads' HO225.out).1.symm] <;> rfl) | rfl | (simp only [List.length_drop, List.length_take]; rfl)) : P := h
theorem u6_33 {P : Prop} (h : P := by (with_reducible repeat (first | refine blk_drewN ?_ _ | refine blk_drew ?_ | refine blk_alloc ?_ _)); exact BK5.out) : P := h
theorem u6_34 {P : Prop} (h : P := by rw [show t237.length = t223.length from (Kd.R_reads' HO225.out).1.symm]; exact (Kd.R_reads' HO225.out).2.1) : P := h
theorem u6_35 {P : Prop} (h : P := by (with_reducible repeat (first | apply Kd.R_alloc | apply Kd.R_drewN | apply Kd.R_drew)); exact HO244.out) : P := h
/-! ### impl_Withdraw: function 37 -/
def impl_Withdraw.enc (x : S53) : List Value := [.int .u64 x.f0, .int .u64 x.f1, .int .u64 x.f2, .int .u64 x.f3, .int .i64 x.f4]
theorem impl_Withdraw.flat : Go.Proofs.Ytdbfjakhkclggaa.Slc.Flat k53 impl_Withdraw.enc := ⟨fun w base ok x => k53_mkM w base ok x, fun h => k53_open h⟩
/-- What the literal makes of an account, and its code. -/
def impl_Withdraw.g (a2 : Int) (x : S53) : S53 × Int := if ¬ x.f4 = 0 then (x, 6) else if x.f1 < a2 then (x, 4) else (⟨x.f0, IntKind.u64.wrap (x.f1 - a2), x.f2, x.f3, x.f4⟩, 0)
set_option maxHeartbeats 1600000 in
theorem impl_Withdraw.lit (g n cap i : Nat) (l0 : List S53) (ok : Nat → Prop) (a2 : Int) (b2 : Nat) (w0 w : World) (hB : Below w0.heap.size w0 w) (ho : Kd.R k53 53 w w0.heap.size ok (.slice (some ⟨g, 0, none⟩) n cap) l0) (hi : i < l0.length) (p2 : w.cell? ⟨b2, 0, none⟩ = some (.int .u64 a2)) (q2 : b2 ≠ g) :
    Calls Try.prog 65 #[.pointer (some ⟨g, i * 5, none⟩), .pointer (some ⟨b2, 0, none⟩)] w fun e w' => e = .returned (.int .i64 (impl_Withdraw.g a2 (l0.getD i z53)).2) ∧ Kd.R k53 53 w' w0.heap.size ok (.slice (some ⟨g, 0, none⟩) n cap) (l0.set i (impl_Withdraw.g a2 (l0.getD i z53)).1) ∧ Below w0.heap.size w0 w' ∧ Kept w w' (fun k => k = g) := by
  obtain ⟨_, hg, _, _, _, cur, hb, hs, _⟩ := impl_Withdraw.flat.blockG ho
  obtain ⟨x, hx⟩ : ∃ x, x = l0.getD i z53 := ⟨_, rfl⟩
  have he : ∀ j, j < 5 → cur[i * 5 + j]? = (impl_Withdraw.enc x)[j]? := fun j hj => by rw [hx]; exact Go.Proofs.Ytdbfjakhkclggaa.Slc.flat_elem impl_Withdraw.flat ho hb hi z53 j hj
  have hlt : ∀ j, j < 5 → i * 5 + j < cur.size := fun j hj => by
    have := he j hj
    rcases Nat.lt_or_ge (i * 5 + j) cur.size with h | h
    · exact h
    · rw [Array.getElem?_eq_none h, List.getElem?_eq_getElem hj] at this
      cases this
  have x0 : w.cell? ⟨g, i * 5, none⟩ = some (.int .u64 x.f0) := (blk_cell hb _).trans (he 0 (by omega))
  have x1 : w.cell? ⟨g, i * 5 + 1, none⟩ = some (.int .u64 x.f1) := (blk_cell hb _).trans (he 1 (by omega))
  have x2 : w.cell? ⟨g, i * 5 + 2, none⟩ = some (.int .u64 x.f2) := (blk_cell hb _).trans (he 2 (by omega))
  have x3 : w.cell? ⟨g, i * 5 + 3, none⟩ = some (.int .u64 x.f3) := (blk_cell hb _).trans (he 3 (by omega))
  have x4 : w.cell? ⟨g, i * 5 + 4, none⟩ = some (.int .i64 x.f4) := (blk_cell hb _).trans (he 4 (by omega))
  have f0 : w.frozen? ⟨g, i * 5, none⟩ = false := blk_frozen hb _
  have f1 : w.frozen? ⟨g, i * 5 + 1, none⟩ = false := blk_frozen hb _
  have f2 : w.frozen? ⟨g, i * 5 + 2, none⟩ = false := blk_frozen hb _
  have f3 : w.frozen? ⟨g, i * 5 + 3, none⟩ = false := blk_frozen hb _
  have f4 : w.frozen? ⟨g, i * 5 + 4, none⟩ = false := blk_frozen hb _
  rw [← hx]
  -- the row as it was, and as it is when cells of the element are written
  have same : ∀ W : World, (∀ k, W.heap[k]? = w.heap[k]?) → Kd.R k53 53 W w0.heap.size ok (.slice (some ⟨g, 0, none⟩) n cap) (l0.set i x) := fun W hW => by
    refine Go.Proofs.Ytdbfjakhkclggaa.Slc.flat_upd impl_Withdraw.flat ho hi hb ((hW g).trans hb) rfl (fun j hj => he j hj) (fun q _ => rfl)
  have HS := Aside0.mk same
  have HBl := Aside0.mk hB
  have HG := Aside0.mk hg
  have HO := Aside0.mk ho
  have Hb := Aside0.mk hb
  have HE := Aside0.mk he
  have HI := Aside0.mk hi
  have HL := Aside0.mk hlt
  clear same hB hg ho hb he hi hlt hs hx
  have hu := Try.underlying53
  by_cases h4 : ¬ x.f4 = 0
  · have ch4 := show (x.f4 != 0) = true by simpa using h4
    go_enter Try.func65, Try.ntmps65
    go_wp2
    repeat (go_region; try go_wp2)
    go_ret
    rw [show impl_Withdraw.g a2 x = (x, 6) by simp [impl_Withdraw.g, h4]]
    exact ⟨rfl, HS.out _ (fun _ => rfl), (by repeat (first | exact HBl.out | apply below_drew)), (by repeat (first | exact Kept.refl _ _ | apply Kept.drew))⟩
  have ch4 := show (x.f4 != 0) = false by simpa using h4
  by_cases h5 : x.f1 < a2
  · have ch5 := decide_eq_true h5
    go_enter Try.func65, Try.ntmps65
    go_wp2
    repeat (go_region; try go_wp2)
    go_ret
    rw [show impl_Withdraw.g a2 x = (x, 4) by simp [impl_Withdraw.g, h4, h5]]
    exact ⟨rfl, HS.out _ (fun _ => rfl), (by repeat (first | exact HBl.out | apply below_drew)), (by repeat (first | exact Kept.refl _ _ | apply Kept.drew))⟩
  have ch5 := decide_eq_false h5
  go_enter Try.func65, Try.ntmps65
  go_wp2
  repeat (go_region; try go_wp2)
  go_ret
  rw [show impl_Withdraw.g a2 x = (⟨x.f0, IntKind.u64.wrap (x.f1 - a2), x.f2, x.f3, x.f4⟩, 0) by simp [impl_Withdraw.g, h4, h5]]
  obtain ⟨W, hW⟩ : ∃ W, W = (w.setCell ⟨g, i * 5 + 1, none⟩ (.int .u64 (IntKind.u64.wrap (x.f1 - a2)))) := ⟨_, rfl⟩
  have hbW : W.heap[g]? = some (.cells (cur.setIfInBounds (i * 5 + 1) (.int .u64 (IntKind.u64.wrap (x.f1 - a2)))) 53 (0, 0)) := by rw [hW]; exact (blk_set (w := w) Hb.out (i * 5 + 1) (.int .u64 (IntKind.u64.wrap (x.f1 - a2))))
  have hBW : Below w0.heap.size w0 W := by rw [hW]; exact (below_set HBl.out HG.out)
  have hKW : Kept w W (fun k => k = g) := by rw [hW]; exact (Kept.setCell (S := fun k => k = g) (Kept.refl _ _) (p := ⟨g, i * 5 + 1, none⟩) (.inl rfl) (.int .u64 (IntKind.u64.wrap (x.f1 - a2))))
  rw [← hW]
  clear hW
  refine ⟨rfl, Go.Proofs.Ytdbfjakhkclggaa.Slc.flat_upd impl_Withdraw.flat HO.out HI.out Hb.out (cur' := (cur.setIfInBounds (i * 5 + 1) (.int .u64 (IntKind.u64.wrap (x.f1 - a2))))) (by first | exact hbW | exact (show W.drew.heap[g]? = _ from hbW) | exact (show W.drew.drew.heap[g]? = _ from hbW)) (by simp) (fun j hj => ?_) (fun q hq => ?_), by repeat (first | exact hBW | apply below_drew), by repeat (first | exact hKW | apply Kept.drew)⟩
  · have hj : j < 5 := hj
    have e := HE.out j hj
    have hl := HL.out j hj
    show (cur.setIfInBounds (i * 5 + 1) (.int .u64 (IntKind.u64.wrap (x.f1 - a2))))[i * 5 + j]? = _
    rcases (show j = 0 ∨ j = 1 ∨ j = 2 ∨ j = 3 ∨ j = 4 by omega) with rfl | rfl | rfl | rfl | rfl
    · rw [Array.getElem?_setIfInBounds, if_neg (by omega)]; exact e
    · rw [Array.getElem?_setIfInBounds, if_pos rfl, if_pos (by simpa using hl)]; first | done | rfl
    · rw [Array.getElem?_setIfInBounds, if_neg (by omega)]; exact e
    · rw [Array.getElem?_setIfInBounds, if_neg (by omega)]; exact e
    rw [Array.getElem?_setIfInBounds, if_neg (by omega)]; exact e
  have hq : q < i * 5 ∨ i * 5 + 5 ≤ q := hq
  rw [Array.getElem?_setIfInBounds, if_neg (by omega)]

/-- What 'change' makes of a book. -/
def impl_Withdraw.cf (k : Nat) (l0 : List S53) (a1 a2 : Int) : Option (List S53 × Int) :=
  if l0.length < 2000000 then (impl_isBook.f k l0).bind fun b => (if b = true then (impl_accountOf.f k l0 a1).bind fun y => (if y.2 = true then (if 0 ≤ y.1 ∧ y.1 < (l0.length : Int) then (if (impl_Withdraw.g a2 (l0.getD y.1.toNat z53)).2 = 0 then (if (impl_Withdraw.g a2 (l0.getD y.1.toNat z53)).1.f4 = -1 then some ((l0.set y.1.toNat (impl_Withdraw.g a2 (l0.getD y.1.toNat z53)).1).eraseIdx y.1.toNat, 0) else some (l0.set y.1.toNat (impl_Withdraw.g a2 (l0.getD y.1.toNat z53)).1, 0)) else some (l0, (impl_Withdraw.g a2 (l0.getD y.1.toNat z53)).2)) else none) else some (l0, 2)) else some (l0, 1)) else none
theorem impl_Withdraw.cf_mono (l0 : List S53) (a1 a2 : Int) (k : Nat) : LeO (impl_Withdraw.cf k l0 a1 a2) (impl_Withdraw.cf (k + 1) l0 a1 a2) := by
  unfold impl_Withdraw.cf
  refine LeO.ite (LeO.bind (impl_isBook.mono _ k) fun b => LeO.ite (LeO.bind (impl_accountOf.mono _ _ k) fun y => LeO.refl _) (LeO.refl _)) (LeO.refl _)
theorem impl_Withdraw.own {w : World} {base : Nat} {ok : Nat → Prop} {g n cap : Nat} {l : List S53} (h : Kd.R k53 53 w base ok (.slice (some ⟨g, 0, none⟩) n cap) l) : Kd.R k53 53 w base (fun k => k = g) (.slice (some ⟨g, 0, none⟩) n cap) l := by
  obtain ⟨h1, h2, _, h4, h5, cur, h6, h7, h8⟩ := impl_Withdraw.flat.blockG h
  exact impl_Withdraw.flat.row h6 h2 rfl h1.symm h4 h5 h7 (by rw [h1]; exact h8)
set_option maxHeartbeats 8000000 in
set_option maxRecDepth 100000 in
theorem impl_Withdraw.change (k : Nat) (A0 : Option Addr) (c0 : Nat) (l0 : List S53) (a1 a2 : Int) (b2 : Nat) (r1 : List S53) (r2 : Int) (w : World) (hr0 : Kd.C k53 w A0 l0.length l0) (hc0 : l0.length ≤ c0) (p2 : w.cell? ⟨b2, 0, none⟩ = some (.int .u64 a2)) (h : impl_Withdraw.cf k l0 a1 a2 = some (r1, r2)) :
    Calls Try.prog 60 #[.agg #[.slice A0 l0.length c0], .int .u64 a1, .func (.func 65) #[] #[.pointer (some ⟨b2, 0, none⟩)]] w fun e w' => ∃ v0_ : Value, e = .returned (.tuple #[.agg #[v0_], .int .i64 r2]) ∧ Kd.R k53 53 w' w.heap.size (fun _ => True) v0_ r1 ∧ Below w.heap.size w w' := by
  have hu := Try.underlying29
  have hu2 := Try.underlying27
  have hu3 := Try.underlying53
  have HR := Aside0.mk hr0
  have HC := Aside0.mk hc0
  have HB := Aside0.mk (Below.refl w.heap.size w)
  unfold impl_Withdraw.cf at h
  by_cases hl : l0.length < 2000000
  rotate_left
  · rw [if_neg hl] at h; cases h
  rw [if_pos hl] at h
  have hcopy : impl_copyBook.f l0 = some l0 := by
    unfold impl_copyBook.f
    show (if ([] : List S53).length + l0.length < 3518437208883 then some ([] ++ l0) else none) = some l0
    rw [if_pos (by simp; omega), List.nil_append]
  obtain ⟨b, hb, h⟩ := Option.bind_eq_some_iff.1 h
  have HCOPY := Aside0.mk hcopy
  have HIS := Aside0.mk hb
  have HLT := Aside0.mk hl
  have hcap : Aside0 (w.cell? ⟨b2, 0, none⟩ = some (.int .u64 a2)) := ⟨p2⟩
  clear hr0 hc0 hcopy hb hl p2
  go_enter Try.func60, Try.ntmps60
  go_upto_if 16 with (first | ((with_reducible refine gate_dst (N := 3) rfl ?_); refine box_event ?hg (N := 3) ?hd (cs := #[.slice A0 l0.length c0]) (t := 29) ?hr ?_; (case hd => rfl); (case hg => rfl); (case hr => first | (go_simp; done) | (go_simp; rfl)); intro gb3 hg w3 hbox hb; have n0_ := Aside0.mk (below_step u6_3 hb); have n1_ := Aside0.mk (show w.heap.size ≤ gb3 by rw [hg]; exact (below_size u6_3)); have n2_ := Aside0.mk hbox; clear HB; have HB := n0_; have G3 := n1_; have BK3 := n2_; clear n0_ n1_ n2_; clear hbox hg hb; (try clear c3_ f3_); have c3_ : w3.cell? ⟨gb3, 0, none⟩ = some (.slice A0 l0.length c0) := (blk_cell BK3.out 0).trans rfl; have f3_ := blk_frozen BK3.out 0) | ((with_reducible refine gate_dst (N := 6) rfl ?_); refine box_event ?hg (N := 6) ?hd (cs := #[.slice none 0 0]) (t := 29) ?hr ?_; (case hd => rfl); (case hg => rfl); (case hr => first | (go_simp; done) | (go_simp; rfl)); intro gb6 hg w6 hbox hb; have n0_ := Aside0.mk (below_step u6_3 hb); have n1_ := Aside0.mk (show w.heap.size ≤ gb6 by rw [hg]; exact (below_size u6_3)); have n2_ := Aside0.mk hbox; have m3_ := Aside0.mk (blk_below (g := gb3) (o := .cells #[.slice A0 l0.length c0] 29 (0, 0)) u6_15 hb); have N3_6 := (show gb3 ≠ gb6 by rw [hg]; exact Nat.ne_of_lt (blk_lt (g := gb3) (o := .cells #[.slice A0 l0.length c0] 29 (0, 0)) u6_15)); have N6_3 := (N3_6).symm; clear HB; have HB := n0_; have G6 := n1_; have BK6 := n2_; clear n0_ n1_ n2_; clear BK3; have BK3 := m3_; clear m3_; clear hbox hg hb; (try clear c3_ f3_); have c3_ : w6.cell? ⟨gb3, 0, none⟩ = some (.slice A0 l0.length c0) := (blk_cell BK3.out 0).trans rfl; have f3_ := blk_frozen BK3.out 0; (try clear c6_ f6_); have c6_ : w6.cell? ⟨gb6, 0, none⟩ = some (.slice none 0 0) := (blk_cell BK6.out 0).trans rfl; have f6_ := blk_frozen BK6.out 0) | ((with_reducible refine gate_callee (f := 56) rfl ?_); refine goesL_ (some 13) rfl rfl Try.func56 (by kernel_rfl) rfl #[.agg #[.slice A0 l0.length c0]] rfl u6_20 ?_; (with_reducible refine (impl_copyBook.calls _ _ l0 l0 _ ?side1 ?side2 HCOPY.out).mono ?_); (case side1 => exact (by repeat (first | exact (Kd.C_below HR.out u6_3) | (with_reducible refine Kd.C_alloc ?_ _) | (with_reducible refine Kd.C_drewN ?_ _) | (with_reducible refine Kd.C_drew ?_)))); (case side2 => exact HC.out); rintro e w7 ⟨v7, rfl, ho0, hb⟩; refine ⟨_, rfl, ?_⟩; have n0_ := Aside0.mk (Kd.R_lower ho0 (below_size u6_3)); have n1_ := Aside0.mk (below_step u6_3 hb); have m3_ := Aside0.mk (blk_below (g := gb3) (o := .cells #[.slice A0 l0.length c0] 29 (0, 0)) u6_15 hb); have m6_ := Aside0.mk (blk_below (g := gb6) (o := .cells #[.slice none 0 0] 29 (0, 0)) u6_31 hb); clear HB BK3 BK6; have HO := n0_; have HB := n1_; have BK3 := m3_; have BK6 := m6_; clear n0_ n1_ m3_ m6_; clear ho0 hb) | ((with_reducible refine gate_dst (N := 8) rfl ?_); refine box_event ?hg (N := 8) ?hd (cs := #[.slice none 0 0]) (t := 29) ?hr ?_; (case hd => rfl); (case hg => rfl); (case hr => first | (go_simp; done) | (go_simp; rfl)); intro gb8 hg w8 hbox hb; have n0_ := Aside0.mk (below_step u6_3 hb); have n1_ := Aside0.mk (show w.heap.size ≤ gb8 by rw [hg]; exact (below_size u6_3)); have n2_ := Aside0.mk hbox; have m3_ := Aside0.mk (blk_below (g := gb3) (o := .cells #[.slice A0 l0.length c0] 29 (0, 0)) u6_15 hb); have N3_8 := (show gb3 ≠ gb8 by rw [hg]; exact Nat.ne_of_lt (blk_lt (g := gb3) (o := .cells #[.slice A0 l0.length c0] 29 (0, 0)) u6_15)); have N8_3 := (N3_8).symm; have m6_ := Aside0.mk (blk_below (g := gb6) (o := .cells #[.slice none 0 0] 29 (0, 0)) u6_31 hb); have N6_8 := (show gb6 ≠ gb8 by rw [hg]; exact Nat.ne_of_lt (blk_lt (g := gb6) (o := .cells #[.slice none 0 0] 29 (0, 0)) u6_31)); have N8_6 := (N6_8).symm; have m0_ := Aside0.mk (Kd.R_below (by (with_reducible repeat (first | apply Kd.R_alloc | apply Kd.R_drewN | apply Kd.R_drew)); exact HO.out) hb); clear HO; have HO := m0_; clear m0_; obtain ⟨A1, c1, ev1⟩ := Kd.R_slice HO.out; subst ev1; clear HB; have HB := n0_; have G8 := n1_; have BK8 := n2_; clear n0_ n1_ n2_; clear BK3; have BK3 := m3_; clear m3_; clear BK6; have BK6 := m6_; clear m6_; clear hbox hg hb; (try clear c3_ f3_); have c3_ : w8.cell? ⟨gb3, 0, none⟩ = some (.slice A0 l0.length c0) := (blk_cell BK3.out 0).trans rfl; have f3_ := blk_frozen BK3.out 0; (try clear c6_ f6_); have c6_ : w8.cell? ⟨gb6, 0, none⟩ = some (.slice none 0 0) := (blk_cell BK6.out 0).trans rfl; have f6_ := blk_frozen BK6.out 0; (try clear c8_ f8_); have c8_ : w8.cell? ⟨gb8, 0, none⟩ = some (.slice none 0 0) := (blk_cell BK8.out 0).trans rfl; have f8_ := blk_frozen BK8.out 0) | ((with_reducible refine gate_callee (f := 50) rfl ?_); refine goesL_ (some 15) rfl rfl Try.func50 (by kernel_rfl) rfl #[.agg #[.slice A0 l0.length c0]] rfl u6_20 ?_; (with_reducible refine (impl_isBook.calls k _ _ l0 _ _ ?side1 ?side2 HIS.out).mono ?_); (case side1 => exact Kd.C_below HR.out (below_set HB.out G8.out)); (case side2 => exact HC.out); rintro e w9 ⟨rfl, hb⟩; refine ⟨_, rfl, ?_⟩; have n0_ := Aside0.mk (Kd.R_below (Kd.R_mono (ok' := fun _ => True) (Kd.R_far (p := ⟨gb8, 0, none⟩) (Kd.R_types HO.out BK8.out (by decide)) (fun _ hk => hk.2) (.slice A1 l0.length c1)) (fun _ _ => trivial)) hb); have n1_ := Aside0.mk (below_step (below_set HB.out G8.out) hb); have m3_ := Aside0.mk (blk_below (g := gb3) (o := .cells #[.slice A0 l0.length c0] 29 (0, 0)) (blk_far BK3.out N3_8 _) hb); have m6_ := Aside0.mk (blk_below (g := gb6) (o := .cells #[.slice none 0 0] 29 (0, 0)) (blk_far BK6.out N6_8 _) hb); have m8_ := Aside0.mk (blk_below (g := gb8) (o := .cells #[.slice A1 l0.length c1] 29 (0, 0)) (blk_put (cs := #[.slice none 0 0]) BK8.out 0 _ rfl) hb); clear HO HB BK3 BK6 BK8; have HO := n0_; have HB := n1_; have BK3 := m3_; have BK6 := m6_; have BK8 := m8_; clear n0_ n1_ m3_ m6_ m8_; clear hb; (try clear c3_ f3_); have c3_ : w9.cell? ⟨gb3, 0, none⟩ = some (.slice A0 l0.length c0) := (blk_cell BK3.out 0).trans rfl; have f3_ := blk_frozen BK3.out 0; (try clear c6_ f6_); have c6_ : w9.cell? ⟨gb6, 0, none⟩ = some (.slice none 0 0) := (blk_cell BK6.out 0).trans rfl; have f6_ := blk_frozen BK6.out 0; (try clear c8_ f8_); have c8_ : w9.cell? ⟨gb8, 0, none⟩ = some (.slice A1 l0.length c1) := (blk_cell BK8.out 0).trans rfl; have f8_ := blk_frozen BK8.out 0))
  cases b with
  | false =>
    rw [if_neg (by decide)] at h
    obtain ⟨rfl, rfl⟩ : l0 = r1 ∧ 1 = r2 := by injection h with h; injection h with h1 h2; exact ⟨h1, h2⟩
    clear h
    go_wp2
    refine bodyPost_ret (results_ct rfl _ _ gb6 29 #[.slice A1 l0.length c1] (0, 0) _ rfl (blk_put (cs := #[.slice none 0 0]) BK6.out 0 _ rfl) Try.underlying29 rfl (by kernel_rfl)) rfl ?_
    exact ⟨_, rfl, Kd.R_mono (Kd.R_far (p := ⟨gb6, 0, none⟩) (Kd.R_types HO.out BK6.out (by decide)) (fun _ hk => hk.2) _) (fun _ _ => trivial), below_set HB.out G6.out⟩
  | true =>
    rw [if_pos rfl] at h
    obtain ⟨⟨I, y2⟩, hy, h⟩ := Option.bind_eq_some_iff.1 h
    have HAC := Aside0.mk hy
    clear hy
    go_upto_if 25 with (first | ((with_reducible refine gate_callee (f := 57) rfl ?_); refine goesL_ (some 21) rfl rfl Try.func57 (by kernel_rfl) rfl #[.agg #[.slice A0 l0.length c0], .int .u64 a1] rfl u6_20 ?_; (with_reducible refine (impl_accountOf.calls k _ _ l0 a1 _ _ _ ?side1 ?side2 HAC.out).mono ?_); (case side1 => exact Kd.C_below HR.out HB.out); (case side2 => exact HC.out); rintro e w10 ⟨rfl, hb⟩; refine ⟨_, rfl, ?_⟩; have n0_ := Aside0.mk (Kd.R_below HO.out hb); have n1_ := Aside0.mk (below_step HB.out hb); have m3_ := Aside0.mk (blk_below (g := gb3) (o := .cells #[.slice A0 l0.length c0] 29 (0, 0)) BK3.out hb); have m6_ := Aside0.mk (blk_below (g := gb6) (o := .cells #[.slice none 0 0] 29 (0, 0)) BK6.out hb); have m8_ := Aside0.mk (blk_below (g := gb8) (o := .cells #[.slice A1 l0.length c1] 29 (0, 0)) BK8.out hb); clear HO HB BK3 BK6 BK8; have HO := n0_; have HB := n1_; have BK3 := m3_; have BK6 := m6_; have BK8 := m8_; clear n0_ n1_ m3_ m6_ m8_; clear hb; (try clear c3_ f3_); have c3_ : w10.cell? ⟨gb3, 0, none⟩ = some (.slice A0 l0.length c0) := (blk_cell BK3.out 0).trans rfl; have f3_ := blk_frozen BK3.out 0; (try clear c6_ f6_); have c6_ : w10.cell? ⟨gb6, 0, none⟩ = some (.slice none 0 0) := (blk_cell BK6.out 0).trans rfl; have f6_ := blk_frozen BK6.out 0; (try clear c8_ f8_); have c8_ : w10.cell? ⟨gb8, 0, none⟩ = some (.slice A1 l0.length c1) := (blk_cell BK8.out 0).trans rfl; have f8_ := blk_frozen BK8.out 0))
    cases y2 with
    | false =>
      rw [if_neg (by simp)] at h
      obtain ⟨rfl, rfl⟩ : l0 = r1 ∧ 2 = r2 := by injection h with h; injection h with h1 h2; exact ⟨h1, h2⟩
      clear h
      go_wp2
      refine bodyPost_ret (results_ct rfl _ _ gb6 29 #[.slice A1 l0.length c1] (0, 0) _ rfl (blk_put (cs := #[.slice none 0 0]) BK6.out 0 _ rfl) Try.underlying29 rfl (by kernel_rfl)) rfl ?_
      exact ⟨_, rfl, Kd.R_mono (Kd.R_far (p := ⟨gb6, 0, none⟩) (Kd.R_types HO.out BK6.out (by decide)) (fun _ hk => hk.2) _) (fun _ _ => trivial), below_set HB.out G6.out⟩
    | true =>
      rw [if_pos rfl] at h
      by_cases hI : 0 ≤ I ∧ I < (l0.length : Int)
      rotate_left
      · rw [if_neg hI] at h; cases h
      rw [if_pos hI] at h
      obtain ⟨i, rfl⟩ := Int.eq_ofNat_of_zero_le hI.1
      have hi : i < l0.length := by omega
      have p1 := eq_true (show 0 ≤ (i : Int) from hI.1)
      have p2 := eq_true (show (i : Int) < (l0.length : Int) from hI.2)
      have p3 : (i : Int).toNat = i := Int.toNat_natCast i
      rw [p3] at h
      obtain ⟨Y, hY⟩ : ∃ Y, Y = impl_Withdraw.g a2 (l0.getD i z53) := ⟨_, rfl⟩
      rw [← hY] at h
      have HLIT : Aside0 (∀ (g1 c1 : Nat) (W : World), w.heap.size ≤ g1 → Below w.heap.size w W → Kd.R k53 53 W w.heap.size (fun k => k = g1) (.slice (some ⟨g1, 0, none⟩) l0.length c1) l0 →
          Calls Try.prog 65 #[.pointer (some ⟨g1, i * 5, none⟩), .pointer (some ⟨b2, 0, none⟩)] W fun e w' => e = .returned (.int .i64 Y.2) ∧ Kd.R k53 53 w' w.heap.size (fun k => k = g1) (.slice (some ⟨g1, 0, none⟩) l0.length c1) (l0.set i Y.1) ∧ Below w.heap.size w w' ∧ Kept W w' (fun k => k = g1)) := ⟨fun g1 c1 W hg hB ho => by
        obtain p2 := hcap.out
        rw [hY]
        exact impl_Withdraw.lit g1 l0.length c1 i l0 (fun k => k = g1) a2 b2 w W hB ho hi ((hB.cell (World.block_lt_of_cell? w _ p2)).trans p2) (Nat.ne_of_lt (Nat.lt_of_lt_of_le (World.block_lt_of_cell? w _ p2) hg))⟩
      clear hY hI
      have HI := Aside0.mk hi
      clear hi
      obtain ⟨g1, c1, ev1, hg1, _, _, _⟩ := Kd.R_form HO.out (by have := HI.out; omega)
      cases ev1
      have HG1 := Aside0.mk hg1
      clear hg1
      go_upto_if 34 with (first | (go_at_call 65; refine (HLIT.out g1 c1 _ HG1.out HB.out (impl_Withdraw.own HO.out)).mono ?_; rintro e w11 ⟨rfl, ho, hb, hk⟩; have NG3 : gb3 ≠ g1 := fun e => Kd.R_ne HO.out BK3.out (by decide) (by rw [e]; rfl); have NG6 : gb6 ≠ g1 := fun e => Kd.R_ne HO.out BK6.out (by decide) (by rw [e]; rfl); have NG8 : gb8 ≠ g1 := fun e => Kd.R_ne HO.out BK8.out (by decide) (by rw [e]; rfl); have m3_ := Aside0.mk (blk_kept BK3.out hk NG3); have m6_ := Aside0.mk (blk_kept BK6.out hk NG6); have m8_ := Aside0.mk (blk_kept BK8.out hk NG8); clear HB BK3 BK6 BK8 HO; have HB := Aside0.mk hb; have BK3 := m3_; have BK6 := m6_; have BK8 := m8_; clear m3_ m6_ m8_ hb hk; have HO := Aside0.mk ho; have x4_ : w11.cell? ⟨g1, i * 5 + 4, none⟩ = some (.int .i64 Y.1.f4) := (by obtain ⟨_, _, _, _, _, cur1, hb1, _, _⟩ := impl_Withdraw.flat.blockG ho; exact (blk_cell hb1 _).trans ((Go.Proofs.Ytdbfjakhkclggaa.Slc.flat_elem impl_Withdraw.flat ho hb1 (by rw [List.length_set]; exact HI.out) z53 4 (show 4 < 5 by omega)).trans (by rw [List.getD_eq_getElem?_getD, List.getElem?_set_self HI.out]; first | done | rfl))); clear ho; (try clear c3_ f3_); have c3_ : w11.cell? ⟨gb3, 0, none⟩ = some (.slice A0 l0.length c0) := (blk_cell BK3.out 0).trans rfl; have f3_ := blk_frozen BK3.out 0; (try clear c6_ f6_); have c6_ : w11.cell? ⟨gb6, 0, none⟩ = some (.slice none 0 0) := (blk_cell BK6.out 0).trans rfl; have f6_ := blk_frozen BK6.out 0; (try clear c8_ f8_); have c8_ : w11.cell? ⟨gb8, 0, none⟩ = some (.slice (some ⟨g1, 0, none⟩) l0.length c1) := (blk_cell BK8.out 0).trans rfl; have f8_ := blk_frozen BK8.out 0))
      by_cases hz : Y.2 = 0
      rotate_left
      · rw [if_neg hz] at h
        obtain ⟨rfl, rfl⟩ : l0 = r1 ∧ Y.2 = r2 := by injection h with h; injection h with h1 h2; exact ⟨h1, h2⟩
        clear h
        have hz' : (Y.2 != 0) = true := by simpa using hz
        clear hz p3
        (first | rw [hz'] | skip)
        go_wp2_with (first | ((with_reducible refine gate_callee (f := 56) rfl ?_); refine goesL_ (some 36) rfl rfl Try.func56 (by kernel_rfl) rfl #[.agg #[.slice A0 l0.length c0]] rfl u6_20 ?_; (with_reducible refine (impl_copyBook.calls _ _ l0 l0 _ ?side1 ?side2 HCOPY.out).mono ?_); (case side1 => exact Kd.C_below HR.out HB.out); (case side2 => exact HC.out); rintro e w12 ⟨v12, rfl, ho0, hb⟩; refine ⟨_, rfl, ?_⟩; have HO2 := Aside0.mk (Kd.R_lower ho0 HB.out.size); obtain ⟨A2, c2, ev2⟩ := Kd.R_slice HO2.out; subst ev2; have n1_ := Aside0.mk (below_step HB.out hb); have m3_ := Aside0.mk (blk_below (g := gb3) (o := .cells #[.slice A0 l0.length c0] 29 (0, 0)) BK3.out hb); have m6_ := Aside0.mk (blk_below (g := gb6) (o := .cells #[.slice none 0 0] 29 (0, 0)) BK6.out hb); have m8_ := Aside0.mk (blk_below (g := gb8) (o := .cells #[.slice (some ⟨g1, 0, none⟩) l0.length c1] 29 (0, 0)) BK8.out hb); clear HB BK3 BK6 BK8; have HB := n1_; have BK3 := m3_; have BK6 := m6_; have BK8 := m8_; clear n1_ m3_ m6_ m8_; clear hb ho0; (try clear c3_ f3_); have c3_ : w12.cell? ⟨gb3, 0, none⟩ = some (.slice A0 l0.length c0) := (blk_cell BK3.out 0).trans rfl; have f3_ := blk_frozen BK3.out 0; (try clear c6_ f6_); have c6_ : w12.cell? ⟨gb6, 0, none⟩ = some (.slice none 0 0) := (blk_cell BK6.out 0).trans rfl; have f6_ := blk_frozen BK6.out 0; (try clear c8_ f8_); have c8_ : w12.cell? ⟨gb8, 0, none⟩ = some (.slice (some ⟨g1, 0, none⟩) l0.length c1) := (blk_cell BK8.out 0).trans rfl; have f8_ := blk_frozen BK8.out 0))
        refine bodyPost_ret (results_ct rfl _ _ gb6 29 #[.slice A2 l0.length c2] (0, 0) _ rfl (blk_put (cs := #[.slice none 0 0]) BK6.out 0 _ rfl) Try.underlying29 rfl (by kernel_rfl)) rfl ?_
        exact ⟨_, rfl, Kd.R_mono (Kd.R_far (p := ⟨gb6, 0, none⟩) (Kd.R_types HO2.out BK6.out (by decide)) (fun _ hk => hk.2) _) (fun _ _ => trivial), below_set HB.out G6.out⟩
      rw [if_pos hz] at h
      have hz' : (Y.2 != 0) = false := by simpa using hz
      clear hz
      (first | rw [hz'] | skip)
      by_cases hf : Y.1.f4 = -1
      rotate_left
      · rw [if_neg hf] at h
        obtain ⟨rfl, rfl⟩ : l0.set i Y.1 = r1 ∧ 0 = r2 := by injection h with h; injection h with h1 h2; exact ⟨h1, h2⟩
        clear h
        have hf' : (Y.1.f4 == -1) = false := by simpa using hf
        clear hf p3
        go_wp2
        refine bodyPost_ret (results_ct rfl _ _ gb6 29 #[.slice (some ⟨g1, 0, none⟩) l0.length c1] (0, 0) _ rfl (blk_put (cs := #[.slice none 0 0]) BK6.out 0 _ rfl) Try.underlying29 rfl (by kernel_rfl)) rfl ?_
        exact ⟨_, rfl, Kd.R_mono (Kd.R_far (p := ⟨gb6, 0, none⟩) (Kd.R_types HO.out BK6.out (by decide)) (fun _ hk => hk.2) _) (fun _ _ => trivial), below_set HB.out G6.out⟩
      rw [if_pos hf] at h
      obtain ⟨rfl, rfl⟩ : (l0.set i Y.1).eraseIdx i = r1 ∧ 0 = r2 := by injection h with h; injection h with h1 h2; exact ⟨h1, h2⟩
      clear h
      have hf' : (Y.1.f4 == -1) = true := by simpa using hf
      have hdel : impl_Account.f (l0.set i Y.1) (i : Int) ((i : Int) + 1) = some ((l0.set i Y.1).eraseIdx i) := by
        unfold impl_Account.f
        rw [if_pos ⟨of_eq_true p1, rfl, by rw [List.length_set]; exact of_eq_true p2⟩, p3]
      have HDEL := Aside0.mk hdel
      clear hdel hf p3
      have hw1 : IntKind.i64.wrap ((i : Int) + 1) = (i : Int) + 1 := by have := HLT.out; have := HI.out; rw [IntKind.wrap_i64]; omega
      go_wp2_with (first | ((with_reducible refine gate_callee (f := 78) rfl ?_); refine goesL_ (some 50) rfl rfl Try.func78 (by kernel_rfl) rfl #[.slice (some ⟨g1, 0, none⟩) l0.length c1, .int .i64 (i : Int), .int .i64 ((i : Int) + 1)] rfl u6_20 ?_; (with_reducible refine (impl_Account.calls (fun k => k = g1) _ (l0.set i Y.1) _ _ _ w _ HB.out HO.out HDEL.out).mono ?_); rintro e w12 ⟨v12, rfl, ho0, hb, hk⟩; refine ⟨_, rfl, ?_⟩; have NG3 : gb3 ≠ g1 := fun e => Kd.R_ne HO.out BK3.out (by decide) (by rw [e]; rfl); have NG6 : gb6 ≠ g1 := fun e => Kd.R_ne HO.out BK6.out (by decide) (by rw [e]; rfl); have NG8 : gb8 ≠ g1 := fun e => Kd.R_ne HO.out BK8.out (by decide) (by rw [e]; rfl); have m3_ := Aside0.mk (blk_kept BK3.out hk NG3); have m6_ := Aside0.mk (blk_kept BK6.out hk NG6); have m8_ := Aside0.mk (blk_kept BK8.out hk NG8); clear HB BK3 BK6 BK8 HO; have HB := Aside0.mk hb; have BK3 := m3_; have BK6 := m6_; have BK8 := m8_; clear m3_ m6_ m8_ hb hk; have HO2 := Aside0.mk ho0; clear ho0; obtain ⟨A2, c2, ev2⟩ := Kd.R_slice HO2.out; subst ev2; (try clear c3_ f3_); have c3_ : w12.cell? ⟨gb3, 0, none⟩ = some (.slice A0 l0.length c0) := (blk_cell BK3.out 0).trans rfl; have f3_ := blk_frozen BK3.out 0; (try clear c6_ f6_); have c6_ : w12.cell? ⟨gb6, 0, none⟩ = some (.slice none 0 0) := (blk_cell BK6.out 0).trans rfl; have f6_ := blk_frozen BK6.out 0; (try clear c8_ f8_); have c8_ : w12.cell? ⟨gb8, 0, none⟩ = some (.slice (some ⟨g1, 0, none⟩) l0.length c1) := (blk_cell BK8.out 0).trans rfl; have f8_ := blk_frozen BK8.out 0))
      refine bodyPost_ret (results_ct rfl _ _ gb6 29 #[.slice A2 ((l0.set i Y.1).eraseIdx i).length c2] (0, 0) _ rfl (blk_put (cs := #[.slice none 0 0]) (blk_far BK6.out N6_8 _) 0 _ rfl) Try.underlying29 rfl (by kernel_rfl)) rfl ?_
      exact ⟨_, rfl, Kd.R_mono (Kd.R_far (p := ⟨gb6, 0, none⟩) (Kd.R_far (p := ⟨gb8, 0, none⟩) (Kd.R_types (Kd.R_types HO2.out BK6.out (by decide)) BK8.out (by decide)) (fun _ hk => hk.2) _) (fun _ hk => hk.1.2) _) (fun _ _ => trivial), below_set (below_set HB.out G8.out) G6.out⟩
def impl_Withdraw.f (k : Nat) (l0 : List S53) (a1 : Int) (a2 : Int) : Option (List S53 × Int) := impl_Withdraw.cf k l0 a1 a2
theorem impl_Withdraw.mono : ∀ (l0 : List S53) (a1 : Int) (a2 : Int) (k : Nat), LeO (impl_Withdraw.f k l0 a1 a2) (impl_Withdraw.f (k + 1) l0 a1 a2) := fun l0 a1 a2 k => by
  unfold impl_Withdraw.f
  exact impl_Withdraw.cf_mono _ _ _ k
set_option maxHeartbeats 4000000 in
set_option maxRecDepth 100000 in
theorem impl_Withdraw.calls (k : Nat) (A0 : Option Addr) (c0 : Nat) (l0 : List S53) (a1 : Int) (a2 : Int) (r1 : List S53) (r2 : Int) (w : World) (hr0 : Kd.C k53 w A0 l0.length l0) (hc0 : l0.length ≤ c0) (h : impl_Withdraw.f k l0 a1 a2 = some (r1, r2)) :
    Calls Try.prog 37 #[.agg #[.slice A0 l0.length c0], .int .u64 a1, .int .u64 a2] w fun e w' => ∃ v0_ : Value, e = .returned (.tuple #[.agg #[v0_], .int .i64 r2]) ∧ Kd.R k53 53 w' w.heap.size (fun _ => True) v0_ r1 ∧ Below w.heap.size w w' := by
  have hu := Try.underlying29
  have HR := Aside0.mk hr0
  have HC := Aside0.mk hc0
  have HB := Aside0.mk (Below.refl w.heap.size w)
  clear hr0 hc0
  unfold impl_Withdraw.f at h
  have HF := Aside0.mk h
  clear h
  go_enter Try.func37, Try.ntmps37
  go_wp2_with (first | ((with_reducible refine gate_dst (N := 3) rfl ?_); refine box_event ?hg (N := 3) ?hd (cs := #[.slice A0 l0.length c0]) (t := 29) ?hr ?_; (case hd => rfl); (case hg => rfl); (case hr => first | (go_simp; done) | (go_simp; rfl)); intro gb3 hg w3 hbox hb; have n0_ := Aside0.mk (below_step u6_12 hb); have n1_ := Aside0.mk (show w.heap.size ≤ gb3 by rw [hg]; exact (below_size u6_12)); have n2_ := Aside0.mk hbox; clear HB; have HB := n0_; have G3 := n1_; have BK3 := n2_; clear n0_ n1_ n2_; clear hbox hg hb; (try clear c3_ f3_); have c3_ : w3.cell? ⟨gb3, 0, none⟩ = some (.slice A0 l0.length c0) := (blk_cell BK3.out 0).trans rfl; have f3_ := blk_frozen BK3.out 0) | ((with_reducible refine gate_dst (N := 5) rfl ?_); refine box_event ?hg (N := 5) ?hd (cs := #[.int .u64 a2]) (t := 33) ?hr ?_; (case hd => rfl); (case hg => rfl); (case hr => first | (go_simp; done) | (go_simp; rfl)); intro gb5 hg w5 hbox hb; have n0_ := Aside0.mk (below_step u6_12 hb); have n1_ := Aside0.mk (show w.heap.size ≤ gb5 by rw [hg]; exact (below_size u6_12)); have n2_ := Aside0.mk hbox; have m3_ := Aside0.mk (blk_below (g := gb3) (o := .cells #[.slice A0 l0.length c0] 29 (0, 0)) u6_15 hb); have N3_5 := (show gb3 ≠ gb5 by rw [hg]; exact Nat.ne_of_lt (blk_lt (g := gb3) (o := .cells #[.slice A0 l0.length c0] 29 (0, 0)) u6_15)); have N5_3 := (N3_5).symm; clear HB; have HB := n0_; have G5 := n1_; have BK5 := n2_; clear n0_ n1_ n2_; clear BK3; have BK3 := m3_; clear m3_; clear hbox hg hb; (try clear c3_ f3_); have c3_ : w5.cell? ⟨gb3, 0, none⟩ = some (.slice A0 l0.length c0) := (blk_cell BK3.out 0).trans rfl; have f3_ := blk_frozen BK3.out 0; (try clear c5_ f5_); have c5_ : w5.cell? ⟨gb5, 0, none⟩ = some (.int .u64 a2) := (blk_cell BK5.out 0).trans rfl; have f5_ := blk_frozen BK5.out 0) | ((with_reducible refine gate_dst (N := 6) rfl ?_); refine box_event ?hg (N := 6) ?hd (cs := #[.slice none 0 0]) (t := 29) ?hr ?_; (case hd => rfl); (case hg => rfl); (case hr => first | (go_simp; done) | (go_simp; rfl)); intro gb6 hg w6 hbox hb; have n0_ := Aside0.mk (below_step u6_12 hb); have n1_ := Aside0.mk (show w.heap.size ≤ gb6 by rw [hg]; exact (below_size u6_12)); have n2_ := Aside0.mk hbox; have m3_ := Aside0.mk (blk_below (g := gb3) (o := .cells #[.slice A0 l0.length c0] 29 (0, 0)) u6_15 hb); have N3_6 := (show gb3 ≠ gb6 by rw [hg]; exact Nat.ne_of_lt (blk_lt (g := gb3) (o := .cells #[.slice A0 l0.length c0] 29 (0, 0)) u6_15)); have N6_3 := (N3_6).symm; have m5_ := Aside0.mk (blk_below (g := gb5) (o := .cells #[.int .u64 a2] 33 (0, 0)) u6_33 hb); have N5_6 := (show gb5 ≠ gb6 by rw [hg]; exact Nat.ne_of_lt (blk_lt (g := gb5) (o := .cells #[.int .u64 a2] 33 (0, 0)) u6_33)); have N6_5 := (N5_6).symm; clear HB; have HB := n0_; have G6 := n1_; have BK6 := n2_; clear n0_ n1_ n2_; clear BK3; have BK3 := m3_; clear m3_; clear BK5; have BK5 := m5_; clear m5_; clear hbox hg hb; (try clear c3_ f3_); have c3_ : w6.cell? ⟨gb3, 0, none⟩ = some (.slice A0 l0.length c0) := (blk_cell BK3.out 0).trans rfl; have f3_ := blk_frozen BK3.out 0; (try clear c5_ f5_); have c5_ : w6.cell? ⟨gb5, 0, none⟩ = some (.int .u64 a2) := (blk_cell BK5.out 0).trans rfl; have f5_ := blk_frozen BK5.out 0; (try clear c6_ f6_); have c6_ : w6.cell? ⟨gb6, 0, none⟩ = some (.slice none 0 0) := (blk_cell BK6.out 0).trans rfl; have f6_ := blk_frozen BK6.out 0) | ((with_reducible refine gate_callee (f := 60) rfl ?_); refine goesL_ (some 11) rfl rfl Try.func60 (by kernel_rfl) rfl #[.agg #[.slice A0 l0.length c0], .int .u64 a1, .func (.func 65) #[] #[.pointer (some ⟨gb5, 0, none⟩)]] rfl u6_20 ?_; (with_reducible refine (impl_Withdraw.change k _ _ l0 a1 a2 gb5 _ _ _ ?side1 ?side2 c5_ HF.out).mono ?_); (case side1 => exact Kd.C_below HR.out HB.out); (case side2 => exact HC.out); rintro e w20 ⟨v20, rfl, ho0, hb⟩; refine ⟨_, rfl, ?_⟩; have HO := Aside0.mk (Kd.R_lower ho0 HB.out.size); obtain ⟨A1, c1, ev1⟩ := Kd.R_slice HO.out; subst ev1; have n1_ := Aside0.mk (below_step HB.out hb); have m_ := Aside0.mk (blk_below (g := gb6) (o := .cells #[.slice none 0 0] 29 (0, 0)) BK6.out hb); clear HB BK6; have HB := n1_; have BK6 := m_; clear n1_ m_; clear hb ho0; (try clear c6_ f6_); have c6_ : w20.cell? ⟨gb6, 0, none⟩ = some (.slice none 0 0) := (blk_cell BK6.out 0).trans rfl; have f6_ := blk_frozen BK6.out 0))
  refine bodyPost_ret (results_ct rfl _ _ gb6 29 #[.slice A1 r1.length c1] (0, 0) _ rfl (blk_put (cs := #[.slice none 0 0]) BK6.out 0 _ rfl) Try.underlying29 rfl (by kernel_rfl)) rfl ?_
  exact ⟨_, rfl, Kd.R_mono (Kd.R_far (p := ⟨gb6, 0, none⟩) (Kd.R_types HO.out BK6.out (by decide)) (fun _ hk => hk.2) _) (fun _ _ => trivial), below_set HB.out G6.out⟩


/-! ### laws_FnExactWithdraw: function 10 -/
def laws_FnExactWithdraw.f (k : Nat) (l0_0 : List (S77)) (a1 : Int) (a2 : Int) : Option (Bool) := (laws_szBook.f l0_0 1048576).bind fun t210 => (if t210 < 0 then (some true) else ((laws_toBook.f k l0_0).bind fun t211 => ((spec_Withdraw.f k t211 a1 a2).bind fun bt214 => ((laws_toBook.f k l0_0).bind fun t219 => ((impl_Withdraw.f k t219 a1 a2).bind fun bt223 => ((laws_eqBook.f k bt223.1 bt214.1).bind fun t228 => (if t228 = true then (if bt223.2 = bt214.2 then ((laws_toBook.f k l0_0).bind fun t229 => ((laws_eqBook.f k t219 t229).bind fun t232 => (if t232 = true then ((laws_markBook.f k t219 1).bind fun bt233 => (if bt233.1 < 0 then (some false) else ((laws_eqBook.f k bt223.1 bt214.1).bind fun t235 => (if t235 = true then ((laws_markBook.f k bt223.1 1).bind fun bt236 => ((laws_heldBook.f k bt236.2 1).bind fun t238 => (if t238 < 0 then (some false) else (if t238 = bt236.1 then ((laws_toBook.f k l0_0).bind fun t239 => ((impl_Withdraw.f k t239 a1 a2).bind fun bt242 => ((laws_eqBook.f k bt242.1 bt214.1).bind fun t247 => (if t247 = true then (if bt242.2 = bt214.2 then ((laws_heldBook.f k bt236.2 1).bind fun t248 => (if t248 < 0 then (some false) else (if t248 = bt236.1 then (some true) else (some false)))) else (some false)) else (some false))))) else (some false))))) else (some false))))) else (some false)))) else (some false)) else (some false))))))))
theorem laws_FnExactWithdraw.mono : ∀ a0 a1 a2 k, LeO (laws_FnExactWithdraw.f k a0 a1 a2) (laws_FnExactWithdraw.f (k + 1) a0 a1 a2) := by
  intro a0 a1 a2 k
  unfold laws_FnExactWithdraw.f
  repeat' first
      | (with_reducible exact impl_Withdraw.mono _ _ _ _)
      | (with_reducible exact laws_eqBook.mono _ _ _)
      | (with_reducible exact laws_heldBook.mono _ _ _)
      | (with_reducible exact laws_markBook.mono _ _ _)
      | (with_reducible exact laws_toBook.mono _ _)
      | (with_reducible exact spec_Withdraw.mono _ _ _ _)
      | (with_reducible exact LeO.refl _)
      | (with_reducible exact LeO.none _)
      | (with_reducible refine LeO.ite ?_ ?_)
      | (with_reducible refine LeO.bind ?_ (fun _ => ?_))
      | exact impl_Withdraw.mono _ _ _ _
      | exact laws_eqBook.mono _ _ _
      | exact laws_heldBook.mono _ _ _
      | exact laws_markBook.mono _ _ _
      | exact laws_toBook.mono _ _
      | exact spec_Withdraw.mono _ _ _ _
      | exact LeO.none _
      | refine LeO.ite ?_ ?_
      | refine LeO.bind ?_ (fun _ => ?_)
set_option maxHeartbeats 8000000 in
set_option maxRecDepth 100000 in
theorem laws_FnExactWithdraw.calls (k : Nat) (A0_0 : Option Addr) (c0_0 : Nat) (l0_0 : List (S77)) (a1 : Int) (a2 : Int) (r : Bool) (w : World) (hr0_0 : Kd.C k77 w A0_0 l0_0.length l0_0) (hc0_0 : l0_0.length ≤ c0_0) (h : laws_FnExactWithdraw.f k l0_0 a1 a2 = some r) (hr_ : Aside0 (r = true)) :
    Calls Try.prog 10 #[.agg #[.slice A0_0 l0_0.length c0_0], .int .u64 a1, .int .u64 a2] w fun e w' => e = .returned (.bool r) ∧ Below w.heap.size w w' := by
  have hu24 := Try.underlying24
  have hu29 := Try.underlying29
  have HR0_0 := Aside0.mk hr0_0
  have HC0_0 := Aside0.mk hc0_0
  clear hr0_0 hc0_0
  have HB := Aside0.mk (Below.refl w.heap.size w)
  have H : ((laws_szBook.f l0_0 1048576).bind fun t210 => (if t210 < 0 then (some true) else ((laws_toBook.f k l0_0).bind fun t211 => ((spec_Withdraw.f k t211 a1 a2).bind fun bt214 => ((laws_toBook.f k l0_0).bind fun t219 => ((impl_Withdraw.f k t219 a1 a2).bind fun bt223 => ((laws_eqBook.f k bt223.1 bt214.1).bind fun t228 => (if t228 = true then (if bt223.2 = bt214.2 then ((laws_toBook.f k l0_0).bind fun t229 => ((laws_eqBook.f k t219 t229).bind fun t232 => (if t232 = true then ((laws_markBook.f k t219 1).bind fun bt233 => (if bt233.1 < 0 then (some false) else ((laws_eqBook.f k bt223.1 bt214.1).bind fun t235 => (if t235 = true then ((laws_markBook.f k bt223.1 1).bind fun bt236 => ((laws_heldBook.f k bt236.2 1).bind fun t238 => (if t238 < 0 then (some false) else (if t238 = bt236.1 then ((laws_toBook.f k l0_0).bind fun t239 => ((impl_Withdraw.f k t239 a1 a2).bind fun bt242 => ((laws_eqBook.f k bt242.1 bt214.1).bind fun t247 => (if t247 = true then (if bt242.2 = bt214.2 then ((laws_heldBook.f k bt236.2 1).bind fun t248 => (if t248 < 0 then (some false) else (if t248 = bt236.1 then (some true) else (some false)))) else (some false)) else (some false))))) else (some false))))) else (some false))))) else (some false)))) else (some false)) else (some false))))))))) = some r := h
  clear h
  replace H := Option.bind_eq_some_iff.mp H
  obtain ⟨t210, A40, H⟩ := H
  replace H : (if t210 < 0 then (some true) else ((laws_toBook.f k l0_0).bind fun t211 => ((spec_Withdraw.f k t211 a1 a2).bind fun bt214 => ((laws_toBook.f k l0_0).bind fun t219 => ((impl_Withdraw.f k t219 a1 a2).bind fun bt223 => ((laws_eqBook.f k bt223.1 bt214.1).bind fun t228 => (if t228 = true then (if bt223.2 = bt214.2 then ((laws_toBook.f k l0_0).bind fun t229 => ((laws_eqBook.f k t219 t229).bind fun t232 => (if t232 = true then ((laws_markBook.f k t219 1).bind fun bt233 => (if bt233.1 < 0 then (some false) else ((laws_eqBook.f k bt223.1 bt214.1).bind fun t235 => (if t235 = true then ((laws_markBook.f k bt223.1 1).bind fun bt236 => ((laws_heldBook.f k bt236.2 1).bind fun t238 => (if t238 < 0 then (some false) else (if t238 = bt236.1 then ((laws_toBook.f k l0_0).bind fun t239 => ((impl_Withdraw.f k t239 a1 a2).bind fun bt242 => ((laws_eqBook.f k bt242.1 bt214.1).bind fun t247 => (if t247 = true then (if bt242.2 = bt214.2 then ((laws_heldBook.f k bt236.2 1).bind fun t248 => (if t248 < 0 then (some false) else (if t248 = bt236.1 then (some true) else (some false)))) else (some false)) else (some false))))) else (some false))))) else (some false))))) else (some false)))) else (some false)) else (some false)))))))) = some r := H
  have A4 := Aside0.mk A40
  clear A40
  have H9 := Aside0.mk H
  clear H
  go_enter Try.func10, Try.ntmps10
  go_upto_if 22 with (first | ((with_reducible refine gate_dst (N := 3) rfl ?_); refine box_event ?hg (N := 3) ?hd (cs := #[.slice A0_0 l0_0.length c0_0]) (t := 24) ?hr ?_; (case hd => rfl); (case hg => rfl); (case hr => first | (go_simp; done) | (go_simp; rfl)); intro gb209 hg w5 hbox hb; have n0_ := Aside0.mk (below_step u6_12 hb); have n1_ := Aside0.mk (hbox); have n2_ := Aside0.mk ((by rw [hg]; exact (below_size u6_12) : w.heap.size ≤ gb209)); have n3_ := Aside0.mk ((by rw [hg]; exact (below_size u6_12) : w.heap.size ≤ gb209)); clear HB; have HB := n0_; have BK209 := n1_; have GW209 := n2_; have GE209 := n3_; clear n0_ n1_ n2_ n3_; clear hb hbox hg; have hcz6_0 : w5.cell? ⟨gb209, 0, none⟩ = some (.slice A0_0 l0_0.length c0_0) := (blk_cell BK209.out 0).trans rfl; have hfz6_0 := blk_frozen BK209.out 0) | ((with_reducible refine gate_callee (f := 17) rfl ?_); refine goesL_ (some 20) rfl rfl Try.func17 (by kernel_rfl) rfl #[.agg #[.slice A0_0 l0_0.length c0_0], .int .i64 1048576] rfl u6_4 ?_; (with_reducible refine (laws_szBook.calls _ _ l0_0 1048576 t210 _ ?side1 ?side2 A4.out).mono ?_); (case side1 => exact u6_18); (case side2 => exact HC0_0.out); rintro e w7 ⟨rfl, hb⟩; refine ⟨_, rfl, ?_⟩; have n0_ := Aside0.mk (blk_below (g := gb209) (o := .cells #[.slice A0_0 l0_0.length c0_0] 24 (0, 0)) u6_1 hb); have n1_ := Aside0.mk (below_step u6_8 hb); clear BK209; clear HB; have BK209 := n0_; have HB := n1_; clear n0_ n1_; (try clear hb); (try clear hb2); (try clear hk); (try clear hi)))
  have H := H9.out
  clear H9
  by_cases c8 : t210 < 0
  · rw [if_pos c8] at H
    have c8b0 : decide (t210 < 0) = true := decide_eq_true c8
    clear c8
    (first | rw [c8b0] | (simp only [i64_w, i32_w]; rw [c8b0]) | skip)
    obtain rfl := Option.some.inj H
    go_wp2
    go_ret
    exact ⟨by first | rfl | (simp [errW_none, errW_some] <;> rfl) | (simp [*, errW_none, errW_some] <;> rfl), u6_8⟩
  rw [if_neg c8] at H
  have c8b0 : decide (t210 < 0) = false := decide_eq_false c8
  clear c8
  (first | rw [c8b0] | (simp only [i64_w, i32_w]; rw [c8b0]) | skip)
  replace H := Option.bind_eq_some_iff.mp H
  obtain ⟨t211, A90, H⟩ := H
  replace H : ((spec_Withdraw.f k t211 a1 a2).bind fun bt214 => ((laws_toBook.f k l0_0).bind fun t219 => ((impl_Withdraw.f k t219 a1 a2).bind fun bt223 => ((laws_eqBook.f k bt223.1 bt214.1).bind fun t228 => (if t228 = true then (if bt223.2 = bt214.2 then ((laws_toBook.f k l0_0).bind fun t229 => ((laws_eqBook.f k t219 t229).bind fun t232 => (if t232 = true then ((laws_markBook.f k t219 1).bind fun bt233 => (if bt233.1 < 0 then (some false) else ((laws_eqBook.f k bt223.1 bt214.1).bind fun t235 => (if t235 = true then ((laws_markBook.f k bt223.1 1).bind fun bt236 => ((laws_heldBook.f k bt236.2 1).bind fun t238 => (if t238 < 0 then (some false) else (if t238 = bt236.1 then ((laws_toBook.f k l0_0).bind fun t239 => ((impl_Withdraw.f k t239 a1 a2).bind fun bt242 => ((laws_eqBook.f k bt242.1 bt214.1).bind fun t247 => (if t247 = true then (if bt242.2 = bt214.2 then ((laws_heldBook.f k bt236.2 1).bind fun t248 => (if t248 < 0 then (some false) else (if t248 = bt236.1 then (some true) else (some false)))) else (some false)) else (some false))))) else (some false))))) else (some false))))) else (some false)))) else (some false)) else (some false)))))) = some r := H
  have A9 := Aside0.mk A90
  clear A90
  replace H := Option.bind_eq_some_iff.mp H
  obtain ⟨⟨t214, t217⟩, A100, H⟩ := H
  replace H : ((laws_toBook.f k l0_0).bind fun t219 => ((impl_Withdraw.f k t219 a1 a2).bind fun bt223 => ((laws_eqBook.f k bt223.1 t214).bind fun t228 => (if t228 = true then (if bt223.2 = t217 then ((laws_toBook.f k l0_0).bind fun t229 => ((laws_eqBook.f k t219 t229).bind fun t232 => (if t232 = true then ((laws_markBook.f k t219 1).bind fun bt233 => (if bt233.1 < 0 then (some false) else ((laws_eqBook.f k bt223.1 t214).bind fun t235 => (if t235 = true then ((laws_markBook.f k bt223.1 1).bind fun bt236 => ((laws_heldBook.f k bt236.2 1).bind fun t238 => (if t238 < 0 then (some false) else (if t238 = bt236.1 then ((laws_toBook.f k l0_0).bind fun t239 => ((impl_Withdraw.f k t239 a1 a2).bind fun bt242 => ((laws_eqBook.f k bt242.1 t214).bind fun t247 => (if t247 = true then (if bt242.2 = t217 then ((laws_heldBook.f k bt236.2 1).bind fun t248 => (if t248 < 0 then (some false) else (if t248 = bt236.1 then (some true) else (some false)))) else (some false)) else (some false))))) else (some false))))) else (some false))))) else (some false)))) else (some false)) else (some false))))) = some r := H
  have A10 := Aside0.mk A100
  clear A100
  replace H := Option.bind_eq_some_iff.mp H
  obtain ⟨t219, A110, H⟩ := H
  replace H : ((impl_Withdraw.f k t219 a1 a2).bind fun bt223 => ((laws_eqBook.f k bt223.1 t214).bind fun t228 => (if t228 = true then (if bt223.2 = t217 then ((laws_toBook.f k l0_0).bind fun t229 => ((laws_eqBook.f k t219 t229).bind fun t232 => (if t232 = true then ((laws_markBook.f k t219 1).bind fun bt233 => (if bt233.1 < 0 then (some false) else ((laws_eqBook.f k bt223.1 t214).bind fun t235 => (if t235 = true then ((laws_markBook.f k bt223.1 1).bind fun bt236 => ((laws_heldBook.f k bt236.2 1).bind fun t238 => (if t238 < 0 then (some false) else (if t238 = bt236.1 then ((laws_toBook.f k l0_0).bind fun t239 => ((impl_Withdraw.f k t239 a1 a2).bind fun bt242 => ((laws_eqBook.f k bt242.1 t214).bind fun t247 => (if t247 = true then (if bt242.2 = t217 then ((laws_heldBook.f k bt236.2 1).bind fun t248 => (if t248 < 0 then (some false) else (if t248 = bt236.1 then (some true) else (some false)))) else (some false)) else (some false))))) else (some false))))) else (some false))))) else (some false)))) else (some false)) else (some false)))) = some r := H
  have A11 := Aside0.mk A110
  clear A110
  replace H := Option.bind_eq_some_iff.mp H
  obtain ⟨⟨t223, t226⟩, A120, H⟩ := H
  replace H : ((laws_eqBook.f k t223 t214).bind fun t228 => (if t228 = true then (if t226 = t217 then ((laws_toBook.f k l0_0).bind fun t229 => ((laws_eqBook.f k t219 t229).bind fun t232 => (if t232 = true then ((laws_markBook.f k t219 1).bind fun bt233 => (if bt233.1 < 0 then (some false) else ((laws_eqBook.f k t223 t214).bind fun t235 => (if t235 = true then ((laws_markBook.f k t223 1).bind fun bt236 => ((laws_heldBook.f k bt236.2 1).bind fun t238 => (if t238 < 0 then (some false) else (if t238 = bt236.1 then ((laws_toBook.f k l0_0).bind fun t239 => ((impl_Withdraw.f k t239 a1 a2).bind fun bt242 => ((laws_eqBook.f k bt242.1 t214).bind fun t247 => (if t247 = true then (if bt242.2 = t217 then ((laws_heldBook.f k bt236.2 1).bind fun t248 => (if t248 < 0 then (some false) else (if t248 = bt236.1 then (some true) else (some false)))) else (some false)) else (some false))))) else (some false))))) else (some false))))) else (some false)))) else (some false)) else (some false))) = some r := H
  have A12 := Aside0.mk A120
  clear A120
  replace H := Option.bind_eq_some_iff.mp H
  obtain ⟨t228, A130, H⟩ := H
  replace H : (if t228 = true then (if t226 = t217 then ((laws_toBook.f k l0_0).bind fun t229 => ((laws_eqBook.f k t219 t229).bind fun t232 => (if t232 = true then ((laws_markBook.f k t219 1).bind fun bt233 => (if bt233.1 < 0 then (some false) else ((laws_eqBook.f k t223 t214).bind fun t235 => (if t235 = true then ((laws_markBook.f k t223 1).bind fun bt236 => ((laws_heldBook.f k bt236.2 1).bind fun t238 => (if t238 < 0 then (some false) else (if t238 = bt236.1 then ((laws_toBook.f k l0_0).bind fun t239 => ((impl_Withdraw.f k t239 a1 a2).bind fun bt242 => ((laws_eqBook.f k bt242.1 t214).bind fun t247 => (if t247 = true then (if bt242.2 = t217 then ((laws_heldBook.f k bt236.2 1).bind fun t248 => (if t248 < 0 then (some false) else (if t248 = bt236.1 then (some true) else (some false)))) else (some false)) else (some false))))) else (some false))))) else (some false))))) else (some false)))) else (some false)) else (some false)) = some r := H
  have A13 := Aside0.mk A130
  clear A130
  by_cases c14 : t228 = true
  rotate_left
  · replace c14 := Bool.eq_false_iff.mpr c14
    subst c14
    have H1 : (some false) = some r := by rw [if_neg (show ¬ (false = true) by decide)] at H; exact H
    clear H
    have H := H1
    clear H1
    exact absurd ((Option.some.inj H).trans hr_.out) (by decide)
  subst c14
  have H1 : (if t226 = t217 then ((laws_toBook.f k l0_0).bind fun t229 => ((laws_eqBook.f k t219 t229).bind fun t232 => (if t232 = true then ((laws_markBook.f k t219 1).bind fun bt233 => (if bt233.1 < 0 then (some false) else ((laws_eqBook.f k t223 t214).bind fun t235 => (if t235 = true then ((laws_markBook.f k t223 1).bind fun bt236 => ((laws_heldBook.f k bt236.2 1).bind fun t238 => (if t238 < 0 then (some false) else (if t238 = bt236.1 then ((laws_toBook.f k l0_0).bind fun t239 => ((impl_Withdraw.f k t239 a1 a2).bind fun bt242 => ((laws_eqBook.f k bt242.1 t214).bind fun t247 => (if t247 = true then (if bt242.2 = t217 then ((laws_heldBook.f k bt236.2 1).bind fun t248 => (if t248 < 0 then (some false) else (if t248 = bt236.1 then (some true) else (some false)))) else (some false)) else (some false))))) else (some false))))) else (some false))))) else (some false)))) else (some false)) = some r := by rw [if_pos rfl] at H; exact H
  clear H
  have H := H1
  clear H1
  by_cases c15 : t226 = t217
  rotate_left
  · rw [if_neg c15] at H
    have c15b0 : (t226 == t217) = false := beq_eq_false_iff_ne.mpr c15
    have c15b1 : (t226 != t217) = true := bne_iff_ne.mpr c15
    exact absurd ((Option.some.inj H).trans hr_.out) (by decide)
  rw [if_pos c15] at H
  have c15b0 : (t226 == t217) = true := beq_iff_eq.mpr c15
  have c15b1 : (t226 != t217) = false := bne_eq_false_iff_eq.mpr c15
  clear c15
  replace H := Option.bind_eq_some_iff.mp H
  obtain ⟨t229, A160, H⟩ := H
  replace H : ((laws_eqBook.f k t219 t229).bind fun t232 => (if t232 = true then ((laws_markBook.f k t219 1).bind fun bt233 => (if bt233.1 < 0 then (some false) else ((laws_eqBook.f k t223 t214).bind fun t235 => (if t235 = true then ((laws_markBook.f k t223 1).bind fun bt236 => ((laws_heldBook.f k bt236.2 1).bind fun t238 => (if t238 < 0 then (some false) else (if t238 = bt236.1 then ((laws_toBook.f k l0_0).bind fun t239 => ((impl_Withdraw.f k t239 a1 a2).bind fun bt242 => ((laws_eqBook.f k bt242.1 t214).bind fun t247 => (if t247 = true then (if bt242.2 = t217 then ((laws_heldBook.f k bt236.2 1).bind fun t248 => (if t248 < 0 then (some false) else (if t248 = bt236.1 then (some true) else (some false)))) else (some false)) else (some false))))) else (some false))))) else (some false))))) else (some false))) = some r := H
  have A16 := Aside0.mk A160
  clear A160
  replace H := Option.bind_eq_some_iff.mp H
  obtain ⟨t232, A170, H⟩ := H
  replace H : (if t232 = true then ((laws_markBook.f k t219 1).bind fun bt233 => (if bt233.1 < 0 then (some false) else ((laws_eqBook.f k t223 t214).bind fun t235 => (if t235 = true then ((laws_markBook.f k t223 1).bind fun bt236 => ((laws_heldBook.f k bt236.2 1).bind fun t238 => (if t238 < 0 then (some false) else (if t238 = bt236.1 then ((laws_toBook.f k l0_0).bind fun t239 => ((impl_Withdraw.f k t239 a1 a2).bind fun bt242 => ((laws_eqBook.f k bt242.1 t214).bind fun t247 => (if t247 = true then (if bt242.2 = t217 then ((laws_heldBook.f k bt236.2 1).bind fun t248 => (if t248 < 0 then (some false) else (if t248 = bt236.1 then (some true) else (some false)))) else (some false)) else (some false))))) else (some false))))) else (some false))))) else (some false)) = some r := H
  have A17 := Aside0.mk A170
  clear A170
  by_cases c18 : t232 = true
  rotate_left
  · replace c18 := Bool.eq_false_iff.mpr c18
    subst c18
    have H1 : (some false) = some r := by rw [if_neg (show ¬ (false = true) by decide)] at H; exact H
    clear H
    have H := H1
    clear H1
    exact absurd ((Option.some.inj H).trans hr_.out) (by decide)
  subst c18
  have H1 : ((laws_markBook.f k t219 1).bind fun bt233 => (if bt233.1 < 0 then (some false) else ((laws_eqBook.f k t223 t214).bind fun t235 => (if t235 = true then ((laws_markBook.f k t223 1).bind fun bt236 => ((laws_heldBook.f k bt236.2 1).bind fun t238 => (if t238 < 0 then (some false) else (if t238 = bt236.1 then ((laws_toBook.f k l0_0).bind fun t239 => ((impl_Withdraw.f k t239 a1 a2).bind fun bt242 => ((laws_eqBook.f k bt242.1 t214).bind fun t247 => (if t247 = true then (if bt242.2 = t217 then ((laws_heldBook.f k bt236.2 1).bind fun t248 => (if t248 < 0 then (some false) else (if t248 = bt236.1 then (some true) else (some false)))) else (some false)) else (some false))))) else (some false))))) else (some false))))) = some r := by rw [if_pos rfl] at H; exact H
  clear H
  have H := H1
  clear H1
  replace H := Option.bind_eq_some_iff.mp H
  obtain ⟨⟨t233, t234⟩, A190, H⟩ := H
  replace H : (if t233 < 0 then (some false) else ((laws_eqBook.f k t223 t214).bind fun t235 => (if t235 = true then ((laws_markBook.f k t223 1).bind fun bt236 => ((laws_heldBook.f k bt236.2 1).bind fun t238 => (if t238 < 0 then (some false) else (if t238 = bt236.1 then ((laws_toBook.f k l0_0).bind fun t239 => ((impl_Withdraw.f k t239 a1 a2).bind fun bt242 => ((laws_eqBook.f k bt242.1 t214).bind fun t247 => (if t247 = true then (if bt242.2 = t217 then ((laws_heldBook.f k bt236.2 1).bind fun t248 => (if t248 < 0 then (some false) else (if t248 = bt236.1 then (some true) else (some false)))) else (some false)) else (some false))))) else (some false))))) else (some false)))) = some r := H
  have A19 := Aside0.mk A190
  clear A190
  by_cases c20 : t233 < 0
  · rw [if_pos c20] at H
    have c20b0 : decide (t233 < 0) = true := decide_eq_true c20
    clear c20
    exact absurd ((Option.some.inj H).trans hr_.out) (by decide)
  rw [if_neg c20] at H
  have c20b0 : decide (t233 < 0) = false := decide_eq_false c20
  clear c20
  replace H := Option.bind_eq_some_iff.mp H
  obtain ⟨t235, A210, H⟩ := H
  replace H : (if t235 = true then ((laws_markBook.f k t223 1).bind fun bt236 => ((laws_heldBook.f k bt236.2 1).bind fun t238 => (if t238 < 0 then (some false) else (if t238 = bt236.1 then ((laws_toBook.f k l0_0).bind fun t239 => ((impl_Withdraw.f k t239 a1 a2).bind fun bt242 => ((laws_eqBook.f k bt242.1 t214).bind fun t247 => (if t247 = true then (if bt242.2 = t217 then ((laws_heldBook.f k bt236.2 1).bind fun t248 => (if t248 < 0 then (some false) else (if t248 = bt236.1 then (some true) else (some false)))) else (some false)) else (some false))))) else (some false))))) else (some false)) = some r := H
  have A21 := Aside0.mk A210
  clear A210
  by_cases c22 : t235 = true
  rotate_left
  · replace c22 := Bool.eq_false_iff.mpr c22
    subst c22
    have H1 : (some false) = some r := by rw [if_neg (show ¬ (false = true) by decide)] at H; exact H
    clear H
    have H := H1
    clear H1
    exact absurd ((Option.some.inj H).trans hr_.out) (by decide)
  subst c22
  have H1 : ((laws_markBook.f k t223 1).bind fun bt236 => ((laws_heldBook.f k bt236.2 1).bind fun t238 => (if t238 < 0 then (some false) else (if t238 = bt236.1 then ((laws_toBook.f k l0_0).bind fun t239 => ((impl_Withdraw.f k t239 a1 a2).bind fun bt242 => ((laws_eqBook.f k bt242.1 t214).bind fun t247 => (if t247 = true then (if bt242.2 = t217 then ((laws_heldBook.f k bt236.2 1).bind fun t248 => (if t248 < 0 then (some false) else (if t248 = bt236.1 then (some true) else (some false)))) else (some false)) else (some false))))) else (some false))))) = some r := by rw [if_pos rfl] at H; exact H
  clear H
  have H := H1
  clear H1
  replace H := Option.bind_eq_some_iff.mp H
  obtain ⟨⟨t236, t237⟩, A230, H⟩ := H
  replace H : ((laws_heldBook.f k t237 1).bind fun t238 => (if t238 < 0 then (some false) else (if t238 = t236 then ((laws_toBook.f k l0_0).bind fun t239 => ((impl_Withdraw.f k t239 a1 a2).bind fun bt242 => ((laws_eqBook.f k bt242.1 t214).bind fun t247 => (if t247 = true then (if bt242.2 = t217 then ((laws_heldBook.f k t237 1).bind fun t248 => (if t248 < 0 then (some false) else (if t248 = t236 then (some true) else (some false)))) else (some false)) else (some false))))) else (some false)))) = some r := H
  have A23 := Aside0.mk A230
  clear A230
  replace H := Option.bind_eq_some_iff.mp H
  obtain ⟨t238, A240, H⟩ := H
  replace H : (if t238 < 0 then (some false) else (if t238 = t236 then ((laws_toBook.f k l0_0).bind fun t239 => ((impl_Withdraw.f k t239 a1 a2).bind fun bt242 => ((laws_eqBook.f k bt242.1 t214).bind fun t247 => (if t247 = true then (if bt242.2 = t217 then ((laws_heldBook.f k t237 1).bind fun t248 => (if t248 < 0 then (some false) else (if t248 = t236 then (some true) else (some false)))) else (some false)) else (some false))))) else (some false))) = some r := H
  have A24 := Aside0.mk A240
  clear A240
  by_cases c25 : t238 < 0
  · rw [if_pos c25] at H
    have c25b0 : decide (t238 < 0) = true := decide_eq_true c25
    clear c25
    exact absurd ((Option.some.inj H).trans hr_.out) (by decide)
  rw [if_neg c25] at H
  have c25b0 : decide (t238 < 0) = false := decide_eq_false c25
  clear c25
  by_cases c26 : t238 = t236
  rotate_left
  · rw [if_neg c26] at H
    have c26b0 : (t238 == t236) = false := beq_eq_false_iff_ne.mpr c26
    have c26b1 : (t238 != t236) = true := bne_iff_ne.mpr c26
    exact absurd ((Option.some.inj H).trans hr_.out) (by decide)
  rw [if_pos c26] at H
  have c26b0 : (t238 == t236) = true := beq_iff_eq.mpr c26
  have c26b1 : (t238 != t236) = false := bne_eq_false_iff_eq.mpr c26
  clear c26
  replace H := Option.bind_eq_some_iff.mp H
  obtain ⟨t239, A270, H⟩ := H
  replace H : ((impl_Withdraw.f k t239 a1 a2).bind fun bt242 => ((laws_eqBook.f k bt242.1 t214).bind fun t247 => (if t247 = true then (if bt242.2 = t217 then ((laws_heldBook.f k t237 1).bind fun t248 => (if t248 < 0 then (some false) else (if t248 = t236 then (some true) else (some false)))) else (some false)) else (some false)))) = some r := H
  have A27 := Aside0.mk A270
  clear A270
  replace H := Option.bind_eq_some_iff.mp H
  obtain ⟨⟨t242, t245⟩, A280, H⟩ := H
  replace H : ((laws_eqBook.f k t242 t214).bind fun t247 => (if t247 = true then (if t245 = t217 then ((laws_heldBook.f k t237 1).bind fun t248 => (if t248 < 0 then (some false) else (if t248 = t236 then (some true) else (some false)))) else (some false)) else (some false))) = some r := H
  have A28 := Aside0.mk A280
  clear A280
  replace H := Option.bind_eq_some_iff.mp H
  obtain ⟨t247, A290, H⟩ := H
  replace H : (if t247 = true then (if t245 = t217 then ((laws_heldBook.f k t237 1).bind fun t248 => (if t248 < 0 then (some false) else (if t248 = t236 then (some true) else (some false)))) else (some false)) else (some false)) = some r := H
  have A29 := Aside0.mk A290
  clear A290
  by_cases c30 : t247 = true
  rotate_left
  · replace c30 := Bool.eq_false_iff.mpr c30
    subst c30
    have H1 : (some false) = some r := by rw [if_neg (show ¬ (false = true) by decide)] at H; exact H
    clear H
    have H := H1
    clear H1
    exact absurd ((Option.some.inj H).trans hr_.out) (by decide)
  subst c30
  have H1 : (if t245 = t217 then ((laws_heldBook.f k t237 1).bind fun t248 => (if t248 < 0 then (some false) else (if t248 = t236 then (some true) else (some false)))) else (some false)) = some r := by rw [if_pos rfl] at H; exact H
  clear H
  have H := H1
  clear H1
  by_cases c31 : t245 = t217
  rotate_left
  · rw [if_neg c31] at H
    have c31b0 : (t245 == t217) = false := beq_eq_false_iff_ne.mpr c31
    have c31b1 : (t245 != t217) = true := bne_iff_ne.mpr c31
    exact absurd ((Option.some.inj H).trans hr_.out) (by decide)
  rw [if_pos c31] at H
  have c31b0 : (t245 == t217) = true := beq_iff_eq.mpr c31
  have c31b1 : (t245 != t217) = false := bne_eq_false_iff_eq.mpr c31
  clear c31
  replace H := Option.bind_eq_some_iff.mp H
  obtain ⟨t248, A320, H⟩ := H
  replace H : (if t248 < 0 then (some false) else (if t248 = t236 then (some true) else (some false))) = some r := H
  have A32 := Aside0.mk A320
  clear A320
  by_cases c33 : t248 < 0
  · rw [if_pos c33] at H
    have c33b0 : decide (t248 < 0) = true := decide_eq_true c33
    clear c33
    exact absurd ((Option.some.inj H).trans hr_.out) (by decide)
  rw [if_neg c33] at H
  have c33b0 : decide (t248 < 0) = false := decide_eq_false c33
  clear c33
  by_cases c34 : t248 = t236
  rotate_left
  · rw [if_neg c34] at H
    have c34b0 : (t248 == t236) = false := beq_eq_false_iff_ne.mpr c34
    have c34b1 : (t248 != t236) = true := bne_iff_ne.mpr c34
    exact absurd ((Option.some.inj H).trans hr_.out) (by decide)
  rw [if_pos c34] at H
  have c34b0 : (t248 == t236) = true := beq_iff_eq.mpr c34
  have c34b1 : (t248 != t236) = false := bne_eq_false_iff_eq.mpr c34
  clear c34
  obtain rfl := Option.some.inj H
  have hcz35_0 : w7.cell? ⟨gb209, 0, none⟩ = some (.slice A0_0 l0_0.length c0_0) := (blk_cell BK209.out 0).trans rfl
  have hfz35_0 := blk_frozen BK209.out 0
  try go_wp2_with (first | ((with_reducible refine gate_callee (f := 19) rfl ?_); refine goesL_ (some 25) rfl rfl Try.func19 (by kernel_rfl) rfl #[.agg #[.slice A0_0 l0_0.length c0_0]] rfl u6_4 ?_; (with_reducible refine (laws_toBook.calls k _ _ l0_0 t211 _ ?side1 ?side2 A9.out).mono ?_); (case side1 => exact u6_18); (case side2 => exact HC0_0.out); rintro e w36 ⟨v212, rfl, ho0, hb⟩; refine ⟨_, rfl, ?_⟩; have n0_ := Aside0.mk (Kd.R_lower ho0 (below_size u6_8)); have n1_ := Aside0.mk (blk_below (g := gb209) (o := .cells #[.slice A0_0 l0_0.length c0_0] 24 (0, 0)) u6_1 hb); have n2_ := Aside0.mk (below_step u6_8 hb); clear BK209; clear HB; have HO213 := n0_; have BK209 := n1_; have HB := n2_; clear n0_ n1_ n2_; (try clear hb); (try clear hb2); (try clear hk); (try clear hi); (try clear ho0); obtain ⟨Ao37, co37, eo37⟩ := Kd.R_slice HO213.out; subst eo37) | ((with_reducible refine gate_callee (f := 36) rfl ?_); refine goesL_ (some 28) rfl rfl Try.func36 (by kernel_rfl) rfl #[.agg #[.slice Ao37 t211.length co37], .int .u64 a1, .int .u64 a2] rfl u6_4 ?_; (with_reducible refine (spec_Withdraw.calls k _ _ t211 a1 a2 t214 t217 _ ?side1 ?side2 A10.out).mono ?_); (case side1 => exact (by repeat (first | exact (Kd.R_reads' HO213.out).2.2 | (with_reducible refine Kd.C_alloc ?_ _) | (with_reducible refine Kd.C_drewN ?_ _) | (with_reducible refine Kd.C_drew ?_)))); (case side2 => exact (Kd.R_reads' HO213.out).2.1); rintro e w38 ⟨v215, rfl, ho0, hb⟩; refine ⟨_, rfl, ?_⟩; have n0_ := Aside0.mk (Kd.R_elder' u6_6 (Kd.R_base ho0) hb); have n1_ := Aside0.mk (Kd.R_lower (Kd.R_new' ho0 (Kd.R_lt u6_6)) (below_size u6_8)); have n2_ := Aside0.mk (blk_below (g := gb209) (o := .cells #[.slice A0_0 l0_0.length c0_0] 24 (0, 0)) u6_1 hb); have n3_ := Aside0.mk (below_step u6_8 hb); clear HO213; clear BK209; clear HB; have HO213 := n0_; have HO216 := n1_; have BK209 := n2_; have HB := n3_; clear n0_ n1_ n2_ n3_; (try clear hb); (try clear hb2); (try clear hk); (try clear hi); (try clear ho0)) | ((with_reducible refine gate_dst (N := 8) rfl ?_); refine box_event ?hg (N := 8) ?hd (cs := #[.slice none 0 0]) (t := 29) ?hr ?_; (case hd => rfl); (case hg => rfl); (case hr => first | (go_simp; done) | (go_simp; rfl)); intro gb218 hg w39 hbox hb; have n0_ := Aside0.mk (Kd.R_below u6_6 hb); have n1_ := Aside0.mk (Kd.R_below u6_7 hb); have n2_ := Aside0.mk (blk_below (g := gb209) (o := .cells #[.slice A0_0 l0_0.length c0_0] 24 (0, 0)) u6_1 hb); have n3_ := Aside0.mk (below_step u6_8 hb); have n4_ := Aside0.mk (hbox); have n5_ := Aside0.mk ((by rw [hg]; exact (below_size u6_8) : w.heap.size ≤ gb218)); have n6_ := Aside0.mk ((by rw [hg]; exact (below_size u6_8) : w.heap.size ≤ gb218)); have n7_ := Aside0.mk ((by rw [hg]; exact Nat.ne_of_lt (blk_lt (g := gb209) (o := .cells #[.slice A0_0 l0_0.length c0_0] 24 (0, 0)) u6_1) : gb209 ≠ gb218)); have n8_ := Aside0.mk ((by rw [hg]; exact Nat.ne_of_gt (blk_lt (g := gb209) (o := .cells #[.slice A0_0 l0_0.length c0_0] 24 (0, 0)) u6_1) : gb218 ≠ gb209)); clear HO213; clear HO216; clear BK209; clear HB; have HO213 := n0_; have HO216 := n1_; have BK209 := n2_; have HB := n3_; have BK218 := n4_; have GW218 := n5_; have GE218 := n6_; have NB209_218 := n7_; have NB218_209 := n8_; clear n0_ n1_ n2_ n3_ n4_ n5_ n6_ n7_ n8_; clear hb hbox hg; obtain ⟨Ao40, co40, eo40⟩ := Kd.R_slice HO216.out; subst eo40; have hnb41 := NB218_209.out; have hnc41 := NB209_218.out; have hcz42_0 : w39.cell? ⟨gb218, 0, none⟩ = some (.slice none 0 0) := (blk_cell BK218.out 0).trans rfl; have hfz42_0 := blk_frozen BK218.out 0; have hcz43_0 : w39.cell? ⟨gb209, 0, none⟩ = some (.slice A0_0 l0_0.length c0_0) := (blk_cell BK209.out 0).trans rfl; have hfz43_0 := blk_frozen BK209.out 0) | ((with_reducible refine gate_callee (f := 19) rfl ?_); refine goesL_ (some 32) rfl rfl Try.func19 (by kernel_rfl) rfl #[.agg #[.slice A0_0 l0_0.length c0_0]] rfl u6_4 ?_; (with_reducible refine (laws_toBook.calls k _ _ l0_0 t219 _ ?side1 ?side2 A11.out).mono ?_); (case side1 => exact (by exact Kd.C_below HR0_0.out u6_13)); (case side2 => exact HC0_0.out); rintro e w44 ⟨v220, rfl, ho0, hb⟩; refine ⟨_, rfl, ?_⟩; have n0_ := Aside0.mk (Kd.R_elder' u6_23 (Kd.R_base ho0) hb); have n1_ := Aside0.mk (Kd.R_elder' u6_24 (Kd.R_base ho0) hb); have n2_ := Aside0.mk (Kd.R_lower (Kd.R_new' (Kd.R_new' ho0 (Kd.R_lt u6_23)) (Kd.R_lt u6_24)) (below_size u6_13)); have n3_ := Aside0.mk (blk_below (g := gb209) (o := .cells #[.slice A0_0 l0_0.length c0_0] 24 (0, 0)) (by (with_reducible repeat (first | refine blk_drewN ?_ _ | refine blk_drew ?_ | refine blk_alloc ?_ _)); refine blk_far ?_ NB209_218.out _; (with_reducible repeat (first | refine blk_drewN ?_ _ | refine blk_drew ?_ | refine blk_alloc ?_ _)); exact BK209.out) hb); have n4_ := Aside0.mk (blk_below (g := gb218) (o := .cells #[.slice Ao40 t214.length co40] 29 (0, 0)) (by (with_reducible repeat (first | refine blk_drewN ?_ _ | refine blk_drew ?_ | refine blk_alloc ?_ _)); refine blk_put (cs := #[.slice none 0 0]) ?_ 0 _ rfl; (with_reducible repeat (first | refine blk_drewN ?_ _ | refine blk_drew ?_ | refine blk_alloc ?_ _)); exact BK218.out) hb); have n5_ := Aside0.mk (below_step u6_13 hb); clear HO213; clear HO216; clear BK209; clear BK218; clear HB; have HO213 := n0_; have HO216 := n1_; have HO221 := n2_; have BK209 := n3_; have BK218 := n4_; have HB := n5_; clear n0_ n1_ n2_ n3_ n4_ n5_; (try clear hb); (try clear hb2); (try clear hk); (try clear hi); (try clear ho0)) | ((with_reducible refine gate_dst (N := 10) rfl ?_); refine box_event ?hg (N := 10) ?hd (cs := #[.slice none 0 0]) (t := 29) ?hr ?_; (case hd => rfl); (case hg => rfl); (case hr => first | (go_simp; done) | (go_simp; rfl)); intro gb222 hg w45 hbox hb; have n0_ := Aside0.mk (Kd.R_below u6_6 hb); have n1_ := Aside0.mk (Kd.R_below u6_7 hb); have n2_ := Aside0.mk (Kd.R_below u6_10 hb); have n3_ := Aside0.mk (blk_below (g := gb209) (o := .cells #[.slice A0_0 l0_0.length c0_0] 24 (0, 0)) u6_1 hb); have n4_ := Aside0.mk (blk_below (g := gb218) (o := .cells #[.slice Ao40 t214.length co40] 29 (0, 0)) u6_2 hb); have n5_ := Aside0.mk (below_step u6_13 hb); have n6_ := Aside0.mk (hbox); have n7_ := Aside0.mk ((by rw [hg]; exact (below_size u6_13) : w.heap.size ≤ gb222)); have n8_ := Aside0.mk ((by rw [hg]; exact (below_size u6_13) : w.heap.size ≤ gb222)); have n9_ := Aside0.mk ((by rw [hg]; exact Nat.ne_of_lt (blk_lt (g := gb209) (o := .cells #[.slice A0_0 l0_0.length c0_0] 24 (0, 0)) u6_1) : gb209 ≠ gb222)); have n10_ := Aside0.mk ((by rw [hg]; exact Nat.ne_of_gt (blk_lt (g := gb209) (o := .cells #[.slice A0_0 l0_0.length c0_0] 24 (0, 0)) u6_1) : gb222 ≠ gb209)); have n11_ := Aside0.mk ((by rw [hg]; exact Nat.ne_of_lt (blk_lt (g := gb218) (o := .cells #[.slice Ao40 t214.length co40] 29 (0, 0)) u6_2) : gb218 ≠ gb222)); have n12_ := Aside0.mk ((by rw [hg]; exact Nat.ne_of_gt (blk_lt (g := gb218) (o := .cells #[.slice Ao40 t214.length co40] 29 (0, 0)) u6_2) : gb222 ≠ gb218)); clear HO213; clear HO216; clear HO221; clear BK209; clear BK218; clear HB; have HO213 := n0_; have HO216 := n1_; have HO221 := n2_; have BK209 := n3_; have BK218 := n4_; have HB := n5_; have BK222 := n6_; have GW222 := n7_; have GE222 := n8_; have NB209_222 := n9_; have NB222_209 := n10_; have NB218_222 := n11_; have NB222_218 := n12_; clear n0_ n1_ n2_ n3_ n4_ n5_ n6_ n7_ n8_ n9_ n10_ n11_ n12_; clear hb hbox hg; obtain ⟨Ao46, co46, eo46⟩ := Kd.R_slice HO221.out; subst eo46; have hnb47 := NB222_209.out; have hnc47 := NB209_222.out; have hnb48 := NB222_218.out; have hnc48 := NB218_222.out; have hcz49_0 : w45.cell? ⟨gb222, 0, none⟩ = some (.slice none 0 0) := (blk_cell BK222.out 0).trans rfl; have hfz49_0 := blk_frozen BK222.out 0) | ((with_reducible refine gate_callee (f := 37) rfl ?_); refine goesL_ (some 37) rfl rfl Try.func37 (by kernel_rfl) rfl #[.agg #[.slice Ao46 t219.length co46], .int .u64 a1, .int .u64 a2] rfl u6_4 ?_; (with_reducible refine (impl_Withdraw.calls k _ _ t219 a1 a2 t223 t226 _ ?side1 ?side2 A12.out).mono ?_); (case side1 => exact (by refine (Kd.R_reads' (e := 53) (base := w.heap.size) (ok := fun k_ => ((True ∧ some k_ ≠ (.slice Ao37 t211.length co37 : Value).ownBlock) ∧ some k_ ≠ (.slice Ao40 t214.length co40 : Value).ownBlock)) (n := t219.length) (c := co46) ?_).2.2; exact u6_19)); (case side2 => exact (Kd.R_reads' HO221.out).2.1); rintro e w50 ⟨v224, rfl, ho0, hb⟩; refine ⟨_, rfl, ?_⟩; have n0_ := Aside0.mk (Kd.R_elder' u6_25 (Kd.R_base ho0) hb); have n1_ := Aside0.mk (Kd.R_elder' u6_26 (Kd.R_base ho0) hb); have n2_ := Aside0.mk (Kd.R_elder' u6_19 (Kd.R_base ho0) hb); have n3_ := Aside0.mk (Kd.R_lower (Kd.R_new' (Kd.R_new' (Kd.R_new' ho0 (Kd.R_lt u6_25)) (Kd.R_lt u6_26)) (Kd.R_lt u6_19)) (below_size u6_14)); have n4_ := Aside0.mk (blk_below (g := gb209) (o := .cells #[.slice A0_0 l0_0.length c0_0] 24 (0, 0)) (by (with_reducible repeat (first | refine blk_drewN ?_ _ | refine blk_drew ?_ | refine blk_alloc ?_ _)); refine blk_far ?_ NB209_222.out _; (with_reducible repeat (first | refine blk_drewN ?_ _ | refine blk_drew ?_ | refine blk_alloc ?_ _)); exact BK209.out) hb); have n5_ := Aside0.mk (blk_below (g := gb218) (o := .cells #[.slice Ao40 t214.length co40] 29 (0, 0)) (by (with_reducible repeat (first | refine blk_drewN ?_ _ | refine blk_drew ?_ | refine blk_alloc ?_ _)); refine blk_far ?_ NB218_222.out _; (with_reducible repeat (first | refine blk_drewN ?_ _ | refine blk_drew ?_ | refine blk_alloc ?_ _)); exact BK218.out) hb); have n6_ := Aside0.mk (blk_below (g := gb222) (o := .cells #[.slice Ao46 t219.length co46] 29 (0, 0)) (by (with_reducible repeat (first | refine blk_drewN ?_ _ | refine blk_drew ?_ | refine blk_alloc ?_ _)); refine blk_put (cs := #[.slice none 0 0]) ?_ 0 _ rfl; (with_reducible repeat (first | refine blk_drewN ?_ _ | refine blk_drew ?_ | refine blk_alloc ?_ _)); exact BK222.out) hb); have n7_ := Aside0.mk (below_step u6_14 hb); clear HO213; clear HO216; clear HO221; clear BK209; clear BK218; clear BK222; clear HB; have HO213 := n0_; have HO216 := n1_; have HO221 := n2_; have HO225 := n3_; have BK209 := n4_; have BK218 := n5_; have BK222 := n6_; have HB := n7_; clear n0_ n1_ n2_ n3_ n4_ n5_ n6_ n7_; (try clear hb); (try clear hb2); (try clear hk); (try clear hi); (try clear ho0)) | ((with_reducible refine gate_dst (N := 11) rfl ?_); refine box_event ?hg (N := 11) ?hd (cs := #[.slice none 0 0]) (t := 29) ?hr ?_; (case hd => rfl); (case hg => rfl); (case hr => first | (go_simp; done) | (go_simp; rfl)); intro gb227 hg w51 hbox hb; have n0_ := Aside0.mk (Kd.R_below u6_6 hb); have n1_ := Aside0.mk (Kd.R_below u6_7 hb); have n2_ := Aside0.mk (Kd.R_below u6_10 hb); have n3_ := Aside0.mk (Kd.R_below u6_11 hb); have n4_ := Aside0.mk (blk_below (g := gb209) (o := .cells #[.slice A0_0 l0_0.length c0_0] 24 (0, 0)) u6_1 hb); have n5_ := Aside0.mk (blk_below (g := gb218) (o := .cells #[.slice Ao40 t214.length co40] 29 (0, 0)) u6_2 hb); have n6_ := Aside0.mk (blk_below (g := gb222) (o := .cells #[.slice Ao46 t219.length co46] 29 (0, 0)) u6_5 hb); have n7_ := Aside0.mk (below_step u6_14 hb); have n8_ := Aside0.mk (hbox); have n9_ := Aside0.mk ((by rw [hg]; exact (below_size u6_14) : w.heap.size ≤ gb227)); have n10_ := Aside0.mk ((by rw [hg]; exact (below_size u6_14) : w.heap.size ≤ gb227)); have n11_ := Aside0.mk ((by rw [hg]; exact Nat.ne_of_lt (blk_lt (g := gb209) (o := .cells #[.slice A0_0 l0_0.length c0_0] 24 (0, 0)) u6_1) : gb209 ≠ gb227)); have n12_ := Aside0.mk ((by rw [hg]; exact Nat.ne_of_gt (blk_lt (g := gb209) (o := .cells #[.slice A0_0 l0_0.length c0_0] 24 (0, 0)) u6_1) : gb227 ≠ gb209)); have n13_ := Aside0.mk ((by rw [hg]; exact Nat.ne_of_lt (blk_lt (g := gb218) (o := .cells #[.slice Ao40 t214.length co40] 29 (0, 0)) u6_2) : gb218 ≠ gb227)); have n14_ := Aside0.mk ((by rw [hg]; exact Nat.ne_of_gt (blk_lt (g := gb218) (o := .cells #[.slice Ao40 t214.length co40] 29 (0, 0)) u6_2) : gb227 ≠ gb218)); have n15_ := Aside0.mk ((by rw [hg]; exact Nat.ne_of_lt (blk_lt (g := gb222) (o := .cells #[.slice Ao46 t219.length co46] 29 (0, 0)) u6_5) : gb222 ≠ gb227)); have n16_ := Aside0.mk ((by rw [hg]; exact Nat.ne_of_gt (blk_lt (g := gb222) (o := .cells #[.slice Ao46 t219.length co46] 29 (0, 0)) u6_5) : gb227 ≠ gb222)); clear HO213; clear HO216; clear HO221; clear HO225; clear BK209; clear BK218; clear BK222; clear HB; have HO213 := n0_; have HO216 := n1_; have HO221 := n2_; have HO225 := n3_; have BK209 := n4_; have BK218 := n5_; have BK222 := n6_; have HB := n7_; have BK227 := n8_; have GW227 := n9_; have GE227 := n10_; have NB209_227 := n11_; have NB227_209 := n12_; have NB218_227 := n13_; have NB227_218 := n14_; have NB222_227 := n15_; have NB227_222 := n16_; clear n0_ n1_ n2_ n3_ n4_ n5_ n6_ n7_ n8_ n9_ n10_ n11_ n12_ n13_ n14_ n15_ n16_; clear hb hbox hg; obtain ⟨Ao52, co52, eo52⟩ := Kd.R_slice HO225.out; subst eo52; have hnb53 := NB227_209.out; have hnc53 := NB209_227.out; have hnb54 := NB227_218.out; have hnc54 := NB218_227.out; have hnb55 := NB227_222.out; have hnc55 := NB222_227.out; have hcz56_0 : w51.cell? ⟨gb227, 0, none⟩ = some (.slice none 0 0) := (blk_cell BK227.out 0).trans rfl; have hfz56_0 := blk_frozen BK227.out 0; have hcz57_0 : w51.cell? ⟨gb218, 0, none⟩ = some (.slice Ao40 t214.length co40) := (blk_cell BK218.out 0).trans rfl; have hfz57_0 := blk_frozen BK218.out 0) | ((with_reducible refine gate_callee (f := 21) rfl ?_); refine goesL_ (some 42) rfl rfl Try.func21 (by kernel_rfl) rfl #[.agg #[.slice Ao52 t223.length co52], .agg #[.slice Ao40 t214.length co40]] rfl u6_4 ?_; (with_reducible refine (laws_eqBook.calls k _ _ t223 _ _ t214 true _ ?side1 ?side2 ?side3 ?side4 A13.out).mono ?_); (case side1 => exact (by refine (Kd.R_reads' (e := 53) (base := w.heap.size) (ok := fun k_ => (((True ∧ some k_ ≠ (.slice Ao37 t211.length co37 : Value).ownBlock) ∧ some k_ ≠ (.slice Ao40 t214.length co40 : Value).ownBlock) ∧ some k_ ≠ (.slice Ao46 t219.length co46 : Value).ownBlock)) (n := t223.length) (c := co52) ?_).2.2; exact u6_27)); (case side2 => exact (Kd.R_reads' HO225.out).2.1); (case side3 => exact (by refine (Kd.R_reads' (e := 53) (base := w.heap.size) (ok := fun k_ => (((True ∧ some k_ ≠ (.slice Ao37 t211.length co37 : Value).ownBlock) ∧ some k_ ≠ (.slice Ao46 t219.length co46 : Value).ownBlock) ∧ some k_ ≠ (.slice Ao52 t223.length co52 : Value).ownBlock)) (n := t214.length) (c := co40) ?_).2.2; exact u6_28)); (case side4 => exact (Kd.R_reads' HO216.out).2.1); rintro e w58 ⟨rfl, hb⟩; refine ⟨_, rfl, ?_⟩; have n0_ := Aside0.mk (Kd.R_below (by (with_reducible repeat (first | apply Kd.R_alloc | apply Kd.R_drewN | apply Kd.R_drew)); exact (Kd.R_mono (Kd.R_far (p := ⟨gb227, 0, none⟩) (Kd.R_types HO213.out BK227.out (by decide)) (fun _ hk => hk.2) (.slice Ao52 t223.length co52)) (fun _ h_ => h_.1))) hb); have n1_ := Aside0.mk (Kd.R_below u6_28 hb); have n2_ := Aside0.mk (Kd.R_below (by (with_reducible repeat (first | apply Kd.R_alloc | apply Kd.R_drewN | apply Kd.R_drew)); exact (Kd.R_mono (Kd.R_far (p := ⟨gb227, 0, none⟩) (Kd.R_types HO221.out BK227.out (by decide)) (fun _ hk => hk.2) (.slice Ao52 t223.length co52)) (fun _ h_ => h_.1))) hb); have n3_ := Aside0.mk (Kd.R_below u6_27 hb); have n4_ := Aside0.mk (blk_below (g := gb209) (o := .cells #[.slice A0_0 l0_0.length c0_0] 24 (0, 0)) (by (with_reducible repeat (first | refine blk_drewN ?_ _ | refine blk_drew ?_ | refine blk_alloc ?_ _)); refine blk_far ?_ NB209_227.out _; (with_reducible repeat (first | refine blk_drewN ?_ _ | refine blk_drew ?_ | refine blk_alloc ?_ _)); exact BK209.out) hb); have n5_ := Aside0.mk (blk_below (g := gb218) (o := .cells #[.slice Ao40 t214.length co40] 29 (0, 0)) (by (with_reducible repeat (first | refine blk_drewN ?_ _ | refine blk_drew ?_ | refine blk_alloc ?_ _)); refine blk_far ?_ NB218_227.out _; (with_reducible repeat (first | refine blk_drewN ?_ _ | refine blk_drew ?_ | refine blk_alloc ?_ _)); exact BK218.out) hb); have n6_ := Aside0.mk (blk_below (g := gb222) (o := .cells #[.slice Ao46 t219.length co46] 29 (0, 0)) (by (with_reducible repeat (first | refine blk_drewN ?_ _ | refine blk_drew ?_ | refine blk_alloc ?_ _)); refine blk_far ?_ NB222_227.out _; (with_reducible repeat (first | refine blk_drewN ?_ _ | refine blk_drew ?_ | refine blk_alloc ?_ _)); exact BK222.out) hb); have n7_ := Aside0.mk (blk_below (g := gb227) (o := .cells #[.slice Ao52 t223.length co52] 29 (0, 0)) (by (with_reducible repeat (first | refine blk_drewN ?_ _ | refine blk_drew ?_ | refine blk_alloc ?_ _)); refine blk_put (cs := #[.slice none 0 0]) ?_ 0 _ rfl; (with_reducible repeat (first | refine blk_drewN ?_ _ | refine blk_drew ?_ | refine blk_alloc ?_ _)); exact BK227.out) hb); have n8_ := Aside0.mk (below_step u6_0 hb); clear HO213; clear HO216; clear HO221; clear HO225; clear BK209; clear BK218; clear BK222; clear BK227; clear HB; have HO213 := n0_; have HO216 := n1_; have HO221 := n2_; have HO225 := n3_; have BK209 := n4_; have BK218 := n5_; have BK222 := n6_; have BK227 := n7_; have HB := n8_; clear n0_ n1_ n2_ n3_ n4_ n5_ n6_ n7_ n8_; (try clear hb); (try clear hb2); (try clear hk); (try clear hi)))
  have n0_ := Aside0.mk (Kd.R_drew HO213.out)
  have n1_ := Aside0.mk (Kd.R_drew HO216.out)
  have n2_ := Aside0.mk (Kd.R_drew HO221.out)
  have n3_ := Aside0.mk (Kd.R_drew HO225.out)
  have n4_ := Aside0.mk (blk_drew BK209.out)
  have n5_ := Aside0.mk (blk_drew BK218.out)
  have n6_ := Aside0.mk (blk_drew BK222.out)
  have n7_ := Aside0.mk (blk_drew BK227.out)
  have n8_ := Aside0.mk (below_drew1 HB.out)
  clear HO213
  clear HO216
  clear HO221
  clear HO225
  clear BK209
  clear BK218
  clear BK222
  clear BK227
  clear HB
  have HO213 := n0_
  have HO216 := n1_
  have HO221 := n2_
  have HO225 := n3_
  have BK209 := n4_
  have BK218 := n5_
  have BK222 := n6_
  have BK227 := n7_
  have HB := n8_
  clear n0_ n1_ n2_ n3_ n4_ n5_ n6_ n7_ n8_
  refine start_ (n := 5) (S := fun w' => w'.cell? ⟨gb222, 0, none⟩ = some (.slice Ao46 t219.length co46) ∧ w'.cell? ⟨gb209, 0, none⟩ = some (.slice A0_0 l0_0.length c0_0)) (ds := []) #[false, false, false, false, false] (by kernel_rfl) rfl rfl ⟨(blk_cell BK222.out 0).trans rfl, (blk_cell BK209.out 0).trans rfl⟩ (fun hHeld => ?_)
  generalize w58.drew = w59 at HO213 HO216 HO221 HO225 BK209 BK218 BK222 BK227 HB hHeld ⊢
  refine take_ (i := 0) (N := some 49) (v := ?_) (a' := ?_) #[true, false, false, false, false] rfl rfl (by kernel_rfl) (fun _ _ _ h => h) (Or.inl ⟨by rfl, ?_⟩) hHeld ?_ ?_
  rotate_left
  · rintro w' ⟨s0, s1⟩
    go_simp
    with_reducible rfl
  rotate_left
  · simp only [Act.put, List.setIfInBounds_toArray, List.set_cons_zero, List.set_cons_succ, i64_w, i32_w]
    rfl
  refine take_ (i := 1) (N := some 50) (v := ?_) (a' := ?_) #[true, true, false, false, false] rfl rfl (by kernel_rfl) (fun _ _ _ h => h) (Or.inl ⟨by rfl, ?_⟩) hHeld ?_ ?_
  rotate_left
  · rintro w' ⟨s0, s1⟩
    go_simp
    with_reducible rfl
  rotate_left
  · simp only [Act.put, List.setIfInBounds_toArray, List.set_cons_zero, List.set_cons_succ, i64_w, i32_w]
    rfl
  refine one_ (i := 2) (N := some 51) #[true, true, true, false, false] rfl rfl (by kernel_rfl) (by decide) (fun K hK => ?_)
  refine goes_ Try.func19 (by kernel_rfl) rfl #[.agg #[.slice A0_0 l0_0.length c0_0]] (by rfl) rfl rfl u6_4 ?_
  with_reducible refine (laws_toBook.calls k _ _ l0_0 t229 _ ?side1 ?side2 A16.out).mono ?_
  (case side1 => exact u6_18)
  (case side2 => exact HC0_0.out)
  rintro e w60 ⟨v230, rfl, ho0, hb⟩
  refine ⟨_, rfl, ?_⟩
  have n0_ := Aside0.mk (Kd.R_elder' u6_6 (Kd.R_base ho0) hb)
  have n1_ := Aside0.mk (Kd.R_elder' u6_7 (Kd.R_base ho0) hb)
  have n2_ := Aside0.mk (Kd.R_elder' u6_10 (Kd.R_base ho0) hb)
  have n3_ := Aside0.mk (Kd.R_elder' u6_11 (Kd.R_base ho0) hb)
  have n4_ := Aside0.mk (Kd.R_lower (Kd.R_new' (Kd.R_new' (Kd.R_new' (Kd.R_new' ho0 (Kd.R_lt u6_6)) (Kd.R_lt u6_7)) (Kd.R_lt u6_10)) (Kd.R_lt u6_11)) (below_size u6_0))
  have n5_ := Aside0.mk (blk_below (g := gb209) (o := .cells #[.slice A0_0 l0_0.length c0_0] 24 (0, 0)) u6_1 hb)
  have n6_ := Aside0.mk (blk_below (g := gb218) (o := .cells #[.slice Ao40 t214.length co40] 29 (0, 0)) u6_2 hb)
  have n7_ := Aside0.mk (blk_below (g := gb222) (o := .cells #[.slice Ao46 t219.length co46] 29 (0, 0)) u6_5 hb)
  have n8_ := Aside0.mk (blk_below (g := gb227) (o := .cells #[.slice Ao52 t223.length co52] 29 (0, 0)) u6_9 hb)
  have n9_ := Aside0.mk (below_step u6_0 hb)
  clear HO213
  clear HO216
  clear HO221
  clear HO225
  clear BK209
  clear BK218
  clear BK222
  clear BK227
  clear HB
  have HO213 := n0_
  have HO216 := n1_
  have HO221 := n2_
  have HO225 := n3_
  have HO231 := n4_
  have BK209 := n5_
  have BK218 := n6_
  have BK222 := n7_
  have BK227 := n8_
  have HB := n9_
  clear n0_ n1_ n2_ n3_ n4_ n5_ n6_ n7_ n8_ n9_
  (try clear hb)
  (try clear hb2)
  (try clear hk)
  (try clear hi)
  (try clear ho0)
  obtain ⟨Ao61, co61, eo61⟩ := Kd.R_slice HO231.out
  (first | subst eo61 | (injection eo61 with f1_ f2_ f3_; have f4_ := f1_.symm; have f5_ := f3_.symm; clear f1_ f2_ f3_; subst f4_; subst f5_))
  refine hK.out _ _ ⟨(blk_cell BK222.out 0).trans rfl, (blk_cell BK209.out 0).trans rfl⟩ (fun hHeld => ?_)
  clear hK K
  refine norm_ (a' := ?_) ?_ ?_
  rotate_left
  · show Act.put _ (some 51) _ = _
    simp only [Act.put, List.setIfInBounds_toArray, List.set_cons_zero, List.set_cons_succ, i64_w, i32_w]
    rfl
  refine one_ (i := 3) (N := some 52) #[true, true, true, true, false] rfl rfl (by kernel_rfl) (by decide) (fun K hK => ?_)
  refine goes_ Try.func21 (by kernel_rfl) rfl #[.agg #[.slice Ao46 t219.length co46], .agg #[.slice Ao61 t229.length co61]] (by rfl) rfl rfl u6_4 ?_
  with_reducible refine (laws_eqBook.calls k _ _ t219 _ _ t229 true _ ?side1 ?side2 ?side3 ?side4 A17.out).mono ?_
  (case side1 => exact (by repeat (first | exact (Kd.R_reads' HO221.out).2.2 | (with_reducible refine Kd.C_alloc ?_ _) | (with_reducible refine Kd.C_drewN ?_ _) | (with_reducible refine Kd.C_drew ?_))))
  (case side2 => exact (Kd.R_reads' HO221.out).2.1)
  (case side3 => exact (by repeat (first | exact (Kd.R_reads' HO231.out).2.2 | (with_reducible refine Kd.C_alloc ?_ _) | (with_reducible refine Kd.C_drewN ?_ _) | (with_reducible refine Kd.C_drew ?_))))
  (case side4 => exact (Kd.R_reads' HO231.out).2.1)
  rintro e w62 ⟨rfl, hb⟩
  refine ⟨_, rfl, ?_⟩
  have n0_ := Aside0.mk (Kd.R_below u6_6 hb)
  have n1_ := Aside0.mk (Kd.R_below u6_7 hb)
  have n2_ := Aside0.mk (Kd.R_below u6_10 hb)
  have n3_ := Aside0.mk (Kd.R_below u6_11 hb)
  have n4_ := Aside0.mk (Kd.R_below u6_16 hb)
  have n5_ := Aside0.mk (blk_below (g := gb209) (o := .cells #[.slice A0_0 l0_0.length c0_0] 24 (0, 0)) u6_1 hb)
  have n6_ := Aside0.mk (blk_below (g := gb218) (o := .cells #[.slice Ao40 t214.length co40] 29 (0, 0)) u6_2 hb)
  have n7_ := Aside0.mk (blk_below (g := gb222) (o := .cells #[.slice Ao46 t219.length co46] 29 (0, 0)) u6_5 hb)
  have n8_ := Aside0.mk (blk_below (g := gb227) (o := .cells #[.slice Ao52 t223.length co52] 29 (0, 0)) u6_9 hb)
  have n9_ := Aside0.mk (below_step u6_0 hb)
  clear HO213
  clear HO216
  clear HO221
  clear HO225
  clear HO231
  clear BK209
  clear BK218
  clear BK222
  clear BK227
  clear HB
  have HO213 := n0_
  have HO216 := n1_
  have HO221 := n2_
  have HO225 := n3_
  have HO231 := n4_
  have BK209 := n5_
  have BK218 := n6_
  have BK222 := n7_
  have BK227 := n8_
  have HB := n9_
  clear n0_ n1_ n2_ n3_ n4_ n5_ n6_ n7_ n8_ n9_
  (try clear hb)
  (try clear hb2)
  (try clear hk)
  (try clear hi)
  refine hK.out _ _ ⟨(blk_cell BK222.out 0).trans rfl, (blk_cell BK209.out 0).trans rfl⟩ (fun hHeld => ?_)
  clear hK K
  refine norm_ (a' := ?_) ?_ ?_
  rotate_left
  · show Act.put _ (some 52) _ = _
    simp only [Act.put, List.setIfInBounds_toArray, List.set_cons_zero, List.set_cons_succ, i64_w, i32_w]
    rfl
  refine pure_ (i := 4) (N := some 53) (v := ?_) (a' := ?_) #[true, true, true, true, true] rfl rfl (by kernel_rfl) (fun _ _ _ h => h) (Or.inl ⟨by rfl, ?_⟩) ?_ ?_
  rotate_left
  · intro w'
    go_simp
    with_reducible rfl
  rotate_left
  · simp only [Act.put, List.setIfInBounds_toArray, List.set_cons_zero, List.set_cons_succ, i64_w, i32_w]
    rfl
  refine done_ (by kernel_rfl) ?_
  have hcz63_0 : w62.cell? ⟨gb222, 0, none⟩ = some (.slice Ao46 t219.length co46) := (blk_cell BK222.out 0).trans rfl
  have hfz63_0 := blk_frozen BK222.out 0
  try go_wp2_with (first | ((with_reducible refine gate_callee (f := 26) rfl ?_); refine goesL_ (some 56) rfl rfl Try.func26 (by kernel_rfl) rfl #[.agg #[.slice Ao46 t219.length co46], .int .i64 1] rfl u6_4 ?_; (with_reducible refine (laws_markBook.calls k (fun k_ => some k_ = (.slice Ao46 t219.length co46 : Value).ownBlock) (.slice Ao46 t219.length co46) t219 1 t233 t234 w _ ?side1 ?side2 A19.out).mono ?_); (case side1 => exact u6_0); (case side2 => exact Kd.R_tight rfl HO221.out); rintro e w64 ⟨rfl, hy0, hb, hkp⟩; refine ⟨_, rfl, ?_⟩; have n0_ := Aside0.mk (blk_kept u6_1 hkp (fun hs_ => (fun e_ => (Kd.R_ne HO221.out BK209.out (by decide)) e_) hs_)); have n1_ := Aside0.mk (Kd.R_mono (ok' := fun k_ => some k_ ≠ (.slice Ao40 t214.length co40 : Value).ownBlock ∧ some k_ ≠ (.slice Ao46 t219.length co46 : Value).ownBlock ∧ some k_ ≠ (.slice Ao52 t223.length co52 : Value).ownBlock ∧ some k_ ≠ (.slice Ao61 t229.length co61 : Value).ownBlock) (Kd.R_keptB (HO213.out) hkp (fun k_ hk_ hs_ => (hk_.1.1.2) hs_)) (fun k_ hk_ => ⟨hk_.1.1.1.1.2, hk_.1.1.1.2, hk_.1.1.2, hk_.1.2⟩)); have n2_ := Aside0.mk (Kd.R_mono (ok' := fun k_ => some k_ ≠ (.slice Ao37 t211.length co37 : Value).ownBlock ∧ some k_ ≠ (.slice Ao46 t219.length co46 : Value).ownBlock ∧ some k_ ≠ (.slice Ao52 t223.length co52 : Value).ownBlock ∧ some k_ ≠ (.slice Ao61 t229.length co61 : Value).ownBlock) (Kd.R_keptB (HO216.out) hkp (fun k_ hk_ hs_ => (hk_.1.1.2) hs_)) (fun k_ hk_ => ⟨hk_.1.1.1.1.2, hk_.1.1.1.2, hk_.1.1.2, hk_.1.2⟩)); have n3_ := Aside0.mk (blk_kept u6_2 hkp (fun hs_ => (fun e_ => (Kd.R_ne HO221.out BK218.out (by decide)) e_) hs_)); have n4_ := Aside0.mk (Kd.R_reok rfl hy0 (fun k_ e_ => HO221.out.1 k_ e_)); have n5_ := Aside0.mk (blk_kept u6_5 hkp (fun hs_ => (fun e_ => (Kd.R_ne HO221.out BK222.out (by decide)) e_) hs_)); have n6_ := Aside0.mk (Kd.R_mono (ok' := fun k_ => some k_ ≠ (.slice Ao37 t211.length co37 : Value).ownBlock ∧ some k_ ≠ (.slice Ao40 t214.length co40 : Value).ownBlock ∧ some k_ ≠ (.slice Ao46 t219.length co46 : Value).ownBlock ∧ some k_ ≠ (.slice Ao61 t229.length co61 : Value).ownBlock) (Kd.R_keptB (HO225.out) hkp (fun k_ hk_ hs_ => (hk_.1.2) hs_)) (fun k_ hk_ => ⟨hk_.1.1.1.1.2, hk_.1.1.1.2, hk_.1.1.2, hk_.1.2⟩)); have n7_ := Aside0.mk (blk_kept u6_9 hkp (fun hs_ => (fun e_ => (Kd.R_ne HO221.out BK227.out (by decide)) e_) hs_)); have n8_ := Aside0.mk (Kd.R_mono (ok' := fun k_ => some k_ ≠ (.slice Ao37 t211.length co37 : Value).ownBlock ∧ some k_ ≠ (.slice Ao40 t214.length co40 : Value).ownBlock ∧ some k_ ≠ (.slice Ao46 t219.length co46 : Value).ownBlock ∧ some k_ ≠ (.slice Ao52 t223.length co52 : Value).ownBlock) (Kd.R_keptB (HO231.out) hkp (fun k_ hk_ hs_ => (hk_.1.2) hs_)) (fun k_ hk_ => ⟨hk_.1.1.1.1.2, hk_.1.1.1.2, hk_.1.1.2, hk_.1.2⟩)); have n9_ := Aside0.mk (hb); clear BK209; clear HO213; clear HO216; clear BK218; clear HO221; clear BK222; clear HO225; clear BK227; clear HO231; clear HB; have BK209 := n0_; have HO213 := n1_; have HO216 := n2_; have BK218 := n3_; have HO221 := n4_; have BK222 := n5_; have HO225 := n6_; have BK227 := n7_; have HO231 := n8_; have HB := n9_; clear n0_ n1_ n2_ n3_ n4_ n5_ n6_ n7_ n8_ n9_; (try clear hb); (try clear hkp); (try clear hy0); have hcz65_0 : w64.cell? ⟨gb227, 0, none⟩ = some (.slice Ao52 t223.length co52) := (blk_cell BK227.out 0).trans rfl; have hfz65_0 := blk_frozen BK227.out 0; have hcz66_0 : w64.cell? ⟨gb218, 0, none⟩ = some (.slice Ao40 t214.length co40) := (blk_cell BK218.out 0).trans rfl; have hfz66_0 := blk_frozen BK218.out 0) | (go_at_call 21; (with_reducible refine (laws_eqBook.calls k _ _ t223 _ _ t214 true _ ?side1 ?side2 ?side3 ?side4 A21.out).mono ?_); (case side1 => exact u6_21); (case side2 => exact (Kd.R_reads' HO225.out).2.1); (case side3 => exact (by repeat (first | exact (Kd.R_reads' HO216.out).2.2 | (with_reducible refine Kd.C_alloc ?_ _) | (with_reducible refine Kd.C_drewN ?_ _) | (with_reducible refine Kd.C_drew ?_)))); (case side4 => exact (Kd.R_reads' HO216.out).2.1); rintro e w67 ⟨rfl, hb⟩; have n0_ := Aside0.mk (Kd.R_below u6_6 hb); have n1_ := Aside0.mk (Kd.R_below u6_7 hb); have n2_ := Aside0.mk (Kd.R_below u6_10 hb); have n3_ := Aside0.mk (Kd.R_below u6_11 hb); have n4_ := Aside0.mk (Kd.R_below u6_16 hb); have n5_ := Aside0.mk (blk_below (g := gb209) (o := .cells #[.slice A0_0 l0_0.length c0_0] 24 (0, 0)) u6_1 hb); have n6_ := Aside0.mk (blk_below (g := gb218) (o := .cells #[.slice Ao40 t214.length co40] 29 (0, 0)) u6_2 hb); have n7_ := Aside0.mk (blk_below (g := gb222) (o := .cells #[.slice Ao46 t219.length co46] 29 (0, 0)) u6_5 hb); have n8_ := Aside0.mk (blk_below (g := gb227) (o := .cells #[.slice Ao52 t223.length co52] 29 (0, 0)) u6_9 hb); have n9_ := Aside0.mk (below_step u6_0 hb); clear HO213; clear HO216; clear HO221; clear HO225; clear HO231; clear BK209; clear BK218; clear BK222; clear BK227; clear HB; have HO213 := n0_; have HO216 := n1_; have HO221 := n2_; have HO225 := n3_; have HO231 := n4_; have BK209 := n5_; have BK218 := n6_; have BK222 := n7_; have BK227 := n8_; have HB := n9_; clear n0_ n1_ n2_ n3_ n4_ n5_ n6_ n7_ n8_ n9_; (try clear hb); (try clear hb2); (try clear hk); (try clear hi); have hcz68_0 : w67.cell? ⟨gb227, 0, none⟩ = some (.slice Ao52 t223.length co52) := (blk_cell BK227.out 0).trans rfl; have hfz68_0 := blk_frozen BK227.out 0) | ((with_reducible refine gate_callee (f := 26) rfl ?_); refine goesL_ (some 72) rfl rfl Try.func26 (by kernel_rfl) rfl #[.agg #[.slice Ao52 t223.length co52], .int .i64 1] rfl u6_4 ?_; (with_reducible refine (laws_markBook.calls k (fun k_ => some k_ = (.slice Ao52 t223.length co52 : Value).ownBlock) (.slice Ao52 t223.length co52) t223 1 t236 t237 w _ ?side1 ?side2 A23.out).mono ?_); (case side1 => exact u6_0); (case side2 => exact Kd.R_tight rfl HO225.out); rintro e w69 ⟨rfl, hy0, hb, hkp⟩; refine ⟨_, rfl, ?_⟩; have n0_ := Aside0.mk (blk_kept u6_1 hkp (fun hs_ => (fun e_ => (Kd.R_ne HO225.out BK209.out (by decide)) e_) hs_)); have n1_ := Aside0.mk (Kd.R_mono (ok' := fun k_ => some k_ ≠ (.slice Ao40 t214.length co40 : Value).ownBlock ∧ some k_ ≠ (.slice Ao46 t219.length co46 : Value).ownBlock ∧ some k_ ≠ (.slice Ao52 t223.length co52 : Value).ownBlock ∧ some k_ ≠ (.slice Ao61 t229.length co61 : Value).ownBlock) (Kd.R_keptB (HO213.out) hkp (fun k_ hk_ hs_ => (hk_.2.2.1) hs_)) (fun k_ hk_ => ⟨hk_.1.1, hk_.1.2.1, hk_.1.2.2.1, hk_.1.2.2.2⟩)); have n2_ := Aside0.mk (Kd.R_mono (ok' := fun k_ => some k_ ≠ (.slice Ao37 t211.length co37 : Value).ownBlock ∧ some k_ ≠ (.slice Ao46 t219.length co46 : Value).ownBlock ∧ some k_ ≠ (.slice Ao52 t223.length co52 : Value).ownBlock ∧ some k_ ≠ (.slice Ao61 t229.length co61 : Value).ownBlock) (Kd.R_keptB (HO216.out) hkp (fun k_ hk_ hs_ => (hk_.2.2.1) hs_)) (fun k_ hk_ => ⟨hk_.1.1, hk_.1.2.1, hk_.1.2.2.1, hk_.1.2.2.2⟩)); have n3_ := Aside0.mk (blk_kept u6_2 hkp (fun hs_ => (fun e_ => (Kd.R_ne HO225.out BK218.out (by decide)) e_) hs_)); have n4_ := Aside0.mk (Kd.R_mono (ok' := fun k_ => some k_ ≠ (.slice Ao37 t211.length co37 : Value).ownBlock ∧ some k_ ≠ (.slice Ao40 t214.length co40 : Value).ownBlock ∧ some k_ ≠ (.slice Ao52 t223.length co52 : Value).ownBlock ∧ some k_ ≠ (.slice Ao61 t229.length co61 : Value).ownBlock) (Kd.R_keptB (HO221.out) hkp (fun k_ hk_ hs_ => (hk_.1.2) hs_)) (fun k_ hk_ => ⟨hk_.1.1.1.1.2, hk_.1.1.1.2, hk_.1.1.2, hk_.1.2⟩)); have n5_ := Aside0.mk (blk_kept u6_5 hkp (fun hs_ => (fun e_ => (Kd.R_ne HO225.out BK222.out (by decide)) e_) hs_)); have n6_ := Aside0.mk (Kd.R_reok rfl hy0 (fun k_ e_ => HO225.out.1 k_ e_)); have n7_ := Aside0.mk (blk_kept u6_9 hkp (fun hs_ => (fun e_ => (Kd.R_ne HO225.out BK227.out (by decide)) e_) hs_)); have n8_ := Aside0.mk (Kd.R_mono (ok' := fun k_ => some k_ ≠ (.slice Ao37 t211.length co37 : Value).ownBlock ∧ some k_ ≠ (.slice Ao40 t214.length co40 : Value).ownBlock ∧ some k_ ≠ (.slice Ao46 t219.length co46 : Value).ownBlock ∧ some k_ ≠ (.slice Ao52 t223.length co52 : Value).ownBlock) (Kd.R_keptB (HO231.out) hkp (fun k_ hk_ hs_ => (hk_.2.2.2) hs_)) (fun k_ hk_ => ⟨hk_.1.1, hk_.1.2.1, hk_.1.2.2.1, hk_.1.2.2.2⟩)); have n9_ := Aside0.mk (hb); clear BK209; clear HO213; clear HO216; clear BK218; clear HO221; clear BK222; clear HO225; clear BK227; clear HO231; clear HB; have BK209 := n0_; have HO213 := n1_; have HO216 := n2_; have BK218 := n3_; have HO221 := n4_; have BK222 := n5_; have HO225 := n6_; have BK227 := n7_; have HO231 := n8_; have HB := n9_; clear n0_ n1_ n2_ n3_ n4_ n5_ n6_ n7_ n8_ n9_; (try clear hb); (try clear hkp); (try clear hy0); have hcz70_0 : w69.cell? ⟨gb227, 0, none⟩ = some (.slice Ao52 t223.length co52) := (blk_cell BK227.out 0).trans rfl; have hfz70_0 := blk_frozen BK227.out 0) | ((with_reducible refine gate_callee (f := 27) rfl ?_); refine goesL_ (some 75) rfl rfl Try.func27 (by kernel_rfl) rfl #[.agg #[.slice Ao52 t237.length co52], .int .i64 1] rfl u6_32 ?_; (with_reducible refine (laws_heldBook.calls k _ _ t237 1 t238 _ ?side1 ?side2 A24.out).mono ?_); (case side1 => exact u6_21); (case side2 => exact u6_34); rintro e w71 ⟨rfl, hb⟩; refine ⟨_, rfl, ?_⟩; have n0_ := Aside0.mk (Kd.R_below u6_6 hb); have n1_ := Aside0.mk (Kd.R_below u6_7 hb); have n2_ := Aside0.mk (Kd.R_below u6_10 hb); have n3_ := Aside0.mk (Kd.R_below u6_11 hb); have n4_ := Aside0.mk (Kd.R_below u6_16 hb); have n5_ := Aside0.mk (blk_below (g := gb209) (o := .cells #[.slice A0_0 l0_0.length c0_0] 24 (0, 0)) u6_1 hb); have n6_ := Aside0.mk (blk_below (g := gb218) (o := .cells #[.slice Ao40 t214.length co40] 29 (0, 0)) u6_2 hb); have n7_ := Aside0.mk (blk_below (g := gb222) (o := .cells #[.slice Ao46 t219.length co46] 29 (0, 0)) u6_5 hb); have n8_ := Aside0.mk (blk_below (g := gb227) (o := .cells #[.slice Ao52 t223.length co52] 29 (0, 0)) u6_9 hb); have n9_ := Aside0.mk (below_step u6_0 hb); clear HO213; clear HO216; clear HO221; clear HO225; clear HO231; clear BK209; clear BK218; clear BK222; clear BK227; clear HB; have HO213 := n0_; have HO216 := n1_; have HO221 := n2_; have HO225 := n3_; have HO231 := n4_; have BK209 := n5_; have BK218 := n6_; have BK222 := n7_; have BK227 := n8_; have HB := n9_; clear n0_ n1_ n2_ n3_ n4_ n5_ n6_ n7_ n8_ n9_; (try clear hb); (try clear hb2); (try clear hk); (try clear hi); have hcz72_0 : w71.cell? ⟨gb209, 0, none⟩ = some (.slice A0_0 l0_0.length c0_0) := (blk_cell BK209.out 0).trans rfl; have hfz72_0 := blk_frozen BK209.out 0) | ((with_reducible refine gate_callee (f := 19) rfl ?_); refine goesL_ (some 83) rfl rfl Try.func19 (by kernel_rfl) rfl #[.agg #[.slice A0_0 l0_0.length c0_0]] rfl u6_4 ?_; (with_reducible refine (laws_toBook.calls k _ _ l0_0 t239 _ ?side1 ?side2 A27.out).mono ?_); (case side1 => exact u6_18); (case side2 => exact HC0_0.out); rintro e w73 ⟨v240, rfl, ho0, hb⟩; refine ⟨_, rfl, ?_⟩; have n0_ := Aside0.mk (Kd.R_elder' u6_6 (Kd.R_base ho0) hb); have n1_ := Aside0.mk (Kd.R_elder' u6_7 (Kd.R_base ho0) hb); have n2_ := Aside0.mk (Kd.R_elder' u6_10 (Kd.R_base ho0) hb); have n3_ := Aside0.mk (Kd.R_elder' u6_11 (Kd.R_base ho0) hb); have n4_ := Aside0.mk (Kd.R_elder' u6_16 (Kd.R_base ho0) hb); have n5_ := Aside0.mk (Kd.R_lower (Kd.R_new' (Kd.R_new' (Kd.R_new' (Kd.R_new' (Kd.R_new' ho0 (Kd.R_lt u6_6)) (Kd.R_lt u6_7)) (Kd.R_lt u6_10)) (Kd.R_lt u6_11)) (Kd.R_lt u6_16)) (below_size u6_0)); have n6_ := Aside0.mk (blk_below (g := gb209) (o := .cells #[.slice A0_0 l0_0.length c0_0] 24 (0, 0)) u6_1 hb); have n7_ := Aside0.mk (blk_below (g := gb218) (o := .cells #[.slice Ao40 t214.length co40] 29 (0, 0)) u6_2 hb); have n8_ := Aside0.mk (blk_below (g := gb222) (o := .cells #[.slice Ao46 t219.length co46] 29 (0, 0)) u6_5 hb); have n9_ := Aside0.mk (blk_below (g := gb227) (o := .cells #[.slice Ao52 t223.length co52] 29 (0, 0)) u6_9 hb); have n10_ := Aside0.mk (below_step u6_0 hb); clear HO213; clear HO216; clear HO221; clear HO225; clear HO231; clear BK209; clear BK218; clear BK222; clear BK227; clear HB; have HO213 := n0_; have HO216 := n1_; have HO221 := n2_; have HO225 := n3_; have HO231 := n4_; have HO241 := n5_; have BK209 := n6_; have BK218 := n7_; have BK222 := n8_; have BK227 := n9_; have HB := n10_; clear n0_ n1_ n2_ n3_ n4_ n5_ n6_ n7_ n8_ n9_ n10_; (try clear hb); (try clear hb2); (try clear hk); (try clear hi); (try clear ho0); obtain ⟨Ao74, co74, eo74⟩ := Kd.R_slice HO241.out; subst eo74) | ((with_reducible refine gate_callee (f := 37) rfl ?_); refine goesL_ (some 86) rfl rfl Try.func37 (by kernel_rfl) rfl #[.agg #[.slice Ao74 t239.length co74], .int .u64 a1, .int .u64 a2] rfl u6_4 ?_; (with_reducible refine (impl_Withdraw.calls k _ _ t239 a1 a2 t242 t245 _ ?side1 ?side2 A28.out).mono ?_); (case side1 => exact (by repeat (first | exact (Kd.R_reads' HO241.out).2.2 | (with_reducible refine Kd.C_alloc ?_ _) | (with_reducible refine Kd.C_drewN ?_ _) | (with_reducible refine Kd.C_drew ?_)))); (case side2 => exact (Kd.R_reads' HO241.out).2.1); rintro e w75 ⟨v243, rfl, ho0, hb⟩; refine ⟨_, rfl, ?_⟩; have n0_ := Aside0.mk (Kd.R_elder' u6_6 (Kd.R_base ho0) hb); have n1_ := Aside0.mk (Kd.R_elder' u6_7 (Kd.R_base ho0) hb); have n2_ := Aside0.mk (Kd.R_elder' u6_10 (Kd.R_base ho0) hb); have n3_ := Aside0.mk (Kd.R_elder' u6_11 (Kd.R_base ho0) hb); have n4_ := Aside0.mk (Kd.R_elder' u6_16 (Kd.R_base ho0) hb); have n5_ := Aside0.mk (Kd.R_elder' u6_22 (Kd.R_base ho0) hb); have n6_ := Aside0.mk (Kd.R_lower (Kd.R_new' (Kd.R_new' (Kd.R_new' (Kd.R_new' (Kd.R_new' (Kd.R_new' ho0 (Kd.R_lt u6_6)) (Kd.R_lt u6_7)) (Kd.R_lt u6_10)) (Kd.R_lt u6_11)) (Kd.R_lt u6_16)) (Kd.R_lt u6_22)) (below_size u6_0)); have n7_ := Aside0.mk (blk_below (g := gb209) (o := .cells #[.slice A0_0 l0_0.length c0_0] 24 (0, 0)) u6_1 hb); have n8_ := Aside0.mk (blk_below (g := gb218) (o := .cells #[.slice Ao40 t214.length co40] 29 (0, 0)) u6_2 hb); have n9_ := Aside0.mk (blk_below (g := gb222) (o := .cells #[.slice Ao46 t219.length co46] 29 (0, 0)) u6_5 hb); have n10_ := Aside0.mk (blk_below (g := gb227) (o := .cells #[.slice Ao52 t223.length co52] 29 (0, 0)) u6_9 hb); have n11_ := Aside0.mk (below_step u6_0 hb); clear HO213; clear HO216; clear HO221; clear HO225; clear HO231; clear HO241; clear BK209; clear BK218; clear BK222; clear BK227; clear HB; have HO213 := n0_; have HO216 := n1_; have HO221 := n2_; have HO225 := n3_; have HO231 := n4_; have HO241 := n5_; have HO244 := n6_; have BK209 := n7_; have BK218 := n8_; have BK222 := n9_; have BK227 := n10_; have HB := n11_; clear n0_ n1_ n2_ n3_ n4_ n5_ n6_ n7_ n8_ n9_ n10_ n11_; (try clear hb); (try clear hb2); (try clear hk); (try clear hi); (try clear ho0)) | ((with_reducible refine gate_dst (N := 16) rfl ?_); refine box_event ?hg (N := 16) ?hd (cs := #[.slice none 0 0]) (t := 29) ?hr ?_; (case hd => rfl); (case hg => rfl); (case hr => first | (go_simp; done) | (go_simp; rfl)); intro gb246 hg w76 hbox hb; have n0_ := Aside0.mk (Kd.R_below u6_6 hb); have n1_ := Aside0.mk (Kd.R_below u6_7 hb); have n2_ := Aside0.mk (Kd.R_below u6_10 hb); have n3_ := Aside0.mk (Kd.R_below u6_11 hb); have n4_ := Aside0.mk (Kd.R_below u6_16 hb); have n5_ := Aside0.mk (Kd.R_below u6_22 hb); have n6_ := Aside0.mk (Kd.R_below u6_35 hb); have n7_ := Aside0.mk (blk_below (g := gb209) (o := .cells #[.slice A0_0 l0_0.length c0_0] 24 (0, 0)) u6_1 hb); have n8_ := Aside0.mk (blk_below (g := gb218) (o := .cells #[.slice Ao40 t214.length co40] 29 (0, 0)) u6_2 hb); have n9_ := Aside0.mk (blk_below (g := gb222) (o := .cells #[.slice Ao46 t219.length co46] 29 (0, 0)) u6_5 hb); have n10_ := Aside0.mk (blk_below (g := gb227) (o := .cells #[.slice Ao52 t223.length co52] 29 (0, 0)) u6_9 hb); have n11_ := Aside0.mk (below_step u6_0 hb); have n12_ := Aside0.mk (hbox); have n13_ := Aside0.mk ((by rw [hg]; exact (below_size u6_0) : w.heap.size ≤ gb246)); have n14_ := Aside0.mk ((by rw [hg]; exact (below_size u6_0) : w.heap.size ≤ gb246)); have n15_ := Aside0.mk ((by rw [hg]; exact Nat.ne_of_lt (blk_lt (g := gb209) (o := .cells #[.slice A0_0 l0_0.length c0_0] 24 (0, 0)) u6_1) : gb209 ≠ gb246)); have n16_ := Aside0.mk ((by rw [hg]; exact Nat.ne_of_gt (blk_lt (g := gb209) (o := .cells #[.slice A0_0 l0_0.length c0_0] 24 (0, 0)) u6_1) : gb246 ≠ gb209)); have n17_ := Aside0.mk ((by rw [hg]; exact Nat.ne_of_lt (blk_lt (g := gb218) (o := .cells #[.slice Ao40 t214.length co40] 29 (0, 0)) u6_2) : gb218 ≠ gb246)); have n18_ := Aside0.mk ((by rw [hg]; exact Nat.ne_of_gt (blk_lt (g := gb218) (o := .cells #[.slice Ao40 t214.length co40] 29 (0, 0)) u6_2) : gb246 ≠ gb218)); have n19_ := Aside0.mk ((by rw [hg]; exact Nat.ne_of_lt (blk_lt (g := gb222) (o := .cells #[.slice Ao46 t219.length co46] 29 (0, 0)) u6_5) : gb222 ≠ gb246)); have n20_ := Aside0.mk ((by rw [hg]; exact Nat.ne_of_gt (blk_lt (g := gb222) (o := .cells #[.slice Ao46 t219.length co46] 29 (0, 0)) u6_5) : gb246 ≠ gb222)); have n21_ := Aside0.mk ((by rw [hg]; exact Nat.ne_of_lt (blk_lt (g := gb227) (o := .cells #[.slice Ao52 t223.length co52] 29 (0, 0)) u6_9) : gb227 ≠ gb246)); have n22_ := Aside0.mk ((by rw [hg]; exact Nat.ne_of_gt (blk_lt (g := gb227) (o := .cells #[.slice Ao52 t223.length co52] 29 (0, 0)) u6_9) : gb246 ≠ gb227)); clear HO213; clear HO216; clear HO221; clear HO225; clear HO231; clear HO241; clear HO244; clear BK209; clear BK218; clear BK222; clear BK227; clear HB; have HO213 := n0_; have HO216 := n1_; have HO221 := n2_; have HO225 := n3_; have HO231 := n4_; have HO241 := n5_; have HO244 := n6_; have BK209 := n7_; have BK218 := n8_; have BK222 := n9_; have BK227 := n10_; have HB := n11_; have BK246 := n12_; have GW246 := n13_; have GE246 := n14_; have NB209_246 := n15_; have NB246_209 := n16_; have NB218_246 := n17_; have NB246_218 := n18_; have NB222_246 := n19_; have NB246_222 := n20_; have NB227_246 := n21_; have NB246_227 := n22_; clear n0_ n1_ n2_ n3_ n4_ n5_ n6_ n7_ n8_ n9_ n10_ n11_ n12_ n13_ n14_ n15_ n16_ n17_ n18_ n19_ n20_ n21_ n22_; clear hb hbox hg; obtain ⟨Ao77, co77, eo77⟩ := Kd.R_slice HO244.out; subst eo77; have hnb78 := NB246_209.out; have hnc78 := NB209_246.out; have hnb79 := NB246_218.out; have hnc79 := NB218_246.out; have hnb80 := NB246_222.out; have hnc80 := NB222_246.out; have hnb81 := NB246_227.out; have hnc81 := NB227_246.out; have hcz82_0 : w76.cell? ⟨gb246, 0, none⟩ = some (.slice none 0 0) := (blk_cell BK246.out 0).trans rfl; have hfz82_0 := blk_frozen BK246.out 0; have hcz83_0 : w76.cell? ⟨gb218, 0, none⟩ = some (.slice Ao40 t214.length co40) := (blk_cell BK218.out 0).trans rfl; have hfz83_0 := blk_frozen BK218.out 0) | ((with_reducible refine gate_callee (f := 21) rfl ?_); refine goesL_ (some 91) rfl rfl Try.func21 (by kernel_rfl) rfl #[.agg #[.slice Ao77 t242.length co77], .agg #[.slice Ao40 t214.length co40]] rfl u6_4 ?_; (with_reducible refine (laws_eqBook.calls k _ _ t242 _ _ t214 true _ ?side1 ?side2 ?side3 ?side4 A29.out).mono ?_); (case side1 => exact (by refine (Kd.R_reads' (e := 53) (base := w.heap.size) (ok := fun k_ => ((((((True ∧ some k_ ≠ (.slice Ao37 t211.length co37 : Value).ownBlock) ∧ some k_ ≠ (.slice Ao40 t214.length co40 : Value).ownBlock) ∧ some k_ ≠ (.slice Ao46 t219.length co46 : Value).ownBlock) ∧ some k_ ≠ (.slice Ao52 t223.length co52 : Value).ownBlock) ∧ some k_ ≠ (.slice Ao61 t229.length co61 : Value).ownBlock) ∧ some k_ ≠ (.slice Ao74 t239.length co74 : Value).ownBlock)) (n := t242.length) (c := co77) ?_).2.2; exact u6_29)); (case side2 => exact (Kd.R_reads' HO244.out).2.1); (case side3 => exact (by refine (Kd.R_reads' (e := 53) (base := w.heap.size) (ok := fun k_ => (((some k_ ≠ (.slice Ao37 t211.length co37 : Value).ownBlock ∧ (some k_ ≠ (.slice Ao46 t219.length co46 : Value).ownBlock ∧ (some k_ ≠ (.slice Ao52 t223.length co52 : Value).ownBlock ∧ some k_ ≠ (.slice Ao61 t229.length co61 : Value).ownBlock))) ∧ some k_ ≠ (.slice Ao74 t239.length co74 : Value).ownBlock) ∧ some k_ ≠ (.slice Ao77 t242.length co77 : Value).ownBlock)) (n := t214.length) (c := co40) ?_).2.2; exact u6_30)); (case side4 => exact (Kd.R_reads' HO216.out).2.1); rintro e w84 ⟨rfl, hb⟩; refine ⟨_, rfl, ?_⟩; have n0_ := Aside0.mk (Kd.R_below (by (with_reducible repeat (first | apply Kd.R_alloc | apply Kd.R_drewN | apply Kd.R_drew)); exact (Kd.R_mono (Kd.R_far (p := ⟨gb246, 0, none⟩) (Kd.R_types HO213.out BK246.out (by decide)) (fun _ hk => hk.2) (.slice Ao77 t242.length co77)) (fun _ h_ => h_.1))) hb); have n1_ := Aside0.mk (Kd.R_below u6_30 hb); have n2_ := Aside0.mk (Kd.R_below (by (with_reducible repeat (first | apply Kd.R_alloc | apply Kd.R_drewN | apply Kd.R_drew)); exact (Kd.R_mono (Kd.R_far (p := ⟨gb246, 0, none⟩) (Kd.R_types HO221.out BK246.out (by decide)) (fun _ hk => hk.2) (.slice Ao77 t242.length co77)) (fun _ h_ => h_.1))) hb); have n3_ := Aside0.mk (Kd.R_below (by (with_reducible repeat (first | apply Kd.R_alloc | apply Kd.R_drewN | apply Kd.R_drew)); exact (Kd.R_mono (Kd.R_far (p := ⟨gb246, 0, none⟩) (Kd.R_types HO225.out BK246.out (by decide)) (fun _ hk => hk.2) (.slice Ao77 t242.length co77)) (fun _ h_ => h_.1))) hb); have n4_ := Aside0.mk (Kd.R_below (by (with_reducible repeat (first | apply Kd.R_alloc | apply Kd.R_drewN | apply Kd.R_drew)); exact (Kd.R_mono (Kd.R_far (p := ⟨gb246, 0, none⟩) (Kd.R_types HO231.out BK246.out (by decide)) (fun _ hk => hk.2) (.slice Ao77 t242.length co77)) (fun _ h_ => h_.1))) hb); have n5_ := Aside0.mk (Kd.R_below (by (with_reducible repeat (first | apply Kd.R_alloc | apply Kd.R_drewN | apply Kd.R_drew)); exact (Kd.R_mono (Kd.R_far (p := ⟨gb246, 0, none⟩) (Kd.R_types HO241.out BK246.out (by decide)) (fun _ hk => hk.2) (.slice Ao77 t242.length co77)) (fun _ h_ => h_.1))) hb); have n6_ := Aside0.mk (Kd.R_below u6_29 hb); have n7_ := Aside0.mk (blk_below (g := gb209) (o := .cells #[.slice A0_0 l0_0.length c0_0] 24 (0, 0)) (by (with_reducible repeat (first | refine blk_drewN ?_ _ | refine blk_drew ?_ | refine blk_alloc ?_ _)); refine blk_far ?_ NB209_246.out _; (with_reducible repeat (first | refine blk_drewN ?_ _ | refine blk_drew ?_ | refine blk_alloc ?_ _)); exact BK209.out) hb); have n8_ := Aside0.mk (blk_below (g := gb218) (o := .cells #[.slice Ao40 t214.length co40] 29 (0, 0)) (by (with_reducible repeat (first | refine blk_drewN ?_ _ | refine blk_drew ?_ | refine blk_alloc ?_ _)); refine blk_far ?_ NB218_246.out _; (with_reducible repeat (first | refine blk_drewN ?_ _ | refine blk_drew ?_ | refine blk_alloc ?_ _)); exact BK218.out) hb); have n9_ := Aside0.mk (blk_below (g := gb222) (o := .cells #[.slice Ao46 t219.length co46] 29 (0, 0)) (by (with_reducible repeat (first | refine blk_drewN ?_ _ | refine blk_drew ?_ | refine blk_alloc ?_ _)); refine blk_far ?_ NB222_246.out _; (with_reducible repeat (first | refine blk_drewN ?_ _ | refine blk_drew ?_ | refine blk_alloc ?_ _)); exact BK222.out) hb); have n10_ := Aside0.mk (blk_below (g := gb227) (o := .cells #[.slice Ao52 t223.length co52] 29 (0, 0)) (by (with_reducible repeat (first | refine blk_drewN ?_ _ | refine blk_drew ?_ | refine blk_alloc ?_ _)); refine blk_far ?_ NB227_246.out _; (with_reducible repeat (first | refine blk_drewN ?_ _ | refine blk_drew ?_ | refine blk_alloc ?_ _)); exact BK227.out) hb); have n11_ := Aside0.mk (blk_below (g := gb246) (o := .cells #[.slice Ao77 t242.length co77] 29 (0, 0)) (by (with_reducible repeat (first | refine blk_drewN ?_ _ | refine blk_drew ?_ | refine blk_alloc ?_ _)); refine blk_put (cs := #[.slice none 0 0]) ?_ 0 _ rfl; (with_reducible repeat (first | refine blk_drewN ?_ _ | refine blk_drew ?_ | refine blk_alloc ?_ _)); exact BK246.out) hb); have n12_ := Aside0.mk (below_step u6_17 hb); clear HO213; clear HO216; clear HO221; clear HO225; clear HO231; clear HO241; clear HO244; clear BK209; clear BK218; clear BK222; clear BK227; clear BK246; clear HB; have HO213 := n0_; have HO216 := n1_; have HO221 := n2_; have HO225 := n3_; have HO231 := n4_; have HO241 := n5_; have HO244 := n6_; have BK209 := n7_; have BK218 := n8_; have BK222 := n9_; have BK227 := n10_; have BK246 := n11_; have HB := n12_; clear n0_ n1_ n2_ n3_ n4_ n5_ n6_ n7_ n8_ n9_ n10_ n11_ n12_; (try clear hb); (try clear hb2); (try clear hk); (try clear hi); have hcz85_0 : w84.cell? ⟨gb227, 0, none⟩ = some (.slice Ao52 t223.length co52) := (blk_cell BK227.out 0).trans rfl; have hfz85_0 := blk_frozen BK227.out 0) | ((with_reducible refine gate_callee (f := 27) rfl ?_); refine goesL_ (some 100) rfl rfl Try.func27 (by kernel_rfl) rfl #[.agg #[.slice Ao52 t237.length co52], .int .i64 1] rfl u6_32 ?_; (with_reducible refine (laws_heldBook.calls k _ _ t237 1 t248 _ ?side1 ?side2 A32.out).mono ?_); (case side1 => exact u6_21); (case side2 => exact u6_34); rintro e w86 ⟨rfl, hb⟩; refine ⟨_, rfl, ?_⟩; have n0_ := Aside0.mk (Kd.R_below u6_6 hb); have n1_ := Aside0.mk (Kd.R_below u6_7 hb); have n2_ := Aside0.mk (Kd.R_below u6_10 hb); have n3_ := Aside0.mk (Kd.R_below u6_11 hb); have n4_ := Aside0.mk (Kd.R_below u6_16 hb); have n5_ := Aside0.mk (Kd.R_below u6_22 hb); have n6_ := Aside0.mk (Kd.R_below u6_35 hb); have n7_ := Aside0.mk (blk_below (g := gb209) (o := .cells #[.slice A0_0 l0_0.length c0_0] 24 (0, 0)) u6_1 hb); have n8_ := Aside0.mk (blk_below (g := gb218) (o := .cells #[.slice Ao40 t214.length co40] 29 (0, 0)) u6_2 hb); have n9_ := Aside0.mk (blk_below (g := gb222) (o := .cells #[.slice Ao46 t219.length co46] 29 (0, 0)) u6_5 hb); have n10_ := Aside0.mk (blk_below (g := gb227) (o := .cells #[.slice Ao52 t223.length co52] 29 (0, 0)) u6_9 hb); have n11_ := Aside0.mk (blk_below (g := gb246) (o := .cells #[.slice Ao77 t242.length co77] 29 (0, 0)) (by (with_reducible repeat (first | refine blk_drewN ?_ _ | refine blk_drew ?_ | refine blk_alloc ?_ _)); exact BK246.out) hb); have n12_ := Aside0.mk (below_step u6_17 hb); clear HO213; clear HO216; clear HO221; clear HO225; clear HO231; clear HO241; clear HO244; clear BK209; clear BK218; clear BK222; clear BK227; clear BK246; clear HB; have HO213 := n0_; have HO216 := n1_; have HO221 := n2_; have HO225 := n3_; have HO231 := n4_; have HO241 := n5_; have HO244 := n6_; have BK209 := n7_; have BK218 := n8_; have BK222 := n9_; have BK227 := n10_; have BK246 := n11_; have HB := n12_; clear n0_ n1_ n2_ n3_ n4_ n5_ n6_ n7_ n8_ n9_ n10_ n11_ n12_; (try clear hb); (try clear hb2); (try clear hk); (try clear hi)))
  go_ret
  exact ⟨by first | rfl | (simp [errW_none, errW_some] <;> rfl) | (simp [*, errW_none, errW_some] <;> rfl), u6_17⟩

end Go.Proofs.Ytdbfjakhkclggaa.QFnExactWithdraw
