-- Printed by the session's own program wip/prx.py.
import Derived.Test.YtdbfjakhkclggaaQFnOpenedx0
import Derived.Test.YtdbfjakhkclggaaQFnOpenedx2
namespace Go.Proofs.Ytdbfjakhkclggaa.QFnOpened
open Go.RowKit Go.Proofs.YtdbfjakhkclggaaW.PrintWords Go.Proofs.YtdbfjakhkclggaaW.PrintLast Go.Proofs.YtdbfjakhkclggaaW.PrintMore
attribute [local go_sem] max2_int min2_int max_two min_two max_three min_three max_four min_four Go.Proofs.Ytdbfjakhkclggaa.Set.isSome_setCell Go.Proofs.Ytdbfjakhkclggaa.Add.add64   -- for this text's walks alone
set_option linter.unusedVariables false
set_option linter.unusedSimpArgs false

-- squeezed
theorem u3_0 {P : Prop} (h : P := by repeat (first | (with_reducible first | exact HB.out | apply below_alloc | apply pw_below_drewN | apply below_drew1 | refine below_set ?_ GE119.out | refine below_set ?_ GE120.out | refine below_set ?_ GE124.out) | exact HB.out)) : P := h
theorem u3_1 {P : Prop} (h : P := by (with_reducible repeat (first | refine blk_drewN ?_ _ | refine blk_drew ?_ | refine blk_alloc ?_ _)); exact BK119.out) : P := h
theorem u3_2 {P : Prop} (h : P := by repeat (first | (with_reducible first | exact HB.out | apply below_alloc | apply pw_below_drewN | apply below_drew1 | refine below_set ?_ GE119.out | refine below_set ?_ GE120.out) | exact HB.out)) : P := h
theorem u3_3 {P : Prop} (h : P := by repeat (first | (with_reducible first | exact HB.out | apply below_alloc | apply pw_below_drewN | apply below_drew1) | exact HB.out)) : P := h
theorem u3_4 {P : Prop} (h : P := by (with_reducible repeat (first | refine blk_drewN ?_ _ | refine blk_drew ?_ | refine blk_alloc ?_ _)); exact BK120.out) : P := h
theorem u3_5 {P : Prop} (h : P := by repeat (first | (with_reducible first | exact HB.out | apply below_alloc | apply pw_below_drewN | apply below_drew1 | refine below_set ?_ GE119.out) | exact HB.out)) : P := h
theorem u3_6 {P : Prop} (h : P := by repeat (first | (with_reducible first | exact HB.out | apply below_alloc | apply pw_below_drewN | apply below_drew1 | refine below_set ?_ G3.out | refine below_set ?_ G6.out | refine below_set ?_ G8.out) | exact HB.out)) : P := h
theorem u3_7 {P : Prop} (h : P := by (try simp only [List.map_toArray, List.map_cons, List.map_nil]); first | done | rfl | (simp only [List.length_drop, List.length_take]; rfl)) : P := h
theorem u3_8 {P : Prop} (h : P := by repeat (first | exact (Kd.C_below HR0_0.out HB.out) | (with_reducible refine Kd.C_alloc ?_ _) | (with_reducible refine Kd.C_drewN ?_ _) | (with_reducible refine Kd.C_drew ?_))) : P := h
theorem u3_9 {P : Prop} (h : P := by (with_reducible repeat (first | apply Kd.R_alloc | apply Kd.R_drewN | apply Kd.R_drew)); exact HO123.out) : P := h
theorem u3_10 {P : Prop} (h : P := by (with_reducible repeat (first | refine blk_drewN ?_ _ | refine blk_drew ?_ | refine blk_alloc ?_ _)); refine blk_put (cs := #[.slice none 0 0]) ?_ 0 _ rfl; (with_reducible repeat (first | refine blk_drewN ?_ _ | refine blk_drew ?_ | refine blk_alloc ?_ _)); exact BK124.out) : P := h
theorem u3_11 {P : Prop} (h : P := by (with_reducible repeat (first | refine blk_drewN ?_ _ | refine blk_drew ?_ | refine blk_alloc ?_ _)); refine blk_far ?_ NB119_124.out _; (with_reducible repeat (first | refine blk_drewN ?_ _ | refine blk_drew ?_ | refine blk_alloc ?_ _)); exact BK119.out) : P := h
theorem u3_12 {P : Prop} (h : P := by (with_reducible repeat (first | refine blk_drewN ?_ _ | refine blk_drew ?_ | refine blk_alloc ?_ _)); refine blk_far ?_ NB120_124.out _; (with_reducible repeat (first | refine blk_drewN ?_ _ | refine blk_drew ?_ | refine blk_alloc ?_ _)); exact BK120.out) : P := h
theorem u3_13 {P : Prop} (h : P := by repeat (first | (with_reducible first | exact HBW.out | apply below_alloc | apply pw_below_drewN | apply below_drew1) | exact HBW.out)) : P := h
theorem u3_14 {P : Prop} (h : P := by (with_reducible repeat (first | refine blk_drewN ?_ _ | refine blk_drew ?_ | refine blk_alloc ?_ _)); exact BK124.out) : P := h
theorem u3_15 {P : Prop} (h : P := by (with_reducible repeat (first | refine blk_drewN ?_ _ | refine blk_drew ?_ | refine blk_alloc ?_ _)); refine blk_put (cs := #[.slice none 0 0]) ?_ 0 _ rfl; (with_reducible repeat (first | refine blk_drewN ?_ _ | refine blk_drew ?_ | refine blk_alloc ?_ _)); exact BK120.out) : P := h
theorem u3_16 {P : Prop} (h : P := by (with_reducible repeat (first | refine blk_drewN ?_ _ | refine blk_drew ?_ | refine blk_alloc ?_ _)); exact BK3.out) : P := h
theorem u3_17 {P : Prop} (h : P := by first | (with_reducible assumption) | assumption | rfl | (simp [Act.eval, Act.put]; done)) : P := h
theorem u3_18 {P : Prop} (h : P := by (with_reducible repeat (first | refine blk_drewN ?_ _ | refine blk_drew ?_ | refine blk_alloc ?_ _)); exact BK6.out) : P := h
theorem u3_19 {P : Prop} (h : P := by first | rfl | (simp; done) | (simp [*]; done)) : P := h
theorem u3_20 {P : Prop} (h : P := by (with_reducible repeat (first | refine blk_drewN ?_ _ | refine blk_drew ?_ | refine blk_alloc ?_ _)); exact BK2.out) : P := h
theorem u3_21 {P : Prop} (h : P := by simp only [Nat.min_def]; split <;> omega) : P := h
theorem u3_22 {P : Prop} (h : P := by exact Kd.C_below HR0_0.out u3_0) : P := h
/-! ### impl_CloseAccount: function 29 -/
def impl_CloseAccount.enc (x : S53) : List Value := [.int .u64 x.f0, .int .u64 x.f1, .int .u64 x.f2, .int .u64 x.f3, .int .i64 x.f4]
theorem impl_CloseAccount.flat : Go.Proofs.Ytdbfjakhkclggaa.Slc.Flat k53 impl_CloseAccount.enc := ⟨fun w base ok x => k53_mkM w base ok x, fun h => k53_open h⟩
/-- What the literal makes of an account, and its code. -/
def impl_CloseAccount.g (u0 : Int) (x : S53) : S53 × Int := if ¬ x.f4 = 0 then (x, 6) else if ¬ x.f1 = 0 then (x, 4) else (⟨x.f0, x.f1, x.f2, x.f3, -1⟩, 0)
set_option maxHeartbeats 1600000 in
theorem impl_CloseAccount.lit (g n cap i : Nat) (l0 : List S53) (ok : Nat → Prop) (u0 : Int) (b0 : Nat) (w0 w : World) (hB : Below w0.heap.size w0 w) (ho : Kd.R k53 53 w w0.heap.size ok (.slice (some ⟨g, 0, none⟩) n cap) l0) (hi : i < l0.length)  :
    Calls Try.prog 61 #[.pointer (some ⟨g, i * 5, none⟩)] w fun e w' => e = .returned (.int .i64 (impl_CloseAccount.g u0 (l0.getD i z53)).2) ∧ Kd.R k53 53 w' w0.heap.size ok (.slice (some ⟨g, 0, none⟩) n cap) (l0.set i (impl_CloseAccount.g u0 (l0.getD i z53)).1) ∧ Below w0.heap.size w0 w' ∧ Kept w w' (fun k => k = g) := by
  obtain ⟨_, hg, _, _, _, cur, hb, hs, _⟩ := impl_CloseAccount.flat.blockG ho
  obtain ⟨x, hx⟩ : ∃ x, x = l0.getD i z53 := ⟨_, rfl⟩
  have he : ∀ j, j < 5 → cur[i * 5 + j]? = (impl_CloseAccount.enc x)[j]? := fun j hj => by rw [hx]; exact Go.Proofs.Ytdbfjakhkclggaa.Slc.flat_elem impl_CloseAccount.flat ho hb hi z53 j hj
  have hlt : ∀ j, j < 5 → i * 5 + j < cur.size := fun j hj => by
    have := he j hj
    rcases Nat.lt_or_ge (i * 5 + j) cur.size with h | h
    · exact h
    · rw [Array.getElem?_eq_none h, List.getElem?_eq_getElem hj] at this
      cases this
  have x0 : w.cell? ⟨g, i * 5, none⟩ = some (.int .u64 x.f0) := (blk_cell hb _).trans (he 0 (by omega))
  have x1 : w.cell? ⟨g, i * 5 + 1, none⟩ = some (.int .u64 x.f1) := (blk_cell hb _).trans (he 1 (by omega))
  have x2 : w.cell? ⟨g, i * 5 + 2, none⟩ = some (.int .u64 x.f2) := (blk_cell hb _).trans (he 2 (by omega))
  have x3 : w.cell? ⟨g, i * 5 + 3, none⟩ = some (.int .u64 x.f3) := (blk_cell hb _).trans (he 3 (by omega))
  have x4 : w.cell? ⟨g, i * 5 + 4, none⟩ = some (.int .i64 x.f4) := (blk_cell hb _).trans (he 4 (by omega))
  have f0 : w.frozen? ⟨g, i * 5, none⟩ = false := blk_frozen hb _
  have f1 : w.frozen? ⟨g, i * 5 + 1, none⟩ = false := blk_frozen hb _
  have f2 : w.frozen? ⟨g, i * 5 + 2, none⟩ = false := blk_frozen hb _
  have f3 : w.frozen? ⟨g, i * 5 + 3, none⟩ = false := blk_frozen hb _
  have f4 : w.frozen? ⟨g, i * 5 + 4, none⟩ = false := blk_frozen hb _
  rw [← hx]
  -- the row as it was, and as it is when cells of the element are written
  have same : ∀ W : World, (∀ k, W.heap[k]? = w.heap[k]?) → Kd.R k53 53 W w0.heap.size ok (.slice (some ⟨g, 0, none⟩) n cap) (l0.set i x) := fun W hW => by
    refine Go.Proofs.Ytdbfjakhkclggaa.Slc.flat_upd impl_CloseAccount.flat ho hi hb ((hW g).trans hb) rfl (fun j hj => he j hj) (fun q _ => rfl)
  have HS := Aside0.mk same
  have HBl := Aside0.mk hB
  have HG := Aside0.mk hg
  have HO := Aside0.mk ho
  have Hb := Aside0.mk hb
  have HE := Aside0.mk he
  have HI := Aside0.mk hi
  have HL := Aside0.mk hlt
  clear same hB hg ho hb he hi hlt hs hx
  have hu := Try.underlying53
  by_cases h4 : ¬ x.f4 = 0
  · have ch4 := show (x.f4 != 0) = true by simpa using h4
    go_enter Try.func61, Try.ntmps61
    go_wp2
    repeat (go_region; try go_wp2)
    go_ret
    rw [show impl_CloseAccount.g u0 x = (x, 6) by simp [impl_CloseAccount.g, h4]]
    exact ⟨rfl, HS.out _ (fun _ => rfl), (by repeat (first | exact HBl.out | apply below_drew)), (by repeat (first | exact Kept.refl _ _ | apply Kept.drew))⟩
  have ch4 := show (x.f4 != 0) = false by simpa using h4
  by_cases h5 : ¬ x.f1 = 0
  · have ch5 := show (x.f1 != 0) = true by simpa using h5
    go_enter Try.func61, Try.ntmps61
    go_wp2
    repeat (go_region; try go_wp2)
    go_ret
    rw [show impl_CloseAccount.g u0 x = (x, 4) by simp [impl_CloseAccount.g, h4, h5]]
    exact ⟨rfl, HS.out _ (fun _ => rfl), (by repeat (first | exact HBl.out | apply below_drew)), (by repeat (first | exact Kept.refl _ _ | apply Kept.drew))⟩
  have ch5 := show (x.f1 != 0) = false by simpa using h5
  go_enter Try.func61, Try.ntmps61
  go_wp2
  repeat (go_region; try go_wp2)
  go_ret
  rw [show impl_CloseAccount.g u0 x = (⟨x.f0, x.f1, x.f2, x.f3, -1⟩, 0) by simp [impl_CloseAccount.g, h4, h5]]
  obtain ⟨W, hW⟩ : ∃ W, W = (w.setCell ⟨g, i * 5 + 4, none⟩ (.int .i64 (-1))) := ⟨_, rfl⟩
  have hbW : W.heap[g]? = some (.cells (cur.setIfInBounds (i * 5 + 4) (.int .i64 (-1))) 53 (0, 0)) := by rw [hW]; exact (blk_set (w := w) Hb.out (i * 5 + 4) (.int .i64 (-1)))
  have hBW : Below w0.heap.size w0 W := by rw [hW]; exact (below_set HBl.out HG.out)
  have hKW : Kept w W (fun k => k = g) := by rw [hW]; exact (Kept.setCell (S := fun k => k = g) (Kept.refl _ _) (p := ⟨g, i * 5 + 4, none⟩) (.inl rfl) (.int .i64 (-1)))
  rw [← hW]
  clear hW
  refine ⟨rfl, Go.Proofs.Ytdbfjakhkclggaa.Slc.flat_upd impl_CloseAccount.flat HO.out HI.out Hb.out (cur' := (cur.setIfInBounds (i * 5 + 4) (.int .i64 (-1)))) (by first | exact hbW | exact (show W.drew.heap[g]? = _ from hbW) | exact (show W.drew.drew.heap[g]? = _ from hbW)) (by simp) (fun j hj => ?_) (fun q hq => ?_), by repeat (first | exact hBW | apply below_drew), by repeat (first | exact hKW | apply Kept.drew)⟩
  · have hj : j < 5 := hj
    have e := HE.out j hj
    have hl := HL.out j hj
    show (cur.setIfInBounds (i * 5 + 4) (.int .i64 (-1)))[i * 5 + j]? = _
    rcases (show j = 0 ∨ j = 1 ∨ j = 2 ∨ j = 3 ∨ j = 4 by omega) with rfl | rfl | rfl | rfl | rfl
    · rw [Array.getElem?_setIfInBounds, if_neg (by omega)]; exact e
    · rw [Array.getElem?_setIfInBounds, if_neg (by omega)]; exact e
    · rw [Array.getElem?_setIfInBounds, if_neg (by omega)]; exact e
    · rw [Array.getElem?_setIfInBounds, if_neg (by omega)]; exact e
    rw [Array.getElem?_setIfInBounds, if_pos rfl, if_pos (by simpa using hl)]; first | done | rfl
  have hq : q < i * 5 ∨ i * 5 + 5 ≤ q := hq
  rw [Array.getElem?_setIfInBounds, if_neg (by omega)]

/-- What 'change' makes of a book. -/
def impl_CloseAccount.cf (k : Nat) (l0 : List S53) (a1 u0 : Int) : Option (List S53 × Int) :=
  if l0.length < 2000000 then (impl_isBook.f k l0).bind fun b => (if b = true then (impl_accountOf.f k l0 a1).bind fun y => (if y.2 = true then (if 0 ≤ y.1 ∧ y.1 < (l0.length : Int) then (if (impl_CloseAccount.g u0 (l0.getD y.1.toNat z53)).2 = 0 then (if (impl_CloseAccount.g u0 (l0.getD y.1.toNat z53)).1.f4 = -1 then some ((l0.set y.1.toNat (impl_CloseAccount.g u0 (l0.getD y.1.toNat z53)).1).eraseIdx y.1.toNat, 0) else some (l0.set y.1.toNat (impl_CloseAccount.g u0 (l0.getD y.1.toNat z53)).1, 0)) else some (l0, (impl_CloseAccount.g u0 (l0.getD y.1.toNat z53)).2)) else none) else some (l0, 2)) else some (l0, 1)) else none
theorem impl_CloseAccount.cf_mono (l0 : List S53) (a1 u0 : Int) (k : Nat) : LeO (impl_CloseAccount.cf k l0 a1 u0) (impl_CloseAccount.cf (k + 1) l0 a1 u0) := by
  unfold impl_CloseAccount.cf
  refine LeO.ite (LeO.bind (impl_isBook.mono _ k) fun b => LeO.ite (LeO.bind (impl_accountOf.mono _ _ k) fun y => LeO.refl _) (LeO.refl _)) (LeO.refl _)
theorem impl_CloseAccount.own {w : World} {base : Nat} {ok : Nat → Prop} {g n cap : Nat} {l : List S53} (h : Kd.R k53 53 w base ok (.slice (some ⟨g, 0, none⟩) n cap) l) : Kd.R k53 53 w base (fun k => k = g) (.slice (some ⟨g, 0, none⟩) n cap) l := by
  obtain ⟨h1, h2, _, h4, h5, cur, h6, h7, h8⟩ := impl_CloseAccount.flat.blockG h
  exact impl_CloseAccount.flat.row h6 h2 rfl h1.symm h4 h5 h7 (by rw [h1]; exact h8)
set_option maxHeartbeats 8000000 in
set_option maxRecDepth 100000 in
theorem impl_CloseAccount.change (k : Nat) (A0 : Option Addr) (c0 : Nat) (l0 : List S53) (a1 u0 : Int) (b0 : Nat) (r1 : List S53) (r2 : Int) (w : World) (hr0 : Kd.C k53 w A0 l0.length l0) (hc0 : l0.length ≤ c0)  (h : impl_CloseAccount.cf k l0 a1 u0 = some (r1, r2)) :
    Calls Try.prog 60 #[.agg #[.slice A0 l0.length c0], .int .u64 a1, .func (.func 61) #[] #[]] w fun e w' => ∃ v0_ : Value, e = .returned (.tuple #[.agg #[v0_], .int .i64 r2]) ∧ Kd.R k53 53 w' w.heap.size (fun _ => True) v0_ r1 ∧ Below w.heap.size w w' := by
  have hu := Try.underlying29
  have hu2 := Try.underlying27
  have hu3 := Try.underlying53
  have HR := Aside0.mk hr0
  have HC := Aside0.mk hc0
  have HB := Aside0.mk (Below.refl w.heap.size w)
  unfold impl_CloseAccount.cf at h
  by_cases hl : l0.length < 2000000
  rotate_left
  · rw [if_neg hl] at h; cases h
  rw [if_pos hl] at h
  have hcopy : impl_copyBook.f l0 = some l0 := by
    unfold impl_copyBook.f
    show (if ([] : List S53).length + l0.length < 3518437208883 then some ([] ++ l0) else none) = some l0
    rw [if_pos (by simp; omega), List.nil_append]
  obtain ⟨b, hb, h⟩ := Option.bind_eq_some_iff.1 h
  have HCOPY := Aside0.mk hcopy
  have HIS := Aside0.mk hb
  have HLT := Aside0.mk hl
  have hcap : Aside0 (True) := ⟨trivial⟩
  clear hr0 hc0 hcopy hb hl 
  go_enter Try.func60, Try.ntmps60
  go_upto_if 16 with (first | ((with_reducible refine gate_dst (N := 3) rfl ?_); refine box_event ?hg (N := 3) ?hd (cs := #[.slice A0 l0.length c0]) (t := 29) ?hr ?_; (case hd => rfl); (case hg => rfl); (case hr => first | (go_simp; done) | (go_simp; rfl)); intro gb3 hg w3 hbox hb; have n0_ := Aside0.mk (below_step u3_6 hb); have n1_ := Aside0.mk (show w.heap.size ≤ gb3 by rw [hg]; exact (below_size u3_6)); have n2_ := Aside0.mk hbox; clear HB; have HB := n0_; have G3 := n1_; have BK3 := n2_; clear n0_ n1_ n2_; clear hbox hg hb; (try clear c3_ f3_); have c3_ : w3.cell? ⟨gb3, 0, none⟩ = some (.slice A0 l0.length c0) := (blk_cell BK3.out 0).trans rfl; have f3_ := blk_frozen BK3.out 0) | ((with_reducible refine gate_dst (N := 6) rfl ?_); refine box_event ?hg (N := 6) ?hd (cs := #[.slice none 0 0]) (t := 29) ?hr ?_; (case hd => rfl); (case hg => rfl); (case hr => first | (go_simp; done) | (go_simp; rfl)); intro gb6 hg w6 hbox hb; have n0_ := Aside0.mk (below_step u3_6 hb); have n1_ := Aside0.mk (show w.heap.size ≤ gb6 by rw [hg]; exact (below_size u3_6)); have n2_ := Aside0.mk hbox; have m3_ := Aside0.mk (blk_below (g := gb3) (o := .cells #[.slice A0 l0.length c0] 29 (0, 0)) u3_16 hb); have N3_6 := (show gb3 ≠ gb6 by rw [hg]; exact Nat.ne_of_lt (blk_lt (g := gb3) (o := .cells #[.slice A0 l0.length c0] 29 (0, 0)) u3_16)); have N6_3 := (N3_6).symm; clear HB; have HB := n0_; have G6 := n1_; have BK6 := n2_; clear n0_ n1_ n2_; clear BK3; have BK3 := m3_; clear m3_; clear hbox hg hb; (try clear c3_ f3_); have c3_ : w6.cell? ⟨gb3, 0, none⟩ = some (.slice A0 l0.length c0) := (blk_cell BK3.out 0).trans rfl; have f3_ := blk_frozen BK3.out 0; (try clear c6_ f6_); have c6_ : w6.cell? ⟨gb6, 0, none⟩ = some (.slice none 0 0) := (blk_cell BK6.out 0).trans rfl; have f6_ := blk_frozen BK6.out 0) | ((with_reducible refine gate_callee (f := 56) rfl ?_); refine goesL_ (some 13) rfl rfl Try.func56 (by kernel_rfl) rfl #[.agg #[.slice A0 l0.length c0]] rfl u3_17 ?_; (with_reducible refine (impl_copyBook.calls _ _ l0 l0 _ ?side1 ?side2 HCOPY.out).mono ?_); (case side1 => exact (by repeat (first | exact (Kd.C_below HR.out u3_6) | (with_reducible refine Kd.C_alloc ?_ _) | (with_reducible refine Kd.C_drewN ?_ _) | (with_reducible refine Kd.C_drew ?_)))); (case side2 => exact HC.out); rintro e w7 ⟨v7, rfl, ho0, hb⟩; refine ⟨_, rfl, ?_⟩; have n0_ := Aside0.mk (Kd.R_lower ho0 (below_size u3_6)); have n1_ := Aside0.mk (below_step u3_6 hb); have m3_ := Aside0.mk (blk_below (g := gb3) (o := .cells #[.slice A0 l0.length c0] 29 (0, 0)) u3_16 hb); have m6_ := Aside0.mk (blk_below (g := gb6) (o := .cells #[.slice none 0 0] 29 (0, 0)) u3_18 hb); clear HB BK3 BK6; have HO := n0_; have HB := n1_; have BK3 := m3_; have BK6 := m6_; clear n0_ n1_ m3_ m6_; clear ho0 hb) | ((with_reducible refine gate_dst (N := 8) rfl ?_); refine box_event ?hg (N := 8) ?hd (cs := #[.slice none 0 0]) (t := 29) ?hr ?_; (case hd => rfl); (case hg => rfl); (case hr => first | (go_simp; done) | (go_simp; rfl)); intro gb8 hg w8 hbox hb; have n0_ := Aside0.mk (below_step u3_6 hb); have n1_ := Aside0.mk (show w.heap.size ≤ gb8 by rw [hg]; exact (below_size u3_6)); have n2_ := Aside0.mk hbox; have m3_ := Aside0.mk (blk_below (g := gb3) (o := .cells #[.slice A0 l0.length c0] 29 (0, 0)) u3_16 hb); have N3_8 := (show gb3 ≠ gb8 by rw [hg]; exact Nat.ne_of_lt (blk_lt (g := gb3) (o := .cells #[.slice A0 l0.length c0] 29 (0, 0)) u3_16)); have N8_3 := (N3_8).symm; have m6_ := Aside0.mk (blk_below (g := gb6) (o := .cells #[.slice none 0 0] 29 (0, 0)) u3_18 hb); have N6_8 := (show gb6 ≠ gb8 by rw [hg]; exact Nat.ne_of_lt (blk_lt (g := gb6) (o := .cells #[.slice none 0 0] 29 (0, 0)) u3_18)); have N8_6 := (N6_8).symm; have m0_ := Aside0.mk (Kd.R_below (by (with_reducible repeat (first | apply Kd.R_alloc | apply Kd.R_drewN | apply Kd.R_drew)); exact HO.out) hb); clear HO; have HO := m0_; clear m0_; obtain ⟨A1, c1, ev1⟩ := Kd.R_slice HO.out; subst ev1; clear HB; have HB := n0_; have G8 := n1_; have BK8 := n2_; clear n0_ n1_ n2_; clear BK3; have BK3 := m3_; clear m3_; clear BK6; have BK6 := m6_; clear m6_; clear hbox hg hb; (try clear c3_ f3_); have c3_ : w8.cell? ⟨gb3, 0, none⟩ = some (.slice A0 l0.length c0) := (blk_cell BK3.out 0).trans rfl; have f3_ := blk_frozen BK3.out 0; (try clear c6_ f6_); have c6_ : w8.cell? ⟨gb6, 0, none⟩ = some (.slice none 0 0) := (blk_cell BK6.out 0).trans rfl; have f6_ := blk_frozen BK6.out 0; (try clear c8_ f8_); have c8_ : w8.cell? ⟨gb8, 0, none⟩ = some (.slice none 0 0) := (blk_cell BK8.out 0).trans rfl; have f8_ := blk_frozen BK8.out 0) | ((with_reducible refine gate_callee (f := 50) rfl ?_); refine goesL_ (some 15) rfl rfl Try.func50 (by kernel_rfl) rfl #[.agg #[.slice A0 l0.length c0]] rfl u3_17 ?_; (with_reducible refine (impl_isBook.calls k _ _ l0 _ _ ?side1 ?side2 HIS.out).mono ?_); (case side1 => exact Kd.C_below HR.out (below_set HB.out G8.out)); (case side2 => exact HC.out); rintro e w9 ⟨rfl, hb⟩; refine ⟨_, rfl, ?_⟩; have n0_ := Aside0.mk (Kd.R_below (Kd.R_mono (ok' := fun _ => True) (Kd.R_far (p := ⟨gb8, 0, none⟩) (Kd.R_types HO.out BK8.out (by decide)) (fun _ hk => hk.2) (.slice A1 l0.length c1)) (fun _ _ => trivial)) hb); have n1_ := Aside0.mk (below_step (below_set HB.out G8.out) hb); have m3_ := Aside0.mk (blk_below (g := gb3) (o := .cells #[.slice A0 l0.length c0] 29 (0, 0)) (blk_far BK3.out N3_8 _) hb); have m6_ := Aside0.mk (blk_below (g := gb6) (o := .cells #[.slice none 0 0] 29 (0, 0)) (blk_far BK6.out N6_8 _) hb); have m8_ := Aside0.mk (blk_below (g := gb8) (o := .cells #[.slice A1 l0.length c1] 29 (0, 0)) (blk_put (cs := #[.slice none 0 0]) BK8.out 0 _ rfl) hb); clear HO HB BK3 BK6 BK8; have HO := n0_; have HB := n1_; have BK3 := m3_; have BK6 := m6_; have BK8 := m8_; clear n0_ n1_ m3_ m6_ m8_; clear hb; (try clear c3_ f3_); have c3_ : w9.cell? ⟨gb3, 0, none⟩ = some (.slice A0 l0.length c0) := (blk_cell BK3.out 0).trans rfl; have f3_ := blk_frozen BK3.out 0; (try clear c6_ f6_); have c6_ : w9.cell? ⟨gb6, 0, none⟩ = some (.slice none 0 0) := (blk_cell BK6.out 0).trans rfl; have f6_ := blk_frozen BK6.out 0; (try clear c8_ f8_); have c8_ : w9.cell? ⟨gb8, 0, none⟩ = some (.slice A1 l0.length c1) := (blk_cell BK8.out 0).trans rfl; have f8_ := blk_frozen BK8.out 0))
  cases b with
  | false =>
    rw [if_neg (by decide)] at h
    obtain ⟨rfl, rfl⟩ : l0 = r1 ∧ 1 = r2 := by injection h with h; injection h with h1 h2; exact ⟨h1, h2⟩
    clear h
    go_wp2
    refine bodyPost_ret (results_ct rfl _ _ gb6 29 #[.slice A1 l0.length c1] (0, 0) _ rfl (blk_put (cs := #[.slice none 0 0]) BK6.out 0 _ rfl) Try.underlying29 rfl (by kernel_rfl)) rfl ?_
    exact ⟨_, rfl, Kd.R_mono (Kd.R_far (p := ⟨gb6, 0, none⟩) (Kd.R_types HO.out BK6.out (by decide)) (fun _ hk => hk.2) _) (fun _ _ => trivial), below_set HB.out G6.out⟩
  | true =>
    rw [if_pos rfl] at h
    obtain ⟨⟨I, y2⟩, hy, h⟩ := Option.bind_eq_some_iff.1 h
    have HAC := Aside0.mk hy
    clear hy
    go_upto_if 25 with (first | ((with_reducible refine gate_callee (f := 57) rfl ?_); refine goesL_ (some 21) rfl rfl Try.func57 (by kernel_rfl) rfl #[.agg #[.slice A0 l0.length c0], .int .u64 a1] rfl u3_17 ?_; (with_reducible refine (impl_accountOf.calls k _ _ l0 a1 _ _ _ ?side1 ?side2 HAC.out).mono ?_); (case side1 => exact Kd.C_below HR.out HB.out); (case side2 => exact HC.out); rintro e w10 ⟨rfl, hb⟩; refine ⟨_, rfl, ?_⟩; have n0_ := Aside0.mk (Kd.R_below HO.out hb); have n1_ := Aside0.mk (below_step HB.out hb); have m3_ := Aside0.mk (blk_below (g := gb3) (o := .cells #[.slice A0 l0.length c0] 29 (0, 0)) BK3.out hb); have m6_ := Aside0.mk (blk_below (g := gb6) (o := .cells #[.slice none 0 0] 29 (0, 0)) BK6.out hb); have m8_ := Aside0.mk (blk_below (g := gb8) (o := .cells #[.slice A1 l0.length c1] 29 (0, 0)) BK8.out hb); clear HO HB BK3 BK6 BK8; have HO := n0_; have HB := n1_; have BK3 := m3_; have BK6 := m6_; have BK8 := m8_; clear n0_ n1_ m3_ m6_ m8_; clear hb; (try clear c3_ f3_); have c3_ : w10.cell? ⟨gb3, 0, none⟩ = some (.slice A0 l0.length c0) := (blk_cell BK3.out 0).trans rfl; have f3_ := blk_frozen BK3.out 0; (try clear c6_ f6_); have c6_ : w10.cell? ⟨gb6, 0, none⟩ = some (.slice none 0 0) := (blk_cell BK6.out 0).trans rfl; have f6_ := blk_frozen BK6.out 0; (try clear c8_ f8_); have c8_ : w10.cell? ⟨gb8, 0, none⟩ = some (.slice A1 l0.length c1) := (blk_cell BK8.out 0).trans rfl; have f8_ := blk_frozen BK8.out 0))
    cases y2 with
    | false =>
      rw [if_neg (by simp)] at h
      obtain ⟨rfl, rfl⟩ : l0 = r1 ∧ 2 = r2 := by injection h with h; injection h with h1 h2; exact ⟨h1, h2⟩
      clear h
      go_wp2
      refine bodyPost_ret (results_ct rfl _ _ gb6 29 #[.slice A1 l0.length c1] (0, 0) _ rfl (blk_put (cs := #[.slice none 0 0]) BK6.out 0 _ rfl) Try.underlying29 rfl (by kernel_rfl)) rfl ?_
      exact ⟨_, rfl, Kd.R_mono (Kd.R_far (p := ⟨gb6, 0, none⟩) (Kd.R_types HO.out BK6.out (by decide)) (fun _ hk => hk.2) _) (fun _ _ => trivial), below_set HB.out G6.out⟩
    | true =>
      rw [if_pos rfl] at h
      by_cases hI : 0 ≤ I ∧ I < (l0.length : Int)
      rotate_left
      · rw [if_neg hI] at h; cases h
      rw [if_pos hI] at h
      obtain ⟨i, rfl⟩ := Int.eq_ofNat_of_zero_le hI.1
      have hi : i < l0.length := by omega
      have p1 := eq_true (show 0 ≤ (i : Int) from hI.1)
      have p2 := eq_true (show (i : Int) < (l0.length : Int) from hI.2)
      have p3 : (i : Int).toNat = i := Int.toNat_natCast i
      rw [p3] at h
      obtain ⟨Y, hY⟩ : ∃ Y, Y = impl_CloseAccount.g u0 (l0.getD i z53) := ⟨_, rfl⟩
      rw [← hY] at h
      have HLIT : Aside0 (∀ (g1 c1 : Nat) (W : World), w.heap.size ≤ g1 → Below w.heap.size w W → Kd.R k53 53 W w.heap.size (fun k => k = g1) (.slice (some ⟨g1, 0, none⟩) l0.length c1) l0 →
          Calls Try.prog 61 #[.pointer (some ⟨g1, i * 5, none⟩)] W fun e w' => e = .returned (.int .i64 Y.2) ∧ Kd.R k53 53 w' w.heap.size (fun k => k = g1) (.slice (some ⟨g1, 0, none⟩) l0.length c1) (l0.set i Y.1) ∧ Below w.heap.size w w' ∧ Kept W w' (fun k => k = g1)) := ⟨fun g1 c1 W hg hB ho => by
        obtain _ := hcap.out
        rw [hY]
        exact impl_CloseAccount.lit g1 l0.length c1 i l0 (fun k => k = g1) u0 b0 w W hB ho hi ⟩
      clear hY hI
      have HI := Aside0.mk hi
      clear hi
      obtain ⟨g1, c1, ev1, hg1, _, _, _⟩ := Kd.R_form HO.out (by have := HI.out; omega)
      cases ev1
      have HG1 := Aside0.mk hg1
      clear hg1
      go_upto_if 34 with (first | (go_at_call 61; refine (HLIT.out g1 c1 _ HG1.out HB.out (impl_CloseAccount.own HO.out)).mono ?_; rintro e w11 ⟨rfl, ho, hb, hk⟩; have NG3 : gb3 ≠ g1 := fun e => Kd.R_ne HO.out BK3.out (by decide) (by rw [e]; rfl); have NG6 : gb6 ≠ g1 := fun e => Kd.R_ne HO.out BK6.out (by decide) (by rw [e]; rfl); have NG8 : gb8 ≠ g1 := fun e => Kd.R_ne HO.out BK8.out (by decide) (by rw [e]; rfl); have m3_ := Aside0.mk (blk_kept BK3.out hk NG3); have m6_ := Aside0.mk (blk_kept BK6.out hk NG6); have m8_ := Aside0.mk (blk_kept BK8.out hk NG8); clear HB BK3 BK6 BK8 HO; have HB := Aside0.mk hb; have BK3 := m3_; have BK6 := m6_; have BK8 := m8_; clear m3_ m6_ m8_ hb hk; have HO := Aside0.mk ho; have x4_ : w11.cell? ⟨g1, i * 5 + 4, none⟩ = some (.int .i64 Y.1.f4) := (by obtain ⟨_, _, _, _, _, cur1, hb1, _, _⟩ := impl_CloseAccount.flat.blockG ho; exact (blk_cell hb1 _).trans ((Go.Proofs.Ytdbfjakhkclggaa.Slc.flat_elem impl_CloseAccount.flat ho hb1 (by rw [List.length_set]; exact HI.out) z53 4 (show 4 < 5 by omega)).trans (by rw [List.getD_eq_getElem?_getD, List.getElem?_set_self HI.out]; first | done | rfl))); clear ho; (try clear c3_ f3_); have c3_ : w11.cell? ⟨gb3, 0, none⟩ = some (.slice A0 l0.length c0) := (blk_cell BK3.out 0).trans rfl; have f3_ := blk_frozen BK3.out 0; (try clear c6_ f6_); have c6_ : w11.cell? ⟨gb6, 0, none⟩ = some (.slice none 0 0) := (blk_cell BK6.out 0).trans rfl; have f6_ := blk_frozen BK6.out 0; (try clear c8_ f8_); have c8_ : w11.cell? ⟨gb8, 0, none⟩ = some (.slice (some ⟨g1, 0, none⟩) l0.length c1) := (blk_cell BK8.out 0).trans rfl; have f8_ := blk_frozen BK8.out 0))
      by_cases hz : Y.2 = 0
      rotate_left
      · rw [if_neg hz] at h
        obtain ⟨rfl, rfl⟩ : l0 = r1 ∧ Y.2 = r2 := by injection h with h; injection h with h1 h2; exact ⟨h1, h2⟩
        clear h
        have hz' : (Y.2 != 0) = true := by simpa using hz
        clear hz p3
        (first | rw [hz'] | skip)
        go_wp2_with (first | ((with_reducible refine gate_callee (f := 56) rfl ?_); refine goesL_ (some 36) rfl rfl Try.func56 (by kernel_rfl) rfl #[.agg #[.slice A0 l0.length c0]] rfl u3_17 ?_; (with_reducible refine (impl_copyBook.calls _ _ l0 l0 _ ?side1 ?side2 HCOPY.out).mono ?_); (case side1 => exact Kd.C_below HR.out HB.out); (case side2 => exact HC.out); rintro e w12 ⟨v12, rfl, ho0, hb⟩; refine ⟨_, rfl, ?_⟩; have HO2 := Aside0.mk (Kd.R_lower ho0 HB.out.size); obtain ⟨A2, c2, ev2⟩ := Kd.R_slice HO2.out; subst ev2; have n1_ := Aside0.mk (below_step HB.out hb); have m3_ := Aside0.mk (blk_below (g := gb3) (o := .cells #[.slice A0 l0.length c0] 29 (0, 0)) BK3.out hb); have m6_ := Aside0.mk (blk_below (g := gb6) (o := .cells #[.slice none 0 0] 29 (0, 0)) BK6.out hb); have m8_ := Aside0.mk (blk_below (g := gb8) (o := .cells #[.slice (some ⟨g1, 0, none⟩) l0.length c1] 29 (0, 0)) BK8.out hb); clear HB BK3 BK6 BK8; have HB := n1_; have BK3 := m3_; have BK6 := m6_; have BK8 := m8_; clear n1_ m3_ m6_ m8_; clear hb ho0; (try clear c3_ f3_); have c3_ : w12.cell? ⟨gb3, 0, none⟩ = some (.slice A0 l0.length c0) := (blk_cell BK3.out 0).trans rfl; have f3_ := blk_frozen BK3.out 0; (try clear c6_ f6_); have c6_ : w12.cell? ⟨gb6, 0, none⟩ = some (.slice none 0 0) := (blk_cell BK6.out 0).trans rfl; have f6_ := blk_frozen BK6.out 0; (try clear c8_ f8_); have c8_ : w12.cell? ⟨gb8, 0, none⟩ = some (.slice (some ⟨g1, 0, none⟩) l0.length c1) := (blk_cell BK8.out 0).trans rfl; have f8_ := blk_frozen BK8.out 0))
        refine bodyPost_ret (results_ct rfl _ _ gb6 29 #[.slice A2 l0.length c2] (0, 0) _ rfl (blk_put (cs := #[.slice none 0 0]) BK6.out 0 _ rfl) Try.underlying29 rfl (by kernel_rfl)) rfl ?_
        exact ⟨_, rfl, Kd.R_mono (Kd.R_far (p := ⟨gb6, 0, none⟩) (Kd.R_types HO2.out BK6.out (by decide)) (fun _ hk => hk.2) _) (fun _ _ => trivial), below_set HB.out G6.out⟩
      rw [if_pos hz] at h
      have hz' : (Y.2 != 0) = false := by simpa using hz
      clear hz
      (first | rw [hz'] | skip)
      by_cases hf : Y.1.f4 = -1
      rotate_left
      · rw [if_neg hf] at h
        obtain ⟨rfl, rfl⟩ : l0.set i Y.1 = r1 ∧ 0 = r2 := by injection h with h; injection h with h1 h2; exact ⟨h1, h2⟩
        clear h
        have hf' : (Y.1.f4 == -1) = false := by simpa using hf
        clear hf p3
        go_wp2
        refine bodyPost_ret (results_ct rfl _ _ gb6 29 #[.slice (some ⟨g1, 0, none⟩) l0.length c1] (0, 0) _ rfl (blk_put (cs := #[.slice none 0 0]) BK6.out 0 _ rfl) Try.underlying29 rfl (by kernel_rfl)) rfl ?_
        exact ⟨_, rfl, Kd.R_mono (Kd.R_far (p := ⟨gb6, 0, none⟩) (Kd.R_types HO.out BK6.out (by decide)) (fun _ hk => hk.2) _) (fun _ _ => trivial), below_set HB.out G6.out⟩
      rw [if_pos hf] at h
      obtain ⟨rfl, rfl⟩ : (l0.set i Y.1).eraseIdx i = r1 ∧ 0 = r2 := by injection h with h; injection h with h1 h2; exact ⟨h1, h2⟩
      clear h
      have hf' : (Y.1.f4 == -1) = true := by simpa using hf
      have hdel : impl_Account_78.f (l0.set i Y.1) (i : Int) ((i : Int) + 1) = some ((l0.set i Y.1).eraseIdx i) := by
        unfold impl_Account_78.f
        rw [if_pos ⟨of_eq_true p1, rfl, by rw [List.length_set]; exact of_eq_true p2⟩, p3]
      have HDEL := Aside0.mk hdel
      clear hdel hf p3
      have hw1 : IntKind.i64.wrap ((i : Int) + 1) = (i : Int) + 1 := by have := HLT.out; have := HI.out; rw [IntKind.wrap_i64]; omega
      go_wp2_with (first | ((with_reducible refine gate_callee (f := 78) rfl ?_); refine goesL_ (some 50) rfl rfl Try.func78 (by kernel_rfl) rfl #[.slice (some ⟨g1, 0, none⟩) l0.length c1, .int .i64 (i : Int), .int .i64 ((i : Int) + 1)] rfl u3_17 ?_; (with_reducible refine (impl_Account_78.calls (fun k => k = g1) _ (l0.set i Y.1) _ _ _ w _ HB.out HO.out HDEL.out).mono ?_); rintro e w12 ⟨v12, rfl, ho0, hb, hk⟩; refine ⟨_, rfl, ?_⟩; have NG3 : gb3 ≠ g1 := fun e => Kd.R_ne HO.out BK3.out (by decide) (by rw [e]; rfl); have NG6 : gb6 ≠ g1 := fun e => Kd.R_ne HO.out BK6.out (by decide) (by rw [e]; rfl); have NG8 : gb8 ≠ g1 := fun e => Kd.R_ne HO.out BK8.out (by decide) (by rw [e]; rfl); have m3_ := Aside0.mk (blk_kept BK3.out hk NG3); have m6_ := Aside0.mk (blk_kept BK6.out hk NG6); have m8_ := Aside0.mk (blk_kept BK8.out hk NG8); clear HB BK3 BK6 BK8 HO; have HB := Aside0.mk hb; have BK3 := m3_; have BK6 := m6_; have BK8 := m8_; clear m3_ m6_ m8_ hb hk; have HO2 := Aside0.mk ho0; clear ho0; obtain ⟨A2, c2, ev2⟩ := Kd.R_slice HO2.out; subst ev2; (try clear c3_ f3_); have c3_ : w12.cell? ⟨gb3, 0, none⟩ = some (.slice A0 l0.length c0) := (blk_cell BK3.out 0).trans rfl; have f3_ := blk_frozen BK3.out 0; (try clear c6_ f6_); have c6_ : w12.cell? ⟨gb6, 0, none⟩ = some (.slice none 0 0) := (blk_cell BK6.out 0).trans rfl; have f6_ := blk_frozen BK6.out 0; (try clear c8_ f8_); have c8_ : w12.cell? ⟨gb8, 0, none⟩ = some (.slice (some ⟨g1, 0, none⟩) l0.length c1) := (blk_cell BK8.out 0).trans rfl; have f8_ := blk_frozen BK8.out 0))
      refine bodyPost_ret (results_ct rfl _ _ gb6 29 #[.slice A2 ((l0.set i Y.1).eraseIdx i).length c2] (0, 0) _ rfl (blk_put (cs := #[.slice none 0 0]) (blk_far BK6.out N6_8 _) 0 _ rfl) Try.underlying29 rfl (by kernel_rfl)) rfl ?_
      exact ⟨_, rfl, Kd.R_mono (Kd.R_far (p := ⟨gb6, 0, none⟩) (Kd.R_far (p := ⟨gb8, 0, none⟩) (Kd.R_types (Kd.R_types HO2.out BK6.out (by decide)) BK8.out (by decide)) (fun _ hk => hk.2) _) (fun _ hk => hk.1.2) _) (fun _ _ => trivial), below_set (below_set HB.out G8.out) G6.out⟩
def impl_CloseAccount.f (k : Nat) (l0 : List S53) (a1 : Int) : Option (List S53 × Int) := impl_CloseAccount.cf k l0 a1 0
theorem impl_CloseAccount.mono : ∀ (l0 : List S53) (a1 : Int) (k : Nat), LeO (impl_CloseAccount.f k l0 a1) (impl_CloseAccount.f (k + 1) l0 a1) := fun l0 a1 k => by
  unfold impl_CloseAccount.f
  exact impl_CloseAccount.cf_mono _ _ _ k
set_option maxHeartbeats 4000000 in
set_option maxRecDepth 100000 in
theorem impl_CloseAccount.calls (k : Nat) (A0 : Option Addr) (c0 : Nat) (l0 : List S53) (a1 : Int) (r1 : List S53) (r2 : Int) (w : World) (hr0 : Kd.C k53 w A0 l0.length l0) (hc0 : l0.length ≤ c0) (h : impl_CloseAccount.f k l0 a1 = some (r1, r2)) :
    Calls Try.prog 29 #[.agg #[.slice A0 l0.length c0], .int .u64 a1] w fun e w' => ∃ v0_ : Value, e = .returned (.tuple #[.agg #[v0_], .int .i64 r2]) ∧ Kd.R k53 53 w' w.heap.size (fun _ => True) v0_ r1 ∧ Below w.heap.size w w' := by
  have hu := Try.underlying29
  have HR := Aside0.mk hr0
  have HC := Aside0.mk hc0
  have HB := Aside0.mk (Below.refl w.heap.size w)
  clear hr0 hc0
  unfold impl_CloseAccount.f at h
  have HF := Aside0.mk h
  clear h
  go_enter Try.func29, Try.ntmps29
  go_wp2_with (first | ((with_reducible refine gate_dst (N := 2) rfl ?_); refine box_event ?hg (N := 2) ?hd (cs := #[.slice A0 l0.length c0]) (t := 29) ?hr ?_; (case hd => rfl); (case hg => rfl); (case hr => first | (go_simp; done) | (go_simp; rfl)); intro gb2 hg w2 hbox hb; have n0_ := Aside0.mk (below_step u3_3 hb); have n1_ := Aside0.mk (show w.heap.size ≤ gb2 by rw [hg]; exact (below_size u3_3)); have n2_ := Aside0.mk hbox; clear HB; have HB := n0_; have G2 := n1_; have BK2 := n2_; clear n0_ n1_ n2_; clear hbox hg hb; (try clear c2_ f2_); have c2_ : w2.cell? ⟨gb2, 0, none⟩ = some (.slice A0 l0.length c0) := (blk_cell BK2.out 0).trans rfl; have f2_ := blk_frozen BK2.out 0) | ((with_reducible refine gate_dst (N := 4) rfl ?_); refine box_event ?hg (N := 4) ?hd (cs := #[.slice none 0 0]) (t := 29) ?hr ?_; (case hd => rfl); (case hg => rfl); (case hr => first | (go_simp; done) | (go_simp; rfl)); intro gb4 hg w4 hbox hb; have n0_ := Aside0.mk (below_step u3_3 hb); have n1_ := Aside0.mk (show w.heap.size ≤ gb4 by rw [hg]; exact (below_size u3_3)); have n2_ := Aside0.mk hbox; have m2_ := Aside0.mk (blk_below (g := gb2) (o := .cells #[.slice A0 l0.length c0] 29 (0, 0)) u3_20 hb); have N2_4 := (show gb2 ≠ gb4 by rw [hg]; exact Nat.ne_of_lt (blk_lt (g := gb2) (o := .cells #[.slice A0 l0.length c0] 29 (0, 0)) u3_20)); have N4_2 := (N2_4).symm; clear HB; have HB := n0_; have G4 := n1_; have BK4 := n2_; clear n0_ n1_ n2_; clear BK2; have BK2 := m2_; clear m2_; clear hbox hg hb; (try clear c2_ f2_); have c2_ : w4.cell? ⟨gb2, 0, none⟩ = some (.slice A0 l0.length c0) := (blk_cell BK2.out 0).trans rfl; have f2_ := blk_frozen BK2.out 0; (try clear c4_ f4_); have c4_ : w4.cell? ⟨gb4, 0, none⟩ = some (.slice none 0 0) := (blk_cell BK4.out 0).trans rfl; have f4_ := blk_frozen BK4.out 0) | ((with_reducible refine gate_callee (f := 60) rfl ?_); refine goesL_ (some 8) rfl rfl Try.func60 (by kernel_rfl) rfl #[.agg #[.slice A0 l0.length c0], .int .u64 a1, .func (.func 61) #[] #[]] rfl u3_17 ?_; (with_reducible refine (impl_CloseAccount.change k _ _ l0 a1 0 0 _ _ _ ?side1 ?side2  HF.out).mono ?_); (case side1 => exact Kd.C_below HR.out HB.out); (case side2 => exact HC.out); rintro e w20 ⟨v20, rfl, ho0, hb⟩; refine ⟨_, rfl, ?_⟩; have HO := Aside0.mk (Kd.R_lower ho0 HB.out.size); obtain ⟨A1, c1, ev1⟩ := Kd.R_slice HO.out; subst ev1; have n1_ := Aside0.mk (below_step HB.out hb); have m_ := Aside0.mk (blk_below (g := gb4) (o := .cells #[.slice none 0 0] 29 (0, 0)) BK4.out hb); clear HB BK4; have HB := n1_; have BK4 := m_; clear n1_ m_; clear hb ho0; (try clear c4_ f4_); have c4_ : w20.cell? ⟨gb4, 0, none⟩ = some (.slice none 0 0) := (blk_cell BK4.out 0).trans rfl; have f4_ := blk_frozen BK4.out 0))
  refine bodyPost_ret (results_ct rfl _ _ gb4 29 #[.slice A1 r1.length c1] (0, 0) _ rfl (blk_put (cs := #[.slice none 0 0]) BK4.out 0 _ rfl) Try.underlying29 rfl (by kernel_rfl)) rfl ?_
  exact ⟨_, rfl, Kd.R_mono (Kd.R_far (p := ⟨gb4, 0, none⟩) (Kd.R_types HO.out BK4.out (by decide)) (fun _ hk => hk.2) _) (fun _ _ => trivial), below_set HB.out G4.out⟩


/-! ### impl_Account_69: function 69 -/
def impl_Account_69.enc (x : S53) : List Value := [.int .u64 x.f0, .int .u64 x.f1, .int .u64 x.f2, .int .u64 x.f3, .int .i64 x.f4]
theorem impl_Account_69.flat : Go.Proofs.Ytdbfjakhkclggaa.Slc.Flat k53 impl_Account_69.enc := ⟨fun w base ok x => k53_mkM w base ok x, fun h => k53_open h⟩
def impl_Account_69.f (l0 : List (S53)) (a1 : Int) (l2 : List (S53)) : Option (List (S53)) := if 0 ≤ a1 ∧ a1 ≤ (l0.length : Int) ∧ l2.length = 1 ∧ l0.length < 1000000 then some (l0.take a1.toNat ++ l2 ++ l0.drop a1.toNat) else none
theorem impl_Account_69.info : (Try.prog.info? 53).map (fun i => (i.zero, i.size, i.bytes)) = some (some (.agg #[.int .u64 0, .int .u64 0, .int .u64 0, .int .u64 0, .int .i64 0]), 5, 40) := by kernel_rfl
theorem impl_Account_69.size : (Try.prog.info? 53).map (·.size) = some 5 := by kernel_rfl
theorem impl_Account_69.sizeOf (w : World) : (Go.sizeOf 53).run Try.prog w = .ok 5 w := by kernel_rfl
set_option maxHeartbeats 2000000 in
set_option maxRecDepth 100000 in
theorem impl_Account_69.at_end (P0_ P2_ : Nat → Prop) (A0 : Option Addr) (n c0 : Nat) (l0 : List (S53)) (g2 : Nat) (c2 : Nat) (l2 : List (S53)) (w0 w : World) (hB : Below w0.heap.size w0 w) (ho0 : Kd.R k53 53 w w0.heap.size P0_ (.slice A0 n c0) l0) (hC2 : Kd.C k53 w (some ⟨g2, 0, none⟩) 1 l2) (hn : l0.length = n) (hl2 : l2.length = 1) (hc2 : 1 ≤ c2) (hl : n < 1000000) (hnc : n ≤ c0) (hm : c0 ≤ maxLen) :
    Calls Try.prog 69 #[.slice A0 n c0, .int .i64 (n : Int), .slice (some ⟨g2, 0, none⟩) 1 c2] w fun e w' => ∃ v0_ : Value, e = .returned (v0_) ∧ Kd.R k53 53 w' w0.heap.size (fun k_ => ((P0_ k_ ∨ P2_ k_) ∨ w.heap.size ≤ k_)) v0_ (l0 ++ l2) ∧ Below w0.heap.size w0 w' ∧ Kept w w' (fun k_ => P0_ k_ ∨ P2_ k_) := by
  have hown := ho0.1
  have HO := Aside0.mk (Kd.R_mono ho0 (ok' := fun k_ => ((P0_ k_ ∨ P2_ k_) ∨ w.heap.size ≤ k_)) (fun k hk => .inl (.inl hk)))
  have HB := Aside0.mk hB
  have HC2 := Aside0.mk hC2
  have HW := Aside0.mk hown
  have HL := Aside0.mk hl
  have HN := Aside0.mk hn
  unfold maxLen at hm
  have hm63 : c0 ≤ 9223372036854775807 := by omega
  clear ho0 hB hC2 hown hm
  have p1 : (n : Int) ≤ (n : Int) := Int.le_refl _
  cases A0 with
  | none =>
    go_enter Try.func69, Try.ntmps69
    go_wp2_with (first | ((with_reducible refine gate_dst (N := 25) rfl ?_); refine Kd.R_append_rows k53 (w0 := w0) w0.heap.size rfl (.tmp 23) (.tmp 24) 27 53 (.agg #[.int .u64 0, .int .u64 0, .int .u64 0, .int .u64 0, .int .i64 0]) 40 rfl Try.underlying27 impl_Account_69.info rfl (by decide) (by omega) _ l0 l2 _ _ _ (fun k_ => ((P0_ k_ ∨ P2_ k_) ∨ w.heap.size ≤ k_)) (fun _ => False) rfl rfl HO.out HC2.out (fun _ _ h => h) (fun _ h => h.elim) (fun _ hk => .inr hk) HB.out HB.out.size (by have := HL.out; have := HN.out; omega) ?_; intro v1 w1 ho hb hg hat; have R0 := Aside0.mk ho; have R1 := Aside0.mk hb; have R2 := Aside0.mk hg; clear ho hb hg hat))
    go_ret
    exact ⟨_, rfl, R0.out, R1.out, Kept.of_grown (W := w) R2.out (Kept.refl w _) (fun k hk => .inl (.inl (HW.out k hk)))⟩
  | some a =>
    obtain ⟨g, o, sp⟩ := a
    have hsp : o = 0 ∧ sp = none := by
      obtain ⟨_, inner, ⟨_, ho⟩, _⟩ := HO.out
      rcases ho with ⟨he, _⟩ | ⟨g', cap', cur, he, _⟩
      · cases he
      · injection he with e1 e2 e3
        injection e1 with e1
        injection e1 with e1 e2 e3
        exact ⟨e2, e3⟩
    obtain ⟨rfl, rfl⟩ := hsp
    by_cases hce : c0 = n
    · subst hce
      go_enter Try.func69, Try.ntmps69
      go_wp2_with (first | ((with_reducible refine gate_dst (N := 25) rfl ?_); refine Kd.R_append_rows k53 (w0 := w0) w0.heap.size rfl (.tmp 23) (.tmp 24) 27 53 (.agg #[.int .u64 0, .int .u64 0, .int .u64 0, .int .u64 0, .int .i64 0]) 40 rfl Try.underlying27 impl_Account_69.info rfl (by decide) (by omega) _ l0 l2 _ _ _ (fun k_ => ((P0_ k_ ∨ P2_ k_) ∨ w.heap.size ≤ k_)) (fun _ => False) rfl rfl HO.out HC2.out (fun _ _ h => h) (fun _ h => h.elim) (fun _ hk => .inr hk) HB.out HB.out.size (by have := HL.out; have := HN.out; omega) ?_; intro v1 w1 ho hb hg hat; have R0 := Aside0.mk ho; have R1 := Aside0.mk hb; have R2 := Aside0.mk hg; clear ho hb hg hat))
      go_ret
      exact ⟨_, rfl, R0.out, R1.out, Kept.of_grown (W := w) R2.out (Kept.refl w _) (fun k hk => .inl (.inl (HW.out k hk)))⟩
    have hlt : n < c0 := by omega
    go_enter Try.func69, Try.ntmps69
    go_wp2_with (first | ((with_reducible refine gate_dst (N := 25) rfl ?_); refine Kd.R_append_rows k53 (w0 := w0) w0.heap.size rfl (.tmp 23) (.tmp 24) 27 53 (.agg #[.int .u64 0, .int .u64 0, .int .u64 0, .int .u64 0, .int .i64 0]) 40 rfl Try.underlying27 impl_Account_69.info rfl (by decide) (by omega) _ l0 l2 _ _ _ (fun k_ => ((P0_ k_ ∨ P2_ k_) ∨ w.heap.size ≤ k_)) (fun _ => False) rfl rfl HO.out HC2.out (fun _ _ h => h) (fun _ h => h.elim) (fun _ hk => .inr hk) HB.out HB.out.size (by have := HL.out; have := HN.out; omega) ?_; intro v1 w1 ho hb hg hat; have R0 := Aside0.mk ho; have R1 := Aside0.mk hb; have R2 := Aside0.mk hg; clear ho hb hg hat))
    go_ret
    exact ⟨_, rfl, R0.out, R1.out, Kept.of_grown (W := w) R2.out (Kept.refl w _) (fun k hk => .inl (.inl (HW.out k hk)))⟩
set_option maxHeartbeats 2000000 in
set_option maxRecDepth 100000 in
theorem impl_Account_69.shift (P0_ P2_ : Nat → Prop) (g n c i : Nat) (l0 : List (S53)) (y : S53) (cur cur2 : Array Value) (g2 c2 : Nat) (w0 w : World) (hB : Below w0.heap.size w0 w) (hg : w0.heap.size ≤ g) (hP : P0_ g) (hb : w.heap[g]? = some (.cells cur 53 (0, 0))) (hs : cur.size = c * 5) (ht : cur.toList.take (n * 5) = Go.Proofs.Ytdbfjakhkclggaa.Slc.cellsOf impl_Account_69.enc l0)
    (hn : l0.length = n) (hi : i < n) (hr : n + 1 ≤ c) (hm : c ≤ maxLen) (hb2 : w.heap[g2]? = some (.cells cur2 53 (0, 0))) (ht2 : cur2.toList.take 5 = impl_Account_69.enc y) (hne : g2 ≠ g) (hc2 : 1 ≤ c2) :
    Calls Try.prog 69 #[.slice (some ⟨g, 0, none⟩) n c, .int .i64 (i : Int), .slice (some ⟨g2, 0, none⟩) 1 c2] w fun e w' => ∃ v0_ : Value, e = .returned (v0_) ∧ Kd.R k53 53 w' w0.heap.size (fun k_ => ((P0_ k_ ∨ P2_ k_) ∨ w.heap.size ≤ k_)) v0_ (l0.take i ++ y :: l0.drop i) ∧ Below w0.heap.size w0 w' ∧ Kept w w' (fun k_ => P0_ k_ ∨ P2_ k_) := by
  have hsz3 : (k53).sz = 5 := rfl
  have hsize := impl_Account_69.size
  have hcl : (Go.Proofs.Ytdbfjakhkclggaa.Slc.cellsOf impl_Account_69.enc l0).length = n * 5 := by rw [impl_Account_69.flat.cells_len, hn]; rfl
  have hyl : (impl_Account_69.enc y).length = 5 := impl_Account_69.flat.len y
  have hdl : ((Go.Proofs.Ytdbfjakhkclggaa.Slc.cellsOf impl_Account_69.enc l0).drop (i * 5)).length = (n - i) * 5 := by rw [List.length_drop, hcl, Nat.sub_mul]
  have hc63 : c ≤ 9223372036854775807 := by unfold maxLen at hm; omega
  have hk2 : 5 ≤ cur2.size := by
    have := congrArg List.length ht2
    rw [List.length_take, hyl] at this
    simp at this
    omega
  have hcs : ∀ j v, (Go.Proofs.Ytdbfjakhkclggaa.Slc.cellsOf impl_Account_69.enc l0)[j]? = some v → cur[j]? = some v := fun j v hj => by
    have hlt := (List.getElem?_eq_some_iff.1 hj).1
    rw [← ht, List.getElem?_take_of_lt (by omega), Array.getElem?_toList] at hj
    exact hj
  have hvs : ∀ j v, (impl_Account_69.enc y)[j]? = some v → cur2[j]? = some v := fun j v hj => by
    have hlt := (List.getElem?_eq_some_iff.1 hj).1
    rw [← ht2, List.getElem?_take_of_lt (by omega), Array.getElem?_toList] at hj
    exact hj
  have hov : ∀ lb cb, (callFunc 79 #[.slice (some ⟨g2, 0, none⟩) 1 c2, .slice (some ⟨g, (i + 1) * 5, none⟩) lb cb]).run Try.prog w = .ok (.value (.bool false)) w := fun lb cb => by
    rw [run_callFunc_extern Try.func79 (by kernel_rfl) (by kernel_rfl) (by kernel_rfl) (e := Extern.SlicesOverlaps.overlaps #[27, 27] #[4]) (by kernel_rfl),
      Lib.run_overlaps_apart w 27 4 53 Try.underlying27 5 impl_Account_69.sizeOf ⟨g2, 0, none⟩ ⟨g, (i + 1) * 5, none⟩ 1 c2 lb cb hne 53 53 cur2.size cur.size (by simp [World.shape?, hb2]) (by simp [World.shape?, hb]) (by omega) (blk_frozen hb2 0) (blk_frozen hb2 _)]
    rfl
  have hcp1 : ∀ ty dc sc, (Builtin.copy_ #[27, 27] ty #[.slice (some ⟨g, (i + 1) * 5, none⟩) (n - i) dc, .slice (some ⟨g, i * 5, none⟩) (n + 1 - i) sc]).run Try.prog w.drew = .ok (goInt (n - i : Nat)) (w.drew.setCells g ((i + 1) * 5) ((Go.Proofs.Ytdbfjakhkclggaa.Slc.cellsOf impl_Account_69.enc l0).drop (i * 5))) := fun ty dc sc =>
    Go.Proofs.Ytdbfjakhkclggaa.Slc.run_copy_k w.drew _ _ ty 53 5 g ((i + 1) * 5) _ dc ⟨g, i * 5, none⟩ _ sc _ (n - i) Try.underlying27 hsize u3_21 hdl
      (fun j v hj => by
        rw [List.getElem?_drop] at hj
        rw [Addr.add_lit]
        exact (blk_cell (w := w.drew) hb _).trans (hcs _ v hj))
      (fun j hj => by
        rw [hdl, Nat.sub_mul] at hj
        have : i * 5 ≤ n * 5 := Nat.mul_le_mul_right _ (by omega)
        have : (n + 1) * 5 ≤ c * 5 := Nat.mul_le_mul_right _ hr
        have hlt : (i + 1) * 5 + j < cur.size := by rw [hs]; omega
        rw [blk_cell (w := w.drew) hb, Array.getElem?_eq_getElem hlt]; rfl)
      (fun j _ => blk_frozen (w := w.drew) hb _) (fun v hv => impl_Account_69.flat.cells_one l0 v (List.mem_of_mem_drop hv))
  obtain ⟨W1, hW1⟩ : ∃ W1, W1 = w.drew.setCells g ((i + 1) * 5) ((Go.Proofs.Ytdbfjakhkclggaa.Slc.cellsOf impl_Account_69.enc l0).drop (i * 5)) := ⟨_, rfl⟩
  rw [← hW1] at hcp1
  obtain ⟨cur1, hb1, hs1, ho1, hi1⟩ := Go.Proofs.Ytdbfjakhkclggaa.Slc.setCells_blk g 53 ((Go.Proofs.Ytdbfjakhkclggaa.Slc.cellsOf impl_Account_69.enc l0).drop (i * 5)) ((i + 1) * 5) w.drew cur hb
  rw [← hW1] at hb1
  have hb21 : W1.heap[g2]? = some (.cells cur2 53 (0, 0)) := by
    rw [hW1]; exact (Go.Proofs.Ytdbfjakhkclggaa.Slc.setCells_other g _ _ w.drew g2 hne).trans hb2
  have hcp2 : ∀ ty dc, (Builtin.copy_ #[27, 27] ty #[.slice (some ⟨g, i * 5, none⟩) (n + 1 - i) dc, .slice (some ⟨g2, 0, none⟩) 1 c2]).run Try.prog W1 = .ok (goInt (1 : Nat)) (W1.setCells g (i * 5) (impl_Account_69.enc y)) := fun ty dc =>
    Go.Proofs.Ytdbfjakhkclggaa.Slc.run_copy_k W1 _ _ ty 53 5 g (i * 5) _ dc ⟨g2, 0, none⟩ 1 c2 _ 1 Try.underlying27 hsize u3_21 (by rw [hyl])
      (fun j v hj => by
        have := (blk_cell hb21 j).trans (hvs _ v hj)
        rw [Addr.add_lit, Nat.zero_add]
        exact this)
      (fun j hj => by
        rw [hyl] at hj
        have : (i + 1) * 5 ≤ c * 5 := Nat.mul_le_mul_right _ (by omega)
        have hlt : i * 5 + j < cur1.size := by rw [hs1, hs]; omega
        rw [blk_cell hb1, Array.getElem?_eq_getElem hlt]; rfl)
      (fun j _ => blk_frozen hb1 _) (impl_Account_69.flat.one y)
  obtain ⟨W2, hW2⟩ : ∃ W2, W2 = W1.setCells g (i * 5) (impl_Account_69.enc y) := ⟨_, rfl⟩
  rw [← hW2] at hcp2
  obtain ⟨cur3, hb3, hs3, ho3, hi3⟩ := Go.Proofs.Ytdbfjakhkclggaa.Slc.setCells_blk g 53 (impl_Account_69.enc y) (i * 5) W1 cur1 hb1
  rw [← hW2] at hb3
  have hR : Kd.R k53 53 W2 w0.heap.size (fun k_ => ((P0_ k_ ∨ P2_ k_) ∨ w.heap.size ≤ k_)) (.slice (some ⟨g, 0, none⟩) (n + 1) c) (l0.take i ++ y :: l0.drop i) := by
    refine impl_Account_69.flat.row hb3 hg (.inl (.inl hP)) (by simp; omega) hr hm (hs3.trans (hs1.trans hs)) (impl_Account_69.flat.ins_cells hn (by omega) (fun q hq => ?_) (fun j hj => ?_) (fun j hj => ?_))
    · rw [hsz3] at hq
      have : i * 5 ≤ n * 5 := Nat.mul_le_mul_right _ (by omega)
      rw [ho3 q (.inl hq), ho1 q (.inl (by omega)), ← ht, List.getElem?_take_of_lt (by omega), Array.getElem?_toList]
    · rw [hsz3] at hj ⊢
      have : (i + 1) * 5 ≤ c * 5 := Nat.mul_le_mul_right _ (by omega)
      exact hi3 j (by omega) (by rw [hs1, hs]; omega)
    · rw [hsz3] at hj ⊢
      have h1 : i * 5 ≤ n * 5 := Nat.mul_le_mul_right _ (by omega)
      have h2 : (n + 1) * 5 ≤ c * 5 := Nat.mul_le_mul_right _ hr
      rw [Nat.sub_mul] at hj
      rw [ho3 _ (.inr (by rw [hyl]; omega)), hi1 j (by rw [hdl, Nat.sub_mul]; omega) (by rw [hs]; omega), List.getElem?_drop]
  have hBel : Below w0.heap.size w0 W2 := by
    rw [hW2, hW1]
    exact Go.Proofs.Ytdbfjakhkclggaa.Slc.below_setCells hg _ _ (Go.Proofs.Ytdbfjakhkclggaa.Slc.below_setCells hg _ _ (below_drew hB))
  have hKp : Kept w W2 (fun k_ => P0_ k_ ∨ P2_ k_) := by
    rw [hW2, hW1]
    exact Go.Proofs.Ytdbfjakhkclggaa.Slc.kept_setCells (.inl (.inl hP)) _ _ (Go.Proofs.Ytdbfjakhkclggaa.Slc.kept_setCells (.inl (.inl hP)) _ _ (Kept.drew (Kept.refl w _)))
  have HR := Aside0.mk hR
  have HBe := Aside0.mk hBel
  have HKp := Aside0.mk hKp
  have hz2 : ¬ ((i : Int) = (n : Int)) := by omega
  have hw1 : IntKind.i64.wrap ((i : Int) + 1) = (i : Int) + 1 := by rw [IntKind.wrap_i64]; omega
  have hb1' : (0 : Int) ≤ (i : Int) + 1 := by omega
  have hin : i ≤ n := by omega
  have htn : ((i : Int) + 1).toNat = i + 1 := by omega
  have hb2' : ¬ (c = i + 1) := by omega
  have hb3' : (i : Int) ≤ (n : Int) + 1 := by omega
  have hb4 : ¬ (c = i) := by omega
  clear hR hBel hKp hb hs ht hb2 ht2 hcs hvs hW1 hb1 hs1 ho1 hi1 hb21 hW2 hb3 hs3 ho3 hi3 hcl hyl hdl hB hg hP hm hk2 hsz3 hsize hn hne
  go_enter Try.func69, Try.ntmps69
  go_wp2_with (simp only [hov])
  go_region_law (refine Go.Proofs.Ytdbfjakhkclggaa.Slc.step_copy rfl _ _ 27 27 rfl _ _ (by simp [Act.eval, Act.put]) (by simp [Act.eval, Act.put]) (hcp1 _ _ _) ?_)
  go_wp2_with (at_builtin; refine Go.Proofs.Ytdbfjakhkclggaa.Slc.list_copy _ rfl _ _ 27 27 rfl _ _ rfl rfl (hcp2 _ _) ?_)
  go_ret
  exact ⟨_, rfl, HR.out, HBe.out, HKp.out⟩
theorem impl_Account_69.parts : ∃ i0, Try.prog.info? 53 = some i0 ∧ i0.zero = some (.agg #[.int .u64 0, .int .u64 0, .int .u64 0, .int .u64 0, .int .i64 0]) ∧ i0.size = 5 ∧ i0.bytes = 40 := by
  obtain ⟨i0, h, h2⟩ := Option.map_eq_some_iff.1 impl_Account_69.info
  simp only [Prod.mk.injEq] at h2
  exact ⟨i0, h, h2.1, h2.2.1, h2.2.2⟩
set_option maxHeartbeats 2000000 in
set_option maxRecDepth 100000 in
theorem impl_Account_69.grow (P0_ P2_ : Nat → Prop) (g n i : Nat) (l0 : List (S53)) (y : S53) (cur cur2 : Array Value) (g2 c2 : Nat) (w0 w : World) (hB : Below w0.heap.size w0 w) (hb : w.heap[g]? = some (.cells cur 53 (0, 0))) (hs : cur.size = n * 5) (ht : cur.toList.take (n * 5) = Go.Proofs.Ytdbfjakhkclggaa.Slc.cellsOf impl_Account_69.enc l0)
    (hn : l0.length = n) (hi : i < n) (hl : n < 1000000) (hb2 : w.heap[g2]? = some (.cells cur2 53 (0, 0))) (ht2 : cur2.toList.take 5 = impl_Account_69.enc y) (hc2 : 1 ≤ c2) :
    Calls Try.prog 69 #[.slice (some ⟨g, 0, none⟩) n n, .int .i64 (i : Int), .slice (some ⟨g2, 0, none⟩) 1 c2] w fun e w' => ∃ v0_ : Value, e = .returned (v0_) ∧ Kd.R k53 53 w' w0.heap.size (fun k_ => ((P0_ k_ ∨ P2_ k_) ∨ w.heap.size ≤ k_)) v0_ (l0.take i ++ y :: l0.drop i) ∧ Below w0.heap.size w0 w' ∧ Kept w w' (fun k_ => P0_ k_ ∨ P2_ k_) := by
  have hsz3 : (k53).sz = 5 := rfl
  have hsize := impl_Account_69.size
  obtain ⟨i0, hi0, hz0, hzs, hzb⟩ := impl_Account_69.parts
  have hcl : (Go.Proofs.Ytdbfjakhkclggaa.Slc.cellsOf impl_Account_69.enc l0).length = n * 5 := by rw [impl_Account_69.flat.cells_len, hn]; rfl
  have hyl : (impl_Account_69.enc y).length = 5 := impl_Account_69.flat.len y
  have hdl : ((Go.Proofs.Ytdbfjakhkclggaa.Slc.cellsOf impl_Account_69.enc l0).drop (i * 5)).length = (n - i) * 5 := by rw [List.length_drop, hcl, Nat.sub_mul]
  have hin3 : i * 5 ≤ n * 5 := Nat.mul_le_mul_right _ (by omega)
  have htl : ((Go.Proofs.Ytdbfjakhkclggaa.Slc.cellsOf impl_Account_69.enc l0).take (i * 5)).length = i * 5 := by rw [List.length_take, hcl]; omega
  have hgw : g < w.heap.size := blk_lt hb
  have hg2w : g2 < w.heap.size := blk_lt hb2
  have hcs : ∀ j v, (Go.Proofs.Ytdbfjakhkclggaa.Slc.cellsOf impl_Account_69.enc l0)[j]? = some v → cur[j]? = some v := fun j v hj => by
    have hlt := (List.getElem?_eq_some_iff.1 hj).1
    rw [← ht, List.getElem?_take_of_lt (by omega), Array.getElem?_toList] at hj
    exact hj
  have hvs : ∀ j v, (impl_Account_69.enc y)[j]? = some v → cur2[j]? = some v := fun j v hj => by
    have hlt := (List.getElem?_eq_some_iff.1 hj).1
    rw [← ht2, List.getElem?_take_of_lt (by omega), Array.getElem?_toList] at hj
    exact hj
  have hold : (Builtin.firstCells i0.size i (.slice (some ⟨g, 0, none⟩) i n)).run Try.prog w.drew = .ok ((Go.Proofs.Ytdbfjakhkclggaa.Slc.cellsOf impl_Account_69.enc l0).take (i * 5)).toArray w.drew := by
    rw [hzs]
    exact run_firstCells_some w.drew 5 i ⟨g, 0, none⟩ i n _ htl (fun j v hj => by
      have hj' : (Go.Proofs.Ytdbfjakhkclggaa.Slc.cellsOf impl_Account_69.enc l0)[j]? = some v := by
        rw [List.getElem?_take] at hj
        split at hj
        · exact hj
        · cases hj
      rw [Addr.add_lit, Nat.zero_add]
      exact (blk_cell (w := w.drew) hb j).trans (hcs j v hj'))
  have hik : i + (n + 1 - i) = n + 1 := by omega
  have hkk : (n : Int) + 1 - (i : Int) = ((n + 1 - i : Nat) : Int) := by omega
  obtain ⟨G, hG⟩ : ∃ G, G = grownCap w (n + 1) n 53 := ⟨_, rfl⟩
  obtain ⟨ROW, hROW⟩ : ∃ ROW : Array Value, ROW = ((Go.Proofs.Ytdbfjakhkclggaa.Slc.cellsOf impl_Account_69.enc l0).take (i * 5)).toArray ++ Builtin.zeroCells (.agg #[.int .u64 0, .int .u64 0, .int .u64 0, .int .u64 0, .int .i64 0] : Value).cells (n + 1 - i) ++ Builtin.zeroCells (.agg #[.int .u64 0, .int .u64 0, .int .u64 0, .int .u64 0, .int .i64 0] : Value).cells (G - (n + 1)) := ⟨_, rfl⟩
  have hrz : ∀ ty, (Builtin.append_ #[27, 3] ty #[.slice (some ⟨g, 0, none⟩) i n, .int .i64 ((n : Int) + 1 - (i : Int))]).run Try.prog w = .ok (.slice (some ⟨w.heap.size, 0, none⟩) (n + 1) G) (w.drew.alloc (.cells ROW 53)) := fun ty => by
    have h := Lib.run_append_grow_zeros (P := Try.prog) w 27 3 ty 53 i0 _ .i64 .i64 Try.underlying27 Try.underlying3 hi0 hz0 (some ⟨g, 0, none⟩) i n _ hold (n + 1 - i) (by omega) (by omega) (by omega) (by omega) (by rw [hzb]; omega) (by rw [hzb, hik]; exact growslice_fits (by omega) (by omega))
    rw [hik] at h
    rw [hkk, hROW, hG]
    exact h
  have hGn : n + 1 ≤ G := by rw [hG]; exact grownCap_ge w _ _ _
  have hGm : G ≤ maxLen := by rw [hG]; exact grownCap_le_maxLen w (n + 1) n 53 (by unfold maxLen; omega)
  have hRl : ROW.size = G * 5 := by
    have e1 : ∀ k, (Builtin.zeroCells (.agg #[.int .u64 0, .int .u64 0, .int .u64 0, .int .u64 0, .int .i64 0] : Value).cells k).size = k * 5 := fun k => by simp [Builtin.zeroCells, Value.cells]; try omega
    rw [hROW, Array.size_append, Array.size_append, e1, e1]
    simp only [List.size_toArray, htl]
    rw [← Nat.add_mul, ← Nat.add_mul]
    congr 1; omega
  have hR0 : ∀ q, q < i * 5 → ROW[q]? = (Go.Proofs.Ytdbfjakhkclggaa.Slc.cellsOf impl_Account_69.enc l0)[q]? := fun q hq => by
    rw [hROW, Array.append_assoc, Array.getElem?_append_left (by simp only [List.size_toArray, htl]; exact hq), List.getElem?_toArray, List.getElem?_take_of_lt hq]
  obtain ⟨W1, hW1⟩ : ∃ W1, W1 = w.drew.alloc (.cells ROW 53) := ⟨_, rfl⟩
  rw [← hW1] at hrz
  have hbN : W1.heap[w.heap.size]? = some (.cells ROW 53 (0, 0)) := by rw [hW1]; exact Array.getElem?_push_size
  have hkeep : ∀ k, k < w.heap.size → W1.heap[k]? = w.heap[k]? := fun k hk => by rw [hW1]; show (w.heap.push _)[k]? = _; rw [Array.getElem?_push, if_neg (Nat.ne_of_lt hk)]
  have hb2N : W1.heap[g2]? = some (.cells cur2 53 (0, 0)) := (hkeep g2 hg2w).trans hb2
  have hB1 : Below w0.heap.size w0 W1 := by rw [hW1]; exact below_alloc (below_drew hB) _
  have hK1 : Kept w W1 (fun k_ => P0_ k_ ∨ P2_ k_) := by rw [hW1]; exact (Kept.drew (Kept.refl w _)).alloc _
  have hwN : w0.heap.size ≤ w.heap.size := hB.size
  obtain ⟨NB, hNB⟩ : ∃ NB, NB = w.heap.size := ⟨_, rfl⟩
  have hgN : g ≠ NB := by omega
  have hg2N : g2 ≠ NB := by omega
  have hcpA : ∀ ty dc, (Builtin.copy_ #[27, 27] ty #[.slice (some ⟨NB, i * 5, none⟩) (n + 1 - i) dc, .slice (some ⟨g2, 0, none⟩) 1 c2]).run Try.prog W1 = .ok (goInt (1 : Nat)) (W1.setCells NB (i * 5) (impl_Account_69.enc y)) := fun ty dc =>
    Go.Proofs.Ytdbfjakhkclggaa.Slc.run_copy_k W1 _ _ ty 53 5 NB (i * 5) _ dc ⟨g2, 0, none⟩ 1 c2 _ 1 Try.underlying27 hsize u3_21 (by rw [hyl])
      (fun j v hj => by
        rw [Addr.add_lit, Nat.zero_add]
        exact (blk_cell hb2N j).trans (hvs _ v hj))
      (fun j hj => by
        rw [hyl] at hj
        have : (i + 1) * 5 ≤ G * 5 := Nat.mul_le_mul_right _ (by omega)
        have hlt : i * 5 + j < ROW.size := by omega
        rw [hNB, blk_cell hbN, Array.getElem?_eq_getElem hlt]; rfl)
      (fun j _ => by rw [hNB]; exact blk_frozen hbN _) (impl_Account_69.flat.one y)
  rw [← hNB] at hbN hrz
  obtain ⟨W2, hW2⟩ : ∃ W2, W2 = W1.setCells NB (i * 5) (impl_Account_69.enc y) := ⟨_, rfl⟩
  rw [← hW2] at hcpA
  obtain ⟨cur3, hb3, hs3, ho3, hi3⟩ := Go.Proofs.Ytdbfjakhkclggaa.Slc.setCells_blk NB 53 (impl_Account_69.enc y) (i * 5) W1 ROW hbN
  rw [← hW2] at hb3
  have hb31 : W2.heap[g]? = some (.cells cur 53 (0, 0)) := by
    rw [hW2]; exact (Go.Proofs.Ytdbfjakhkclggaa.Slc.setCells_other NB _ _ W1 g hgN).trans ((hkeep g hgw).trans hb)
  have hcpB : ∀ ty dc sc, (Builtin.copy_ #[27, 27] ty #[.slice (some ⟨NB, (i + 1) * 5, none⟩) (n - i) dc, .slice (some ⟨g, i * 5, none⟩) (n - i) sc]).run Try.prog W2.drew = .ok (goInt (n - i : Nat)) (W2.drew.setCells NB ((i + 1) * 5) ((Go.Proofs.Ytdbfjakhkclggaa.Slc.cellsOf impl_Account_69.enc l0).drop (i * 5))) := fun ty dc sc =>
    Go.Proofs.Ytdbfjakhkclggaa.Slc.run_copy_k W2.drew _ _ ty 53 5 NB ((i + 1) * 5) _ dc ⟨g, i * 5, none⟩ _ sc _ (n - i) Try.underlying27 hsize u3_21 hdl
      (fun j v hj => by
        rw [List.getElem?_drop] at hj
        rw [Addr.add_lit]
        exact (blk_cell (w := W2.drew) hb31 _).trans (hcs _ v hj))
      (fun j hj => by
        rw [hdl, Nat.sub_mul] at hj
        have : (n + 1) * 5 ≤ G * 5 := Nat.mul_le_mul_right _ hGn
        have hlt : (i + 1) * 5 + j < cur3.size := by rw [hs3, hRl]; omega
        rw [blk_cell (w := W2.drew) hb3, Array.getElem?_eq_getElem hlt]; rfl)
      (fun j _ => blk_frozen (w := W2.drew) hb3 _) (fun v hv => impl_Account_69.flat.cells_one l0 v (List.mem_of_mem_drop hv))
  obtain ⟨W3, hW3⟩ : ∃ W3, W3 = W2.drew.setCells NB ((i + 1) * 5) ((Go.Proofs.Ytdbfjakhkclggaa.Slc.cellsOf impl_Account_69.enc l0).drop (i * 5)) := ⟨_, rfl⟩
  rw [← hW3] at hcpB
  obtain ⟨cur4, hb4, hs4, ho4, hi4⟩ := Go.Proofs.Ytdbfjakhkclggaa.Slc.setCells_blk NB 53 ((Go.Proofs.Ytdbfjakhkclggaa.Slc.cellsOf impl_Account_69.enc l0).drop (i * 5)) ((i + 1) * 5) W2.drew cur3 hb3
  rw [← hW3] at hb4
  have hR : Kd.R k53 53 W3 w0.heap.size (fun k_ => ((P0_ k_ ∨ P2_ k_) ∨ w.heap.size ≤ k_)) (.slice (some ⟨NB, 0, none⟩) (n + 1) G) (l0.take i ++ y :: l0.drop i) := by
    refine impl_Account_69.flat.row hb4 (by omega) (.inr (by omega)) (by simp; omega) hGn hGm (hs4.trans (hs3.trans hRl)) (impl_Account_69.flat.ins_cells hn (by omega) (fun q hq => ?_) (fun j hj => ?_) (fun j hj => ?_))
    · rw [hsz3] at hq
      rw [ho4 q (.inl (by omega)), ho3 q (.inl hq), hR0 q hq]
    · rw [hsz3] at hj ⊢
      have : (i + 1) * 5 ≤ G * 5 := Nat.mul_le_mul_right _ (by omega)
      rw [ho4 _ (.inl (by omega))]
      exact hi3 j (by omega) (by rw [hRl]; omega)
    · rw [hsz3] at hj ⊢
      have h2 : (n + 1) * 5 ≤ G * 5 := Nat.mul_le_mul_right _ hGn
      rw [Nat.sub_mul] at hj
      rw [hi4 j (by rw [hdl, Nat.sub_mul]; omega) (by rw [hs3, hRl]; omega), List.getElem?_drop]
  have hBel : Below w0.heap.size w0 W3 := by
    rw [hW3, hW2]
    exact Go.Proofs.Ytdbfjakhkclggaa.Slc.below_setCells (by omega) _ _ (below_drew (Go.Proofs.Ytdbfjakhkclggaa.Slc.below_setCells (by omega) _ _ hB1))
  have hKp : Kept w W3 (fun k_ => P0_ k_ ∨ P2_ k_) := by
    rw [hW3, hW2]
    exact Go.Proofs.Ytdbfjakhkclggaa.Slc.kept_setCells (.inr (by omega)) _ _ (Kept.drew (Go.Proofs.Ytdbfjakhkclggaa.Slc.kept_setCells (.inr (by omega)) _ _ hK1))
  have HR := Aside0.mk hR
  have HBe := Aside0.mk hBel
  have HKp := Aside0.mk hKp
  have hz2 : ¬ ((i : Int) = (n : Int)) := by omega
  have hz3 : (n : Int) < (n : Int) + 1 := by omega
  have hG63 : G ≤ 9223372036854775807 := by unfold maxLen at hGm; omega
  have hGi : ¬ (G = i) := by omega
  have hGim : ¬ (G = i + 1) := by omega
  have hci : ¬ (n = i) := by omega
  have hw1 : IntKind.i64.wrap ((i : Int) + 1) = (i : Int) + 1 := by rw [IntKind.wrap_i64]; omega
  have hb1 : (0 : Int) ≤ (i : Int) + 1 := by omega
  have hin : i ≤ n := by omega
  have htn : ((i : Int) + 1).toNat = i + 1 := by omega
  have hb3' : (i : Int) ≤ (n : Int) := by omega
  clear hR hBel hKp hb hs ht hb2 ht2 hcs hvs hW1 hW2 hW3 hb3 hs3 ho3 hi3 hb4 hs4 ho4 hi4 hcl hyl hdl hB hsz3 hsize hi0 hz0 hzs hzb hold hROW hG hRl hR0 hbN hkeep hb2N hB1 hK1 hb31 hGm hkk hik hin3 htl hgw hg2w hgN hg2N hwN hNB hn
  go_enter Try.func69, Try.ntmps69
  go_wp2_with (first
    | (at_builtin; refine Lib.wpList_append_run _ rfl _ _ _ _ rfl _ _ rfl rfl _ _ (hrz _) ?_)
    | (at_builtin; refine Go.Proofs.Ytdbfjakhkclggaa.Slc.list_copy _ rfl _ _ 27 27 rfl _ _ rfl rfl (hcpA _ _) ?_))
  go_region_law (refine Go.Proofs.Ytdbfjakhkclggaa.Slc.step_copy rfl _ _ 27 27 rfl _ _ (by simp [Act.eval, Act.put]) (by simp [Act.eval, Act.put]) (hcpB _ _ _) ?_)
  go_wp2
  go_ret
  exact ⟨_, rfl, HR.out, HBe.out, HKp.out⟩
set_option maxHeartbeats 2000000 in
theorem impl_Account_69.calls (P0_ : Nat → Prop) (u9000_ : Value) (l0 : List (S53)) (a1 : Int) (P2_ : Nat → Prop) (u9001_ : Value) (l2 : List (S53)) (r : List (S53)) (w0 w : World) (hB : Below w0.heap.size w0 w) (ho0 : Kd.R k53 53 w w0.heap.size P0_ u9000_ l0) (hp0_2 : ∀ k_, P0_ k_ → ¬ P2_ k_) (ho2 : Kd.R k53 53 w w0.heap.size P2_ u9001_ l2) (hp2_0 : ∀ k_, P2_ k_ → ¬ P0_ k_) (h : impl_Account_69.f l0 a1 l2 = some r) :
    Calls Try.prog 69 #[u9000_, .int .i64 a1, u9001_] w fun e w' => ∃ v0_ : Value, e = .returned (v0_) ∧ Kd.R k53 53 w' w0.heap.size (fun k_ => ((P0_ k_ ∨ P2_ k_) ∨ w.heap.size ≤ k_)) v0_ r ∧ Below w0.heap.size w0 w' ∧ Kept w w' (fun k_ => P0_ k_ ∨ P2_ k_) := by
  unfold impl_Account_69.f at h
  by_cases hc : 0 ≤ a1 ∧ a1 ≤ (l0.length : Int) ∧ l2.length = 1 ∧ l0.length < 1000000
  rotate_left
  · rw [if_neg hc] at h; cases h
  rw [if_pos hc] at h
  obtain rfl := Option.some.inj h
  clear h
  obtain ⟨h0, hle, hl2, hl⟩ := hc
  obtain ⟨i, rfl⟩ := Int.eq_ofNat_of_zero_le h0
  rw [Int.toNat_natCast]
  match l2, hl2, ho2 with
  | [y], hl2, ho2 =>
  obtain ⟨g2, c2, cur2, rfl, _, hP2, hb2, hc2, _, _, ht2⟩ := impl_Account_69.flat.block ho2 (by simp)
  have ht2' : cur2.toList.take (k53).sz = impl_Account_69.enc y := by simpa [Go.Proofs.Ytdbfjakhkclggaa.Slc.cellsOf] using ht2
  by_cases hi : i < l0.length
  rotate_left
  · have hin : i = l0.length := by omega
    subst hin
    obtain ⟨A0, c0, rfl, hc0, _⟩ := Kd.R_reads ho0
    obtain ⟨hnl, hle2, hC2⟩ := Kd.R_reads' ho2
    have hm : c0 ≤ maxLen := by
      obtain ⟨_, inner, ⟨_, ho⟩, _⟩ := ho0
      rcases ho with ⟨he, _⟩ | ⟨g', cap', cur, he, _, _, _, hm, _⟩
      · injection he with e1 e2 e3; rw [e3]; exact Nat.zero_le _
      · injection he with e1 e2 e3; rw [e3]; exact hm
    exact (impl_Account_69.at_end P0_ P2_ A0 l0.length c0 l0 g2 c2 [y] w0 w hB ho0 hC2 rfl rfl hc2 hl hc0 hm).mono fun e w' h => by simpa using h
  obtain ⟨g, c, cur, rfl, hg, hP, hb, hcap, hm, hs, ht⟩ := impl_Account_69.flat.block ho0 (by omega)
  have hne : g2 ≠ g := fun e => hp0_2 g hP (e ▸ hP2)
  by_cases hr : l0.length + 1 ≤ c
  · exact (impl_Account_69.shift P0_ P2_ g l0.length c i l0 y cur cur2 g2 c2 w0 w hB hg hP hb hs ht rfl hi hr hm hb2 ht2' hne hc2).mono fun e w' h => by simpa using h
  have hcn : c = l0.length := by omega
  subst hcn
  exact (impl_Account_69.grow P0_ P2_ g l0.length i l0 y cur cur2 g2 c2 w0 w hB hb hs ht rfl hi hl hb2 ht2' hc2).mono fun e w' h => by simpa using h


/-! ### impl_OpenAccount: function 43 -/
def impl_OpenAccount.f (k : Nat) (l0_0 : List (S53)) (a1 : Int) : Option ((List (S53)) × Int) := (impl_copyBook.f l0_0).bind fun t121 => ((impl_accountOf.f k l0_0 a1).bind fun bt125 => ((impl_isBook.f k l0_0).bind fun t127 => (if t127 = true then (if bt125.2 = true then (some (t121, 3)) else (if (l0_0.length : Int) = 40 then (some (t121, 1)) else ((impl_Account_69.f t121 bt125.1 (([(⟨a1, 0, 0, 0, 0⟩ : S53)] : List (S53)))).bind fun t131 => (some (t131, 0))))) else (some (t121, 1)))))
theorem impl_OpenAccount.mono : ∀ a0 a1 k, LeO (impl_OpenAccount.f k a0 a1) (impl_OpenAccount.f (k + 1) a0 a1) := by
  intro a0 a1 k
  unfold impl_OpenAccount.f
  repeat' first
      | (with_reducible exact impl_accountOf.mono _ _ _)
      | (with_reducible exact impl_isBook.mono _ _)
      | (with_reducible exact LeO.refl _)
      | (with_reducible exact LeO.none _)
      | (with_reducible refine LeO.ite ?_ ?_)
      | (with_reducible refine LeO.bind ?_ (fun _ => ?_))
      | exact impl_accountOf.mono _ _ _
      | exact impl_isBook.mono _ _
      | exact LeO.none _
      | refine LeO.ite ?_ ?_
      | refine LeO.bind ?_ (fun _ => ?_)
set_option maxHeartbeats 8000000 in
set_option maxRecDepth 100000 in
theorem impl_OpenAccount.calls (k : Nat) (A0_0 : Option Addr) (c0_0 : Nat) (l0_0 : List (S53)) (a1 : Int) (r1 : List (S53)) (r2 : Int) (w : World) (hr0_0 : Kd.C k53 w A0_0 l0_0.length l0_0) (hc0_0 : l0_0.length ≤ c0_0) (h : impl_OpenAccount.f k l0_0 a1 = some (r1, r2)) :
    Calls Try.prog 43 #[.agg #[.slice A0_0 l0_0.length c0_0], .int .u64 a1] w fun e w' => ∃ v0_ : Value, e = .returned (.tuple #[.agg #[v0_], .int .i64 r2]) ∧ Kd.R k53 53 w' w.heap.size (fun _ => True) v0_ r1 ∧ Below w.heap.size w w' := by
  have hu29 := Try.underlying29
  have hu53 := Try.underlying53
  have HR0_0 := Aside0.mk hr0_0
  have HC0_0 := Aside0.mk hc0_0
  clear hr0_0 hc0_0
  have HB := Aside0.mk (Below.refl w.heap.size w)
  have H : ((impl_copyBook.f l0_0).bind fun t121 => ((impl_accountOf.f k l0_0 a1).bind fun bt125 => ((impl_isBook.f k l0_0).bind fun t127 => (if t127 = true then (if bt125.2 = true then (some (t121, 3)) else (if (l0_0.length : Int) = 40 then (some (t121, 1)) else ((impl_Account_69.f t121 bt125.1 (([(⟨a1, 0, 0, 0, 0⟩ : S53)] : List (S53)))).bind fun t131 => (some (t131, 0))))) else (some (t121, 1)))))) = some (r1, r2) := h
  clear h
  replace H := Option.bind_eq_some_iff.mp H
  obtain ⟨t121, A30, H⟩ := H
  have A3 := Aside0.mk A30
  clear A30
  replace H := Option.bind_eq_some_iff.mp H
  obtain ⟨⟨t125, t126⟩, A40, H⟩ := H
  (try dsimp only at H)
  have A4 := Aside0.mk A40
  clear A40
  replace H := Option.bind_eq_some_iff.mp H
  obtain ⟨t127, A50, H⟩ := H
  have A5 := Aside0.mk A50
  clear A50
  by_cases c6 : t127 = true
  rotate_left
  · replace c6 := Bool.eq_false_iff.mpr c6
    subst c6
    rw [if_neg (show ¬ (false = true) by decide)] at H
    simp only [Option.some.injEq, Prod.mk.injEq] at H
    obtain ⟨rfl, rfl⟩ := H
    go_enter Try.func43, Try.ntmps43
    go_wp2_with (first | ((with_reducible refine gate_dst (N := 2) rfl ?_); refine box_event ?hg (N := 2) ?hd (cs := #[.slice A0_0 l0_0.length c0_0]) (t := 29) ?hr ?_; (case hd => rfl); (case hg => rfl); (case hr => first | (go_simp; done) | (go_simp; rfl)); intro gb119 hg w66 hbox hb; have n0_ := Aside0.mk (below_step u3_3 hb); have n1_ := Aside0.mk (hbox); have n2_ := Aside0.mk ((by rw [hg]; exact (below_size u3_3) : w.heap.size ≤ gb119)); have n3_ := Aside0.mk ((by rw [hg]; exact (below_size u3_3) : w.heap.size ≤ gb119)); clear HB; have HB := n0_; have BK119 := n1_; have GW119 := n2_; have GE119 := n3_; clear n0_ n1_ n2_ n3_; clear hb hbox hg) | ((with_reducible refine gate_dst (N := 4) rfl ?_); refine box_event ?hg (N := 4) ?hd (cs := #[.slice none 0 0]) (t := 29) ?hr ?_; (case hd => rfl); (case hg => rfl); (case hr => first | (go_simp; done) | (go_simp; rfl)); intro gb120 hg w67 hbox hb; have n0_ := Aside0.mk (blk_below (g := gb119) (o := .cells #[.slice A0_0 l0_0.length c0_0] 29 (0, 0)) u3_1 hb); have n1_ := Aside0.mk (below_step u3_5 hb); have n2_ := Aside0.mk (hbox); have n3_ := Aside0.mk ((by rw [hg]; exact (below_size u3_5) : w.heap.size ≤ gb120)); have n4_ := Aside0.mk ((by rw [hg]; exact (below_size u3_5) : w.heap.size ≤ gb120)); have n5_ := Aside0.mk ((by rw [hg]; exact Nat.ne_of_lt (blk_lt (g := gb119) (o := .cells #[.slice A0_0 l0_0.length c0_0] 29 (0, 0)) u3_1) : gb119 ≠ gb120)); have n6_ := Aside0.mk ((by rw [hg]; exact Nat.ne_of_gt (blk_lt (g := gb119) (o := .cells #[.slice A0_0 l0_0.length c0_0] 29 (0, 0)) u3_1) : gb120 ≠ gb119)); clear BK119; clear HB; have BK119 := n0_; have HB := n1_; have BK120 := n2_; have GW120 := n3_; have GE120 := n4_; have NB119_120 := n5_; have NB120_119 := n6_; clear n0_ n1_ n2_ n3_ n4_ n5_ n6_; clear hb hbox hg; have hnb68 := NB119_120.out; have hnc68 := NB120_119.out; have hcz69_0 : w67.cell? ⟨gb119, 0, none⟩ = some (.slice A0_0 l0_0.length c0_0) := (blk_cell BK119.out 0).trans rfl; have hfz69_0 := blk_frozen BK119.out 0) | ((with_reducible refine gate_callee (f := 56) rfl ?_); refine goesL_ (some 10) rfl rfl Try.func56 (by kernel_rfl) rfl #[.agg #[.slice A0_0 l0_0.length c0_0]] rfl u3_7 ?_; (with_reducible refine (impl_copyBook.calls _ _ l0_0 t121 _ ?side1 ?side2 A3.out).mono ?_); (case side1 => exact u3_8); (case side2 => exact HC0_0.out); rintro e w70 ⟨v122, rfl, ho0, hb⟩; refine ⟨_, rfl, ?_⟩; have n0_ := Aside0.mk (Kd.R_lower ho0 (below_size u3_2)); have n1_ := Aside0.mk (blk_below (g := gb119) (o := .cells #[.slice A0_0 l0_0.length c0_0] 29 (0, 0)) u3_1 hb); have n2_ := Aside0.mk (blk_below (g := gb120) (o := .cells #[.slice none 0 0] 29 (0, 0)) u3_4 hb); have n3_ := Aside0.mk (below_step u3_2 hb); clear BK119; clear BK120; clear HB; have HO123 := n0_; have BK119 := n1_; have BK120 := n2_; have HB := n3_; clear n0_ n1_ n2_ n3_; (try clear hb); (try clear hb2); (try clear hk); (try clear hi); (try clear ho0)) | ((with_reducible refine gate_dst (N := 6) rfl ?_); refine box_event ?hg (N := 6) ?hd (cs := #[.slice none 0 0]) (t := 29) ?hr ?_; (case hd => rfl); (case hg => rfl); (case hr => first | (go_simp; done) | (go_simp; rfl)); intro gb124 hg w71 hbox hb; have n0_ := Aside0.mk (Kd.R_below u3_9 hb); have n1_ := Aside0.mk (blk_below (g := gb119) (o := .cells #[.slice A0_0 l0_0.length c0_0] 29 (0, 0)) u3_1 hb); have n2_ := Aside0.mk (blk_below (g := gb120) (o := .cells #[.slice none 0 0] 29 (0, 0)) u3_4 hb); have n3_ := Aside0.mk (below_step u3_2 hb); have n4_ := Aside0.mk (hbox); have n5_ := Aside0.mk ((by rw [hg]; exact (below_size u3_2) : w.heap.size ≤ gb124)); have n6_ := Aside0.mk ((by rw [hg]; exact (below_size u3_2) : w.heap.size ≤ gb124)); have n7_ := Aside0.mk ((by rw [hg]; exact Nat.ne_of_lt (blk_lt (g := gb119) (o := .cells #[.slice A0_0 l0_0.length c0_0] 29 (0, 0)) u3_1) : gb119 ≠ gb124)); have n8_ := Aside0.mk ((by rw [hg]; exact Nat.ne_of_gt (blk_lt (g := gb119) (o := .cells #[.slice A0_0 l0_0.length c0_0] 29 (0, 0)) u3_1) : gb124 ≠ gb119)); have n9_ := Aside0.mk ((by rw [hg]; exact Nat.ne_of_lt (blk_lt (g := gb120) (o := .cells #[.slice none 0 0] 29 (0, 0)) u3_4) : gb120 ≠ gb124)); have n10_ := Aside0.mk ((by rw [hg]; exact Nat.ne_of_gt (blk_lt (g := gb120) (o := .cells #[.slice none 0 0] 29 (0, 0)) u3_4) : gb124 ≠ gb120)); clear HO123; clear BK119; clear BK120; clear HB; have HO123 := n0_; have BK119 := n1_; have BK120 := n2_; have HB := n3_; have BK124 := n4_; have GW124 := n5_; have GE124 := n6_; have NB119_124 := n7_; have NB124_119 := n8_; have NB120_124 := n9_; have NB124_120 := n10_; clear n0_ n1_ n2_ n3_ n4_ n5_ n6_ n7_ n8_ n9_ n10_; clear hb hbox hg; obtain ⟨Ao72, co72, eo72⟩ := Kd.R_slice HO123.out; subst eo72; have hnb73 := NB124_119.out; have hnc73 := NB119_124.out; have hnb74 := NB124_120.out; have hnc74 := NB120_124.out; have hcz75_0 : w71.cell? ⟨gb124, 0, none⟩ = some (.slice none 0 0) := (blk_cell BK124.out 0).trans rfl; have hfz75_0 := blk_frozen BK124.out 0; have hcz76_0 : w71.cell? ⟨gb119, 0, none⟩ = some (.slice A0_0 l0_0.length c0_0) := (blk_cell BK119.out 0).trans rfl; have hfz76_0 := blk_frozen BK119.out 0) | ((with_reducible refine gate_callee (f := 57) rfl ?_); refine goesL_ (some 14) rfl rfl Try.func57 (by kernel_rfl) rfl #[.agg #[.slice A0_0 l0_0.length c0_0], .int .u64 a1] rfl u3_7 ?_; (with_reducible refine (impl_accountOf.calls k _ _ l0_0 a1 t125 t126 _ ?side1 ?side2 A4.out).mono ?_); (case side1 => exact u3_22); (case side2 => exact HC0_0.out); rintro e w77 ⟨rfl, hb⟩; refine ⟨_, rfl, ?_⟩; have n0_ := Aside0.mk (Kd.R_below (by (with_reducible repeat (first | apply Kd.R_alloc | apply Kd.R_drewN | apply Kd.R_drew)); exact (Kd.R_mono (Kd.R_far (p := ⟨gb124, 0, none⟩) (Kd.R_types HO123.out BK124.out (by decide)) (fun _ hk => hk.2) (.slice Ao72 t121.length co72)) (fun _ h_ => h_.1))) hb); have n1_ := Aside0.mk (blk_below (g := gb119) (o := .cells #[.slice A0_0 l0_0.length c0_0] 29 (0, 0)) u3_11 hb); have n2_ := Aside0.mk (blk_below (g := gb120) (o := .cells #[.slice none 0 0] 29 (0, 0)) u3_12 hb); have n3_ := Aside0.mk (blk_below (g := gb124) (o := .cells #[.slice Ao72 t121.length co72] 29 (0, 0)) u3_10 hb); have n4_ := Aside0.mk (below_step u3_0 hb); clear HO123; clear BK119; clear BK120; clear BK124; clear HB; have HO123 := n0_; have BK119 := n1_; have BK120 := n2_; have BK124 := n3_; have HB := n4_; clear n0_ n1_ n2_ n3_ n4_; (try clear hb); (try clear hb2); (try clear hk); (try clear hi); have hcz78_0 : w77.cell? ⟨gb119, 0, none⟩ = some (.slice A0_0 l0_0.length c0_0) := (blk_cell BK119.out 0).trans rfl; have hfz78_0 := blk_frozen BK119.out 0) | ((with_reducible refine gate_callee (f := 50) rfl ?_); refine goesL_ (some 19) rfl rfl Try.func50 (by kernel_rfl) rfl #[.agg #[.slice A0_0 l0_0.length c0_0]] rfl u3_7 ?_; (with_reducible refine (impl_isBook.calls k _ _ l0_0 false _ ?side1 ?side2 A5.out).mono ?_); (case side1 => exact u3_8); (case side2 => exact HC0_0.out); rintro e w79 ⟨rfl, hb⟩; refine ⟨_, rfl, ?_⟩; have n0_ := Aside0.mk (Kd.R_below u3_9 hb); have n1_ := Aside0.mk (blk_below (g := gb119) (o := .cells #[.slice A0_0 l0_0.length c0_0] 29 (0, 0)) u3_1 hb); have n2_ := Aside0.mk (blk_below (g := gb120) (o := .cells #[.slice none 0 0] 29 (0, 0)) u3_4 hb); have n3_ := Aside0.mk (blk_below (g := gb124) (o := .cells #[.slice Ao72 t121.length co72] 29 (0, 0)) u3_14 hb); have n4_ := Aside0.mk (below_step u3_0 hb); clear HO123; clear BK119; clear BK120; clear BK124; clear HB; have HO123 := n0_; have BK119 := n1_; have BK120 := n2_; have BK124 := n3_; have HB := n4_; clear n0_ n1_ n2_ n3_ n4_; (try clear hb); (try clear hb2); (try clear hk); (try clear hi); have hcz80_0 : w79.cell? ⟨gb124, 0, none⟩ = some (.slice Ao72 t121.length co72) := (blk_cell BK124.out 0).trans rfl; have hfz80_0 := blk_frozen BK124.out 0; have hcz81_0 : w79.cell? ⟨gb120, 0, none⟩ = some (.slice none 0 0) := (blk_cell BK120.out 0).trans rfl; have hfz81_0 := blk_frozen BK120.out 0))
    refine bodyPost_ret (results_ct rfl _ _ gb120 29 #[.slice Ao72 t121.length co72] (0, 0) _ rfl u3_15 Try.underlying29 rfl (by kernel_rfl)) rfl ?_
    exact ⟨_, by first | rfl | (simp [errW_none, errW_some] <;> rfl) | (simp [*, errW_none, errW_some] <;> rfl), (by (with_reducible repeat (first | apply Kd.R_alloc | apply Kd.R_drewN | apply Kd.R_drew)); exact Kd.R_mono (Kd.R_far (p := ⟨gb120, 0, none⟩) (Kd.R_types HO123.out BK120.out (by decide)) (fun _ hk => hk.2) (.slice Ao72 t121.length co72)) (fun _ hk => trivial)), u3_0⟩
  subst c6
  rw [if_pos rfl] at H
  by_cases c7 : t126 = true
  · subst c7
    rw [if_pos rfl] at H
    simp only [Option.some.injEq, Prod.mk.injEq] at H
    obtain ⟨rfl, rfl⟩ := H
    go_enter Try.func43, Try.ntmps43
    go_wp2_with (first | ((with_reducible refine gate_dst (N := 2) rfl ?_); refine box_event ?hg (N := 2) ?hd (cs := #[.slice A0_0 l0_0.length c0_0]) (t := 29) ?hr ?_; (case hd => rfl); (case hg => rfl); (case hr => first | (go_simp; done) | (go_simp; rfl)); intro gb119 hg w8 hbox hb; have n0_ := Aside0.mk (below_step u3_3 hb); have n1_ := Aside0.mk (hbox); have n2_ := Aside0.mk ((by rw [hg]; exact (below_size u3_3) : w.heap.size ≤ gb119)); have n3_ := Aside0.mk ((by rw [hg]; exact (below_size u3_3) : w.heap.size ≤ gb119)); clear HB; have HB := n0_; have BK119 := n1_; have GW119 := n2_; have GE119 := n3_; clear n0_ n1_ n2_ n3_; clear hb hbox hg) | ((with_reducible refine gate_dst (N := 4) rfl ?_); refine box_event ?hg (N := 4) ?hd (cs := #[.slice none 0 0]) (t := 29) ?hr ?_; (case hd => rfl); (case hg => rfl); (case hr => first | (go_simp; done) | (go_simp; rfl)); intro gb120 hg w9 hbox hb; have n0_ := Aside0.mk (blk_below (g := gb119) (o := .cells #[.slice A0_0 l0_0.length c0_0] 29 (0, 0)) u3_1 hb); have n1_ := Aside0.mk (below_step u3_5 hb); have n2_ := Aside0.mk (hbox); have n3_ := Aside0.mk ((by rw [hg]; exact (below_size u3_5) : w.heap.size ≤ gb120)); have n4_ := Aside0.mk ((by rw [hg]; exact (below_size u3_5) : w.heap.size ≤ gb120)); have n5_ := Aside0.mk ((by rw [hg]; exact Nat.ne_of_lt (blk_lt (g := gb119) (o := .cells #[.slice A0_0 l0_0.length c0_0] 29 (0, 0)) u3_1) : gb119 ≠ gb120)); have n6_ := Aside0.mk ((by rw [hg]; exact Nat.ne_of_gt (blk_lt (g := gb119) (o := .cells #[.slice A0_0 l0_0.length c0_0] 29 (0, 0)) u3_1) : gb120 ≠ gb119)); clear BK119; clear HB; have BK119 := n0_; have HB := n1_; have BK120 := n2_; have GW120 := n3_; have GE120 := n4_; have NB119_120 := n5_; have NB120_119 := n6_; clear n0_ n1_ n2_ n3_ n4_ n5_ n6_; clear hb hbox hg; have hnb10 := NB119_120.out; have hnc10 := NB120_119.out; have hcz11_0 : w9.cell? ⟨gb119, 0, none⟩ = some (.slice A0_0 l0_0.length c0_0) := (blk_cell BK119.out 0).trans rfl; have hfz11_0 := blk_frozen BK119.out 0) | ((with_reducible refine gate_callee (f := 56) rfl ?_); refine goesL_ (some 10) rfl rfl Try.func56 (by kernel_rfl) rfl #[.agg #[.slice A0_0 l0_0.length c0_0]] rfl u3_7 ?_; (with_reducible refine (impl_copyBook.calls _ _ l0_0 t121 _ ?side1 ?side2 A3.out).mono ?_); (case side1 => exact u3_8); (case side2 => exact HC0_0.out); rintro e w12 ⟨v122, rfl, ho0, hb⟩; refine ⟨_, rfl, ?_⟩; have n0_ := Aside0.mk (Kd.R_lower ho0 (below_size u3_2)); have n1_ := Aside0.mk (blk_below (g := gb119) (o := .cells #[.slice A0_0 l0_0.length c0_0] 29 (0, 0)) u3_1 hb); have n2_ := Aside0.mk (blk_below (g := gb120) (o := .cells #[.slice none 0 0] 29 (0, 0)) u3_4 hb); have n3_ := Aside0.mk (below_step u3_2 hb); clear BK119; clear BK120; clear HB; have HO123 := n0_; have BK119 := n1_; have BK120 := n2_; have HB := n3_; clear n0_ n1_ n2_ n3_; (try clear hb); (try clear hb2); (try clear hk); (try clear hi); (try clear ho0)) | ((with_reducible refine gate_dst (N := 6) rfl ?_); refine box_event ?hg (N := 6) ?hd (cs := #[.slice none 0 0]) (t := 29) ?hr ?_; (case hd => rfl); (case hg => rfl); (case hr => first | (go_simp; done) | (go_simp; rfl)); intro gb124 hg w13 hbox hb; have n0_ := Aside0.mk (Kd.R_below u3_9 hb); have n1_ := Aside0.mk (blk_below (g := gb119) (o := .cells #[.slice A0_0 l0_0.length c0_0] 29 (0, 0)) u3_1 hb); have n2_ := Aside0.mk (blk_below (g := gb120) (o := .cells #[.slice none 0 0] 29 (0, 0)) u3_4 hb); have n3_ := Aside0.mk (below_step u3_2 hb); have n4_ := Aside0.mk (hbox); have n5_ := Aside0.mk ((by rw [hg]; exact (below_size u3_2) : w.heap.size ≤ gb124)); have n6_ := Aside0.mk ((by rw [hg]; exact (below_size u3_2) : w.heap.size ≤ gb124)); have n7_ := Aside0.mk ((by rw [hg]; exact Nat.ne_of_lt (blk_lt (g := gb119) (o := .cells #[.slice A0_0 l0_0.length c0_0] 29 (0, 0)) u3_1) : gb119 ≠ gb124)); have n8_ := Aside0.mk ((by rw [hg]; exact Nat.ne_of_gt (blk_lt (g := gb119) (o := .cells #[.slice A0_0 l0_0.length c0_0] 29 (0, 0)) u3_1) : gb124 ≠ gb119)); have n9_ := Aside0.mk ((by rw [hg]; exact Nat.ne_of_lt (blk_lt (g := gb120) (o := .cells #[.slice none 0 0] 29 (0, 0)) u3_4) : gb120 ≠ gb124)); have n10_ := Aside0.mk ((by rw [hg]; exact Nat.ne_of_gt (blk_lt (g := gb120) (o := .cells #[.slice none 0 0] 29 (0, 0)) u3_4) : gb124 ≠ gb120)); clear HO123; clear BK119; clear BK120; clear HB; have HO123 := n0_; have BK119 := n1_; have BK120 := n2_; have HB := n3_; have BK124 := n4_; have GW124 := n5_; have GE124 := n6_; have NB119_124 := n7_; have NB124_119 := n8_; have NB120_124 := n9_; have NB124_120 := n10_; clear n0_ n1_ n2_ n3_ n4_ n5_ n6_ n7_ n8_ n9_ n10_; clear hb hbox hg; obtain ⟨Ao14, co14, eo14⟩ := Kd.R_slice HO123.out; subst eo14; have hnb15 := NB124_119.out; have hnc15 := NB119_124.out; have hnb16 := NB124_120.out; have hnc16 := NB120_124.out; have hcz17_0 : w13.cell? ⟨gb124, 0, none⟩ = some (.slice none 0 0) := (blk_cell BK124.out 0).trans rfl; have hfz17_0 := blk_frozen BK124.out 0; have hcz18_0 : w13.cell? ⟨gb119, 0, none⟩ = some (.slice A0_0 l0_0.length c0_0) := (blk_cell BK119.out 0).trans rfl; have hfz18_0 := blk_frozen BK119.out 0) | ((with_reducible refine gate_callee (f := 57) rfl ?_); refine goesL_ (some 14) rfl rfl Try.func57 (by kernel_rfl) rfl #[.agg #[.slice A0_0 l0_0.length c0_0], .int .u64 a1] rfl u3_7 ?_; (with_reducible refine (impl_accountOf.calls k _ _ l0_0 a1 t125 true _ ?side1 ?side2 A4.out).mono ?_); (case side1 => exact u3_22); (case side2 => exact HC0_0.out); rintro e w19 ⟨rfl, hb⟩; refine ⟨_, rfl, ?_⟩; have n0_ := Aside0.mk (Kd.R_below (by (with_reducible repeat (first | apply Kd.R_alloc | apply Kd.R_drewN | apply Kd.R_drew)); exact (Kd.R_mono (Kd.R_far (p := ⟨gb124, 0, none⟩) (Kd.R_types HO123.out BK124.out (by decide)) (fun _ hk => hk.2) (.slice Ao14 t121.length co14)) (fun _ h_ => h_.1))) hb); have n1_ := Aside0.mk (blk_below (g := gb119) (o := .cells #[.slice A0_0 l0_0.length c0_0] 29 (0, 0)) u3_11 hb); have n2_ := Aside0.mk (blk_below (g := gb120) (o := .cells #[.slice none 0 0] 29 (0, 0)) u3_12 hb); have n3_ := Aside0.mk (blk_below (g := gb124) (o := .cells #[.slice Ao14 t121.length co14] 29 (0, 0)) u3_10 hb); have n4_ := Aside0.mk (below_step u3_0 hb); clear HO123; clear BK119; clear BK120; clear BK124; clear HB; have HO123 := n0_; have BK119 := n1_; have BK120 := n2_; have BK124 := n3_; have HB := n4_; clear n0_ n1_ n2_ n3_ n4_; (try clear hb); (try clear hb2); (try clear hk); (try clear hi); have hcz20_0 : w19.cell? ⟨gb119, 0, none⟩ = some (.slice A0_0 l0_0.length c0_0) := (blk_cell BK119.out 0).trans rfl; have hfz20_0 := blk_frozen BK119.out 0) | ((with_reducible refine gate_callee (f := 50) rfl ?_); refine goesL_ (some 19) rfl rfl Try.func50 (by kernel_rfl) rfl #[.agg #[.slice A0_0 l0_0.length c0_0]] rfl u3_7 ?_; (with_reducible refine (impl_isBook.calls k _ _ l0_0 true _ ?side1 ?side2 A5.out).mono ?_); (case side1 => exact u3_8); (case side2 => exact HC0_0.out); rintro e w21 ⟨rfl, hb⟩; refine ⟨_, rfl, ?_⟩; have n0_ := Aside0.mk (Kd.R_below u3_9 hb); have n1_ := Aside0.mk (blk_below (g := gb119) (o := .cells #[.slice A0_0 l0_0.length c0_0] 29 (0, 0)) u3_1 hb); have n2_ := Aside0.mk (blk_below (g := gb120) (o := .cells #[.slice none 0 0] 29 (0, 0)) u3_4 hb); have n3_ := Aside0.mk (blk_below (g := gb124) (o := .cells #[.slice Ao14 t121.length co14] 29 (0, 0)) u3_14 hb); have n4_ := Aside0.mk (below_step u3_0 hb); clear HO123; clear BK119; clear BK120; clear BK124; clear HB; have HO123 := n0_; have BK119 := n1_; have BK120 := n2_; have BK124 := n3_; have HB := n4_; clear n0_ n1_ n2_ n3_ n4_; (try clear hb); (try clear hb2); (try clear hk); (try clear hi); have hcz22_0 : w21.cell? ⟨gb124, 0, none⟩ = some (.slice Ao14 t121.length co14) := (blk_cell BK124.out 0).trans rfl; have hfz22_0 := blk_frozen BK124.out 0; have hcz23_0 : w21.cell? ⟨gb120, 0, none⟩ = some (.slice none 0 0) := (blk_cell BK120.out 0).trans rfl; have hfz23_0 := blk_frozen BK120.out 0))
    refine bodyPost_ret (results_ct rfl _ _ gb120 29 #[.slice Ao14 t121.length co14] (0, 0) _ rfl u3_15 Try.underlying29 rfl (by kernel_rfl)) rfl ?_
    exact ⟨_, by first | rfl | (simp [errW_none, errW_some] <;> rfl) | (simp [*, errW_none, errW_some] <;> rfl), (by (with_reducible repeat (first | apply Kd.R_alloc | apply Kd.R_drewN | apply Kd.R_drew)); exact Kd.R_mono (Kd.R_far (p := ⟨gb120, 0, none⟩) (Kd.R_types HO123.out BK120.out (by decide)) (fun _ hk => hk.2) (.slice Ao14 t121.length co14)) (fun _ hk => trivial)), u3_0⟩
  replace c7 := Bool.eq_false_iff.mpr c7
  subst c7
  rw [if_neg (show ¬ (false = true) by decide)] at H
  by_cases c24 : (l0_0.length : Int) = 40
  · rw [if_pos c24] at H
    have c24b0 : ((l0_0.length : Int) == 40) = true := beq_iff_eq.mpr c24
    have c24b1 : ((l0_0.length : Int) != 40) = false := bne_eq_false_iff_eq.mpr c24
    clear c24
    simp only [Option.some.injEq, Prod.mk.injEq] at H
    obtain ⟨rfl, rfl⟩ := H
    go_enter Try.func43, Try.ntmps43
    go_wp2_with (first | ((with_reducible refine gate_dst (N := 2) rfl ?_); refine box_event ?hg (N := 2) ?hd (cs := #[.slice A0_0 l0_0.length c0_0]) (t := 29) ?hr ?_; (case hd => rfl); (case hg => rfl); (case hr => first | (go_simp; done) | (go_simp; rfl)); intro gb119 hg w25 hbox hb; have n0_ := Aside0.mk (below_step u3_3 hb); have n1_ := Aside0.mk (hbox); have n2_ := Aside0.mk ((by rw [hg]; exact (below_size u3_3) : w.heap.size ≤ gb119)); have n3_ := Aside0.mk ((by rw [hg]; exact (below_size u3_3) : w.heap.size ≤ gb119)); clear HB; have HB := n0_; have BK119 := n1_; have GW119 := n2_; have GE119 := n3_; clear n0_ n1_ n2_ n3_; clear hb hbox hg) | ((with_reducible refine gate_dst (N := 4) rfl ?_); refine box_event ?hg (N := 4) ?hd (cs := #[.slice none 0 0]) (t := 29) ?hr ?_; (case hd => rfl); (case hg => rfl); (case hr => first | (go_simp; done) | (go_simp; rfl)); intro gb120 hg w26 hbox hb; have n0_ := Aside0.mk (blk_below (g := gb119) (o := .cells #[.slice A0_0 l0_0.length c0_0] 29 (0, 0)) u3_1 hb); have n1_ := Aside0.mk (below_step u3_5 hb); have n2_ := Aside0.mk (hbox); have n3_ := Aside0.mk ((by rw [hg]; exact (below_size u3_5) : w.heap.size ≤ gb120)); have n4_ := Aside0.mk ((by rw [hg]; exact (below_size u3_5) : w.heap.size ≤ gb120)); have n5_ := Aside0.mk ((by rw [hg]; exact Nat.ne_of_lt (blk_lt (g := gb119) (o := .cells #[.slice A0_0 l0_0.length c0_0] 29 (0, 0)) u3_1) : gb119 ≠ gb120)); have n6_ := Aside0.mk ((by rw [hg]; exact Nat.ne_of_gt (blk_lt (g := gb119) (o := .cells #[.slice A0_0 l0_0.length c0_0] 29 (0, 0)) u3_1) : gb120 ≠ gb119)); clear BK119; clear HB; have BK119 := n0_; have HB := n1_; have BK120 := n2_; have GW120 := n3_; have GE120 := n4_; have NB119_120 := n5_; have NB120_119 := n6_; clear n0_ n1_ n2_ n3_ n4_ n5_ n6_; clear hb hbox hg; have hnb27 := NB119_120.out; have hnc27 := NB120_119.out; have hcz28_0 : w26.cell? ⟨gb119, 0, none⟩ = some (.slice A0_0 l0_0.length c0_0) := (blk_cell BK119.out 0).trans rfl; have hfz28_0 := blk_frozen BK119.out 0) | ((with_reducible refine gate_callee (f := 56) rfl ?_); refine goesL_ (some 10) rfl rfl Try.func56 (by kernel_rfl) rfl #[.agg #[.slice A0_0 l0_0.length c0_0]] rfl u3_7 ?_; (with_reducible refine (impl_copyBook.calls _ _ l0_0 t121 _ ?side1 ?side2 A3.out).mono ?_); (case side1 => exact u3_8); (case side2 => exact HC0_0.out); rintro e w29 ⟨v122, rfl, ho0, hb⟩; refine ⟨_, rfl, ?_⟩; have n0_ := Aside0.mk (Kd.R_lower ho0 (below_size u3_2)); have n1_ := Aside0.mk (blk_below (g := gb119) (o := .cells #[.slice A0_0 l0_0.length c0_0] 29 (0, 0)) u3_1 hb); have n2_ := Aside0.mk (blk_below (g := gb120) (o := .cells #[.slice none 0 0] 29 (0, 0)) u3_4 hb); have n3_ := Aside0.mk (below_step u3_2 hb); clear BK119; clear BK120; clear HB; have HO123 := n0_; have BK119 := n1_; have BK120 := n2_; have HB := n3_; clear n0_ n1_ n2_ n3_; (try clear hb); (try clear hb2); (try clear hk); (try clear hi); (try clear ho0)) | ((with_reducible refine gate_dst (N := 6) rfl ?_); refine box_event ?hg (N := 6) ?hd (cs := #[.slice none 0 0]) (t := 29) ?hr ?_; (case hd => rfl); (case hg => rfl); (case hr => first | (go_simp; done) | (go_simp; rfl)); intro gb124 hg w30 hbox hb; have n0_ := Aside0.mk (Kd.R_below u3_9 hb); have n1_ := Aside0.mk (blk_below (g := gb119) (o := .cells #[.slice A0_0 l0_0.length c0_0] 29 (0, 0)) u3_1 hb); have n2_ := Aside0.mk (blk_below (g := gb120) (o := .cells #[.slice none 0 0] 29 (0, 0)) u3_4 hb); have n3_ := Aside0.mk (below_step u3_2 hb); have n4_ := Aside0.mk (hbox); have n5_ := Aside0.mk ((by rw [hg]; exact (below_size u3_2) : w.heap.size ≤ gb124)); have n6_ := Aside0.mk ((by rw [hg]; exact (below_size u3_2) : w.heap.size ≤ gb124)); have n7_ := Aside0.mk ((by rw [hg]; exact Nat.ne_of_lt (blk_lt (g := gb119) (o := .cells #[.slice A0_0 l0_0.length c0_0] 29 (0, 0)) u3_1) : gb119 ≠ gb124)); have n8_ := Aside0.mk ((by rw [hg]; exact Nat.ne_of_gt (blk_lt (g := gb119) (o := .cells #[.slice A0_0 l0_0.length c0_0] 29 (0, 0)) u3_1) : gb124 ≠ gb119)); have n9_ := Aside0.mk ((by rw [hg]; exact Nat.ne_of_lt (blk_lt (g := gb120) (o := .cells #[.slice none 0 0] 29 (0, 0)) u3_4) : gb120 ≠ gb124)); have n10_ := Aside0.mk ((by rw [hg]; exact Nat.ne_of_gt (blk_lt (g := gb120) (o := .cells #[.slice none 0 0] 29 (0, 0)) u3_4) : gb124 ≠ gb120)); clear HO123; clear BK119; clear BK120; clear HB; have HO123 := n0_; have BK119 := n1_; have BK120 := n2_; have HB := n3_; have BK124 := n4_; have GW124 := n5_; have GE124 := n6_; have NB119_124 := n7_; have NB124_119 := n8_; have NB120_124 := n9_; have NB124_120 := n10_; clear n0_ n1_ n2_ n3_ n4_ n5_ n6_ n7_ n8_ n9_ n10_; clear hb hbox hg; obtain ⟨Ao31, co31, eo31⟩ := Kd.R_slice HO123.out; subst eo31; have hnb32 := NB124_119.out; have hnc32 := NB119_124.out; have hnb33 := NB124_120.out; have hnc33 := NB120_124.out; have hcz34_0 : w30.cell? ⟨gb124, 0, none⟩ = some (.slice none 0 0) := (blk_cell BK124.out 0).trans rfl; have hfz34_0 := blk_frozen BK124.out 0; have hcz35_0 : w30.cell? ⟨gb119, 0, none⟩ = some (.slice A0_0 l0_0.length c0_0) := (blk_cell BK119.out 0).trans rfl; have hfz35_0 := blk_frozen BK119.out 0) | ((with_reducible refine gate_callee (f := 57) rfl ?_); refine goesL_ (some 14) rfl rfl Try.func57 (by kernel_rfl) rfl #[.agg #[.slice A0_0 l0_0.length c0_0], .int .u64 a1] rfl u3_7 ?_; (with_reducible refine (impl_accountOf.calls k _ _ l0_0 a1 t125 false _ ?side1 ?side2 A4.out).mono ?_); (case side1 => exact u3_22); (case side2 => exact HC0_0.out); rintro e w36 ⟨rfl, hb⟩; refine ⟨_, rfl, ?_⟩; have n0_ := Aside0.mk (Kd.R_below (by (with_reducible repeat (first | apply Kd.R_alloc | apply Kd.R_drewN | apply Kd.R_drew)); exact (Kd.R_mono (Kd.R_far (p := ⟨gb124, 0, none⟩) (Kd.R_types HO123.out BK124.out (by decide)) (fun _ hk => hk.2) (.slice Ao31 t121.length co31)) (fun _ h_ => h_.1))) hb); have n1_ := Aside0.mk (blk_below (g := gb119) (o := .cells #[.slice A0_0 l0_0.length c0_0] 29 (0, 0)) u3_11 hb); have n2_ := Aside0.mk (blk_below (g := gb120) (o := .cells #[.slice none 0 0] 29 (0, 0)) u3_12 hb); have n3_ := Aside0.mk (blk_below (g := gb124) (o := .cells #[.slice Ao31 t121.length co31] 29 (0, 0)) u3_10 hb); have n4_ := Aside0.mk (below_step u3_0 hb); clear HO123; clear BK119; clear BK120; clear BK124; clear HB; have HO123 := n0_; have BK119 := n1_; have BK120 := n2_; have BK124 := n3_; have HB := n4_; clear n0_ n1_ n2_ n3_ n4_; (try clear hb); (try clear hb2); (try clear hk); (try clear hi); have hcz37_0 : w36.cell? ⟨gb119, 0, none⟩ = some (.slice A0_0 l0_0.length c0_0) := (blk_cell BK119.out 0).trans rfl; have hfz37_0 := blk_frozen BK119.out 0) | ((with_reducible refine gate_callee (f := 50) rfl ?_); refine goesL_ (some 19) rfl rfl Try.func50 (by kernel_rfl) rfl #[.agg #[.slice A0_0 l0_0.length c0_0]] rfl u3_7 ?_; (with_reducible refine (impl_isBook.calls k _ _ l0_0 true _ ?side1 ?side2 A5.out).mono ?_); (case side1 => exact u3_8); (case side2 => exact HC0_0.out); rintro e w38 ⟨rfl, hb⟩; refine ⟨_, rfl, ?_⟩; have n0_ := Aside0.mk (Kd.R_below u3_9 hb); have n1_ := Aside0.mk (blk_below (g := gb119) (o := .cells #[.slice A0_0 l0_0.length c0_0] 29 (0, 0)) u3_1 hb); have n2_ := Aside0.mk (blk_below (g := gb120) (o := .cells #[.slice none 0 0] 29 (0, 0)) u3_4 hb); have n3_ := Aside0.mk (blk_below (g := gb124) (o := .cells #[.slice Ao31 t121.length co31] 29 (0, 0)) u3_14 hb); have n4_ := Aside0.mk (below_step u3_0 hb); clear HO123; clear BK119; clear BK120; clear BK124; clear HB; have HO123 := n0_; have BK119 := n1_; have BK120 := n2_; have BK124 := n3_; have HB := n4_; clear n0_ n1_ n2_ n3_ n4_; (try clear hb); (try clear hb2); (try clear hk); (try clear hi); have hcz39_0 : w38.cell? ⟨gb119, 0, none⟩ = some (.slice A0_0 l0_0.length c0_0) := (blk_cell BK119.out 0).trans rfl; have hfz39_0 := blk_frozen BK119.out 0; have hcz40_0 : w38.cell? ⟨gb124, 0, none⟩ = some (.slice Ao31 t121.length co31) := (blk_cell BK124.out 0).trans rfl; have hfz40_0 := blk_frozen BK124.out 0; have hcz41_0 : w38.cell? ⟨gb120, 0, none⟩ = some (.slice none 0 0) := (blk_cell BK120.out 0).trans rfl; have hfz41_0 := blk_frozen BK120.out 0))
    refine bodyPost_ret (results_ct rfl _ _ gb120 29 #[.slice Ao31 t121.length co31] (0, 0) _ rfl u3_15 Try.underlying29 rfl (by kernel_rfl)) rfl ?_
    exact ⟨_, by first | rfl | (simp [errW_none, errW_some] <;> rfl) | (simp [*, errW_none, errW_some] <;> rfl), (by (with_reducible repeat (first | apply Kd.R_alloc | apply Kd.R_drewN | apply Kd.R_drew)); exact Kd.R_mono (Kd.R_far (p := ⟨gb120, 0, none⟩) (Kd.R_types HO123.out BK120.out (by decide)) (fun _ hk => hk.2) (.slice Ao31 t121.length co31)) (fun _ hk => trivial)), u3_0⟩
  rw [if_neg c24] at H
  have c24b0 : ((l0_0.length : Int) == 40) = false := beq_eq_false_iff_ne.mpr c24
  have c24b1 : ((l0_0.length : Int) != 40) = true := bne_iff_ne.mpr c24
  obtain ⟨y128, hy128⟩ : ∃ y_ : List (S53), y_ = (([(⟨a1, 0, 0, 0, 0⟩ : S53)] : List (S53))) := ⟨_, rfl⟩
  replace H : ((impl_Account_69.f t121 t125 y128).bind fun t131 => (some (t131, 0))) = some (r1, r2) := by first | (rw [hy128]; with_reducible exact H) | (have H2_ := (Option.bind_some _ _).symm.trans H; rw [hy128]; with_reducible exact H2_) | (have H2_ := (Option.bind_some _ _).symm.trans H; with_reducible exact H2_) | with_reducible exact H | (rw [hy128]; exact H) | exact H
  have Ny128 := Aside0.mk hy128
  clear hy128
  replace H := Option.bind_eq_some_iff.mp H
  obtain ⟨t131, A420, H⟩ := H
  replace H : (some (t131, 0)) = some (r1, r2) := H
  have A42 := Aside0.mk A420
  clear A420
  simp only [Option.some.injEq, Prod.mk.injEq] at H
  obtain ⟨rfl, rfl⟩ := H
  go_enter Try.func43, Try.ntmps43
  go_wp2_with (first | ((with_reducible refine gate_dst (N := 2) rfl ?_); refine box_event ?hg (N := 2) ?hd (cs := #[.slice A0_0 l0_0.length c0_0]) (t := 29) ?hr ?_; (case hd => rfl); (case hg => rfl); (case hr => first | (go_simp; done) | (go_simp; rfl)); intro gb119 hg w43 hbox hb; have n0_ := Aside0.mk (below_step u3_3 hb); have n1_ := Aside0.mk (hbox); have n2_ := Aside0.mk ((by rw [hg]; exact (below_size u3_3) : w.heap.size ≤ gb119)); have n3_ := Aside0.mk ((by rw [hg]; exact (below_size u3_3) : w.heap.size ≤ gb119)); clear HB; have HB := n0_; have BK119 := n1_; have GW119 := n2_; have GE119 := n3_; clear n0_ n1_ n2_ n3_; clear hb hbox hg) | ((with_reducible refine gate_dst (N := 4) rfl ?_); refine box_event ?hg (N := 4) ?hd (cs := #[.slice none 0 0]) (t := 29) ?hr ?_; (case hd => rfl); (case hg => rfl); (case hr => first | (go_simp; done) | (go_simp; rfl)); intro gb120 hg w44 hbox hb; have n0_ := Aside0.mk (blk_below (g := gb119) (o := .cells #[.slice A0_0 l0_0.length c0_0] 29 (0, 0)) u3_1 hb); have n1_ := Aside0.mk (below_step u3_5 hb); have n2_ := Aside0.mk (hbox); have n3_ := Aside0.mk ((by rw [hg]; exact (below_size u3_5) : w.heap.size ≤ gb120)); have n4_ := Aside0.mk ((by rw [hg]; exact (below_size u3_5) : w.heap.size ≤ gb120)); have n5_ := Aside0.mk ((by rw [hg]; exact Nat.ne_of_lt (blk_lt (g := gb119) (o := .cells #[.slice A0_0 l0_0.length c0_0] 29 (0, 0)) u3_1) : gb119 ≠ gb120)); have n6_ := Aside0.mk ((by rw [hg]; exact Nat.ne_of_gt (blk_lt (g := gb119) (o := .cells #[.slice A0_0 l0_0.length c0_0] 29 (0, 0)) u3_1) : gb120 ≠ gb119)); clear BK119; clear HB; have BK119 := n0_; have HB := n1_; have BK120 := n2_; have GW120 := n3_; have GE120 := n4_; have NB119_120 := n5_; have NB120_119 := n6_; clear n0_ n1_ n2_ n3_ n4_ n5_ n6_; clear hb hbox hg; have hnb45 := NB119_120.out; have hnc45 := NB120_119.out; have hcz46_0 : w44.cell? ⟨gb119, 0, none⟩ = some (.slice A0_0 l0_0.length c0_0) := (blk_cell BK119.out 0).trans rfl; have hfz46_0 := blk_frozen BK119.out 0) | ((with_reducible refine gate_callee (f := 56) rfl ?_); refine goesL_ (some 10) rfl rfl Try.func56 (by kernel_rfl) rfl #[.agg #[.slice A0_0 l0_0.length c0_0]] rfl u3_7 ?_; (with_reducible refine (impl_copyBook.calls _ _ l0_0 t121 _ ?side1 ?side2 A3.out).mono ?_); (case side1 => exact u3_8); (case side2 => exact HC0_0.out); rintro e w47 ⟨v122, rfl, ho0, hb⟩; refine ⟨_, rfl, ?_⟩; have n0_ := Aside0.mk (Kd.R_lower ho0 (below_size u3_2)); have n1_ := Aside0.mk (blk_below (g := gb119) (o := .cells #[.slice A0_0 l0_0.length c0_0] 29 (0, 0)) u3_1 hb); have n2_ := Aside0.mk (blk_below (g := gb120) (o := .cells #[.slice none 0 0] 29 (0, 0)) u3_4 hb); have n3_ := Aside0.mk (below_step u3_2 hb); clear BK119; clear BK120; clear HB; have HO123 := n0_; have BK119 := n1_; have BK120 := n2_; have HB := n3_; clear n0_ n1_ n2_ n3_; (try clear hb); (try clear hb2); (try clear hk); (try clear hi); (try clear ho0)) | ((with_reducible refine gate_dst (N := 6) rfl ?_); refine box_event ?hg (N := 6) ?hd (cs := #[.slice none 0 0]) (t := 29) ?hr ?_; (case hd => rfl); (case hg => rfl); (case hr => first | (go_simp; done) | (go_simp; rfl)); intro gb124 hg w48 hbox hb; have n0_ := Aside0.mk (Kd.R_below u3_9 hb); have n1_ := Aside0.mk (blk_below (g := gb119) (o := .cells #[.slice A0_0 l0_0.length c0_0] 29 (0, 0)) u3_1 hb); have n2_ := Aside0.mk (blk_below (g := gb120) (o := .cells #[.slice none 0 0] 29 (0, 0)) u3_4 hb); have n3_ := Aside0.mk (below_step u3_2 hb); have n4_ := Aside0.mk (hbox); have n5_ := Aside0.mk ((by rw [hg]; exact (below_size u3_2) : w.heap.size ≤ gb124)); have n6_ := Aside0.mk ((by rw [hg]; exact (below_size u3_2) : w.heap.size ≤ gb124)); have n7_ := Aside0.mk ((by rw [hg]; exact Nat.ne_of_lt (blk_lt (g := gb119) (o := .cells #[.slice A0_0 l0_0.length c0_0] 29 (0, 0)) u3_1) : gb119 ≠ gb124)); have n8_ := Aside0.mk ((by rw [hg]; exact Nat.ne_of_gt (blk_lt (g := gb119) (o := .cells #[.slice A0_0 l0_0.length c0_0] 29 (0, 0)) u3_1) : gb124 ≠ gb119)); have n9_ := Aside0.mk ((by rw [hg]; exact Nat.ne_of_lt (blk_lt (g := gb120) (o := .cells #[.slice none 0 0] 29 (0, 0)) u3_4) : gb120 ≠ gb124)); have n10_ := Aside0.mk ((by rw [hg]; exact Nat.ne_of_gt (blk_lt (g := gb120) (o := .cells #[.slice none 0 0] 29 (0, 0)) u3_4) : gb124 ≠ gb120)); clear HO123; clear BK119; clear BK120; clear HB; have HO123 := n0_; have BK119 := n1_; have BK120 := n2_; have HB := n3_; have BK124 := n4_; have GW124 := n5_; have GE124 := n6_; have NB119_124 := n7_; have NB124_119 := n8_; have NB120_124 := n9_; have NB124_120 := n10_; clear n0_ n1_ n2_ n3_ n4_ n5_ n6_ n7_ n8_ n9_ n10_; clear hb hbox hg; obtain ⟨Ao49, co49, eo49⟩ := Kd.R_slice HO123.out; subst eo49; have hnb50 := NB124_119.out; have hnc50 := NB119_124.out; have hnb51 := NB124_120.out; have hnc51 := NB120_124.out; have hcz52_0 : w48.cell? ⟨gb124, 0, none⟩ = some (.slice none 0 0) := (blk_cell BK124.out 0).trans rfl; have hfz52_0 := blk_frozen BK124.out 0; have hcz53_0 : w48.cell? ⟨gb119, 0, none⟩ = some (.slice A0_0 l0_0.length c0_0) := (blk_cell BK119.out 0).trans rfl; have hfz53_0 := blk_frozen BK119.out 0) | ((with_reducible refine gate_callee (f := 57) rfl ?_); refine goesL_ (some 14) rfl rfl Try.func57 (by kernel_rfl) rfl #[.agg #[.slice A0_0 l0_0.length c0_0], .int .u64 a1] rfl u3_7 ?_; (with_reducible refine (impl_accountOf.calls k _ _ l0_0 a1 t125 false _ ?side1 ?side2 A4.out).mono ?_); (case side1 => exact u3_22); (case side2 => exact HC0_0.out); rintro e w54 ⟨rfl, hb⟩; refine ⟨_, rfl, ?_⟩; have n0_ := Aside0.mk (Kd.R_below (by (with_reducible repeat (first | apply Kd.R_alloc | apply Kd.R_drewN | apply Kd.R_drew)); exact (Kd.R_mono (Kd.R_far (p := ⟨gb124, 0, none⟩) (Kd.R_types HO123.out BK124.out (by decide)) (fun _ hk => hk.2) (.slice Ao49 t121.length co49)) (fun _ h_ => h_.1))) hb); have n1_ := Aside0.mk (blk_below (g := gb119) (o := .cells #[.slice A0_0 l0_0.length c0_0] 29 (0, 0)) u3_11 hb); have n2_ := Aside0.mk (blk_below (g := gb120) (o := .cells #[.slice none 0 0] 29 (0, 0)) u3_12 hb); have n3_ := Aside0.mk (blk_below (g := gb124) (o := .cells #[.slice Ao49 t121.length co49] 29 (0, 0)) u3_10 hb); have n4_ := Aside0.mk (below_step u3_0 hb); clear HO123; clear BK119; clear BK120; clear BK124; clear HB; have HO123 := n0_; have BK119 := n1_; have BK120 := n2_; have BK124 := n3_; have HB := n4_; clear n0_ n1_ n2_ n3_ n4_; (try clear hb); (try clear hb2); (try clear hk); (try clear hi); have hcz55_0 : w54.cell? ⟨gb119, 0, none⟩ = some (.slice A0_0 l0_0.length c0_0) := (blk_cell BK119.out 0).trans rfl; have hfz55_0 := blk_frozen BK119.out 0) | ((with_reducible refine gate_callee (f := 50) rfl ?_); refine goesL_ (some 19) rfl rfl Try.func50 (by kernel_rfl) rfl #[.agg #[.slice A0_0 l0_0.length c0_0]] rfl u3_7 ?_; (with_reducible refine (impl_isBook.calls k _ _ l0_0 true _ ?side1 ?side2 A5.out).mono ?_); (case side1 => exact u3_8); (case side2 => exact HC0_0.out); rintro e w56 ⟨rfl, hb⟩; refine ⟨_, rfl, ?_⟩; have n0_ := Aside0.mk (Kd.R_below u3_9 hb); have n1_ := Aside0.mk (blk_below (g := gb119) (o := .cells #[.slice A0_0 l0_0.length c0_0] 29 (0, 0)) u3_1 hb); have n2_ := Aside0.mk (blk_below (g := gb120) (o := .cells #[.slice none 0 0] 29 (0, 0)) u3_4 hb); have n3_ := Aside0.mk (blk_below (g := gb124) (o := .cells #[.slice Ao49 t121.length co49] 29 (0, 0)) u3_14 hb); have n4_ := Aside0.mk (below_step u3_0 hb); clear HO123; clear BK119; clear BK120; clear BK124; clear HB; have HO123 := n0_; have BK119 := n1_; have BK120 := n2_; have BK124 := n3_; have HB := n4_; clear n0_ n1_ n2_ n3_ n4_; (try clear hb); (try clear hb2); (try clear hk); (try clear hi); have hcz57_0 : w56.cell? ⟨gb119, 0, none⟩ = some (.slice A0_0 l0_0.length c0_0) := (blk_cell BK119.out 0).trans rfl; have hfz57_0 := blk_frozen BK119.out 0; have hcz58_0 : w56.cell? ⟨gb124, 0, none⟩ = some (.slice Ao49 t121.length co49) := (blk_cell BK124.out 0).trans rfl; have hfz58_0 := blk_frozen BK124.out 0) | ((with_reducible refine gate_dst (N := 36) rfl ?_); refine Kd.R_lit k53 _ 53 ?hg (N := 36) ?hd (xs := ([(⟨a1, 0, 0, 0, 0⟩ : S53)] : List (S53))) (inner := [.int .u64 a1, .int .u64 0, .int .u64 0, .int .u64 0, .int .i64 0]) (ok := fun _ => True) (okp := fun _ => True) ?hr ?hp (fun _ hk => hk) trivial (Below.refl _ _) (Nat.le_refl _) (by simp) ?_; (case hd => rfl); (case hg => rfl); (case hr => first | (go_simp; done) | (go_simp; rfl)); (case hp => exact (Reps.c5 (show Kd.M k53 _ _ _ (⟨a1, 0, 0, 0, 0⟩ : S53) [.int .u64 a1, .int .u64 0, .int .u64 0, .int .u64 0, .int .i64 0] from (k53_mkM _ _ _ (⟨a1, 0, 0, 0, 0⟩ : S53) )) (Reps.none _ _))); intro v129 w59 ho60 hb hg_ hnew_; clear hg_ hnew_; (first | rw [← Ny128.out] at ho60 | (simp only [Int.reduceToNat] at ho60; rw [← Ny128.out] at ho60)); have n0_ := Aside0.mk (Kd.R_elder' u3_9 (Kd.R_base ho60) hb); have n1_ := Aside0.mk (Kd.R_lower (Kd.R_new' ho60 (Kd.R_lt u3_9)) (below_size u3_0)); have n2_ := Aside0.mk (blk_below (g := gb119) (o := .cells #[.slice A0_0 l0_0.length c0_0] 29 (0, 0)) u3_1 hb); have n3_ := Aside0.mk (blk_below (g := gb120) (o := .cells #[.slice none 0 0] 29 (0, 0)) u3_4 hb); have n4_ := Aside0.mk (blk_below (g := gb124) (o := .cells #[.slice Ao49 t121.length co49] 29 (0, 0)) u3_14 hb); have n5_ := Aside0.mk (below_step u3_0 hb); clear HO123; clear BK119; clear BK120; clear BK124; clear HB; have HO123 := n0_; have HO130 := n1_; have BK119 := n2_; have BK120 := n3_; have BK124 := n4_; have HB := n5_; clear n0_ n1_ n2_ n3_ n4_ n5_; clear hb ho60; obtain ⟨Ao61, co61, eo61⟩ := Kd.R_slice HO130.out; subst eo61) | ((with_reducible refine gate_callee (f := 69) rfl ?_); refine goesL_ (some 37) rfl rfl Try.func69 (by kernel_rfl) rfl #[.slice Ao49 t121.length co49, .int .i64 t125, .slice Ao61 y128.length co61] rfl u3_7 ?_; (with_reducible refine (impl_Account_69.calls (fun k_ => some k_ = (.slice Ao49 t121.length co49 : Value).ownBlock) (.slice Ao49 t121.length co49) t121 t125 (fun k_ => some k_ = (.slice Ao61 y128.length co61 : Value).ownBlock) (.slice Ao61 y128.length co61) y128 t131 w _ ?side1 ?side2 ?side3 ?side4 ?side5 A42.out).mono ?_); (case side1 => exact u3_0); (case side2 => exact Kd.R_tight rfl HO123.out); (case side3 => exact fun k_ e_ => (HO123.out.1 k_ e_.symm).2); (case side4 => exact Kd.R_tight rfl HO130.out); (case side5 => exact fun k_ e_ => (HO130.out.1 k_ e_.symm).2); rintro e w62 ⟨v132, rfl, ho0, hb, hkp⟩; refine ⟨_, rfl, ?_⟩; have n0_ := Aside0.mk (blk_kept u3_1 hkp (fun hs_ => Or.elim hs_ (fun e_ => (fun e_ => (Kd.R_ne HO123.out BK119.out (by decide)) e_) e_) (fun e_ => (fun e_ => (Kd.R_ne HO130.out BK119.out (by decide)) e_) e_))); have n1_ := Aside0.mk (blk_kept u3_4 hkp (fun hs_ => Or.elim hs_ (fun e_ => (fun e_ => (Kd.R_ne HO123.out BK120.out (by decide)) e_) e_) (fun e_ => (fun e_ => (Kd.R_ne HO130.out BK120.out (by decide)) e_) e_))); have n2_ := Aside0.mk (blk_kept u3_14 hkp (fun hs_ => Or.elim hs_ (fun e_ => (fun e_ => (Kd.R_ne HO123.out BK124.out (by decide)) e_) e_) (fun e_ => (fun e_ => (Kd.R_ne HO130.out BK124.out (by decide)) e_) e_))); have n3_ := Aside0.mk (Kd.R_mono (ok' := fun k_ => True) ho0 (fun k_ hk_ => trivial)); have n4_ := Aside0.mk (hb); clear BK119; clear BK120; clear BK124; clear HB; clear HO123; clear HO130; have BK119 := n0_; have BK120 := n1_; have BK124 := n2_; have HO133 := n3_; have HB := n4_; clear n0_ n1_ n2_ n3_ n4_; (try clear hb); (try clear hkp); (try clear ho0); obtain ⟨Ao63, co63, eo63⟩ := Kd.R_slice HO133.out; subst eo63; have hcz64_0 : w62.cell? ⟨gb124, 0, none⟩ = some (.slice Ao49 t121.length co49) := (blk_cell BK124.out 0).trans rfl; have hfz64_0 := blk_frozen BK124.out 0; have hcz65_0 : w62.cell? ⟨gb120, 0, none⟩ = some (.slice none 0 0) := (blk_cell BK120.out 0).trans rfl; have hfz65_0 := blk_frozen BK120.out 0))
  refine bodyPost_ret (results_ct rfl _ _ gb120 29 #[.slice Ao63 t131.length co63] (0, 0) _ rfl (by (with_reducible repeat (first | refine blk_drewN ?_ _ | refine blk_drew ?_ | refine blk_alloc ?_ _)); refine blk_put (cs := #[.slice none 0 0]) ?_ 0 _ rfl; (with_reducible repeat (first | refine blk_drewN ?_ _ | refine blk_drew ?_ | refine blk_alloc ?_ _)); refine blk_far ?_ NB120_124.out _; (with_reducible repeat (first | refine blk_drewN ?_ _ | refine blk_drew ?_ | refine blk_alloc ?_ _)); exact BK120.out) Try.underlying29 rfl (by kernel_rfl)) rfl ?_
  exact ⟨_, by first | rfl | (simp [errW_none, errW_some] <;> rfl) | (simp [*, errW_none, errW_some] <;> rfl), (by (with_reducible repeat (first | apply Kd.R_alloc | apply Kd.R_drewN | apply Kd.R_drew)); exact Kd.R_mono (Kd.R_far (p := ⟨gb120, 0, none⟩) (Kd.R_far (p := ⟨gb124, 0, none⟩) (Kd.R_types (Kd.R_types HO133.out BK124.out (by decide)) BK120.out (by decide)) (fun _ hk => hk.1.2) (.slice Ao63 t131.length co63)) (fun _ hk => hk.2) (.slice Ao63 t131.length co63)) (fun _ hk => trivial)), u3_0⟩

/-! ### laws_big: function 44 -/
def laws_big.f (l0 : List Int) : Option (Bool) := some (decide ((l0.length : Int) > 1048576))
set_option maxHeartbeats 8000000 in
set_option maxRecDepth 100000 in
theorem laws_big.calls (A0 : Option Addr) (c0 : Nat) (l0 : List Int) (r : Bool) (w : World) (hr0 : Kd.C (Kd.int .u8) w A0 l0.length l0) (hc0 : l0.length ≤ c0) (h : laws_big.f l0 = some r) :
    Calls Try.prog 44 #[.slice A0 l0.length c0] w fun e w' => e = .returned (.bool r) ∧ Drawn0 w w' := by
  have HR0 := Aside0.mk hr0
  have HC0 := Aside0.mk hc0
  clear hr0 hc0
  have H : (some (decide ((l0.length : Int) > 1048576))) = some r := h
  clear h
  obtain rfl := Option.some.inj H
  go_enter Try.func44, Try.ntmps44
  go_wp2
  go_ret
  exact ⟨by first | rfl | (simp; done) | (simp [*]; done), (by repeat (first | exact Drawn0.refl _ | apply Drawn0.step))⟩

/-- A state of type 83 at block g of W; what its slices lead to came in by w0. -/
def IsS83 (w0 W : World) (g : Nat) (f0 : List Int) (f1 : Int) (f2 : Int) : Prop := ∃ A0 c0, W.heap[g]? = some (.cells #[.slice A0 f0.length c0, .int .i64 f1, .int .i64 f2] 83 (0, 0)) ∧ w0.heap.size ≤ g ∧ Kd.C (Kd.int .u8) w0 A0 f0.length f0
theorem IsS83.grown {w0 W : World} {g : Nat} {f0 : List Int} {f1 : Int} {f2 : Int} {W1 : World} {row : Option Nat} (h : IsS83 w0 W g f0 f1 f2) (hw : W.grownBy W1 row) (hne : some g ≠ row) : IsS83 w0 W1 g f0 f1 f2 := by
  obtain ⟨A0, c0, hb, hg, hr0⟩ := h
  exact ⟨A0, c0, blk_grown hb hw hne, hg, hr0⟩
theorem IsS83.own_neN {w0 W : World} {g : Nat} {f0 : List Int} {f1 : Int} {f2 : Int} {α : Type} {d : Kd α} {e : Nat} {base : Nat} {ok : Nat → Prop} {v : Value} {xs : List α} (h : IsS83 w0 W g f0 f1 f2) (ho : Kd.N d e W base ok v xs) (ht : e ≠ 83) : some g ≠ v.ownBlock := by
  obtain ⟨A0, c0, hb, hg, hr0⟩ := h
  exact Kd.N_ne ho hb ht
theorem IsS83.fresh {w0 W : World} {g : Nat} {f0 : List Int} {f1 : Int} {f2 : Int} (h : IsS83 w0 W g f0 f1 f2) : ∀ k, W.heap.size ≤ k → k ≠ g := by
  obtain ⟨A0, c0, hb, hg, hr0⟩ := h
  exact Kd.freshB hb
theorem IsS83.kept {w0 W : World} {g : Nat} {f0 : List Int} {f1 : Int} {f2 : Int} {W1 : World} {S : Nat → Prop} (h : IsS83 w0 W g f0 f1 f2) (hk : Kept W W1 S) (hne : ¬ S g) : IsS83 w0 W1 g f0 f1 f2 := by
  obtain ⟨A0, c0, hb, hg, hr0⟩ := h
  exact ⟨A0, c0, blk_kept hb hk hne, hg, hr0⟩
theorem IsS83.below {w0 W : World} {g : Nat} {f0 : List Int} {f1 : Int} {f2 : Int} {W1 : World} (h : IsS83 w0 W g f0 f1 f2) (hw : Below W.heap.size W W1) : IsS83 w0 W1 g f0 f1 f2 := h.grown (grown_of_below hw none) (by simp)
theorem IsS83.alloc {w0 W : World} {g : Nat} {f0 : List Int} {f1 : Int} {f2 : Int} (h : IsS83 w0 W g f0 f1 f2) (o : Obj) : IsS83 w0 (W.alloc o) g f0 f1 f2 := h.below (below_alloc (Below.refl _ _) o)
theorem IsS83.drewN {w0 W : World} {g : Nat} {f0 : List Int} {f1 : Int} {f2 : Int} (h : IsS83 w0 W g f0 f1 f2) (m : Nat) : IsS83 w0 (W.drewN m) g f0 f1 f2 := h
theorem IsS83.drew {w0 W : World} {g : Nat} {f0 : List Int} {f1 : Int} {f2 : Int} (h : IsS83 w0 W g f0 f1 f2) : IsS83 w0 W.drew g f0 f1 f2 := h
theorem IsS83.at_ {w0 W : World} {g : Nat} {f0 : List Int} {f1 : Int} {f2 : Int} {w' : World} {m : Nat} (hq : W.drewN m = w') (h : IsS83 w0 W g f0 f1 f2) : IsS83 w0 w' g f0 f1 f2 := by subst hq; exact IsS83.drewN h m
theorem IsS83.apart {w0 W : World} {g : Nat} {f0 : List Int} {f1 : Int} {f2 : Int} {α : Type} {d : Kd α} {e : Nat} {base : Nat} {ok : Nat → Prop} {v : Value} {xs : List α} (h : IsS83 w0 W g f0 f1 f2) (ho : d.R e W base ok v xs) (ht : ∀ q, q ∈ e :: d.E → q ≠ 83) : d.R e W base (fun k => ok k ∧ k ≠ g) v xs := by
  obtain ⟨A0, c0, hb, hg, hr0⟩ := h
  exact Kd.R_types ho hb ht
theorem IsS83.own_ne {w0 W : World} {g : Nat} {f0 : List Int} {f1 : Int} {f2 : Int} {α : Type} {d : Kd α} {e : Nat} {base : Nat} {ok : Nat → Prop} {v : Value} {xs : List α} (h : IsS83 w0 W g f0 f1 f2) (ho : d.R e W base ok v xs) (ht : e ≠ 83) : some g ≠ v.ownBlock := by
  obtain ⟨A0, c0, hb, hg, hr0⟩ := h
  exact Kd.R_ne ho hb ht
theorem IsS83.apartQ {w0 W : World} {g : Nat} {f0 : List Int} {f1 : Int} {f2 : Int} {α : Type} {d : Kd α} {e : Nat} {base : Nat} {ok : Nat → Prop} {v : Value} {xs : List α} (h : IsS83 w0 W g f0 f1 f2) (ho : d.Q e W base ok v xs) (ht : ∀ q, q ∈ e :: d.E → q ≠ 83) : d.Q e W base (fun k => ok k ∧ k ≠ g) v xs := by
  obtain ⟨A0, c0, hb, hg, hr0⟩ := h
  exact Kd.Q_types ho hb ht
theorem IsS83.own_neQ {w0 W : World} {g : Nat} {f0 : List Int} {f1 : Int} {f2 : Int} {α : Type} {d : Kd α} {e : Nat} {base : Nat} {ok : Nat → Prop} {v : Value} {xs : List α} (h : IsS83 w0 W g f0 f1 f2) (ho : d.Q e W base ok v xs) (ht : e ≠ 83) : some g ≠ v.ownBlock := by
  obtain ⟨A0, c0, hb, hg, hr0⟩ := h
  exact Kd.Q_ne ho hb ht
theorem IsS83.apartS {w0 W : World} {g : Nat} {f0 : List Int} {f1 : Int} {f2 : Int} {α : Type} {d : Kd α} {e : Nat} {base : Nat} {ok : Nat → Prop} {v : Value} {xs : List α} (h : IsS83 w0 W g f0 f1 f2) (ho : d.S e W base ok v xs) (ht : ∀ q, q ∈ e :: d.E → q ≠ 83) : d.S e W base (fun k => ok k ∧ k ≠ g) v xs := by
  obtain ⟨A0, c0, hb, hg, hr0⟩ := h
  exact Kd.S_types ho hb ht
theorem IsS83.own_neS {w0 W : World} {g : Nat} {f0 : List Int} {f1 : Int} {f2 : Int} {α : Type} {d : Kd α} {e : Nat} {base : Nat} {ok : Nat → Prop} {v : Value} {xs : List α} (h : IsS83 w0 W g f0 f1 f2) (ho : d.S e W base ok v xs) (ht : e ≠ 83) : some g ≠ v.ownBlock := by
  obtain ⟨A0, c0, hb, hg, hr0⟩ := h
  exact Kd.S_ne ho hb ht
theorem IsS83.lt {w0 W : World} {g : Nat} {f0 : List Int} {f1 : Int} {f2 : Int} (h : IsS83 w0 W g f0 f1 f2) : g < W.heap.size := by
  obtain ⟨A0, c0, hb, hg, hr0⟩ := h
  exact blk_lt hb
theorem IsS83.ge {w0 W : World} {g : Nat} {f0 : List Int} {f1 : Int} {f2 : Int} (h : IsS83 w0 W g f0 f1 f2) : w0.heap.size ≤ g := by
  obtain ⟨A0, c0, hb, hg, hr0⟩ := h
  exact hg
theorem IsS83.ne_blk {w0 W : World} {g : Nat} {f0 : List Int} {f1 : Int} {f2 : Int} {a : Nat} {cs : Array Value} {t : TypeId} {fr : Nat × Nat} (h : IsS83 w0 W g f0 f1 f2) (hb2 : W.heap[a]? = some (.cells cs t fr)) (ht : t ≠ 83) : g ≠ a := by
  obtain ⟨A0, c0, hb, hg, hr0⟩ := h
  rintro rfl
  rw [hb] at hb2
  injection hb2 with hb2
  injection hb2 with _ ht2
  exact ht ht2.symm
theorem IsS83.far {w0 W : World} {g : Nat} {f0 : List Int} {f1 : Int} {f2 : Int} {p : Addr} (h : IsS83 w0 W g f0 f1 f2) (hne : g ≠ p.block) (u : Value) : IsS83 w0 (W.setCell p u) g f0 f1 f2 := by
  obtain ⟨A0, c0, hb, hg, hr0⟩ := h
  exact ⟨A0, c0, blk_far hb hne u, hg, hr0⟩
theorem cellS83_0 {W : World} {g : Nat} {A0 : Option Addr} {c0 : Nat} {f0 : List Int} {f1 : Int} {f2 : Int} (h : W.heap[g]? = some (.cells #[.slice A0 f0.length c0, .int .i64 f1, .int .i64 f2] 83 (0, 0))) : W.cell? ⟨g, 0, none⟩ = some (.slice A0 f0.length c0) := (blk_cell h 0).trans rfl
theorem cellS83_1 {W : World} {g : Nat} {A0 : Option Addr} {c0 : Nat} {f0 : List Int} {f1 : Int} {f2 : Int} (h : W.heap[g]? = some (.cells #[.slice A0 f0.length c0, .int .i64 f1, .int .i64 f2] 83 (0, 0))) : W.cell? ⟨g, 1, none⟩ = some (.int .i64 f1) := (blk_cell h 1).trans rfl
theorem IsS83.set_1 {w0 W : World} {g : Nat} {f0 : List Int} {f1 : Int} {f2 : Int} (h : IsS83 w0 W g f0 f1 f2) (x : Int) : IsS83 w0 (W.setCell ⟨g, 1, none⟩ (.int .i64 x)) g f0 x f2 := by
  obtain ⟨A0, c0, hb, hg, hr0⟩ := h
  exact ⟨A0, c0, (by simpa using blk_set hb 1 (.int .i64 x)), hg, hr0⟩
theorem cellS83_2 {W : World} {g : Nat} {A0 : Option Addr} {c0 : Nat} {f0 : List Int} {f1 : Int} {f2 : Int} (h : W.heap[g]? = some (.cells #[.slice A0 f0.length c0, .int .i64 f1, .int .i64 f2] 83 (0, 0))) : W.cell? ⟨g, 2, none⟩ = some (.int .i64 f2) := (blk_cell h 2).trans rfl
theorem IsS83.set_2 {w0 W : World} {g : Nat} {f0 : List Int} {f1 : Int} {f2 : Int} (h : IsS83 w0 W g f0 f1 f2) (x : Int) : IsS83 w0 (W.setCell ⟨g, 2, none⟩ (.int .i64 x)) g f0 f1 x := by
  obtain ⟨A0, c0, hb, hg, hr0⟩ := h
  exact ⟨A0, c0, (by simpa using blk_set hb 2 (.int .i64 x)), hg, hr0⟩
theorem IsS83.new (w0 W : World) (A0 : Option Addr) (c0 : Nat) (f0 : List Int) (f1 : Int) (f2 : Int) (hB : Below w0.heap.size w0 W) (hr0 : Kd.C (Kd.int .u8) w0 A0 f0.length f0) : IsS83 w0 (W.alloc (.cells #[.slice A0 f0.length c0, .int .i64 f1, .int .i64 f2] 83)) W.heap.size f0 f1 f2 := ⟨A0, c0, by simpa using heap_alloc_new W _, hB.size, hr0⟩

/-! ### spec_l01New: function 70 -/
def spec_l01New.l0 : Nat → List Int → Int → Int → Option (List Int × Int × Int)
  | 0, _, _, _ => none
  | k + 1, x0, x3, x4 => if x4 < (x0.length : Int) then (if x4 < 4000 then (if 0 ≤ x4 then (spec_l01New.l0 k x0 (Go.bits .and .i64 (wrap64 ((wrap64 ((wrap64 (x3 * 149)) + (wrap64 (rd x0 x4)))) + 11)) 1073741823) (wrap64 (x4 + 1))) else (none)) else (some (x0, 0, x3))) else (some (x0, 0, x3))
def spec_l01New.f (k : Nat) (l0 : List Int) : Option (List Int × Int × Int) := spec_l01New.l0 k l0 (wrap64 (138138 + (l0.length : Int))) 0
theorem spec_l01New.mono_l : ∀ k, (∀ y0 y1 y2, LeO (spec_l01New.l0 k y0 y1 y2) (spec_l01New.l0 (k + 1) y0 y1 y2))
  | 0 => fun _ _ _ r h => by simp [spec_l01New.l0] at h
  | k + 1 => by
    have ih0 := spec_l01New.mono_l k
    · intro y0 y1 y2
      unfold spec_l01New.l0
      repeat' first
      | (with_reducible exact ih0 _ _ _)
      | (with_reducible exact LeO.refl _)
      | (with_reducible exact LeO.none _)
      | (with_reducible refine LeO.ite ?_ ?_)
      | (with_reducible refine LeO.bind ?_ (fun _ => ?_))
      | exact ih0 _ _ _
      | exact LeO.none _
      | refine LeO.ite ?_ ?_
      | refine LeO.bind ?_ (fun _ => ?_)
theorem spec_l01New.mono : ∀ a0 k, LeO (spec_l01New.f k a0) (spec_l01New.f (k + 1) a0) := by
  intro a0 k
  have ih0 := spec_l01New.mono_l k
  unfold spec_l01New.f
  repeat' first
      | (with_reducible exact ih0 _ _ _)
      | (with_reducible exact LeO.refl _)
      | (with_reducible exact LeO.none _)
      | (with_reducible refine LeO.ite ?_ ?_)
      | (with_reducible refine LeO.bind ?_ (fun _ => ?_))
      | exact ih0 _ _ _
      | exact LeO.none _
      | refine LeO.ite ?_ ?_
      | refine LeO.bind ?_ (fun _ => ?_)
set_option maxHeartbeats 8000000 in
set_option maxRecDepth 100000 in
theorem spec_l01New.calls (k : Nat) (A0 : Option Addr) (c0 : Nat) (l0 : List Int) (r1 : List Int) (r2 : Int) (r3 : Int) (w0 w : World) (hB : Below w0.heap.size w0 w) (hr0 : Kd.C (Kd.int .u8) w0 A0 l0.length l0) (hc0 : l0.length ≤ c0) (h : spec_l01New.f k l0 = some (r1, r2, r3)) :
    Calls Try.prog 70 #[.slice A0 l0.length c0] w fun e w' => ∃ g_ : Nat, e = .returned (.pointer (some ⟨g_, 0, none⟩)) ∧ IsS83 w0 w' g_ r1 r2 r3 ∧ Below w0.heap.size w0 w' ∧ Below w.heap.size w w' := by
  have hu83 := Try.underlying83
  have HR0 := Aside0.mk hr0
  have HC0 := Aside0.mk hc0
  clear hr0 hc0
  have HBW := Aside0.mk (Below.refl w.heap.size w)
  have HW0 := Aside0.mk hB.size
  have HB := Aside0.mk hB
  clear hB
  have H : (spec_l01New.l0 k l0 (wrap64 (138138 + (l0.length : Int))) 0) = some (r1, r2, r3) := h
  clear h
  have H' := Aside0.mk H
  clear H
  go_enter Try.func70, Try.ntmps70
  go_wp2
  go_loopg [3, 4] k (fun kq v3 v4 w' => ∃ (x3_1 : Int) (x4_1 : Int), v3 = .int .i64 x3_1 ∧ v4 = .int .i64 x4_1 ∧ Aside0 (spec_l01New.l0 kq l0 x3_1 x4_1 = some (r1, r2, r3)) ∧ Aside0 (kq ≤ k) ∧ Aside0 (Below w0.heap.size w0 w') ∧ Aside0 (Below w.heap.size w w'))
  case atStart => exact ⟨(wrap64 (138138 + (l0.length : Int))), (0), u3_19, u3_19, H', ⟨Nat.le_refl _⟩, ⟨u3_3⟩, ⟨u3_13⟩⟩
  clear H'
  obtain ⟨x3_1, x4_1, rfl, rfl, HA, HK1, HB, HBW⟩ := hrel
  cases gk with
  | zero => exact absurd HA.out (by simp [spec_l01New.l0])
  | succ k1 =>
    have H := HA.out
    clear HA
    simp only [spec_l01New.l0] at H
    by_cases c2 : x4_1 < (l0.length : Int)
    rotate_left
    · rw [if_neg c2] at H
      have c2b0 : decide (x4_1 < (l0.length : Int)) = false := decide_eq_false c2
      clear c2
      simp only [Option.some.injEq, Prod.mk.injEq] at H
      obtain ⟨rfl, rfl, rfl⟩ := H
      go_wp2_with (first | ((with_reducible refine gate_dst (N := 31) rfl ?_); refine box_event ?hg (N := 31) ?hd (cs := #[.slice A0 l0.length c0, .int .i64 0, .int .i64 x3_1]) (t := 83) ?hr ?_; (case hd => rfl); (case hg => rfl); (case hr => first | (go_simp; done) | (go_simp; rfl)); intro gb136 hg w6 hbox hb; have n0_ := Aside0.mk (below_step HBW.out hb); have n1_ := Aside0.mk (below_step u3_3 hb); have n2_ := Aside0.mk (hbox); have n3_ := Aside0.mk ((by rw [hg]; exact (below_size u3_13) : w.heap.size ≤ gb136)); have n4_ := Aside0.mk ((Nat.le_trans HW0.out (by rw [hg]; exact (below_size u3_13) : w.heap.size ≤ gb136) : w0.heap.size ≤ gb136)); clear HBW; clear HB; have HBW := n0_; have HB := n1_; have BK136 := n2_; have GW136 := n3_; have GE136 := n4_; clear n0_ n1_ n2_ n3_ n4_; clear hb hbox hg))
      go_ret
      exact ⟨_, rfl, (show IsS83 w0 _ gb136 l0 0 x3_1 from ⟨_, _, (by (with_reducible repeat (first | refine blk_drewN ?_ _ | refine blk_drew ?_ | refine blk_alloc ?_ _)); exact BK136.out), GE136.out, HR0.out⟩), (by repeat (first | (with_reducible first | exact HB.out | apply below_alloc | apply pw_below_drewN | apply below_drew1 | refine below_set ?_ GE136.out) | exact HB.out)), (by repeat (first | (with_reducible first | exact HBW.out | apply below_alloc | apply pw_below_drewN | apply below_drew1 | refine below_set ?_ GW136.out) | exact HBW.out))⟩
    rw [if_pos c2] at H
    have c2b0 : decide (x4_1 < (l0.length : Int)) = true := decide_eq_true c2
    clear c2
    by_cases c3 : x4_1 < 4000
    · rw [if_pos c3] at H
      have c3b0 : decide (x4_1 < 4000) = true := decide_eq_true c3
      clear c3
      by_cases c4 : 0 ≤ x4_1
      rotate_left
      · rw [if_neg c4] at H
        exact absurd H (by simp)
      rw [if_pos c4] at H
      have c4b0 : decide (0 ≤ x4_1) = true := decide_eq_true c4
      clear c4
      have H' := Aside0.mk H
      clear H
      have p134 : 0 ≤ (x4_1 : Int) := of_decide_eq_true (by first | (with_reducible assumption) | assumption)
      have q134 : x4_1 < (l0.length : Int) := of_decide_eq_true (by first | (with_reducible assumption) | assumption)
      obtain ⟨ad134, e134, hx134_0⟩ := Kd.at_int HR0.out x4_1 p134 q134
      cases e134
      replace hx134_0 := pw_cell_below HB.out hx134_0
      replace p134 := eq_true p134
      replace q134 := eq_true q134
      go_wp2
      go_roundg k1
      case measure => have := HK1.out; omega
      case rel => exact ⟨(Go.bits .and .i64 (wrap64 ((wrap64 ((wrap64 (x3_1 * 149)) + (wrap64 (rd l0 x4_1)))) + 11)) 1073741823), (wrap64 (x4_1 + 1)), u3_19, u3_19, H', ⟨by have := HK1.out; omega⟩, ⟨u3_3⟩, ⟨u3_13⟩⟩
    rw [if_neg c3] at H
    have c3b0 : decide (x4_1 < 4000) = false := decide_eq_false c3
    clear c3
    simp only [Option.some.injEq, Prod.mk.injEq] at H
    obtain ⟨rfl, rfl, rfl⟩ := H
    go_wp2_with (first | ((with_reducible refine gate_dst (N := 31) rfl ?_); refine box_event ?hg (N := 31) ?hd (cs := #[.slice A0 l0.length c0, .int .i64 0, .int .i64 x3_1]) (t := 83) ?hr ?_; (case hd => rfl); (case hg => rfl); (case hr => first | (go_simp; done) | (go_simp; rfl)); intro gb135 hg w5 hbox hb; have n0_ := Aside0.mk (below_step HBW.out hb); have n1_ := Aside0.mk (below_step u3_3 hb); have n2_ := Aside0.mk (hbox); have n3_ := Aside0.mk ((by rw [hg]; exact (below_size u3_13) : w.heap.size ≤ gb135)); have n4_ := Aside0.mk ((Nat.le_trans HW0.out (by rw [hg]; exact (below_size u3_13) : w.heap.size ≤ gb135) : w0.heap.size ≤ gb135)); clear HBW; clear HB; have HBW := n0_; have HB := n1_; have BK135 := n2_; have GW135 := n3_; have GE135 := n4_; clear n0_ n1_ n2_ n3_ n4_; clear hb hbox hg))
    go_ret
    exact ⟨_, rfl, (show IsS83 w0 _ gb135 l0 0 x3_1 from ⟨_, _, (by (with_reducible repeat (first | refine blk_drewN ?_ _ | refine blk_drew ?_ | refine blk_alloc ?_ _)); exact BK135.out), GE135.out, HR0.out⟩), (by repeat (first | (with_reducible first | exact HB.out | apply below_alloc | apply pw_below_drewN | apply below_drew1 | refine below_set ?_ GE135.out) | exact HB.out)), (by repeat (first | (with_reducible first | exact HBW.out | apply below_alloc | apply pw_below_drewN | apply below_drew1 | refine below_set ?_ GW135.out) | exact HBW.out))⟩

end Go.Proofs.Ytdbfjakhkclggaa.QFnOpened
