-- Printed by the session's own program wip/prx.py.
import Derived.Test.YtjdpifafijcpbaaQFnExactKeepx0
import Derived.Test.YtjdpifafijcpbaaQFnExactKeepx7
namespace Go.Proofs.Ytjdpifafijcpbaa.QFnExactKeep
open Go.RowKit Go.Proofs.YtjdpifafijcpbaaW.PrintWords Go.Proofs.YtjdpifafijcpbaaW.PrintLast Go.Proofs.YtjdpifafijcpbaaW.PrintMore
attribute [local go_sem] max2_int min2_int max_two min_two max_three min_three max_four min_four Go.Proofs.Ytjdpifafijcpbaa.Set.isSome_setCell   -- for this text's walks alone
set_option linter.unusedVariables false
set_option linter.unusedSimpArgs false

-- squeezed
theorem u8_0 {P : Prop} (h : P := by repeat (first | (with_reducible first | exact HB.out | apply below_alloc | apply pw_below_drewN | apply below_drew1 | refine below_set ?_ GE253.out) | exact HB.out)) : P := h
theorem u8_1 {P : Prop} (h : P := by (with_reducible repeat (first | refine blk_drewN ?_ _ | refine blk_drew ?_ | refine blk_alloc ?_ _)); exact BK253.out) : P := h
theorem u8_2 {P : Prop} (h : P := by repeat (first | (with_reducible first | exact HB.out | apply below_alloc | apply pw_below_drewN | apply below_drew1 | refine below_set ?_ GE253.out | refine below_set ?_ GE255.out) | exact HB.out)) : P := h
theorem u8_3 {P : Prop} (h : P := by (with_reducible repeat (first | refine blk_drewN ?_ _ | refine blk_drew ?_ | refine blk_alloc ?_ _)); refine blk_far ?_ NB253_255.out _; (with_reducible repeat (first | refine blk_drewN ?_ _ | refine blk_drew ?_ | refine blk_alloc ?_ _)); refine blk_far ?_ NB253_255.out _; (with_reducible repeat (first | refine blk_drewN ?_ _ | refine blk_drew ?_ | refine blk_alloc ?_ _)); refine blk_far ?_ NB253_255.out _; (with_reducible repeat (first | refine blk_drewN ?_ _ | refine blk_drew ?_ | refine blk_alloc ?_ _)); refine blk_far ?_ NB253_255.out _; (with_reducible repeat (first | refine blk_drewN ?_ _ | refine blk_drew ?_ | refine blk_alloc ?_ _)); exact BK253.out) : P := h
theorem u8_4 {P : Prop} (h : P := by (with_reducible repeat (first | refine blk_drewN ?_ _ | refine blk_drew ?_ | refine blk_alloc ?_ _)); refine blk_put (cs := #[.int .i64 0, .int .i64 0, .int .i64 0, .string (⟨#[]⟩ : ByteArray)]) ?_ 3 _ rfl; (with_reducible repeat (first | refine blk_drewN ?_ _ | refine blk_drew ?_ | refine blk_alloc ?_ _)); refine blk_put (cs := #[.int .i64 0, .int .i64 0, .int .i64 0, .string (⟨#[]⟩ : ByteArray)]) ?_ 2 _ rfl; (with_reducible repeat (first | refine blk_drewN ?_ _ | refine blk_drew ?_ | refine blk_alloc ?_ _)); refine blk_put (cs := #[.int .i64 0, .int .i64 0, .int .i64 0, .string (⟨#[]⟩ : ByteArray)]) ?_ 1 _ rfl; (with_reducible repeat (first | refine blk_drewN ?_ _ | refine blk_drew ?_ | refine blk_alloc ?_ _)); refine blk_put (cs := #[.int .i64 0, .int .i64 0, .int .i64 0, .string (⟨#[]⟩ : ByteArray)]) ?_ 0 _ rfl; (with_reducible repeat (first | refine blk_drewN ?_ _ | refine blk_drew ?_ | refine blk_alloc ?_ _)); exact BK255.out) : P := h
theorem u8_5 {P : Prop} (h : P := by repeat (first | exact (Kd.C_below HR0_2.out HB.out) | (with_reducible refine Kd.C_alloc ?_ _) | (with_reducible refine Kd.C_drewN ?_ _) | (with_reducible refine Kd.C_drew ?_))) : P := h
theorem u8_6 {P : Prop} (h : P := by repeat (first | (with_reducible first | exact HB.out | apply below_alloc | apply pw_below_drewN | apply below_drew1) | exact HB.out)) : P := h
theorem u8_7 {P : Prop} (h : P := by repeat (first | (with_reducible first | exact HB.out | apply below_alloc | apply pw_below_drewN | apply below_drew1 | refine below_set ?_ GE258.out | refine below_set ?_ GE259.out) | exact HB.out)) : P := h
theorem u8_8 {P : Prop} (h : P := by (with_reducible repeat (first | refine blk_drewN ?_ _ | refine blk_drew ?_ | refine blk_alloc ?_ _)); exact BK258.out) : P := h
theorem u8_9 {P : Prop} (h : P := by repeat (first | (with_reducible first | exact HB.out | apply below_alloc | apply pw_below_drewN | apply below_drew1 | refine below_set ?_ GE258.out) | exact HB.out)) : P := h
theorem u8_10 {P : Prop} (h : P := by first | rfl | (simp; done) | (simp [*]; done)) : P := h
theorem u8_11 {P : Prop} (h : P := by (with_reducible repeat (first | refine blk_drewN ?_ _ | refine blk_drew ?_ | refine blk_alloc ?_ _)); exact BK259.out) : P := h
theorem u8_12 {P : Prop} (h : P := by rw [List.length_take]; omega) : P := h
/-! ### impl_sessionOf: function 30 -/
def impl_sessionOf.p (a1 : Int) (y : S45) : Bool := (y.f0 == a1)
def impl_sessionOf.f (a0_0 : Int) (a0_1 : Int) (l0_2 : List (S45)) (a1 : Int) : Option Int := some (Go.Proofs.Ytjdpifafijcpbaa.Slc.idxB (impl_sessionOf.p a1) l0_2)
set_option maxHeartbeats 400000 in
theorem impl_sessionOf.lit (b : Nat) (a1 : Int) (y : S45) (w : World) (hid : w.cell? ⟨b, 0, none⟩ = some (.int .i64 a1)) :
    Calls Try.prog 41 #[.agg #[.int .i64 y.f0, .int .i64 y.f1, .int .i64 y.f2, .string y.f3], .pointer (some ⟨b, 0, none⟩)] w fun e w' => e = .returned (.bool (impl_sessionOf.p a1 y)) ∧ Below w.heap.size w w' := by
  have hu := Try.underlying45
  have hlt := World.block_lt_of_cell? w _ hid
  have hid2 : ∀ o, (w.alloc o).cell? ⟨b, 0, none⟩ = some (.int .i64 a1) := fun o => ((below_alloc (Below.refl w.heap.size w) o).cell (p := ⟨b, 0, none⟩) hlt).trans hid
  go_enter Try.func41, Try.ntmps41
  go_wp2
  go_ret
  exact ⟨rfl, below_alloc (Below.refl _ _) _⟩
set_option maxHeartbeats 1600000 in
theorem impl_sessionOf.idx (p : S45 → Bool) (bs : Array Value) (A0 : Option Addr) (c0 : Nat) (l0 : List S45) (w : World) (hr0 : Kd.C k45 w A0 l0.length l0) (hc0 : l0.length ≤ c0)
    (hf : ∀ (y : S45) (W : World), Below w.heap.size w W → Calls Try.prog 41 (#[.agg #[.int .i64 y.f0, .int .i64 y.f1, .int .i64 y.f2, .string y.f3]] ++ bs) W fun e w' => e = .returned (.bool (p y)) ∧ Below W.heap.size W w') :
    Calls Try.prog 40 #[.slice A0 l0.length c0, .func (.func 41) #[] bs] w fun e w' => e = .returned (.int .i64 (Go.Proofs.Ytjdpifafijcpbaa.Slc.idxB p l0)) ∧ Below w.heap.size w w' := by
  have hu45 := Try.underlying45
  have hn : l0.length ≤ 9223372036854775807 := hr0.2.1
  have HR := Aside0.mk hr0
  have HF := Aside0.mk hf
  clear hr0 hf
  go_enter Try.func40, Try.ntmps40
  go_wp2
  go_loopg [5, 8] l0.length (fun gg _ s8 wr => ∃ kk : Int, 0 ≤ kk ∧ kk ≤ l0.length ∧ l0.length - kk.toNat ≤ gg ∧ s8 = .int .i64 kk ∧ Aside0 (Below w.heap.size w wr) ∧ Aside0 (∀ j : Nat, (j : Int) < kk → p (l0.getD j z45) = false))
  case atStart => exact ⟨0, by omega, by omega, by omega, rfl, ⟨Below.refl _ w⟩, ⟨fun j hj => by omega⟩⟩
  obtain ⟨kk, h0, hk, hg, rfl, BW, HA⟩ := hrel
  by_cases hlt : kk < (l0.length : Int)
  rotate_left
  · go_wp2
    go_ret
    refine ⟨?_, BW.out⟩
    rw [Go.Proofs.Ytjdpifafijcpbaa.Slc.idxB_miss p l0 z45 (fun j hj => HA.out j (by omega))]
    rfl
  obtain ⟨ad, e, hx0, hx1, hx2, hx3⟩ := at_T45 HR.out kk h0 hlt
  cases e
  replace hx0 := (BW.out.cell (World.block_lt_of_cell? w _ hx0)).trans hx0
  replace hx1 := (BW.out.cell (World.block_lt_of_cell? w _ hx1)).trans hx1
  replace hx2 := (BW.out.cell (World.block_lt_of_cell? w _ hx2)).trans hx2
  replace hx3 := (BW.out.cell (World.block_lt_of_cell? w _ hx3)).trans hx3
  have HC := Aside0.mk (HF.out (l0.getD kk.toNat z45) wr BW.out)
  cases hq : p (l0.getD kk.toNat z45) with
  | true =>
    have HQ := Aside0.mk hq
    rw [hq] at HC
    clear hq
    go_wp2_with (go_at_call 41; refine HC.out.mono ?_; rintro e w' ⟨rfl, hb'⟩)
    go_ret
    refine ⟨?_, below_step BW.out hb'⟩
    rw [Go.Proofs.Ytjdpifafijcpbaa.Slc.idxB_hit p l0 z45 kk.toNat (by omega) HQ.out (fun j hj => HA.out j (by omega)), Int.toNat_of_nonneg h0]
    rfl
  | false =>
    have HQ := Aside0.mk hq
    rw [hq] at HC
    clear hq
    go_wp2_with (go_at_call 41; refine HC.out.mono ?_; rintro e w' ⟨rfl, hb'⟩)
    go_roundg (l0.length - (kk + 1).toNat)
    case measure => omega
    case rel =>
      refine ⟨kk + 1, by omega, by omega, by omega, by go_num, ⟨below_step BW.out hb'⟩, ⟨fun j hj => ?_⟩⟩
      by_cases e : (j : Int) = kk
      rotate_left
      · exact HA.out j (by omega)
      have := HQ.out
      rw [← e, Int.toNat_natCast] at this
      exact this
set_option maxHeartbeats 400000 in
theorem impl_sessionOf.calls (a0_0 : Int) (a0_1 : Int) (A0_2 : Option Addr) (c0_2 : Nat) (l0_2 : List (S45)) (a1 : Int) (r : Int) (w : World) (hr0_2 : Kd.C k45 w A0_2 l0_2.length l0_2) (hc0_2 : l0_2.length ≤ c0_2) (h : impl_sessionOf.f a0_0 a0_1 l0_2 a1 = some r) :
    Calls Try.prog 30 #[.agg #[.int .i64 a0_0, .int .i64 a0_1, .slice A0_2 l0_2.length c0_2], .int .i64 a1] w fun e w' => e = .returned (.int .i64 r) ∧ Below w.heap.size w w' := by
  obtain rfl := Option.some.inj h
  have hu := Try.underlying29
  have HR := Aside0.mk hr0_2
  have HC0 := Aside0.mk hc0_2
  clear hr0_2 hc0_2 h
  go_enter Try.func30, Try.ntmps30
  have hce : ((w.alloc (.cells #[.int .i64 a0_0, .int .i64 a0_1, .slice A0_2 l0_2.length c0_2] 29)).alloc (.cells #[.int .i64 a1] 3)).cell? ⟨w.heap.size + 1, 0, none⟩ = some (.int .i64 a1) := by first | (simp; done) | (simp [World.alloc, World.cell?]; done)
  have HCE := Aside0.mk hce
  clear hce
  go_wp2_with (go_at_call 40; refine (impl_sessionOf.idx (impl_sessionOf.p a1) #[.pointer (some ⟨w.heap.size + 1, 0, none⟩)] A0_2 c0_2 l0_2 _ (Kd.C_below HR.out (below_alloc (below_alloc (Below.refl _ _) _) _)) HC0.out (fun y W hW => impl_sessionOf.lit (w.heap.size + 1) a1 y W ((hW.cell (World.block_lt_of_cell? _ _ HCE.out)).trans HCE.out))).mono ?_; rintro e w' ⟨rfl, hb'⟩)
  go_ret
  exact ⟨rfl, below_step (below_alloc (below_alloc (Below.refl _ _) _) _) hb'⟩


/-! ### impl_look: function 26 -/
mutual
def impl_look.j0 : Nat → Int → Int → Bool → Int → Int → List (S45) → Option (Int × ByteArray)
  | 0, _, _, _, _, _, _ => none
  | k + 1, x1, x2, x28, x254000, x254001, x254002 => if x28 = true then (some (4, (⟨#[]⟩ : ByteArray))) else ((impl_sessionOf.f x254000 x254001 x254002 x1).bind fun t256 => (if t256 ≥ 0 then (if 0 ≤ t256 then (if t256 < (x254002.length : Int) then (impl_look.j1 k x2 ((rd_T45 x254002 t256).f0) ((rd_T45 x254002 t256).f1) ((rd_T45 x254002 t256).f2) ((rd_T45 x254002 t256).f3)) else (none)) else (none)) else (impl_look.j1 k x2 0 0 0 (⟨#[]⟩ : ByteArray))))
def impl_look.j1 : Nat → Int → Int → Int → Int → ByteArray → Option (Int × ByteArray)
  | 0, _, _, _, _, _ => none
  | k + 1, x2, x256000, x256001, x256002, x256003 => if x2 = (wrap64 (x256001 + 1)) then (some (0, (⟨#[]⟩ : ByteArray))) else (if x2 = x256001 then (some (1, x256003)) else (if x2 < x256001 then (some (2, (⟨#[]⟩ : ByteArray))) else (some (3, (⟨#[]⟩ : ByteArray)))))
end
def impl_look.f (k : Nat) (a0_0 : Int) (a0_1 : Int) (l0_2 : List (S45)) (a1 : Int) (a2 : Int) : Option (Int × ByteArray) := (impl_areSessions.f k a0_0 a0_1 l0_2).bind fun t254 => (if t254 = true then (if a1 < 1 then (impl_look.j0 k a1 a2 true a0_0 a0_1 l0_2) else (if a1 > 999 then (impl_look.j0 k a1 a2 true a0_0 a0_1 l0_2) else (if a2 < 1 then (impl_look.j0 k a1 a2 true a0_0 a0_1 l0_2) else (impl_look.j0 k a1 a2 (decide (a2 > 1000000)) a0_0 a0_1 l0_2)))) else (impl_look.j0 k a1 a2 true a0_0 a0_1 l0_2))
theorem impl_look.mono_l : ∀ k, (∀ y0 y1 y2 y3 y4 y5, LeO (impl_look.j0 k y0 y1 y2 y3 y4 y5) (impl_look.j0 (k + 1) y0 y1 y2 y3 y4 y5)) ∧ (∀ y0 y1 y2 y3 y4, LeO (impl_look.j1 k y0 y1 y2 y3 y4) (impl_look.j1 (k + 1) y0 y1 y2 y3 y4))
  | 0 => ⟨fun _ _ _ _ _ _ r h => by simp [impl_look.j0] at h, fun _ _ _ _ _ r h => by simp [impl_look.j1] at h⟩
  | k + 1 => by
    obtain ⟨ih0, ih1⟩ := impl_look.mono_l k
    refine ⟨?_, ?_⟩
    · intro y0 y1 y2 y3 y4 y5
      unfold impl_look.j0
      repeat' first
      | (with_reducible exact ih0 _ _ _ _ _ _)
      | (with_reducible exact ih1 _ _ _ _ _)
      | (with_reducible exact impl_areSessions.mono _ _ _ _)
      | (with_reducible exact LeO.refl _)
      | (with_reducible exact LeO.none _)
      | (with_reducible refine LeO.ite ?_ ?_)
      | (with_reducible refine LeO.bind ?_ (fun _ => ?_))
      | exact ih0 _ _ _ _ _ _
      | exact ih1 _ _ _ _ _
      | exact impl_areSessions.mono _ _ _ _
      | exact LeO.none _
      | refine LeO.ite ?_ ?_
      | refine LeO.bind ?_ (fun _ => ?_)
    · intro y0 y1 y2 y3 y4
      unfold impl_look.j1
      repeat' first
      | (with_reducible exact ih0 _ _ _ _ _ _)
      | (with_reducible exact ih1 _ _ _ _ _)
      | (with_reducible exact impl_areSessions.mono _ _ _ _)
      | (with_reducible exact LeO.refl _)
      | (with_reducible exact LeO.none _)
      | (with_reducible refine LeO.ite ?_ ?_)
      | (with_reducible refine LeO.bind ?_ (fun _ => ?_))
      | exact ih0 _ _ _ _ _ _
      | exact ih1 _ _ _ _ _
      | exact impl_areSessions.mono _ _ _ _
      | exact LeO.none _
      | refine LeO.ite ?_ ?_
      | refine LeO.bind ?_ (fun _ => ?_)
theorem impl_look.mono : ∀ a0 a1 a2 a3 a4 k, LeO (impl_look.f k a0 a1 a2 a3 a4) (impl_look.f (k + 1) a0 a1 a2 a3 a4) := by
  intro a0 a1 a2 a3 a4 k
  obtain ⟨ih0, ih1⟩ := impl_look.mono_l k
  unfold impl_look.f
  repeat' first
      | (with_reducible exact ih0 _ _ _ _ _ _)
      | (with_reducible exact ih1 _ _ _ _ _)
      | (with_reducible exact impl_areSessions.mono _ _ _ _)
      | (with_reducible exact LeO.refl _)
      | (with_reducible exact LeO.none _)
      | (with_reducible refine LeO.ite ?_ ?_)
      | (with_reducible refine LeO.bind ?_ (fun _ => ?_))
      | exact ih0 _ _ _ _ _ _
      | exact ih1 _ _ _ _ _
      | exact impl_areSessions.mono _ _ _ _
      | exact LeO.none _
      | refine LeO.ite ?_ ?_
      | refine LeO.bind ?_ (fun _ => ?_)
set_option maxHeartbeats 8000000 in
set_option maxRecDepth 100000 in
theorem impl_look.calls (k : Nat) (a0_0 : Int) (a0_1 : Int) (A0_2 : Option Addr) (c0_2 : Nat) (l0_2 : List (S45)) (a1 : Int) (a2 : Int) (r1 : Int) (r2 : ByteArray) (w : World) (hr0_2 : Kd.C k45 w A0_2 l0_2.length l0_2) (hc0_2 : l0_2.length ≤ c0_2) (h : impl_look.f k a0_0 a0_1 l0_2 a1 a2 = some (r1, r2)) :
    Calls Try.prog 26 #[.agg #[.int .i64 a0_0, .int .i64 a0_1, .slice A0_2 l0_2.length c0_2], .int .i64 a1, .int .i64 a2] w fun e w' => e = .returned (.tuple #[.int .i64 r1, .string r2]) ∧ Below w.heap.size w w' := by
  have hu29 := Try.underlying29
  have hu45 := Try.underlying45
  have HR0_2 := Aside0.mk hr0_2
  have HC0_2 := Aside0.mk hc0_2
  clear hr0_2 hc0_2
  have HB := Aside0.mk (Below.refl w.heap.size w)
  have H : ((impl_areSessions.f k a0_0 a0_1 l0_2).bind fun t254 => (if t254 = true then (if a1 < 1 then (impl_look.j0 k a1 a2 true a0_0 a0_1 l0_2) else (if a1 > 999 then (impl_look.j0 k a1 a2 true a0_0 a0_1 l0_2) else (if a2 < 1 then (impl_look.j0 k a1 a2 true a0_0 a0_1 l0_2) else (impl_look.j0 k a1 a2 (decide (a2 > 1000000)) a0_0 a0_1 l0_2)))) else (impl_look.j0 k a1 a2 true a0_0 a0_1 l0_2))) = some (r1, r2) := h
  clear h
  have HC4 := Aside0.mk H
  clear H
  go_enter Try.func26, Try.ntmps26
  go_upto_region 1 with (first | ((with_reducible refine gate_dst (N := 3) rfl ?_); refine box_event ?hg (N := 3) ?hd (cs := #[.int .i64 a0_0, .int .i64 a0_1, .slice A0_2 l0_2.length c0_2]) (t := 29) ?hr ?_; (case hd => rfl); (case hg => rfl); (case hr => first | (go_simp; done) | (go_simp; rfl)); intro gb253 hg w5 hbox hb; have n0_ := Aside0.mk (below_step u8_6 hb); have n1_ := Aside0.mk (hbox); have n2_ := Aside0.mk ((by rw [hg]; exact (below_size u8_6) : w.heap.size ≤ gb253)); have n3_ := Aside0.mk ((by rw [hg]; exact (below_size u8_6) : w.heap.size ≤ gb253)); clear HB; have HB := n0_; have BK253 := n1_; have GW253 := n2_; have GE253 := n3_; clear n0_ n1_ n2_ n3_; clear hb hbox hg))
  repeat (go_quiet (first | ((with_reducible refine gate_dst (N := 3) rfl ?_); refine box_event ?hg (N := 3) ?hd (cs := #[.int .i64 a0_0, .int .i64 a0_1, .slice A0_2 l0_2.length c0_2]) (t := 29) ?hr ?_; (case hd => rfl); (case hg => rfl); (case hr => first | (go_simp; done) | (go_simp; rfl)); intro gb253 hg w5 hbox hb; have n0_ := Aside0.mk (below_step u8_6 hb); have n1_ := Aside0.mk (hbox); have n2_ := Aside0.mk ((by rw [hg]; exact (below_size u8_6) : w.heap.size ≤ gb253)); have n3_ := Aside0.mk ((by rw [hg]; exact (below_size u8_6) : w.heap.size ≤ gb253)); clear HB; have HB := n0_; have BK253 := n1_; have GW253 := n2_; have GE253 := n3_; clear n0_ n1_ n2_ n3_; clear hb hbox hg)); go_upto_region 1 with (first | ((with_reducible refine gate_dst (N := 3) rfl ?_); refine box_event ?hg (N := 3) ?hd (cs := #[.int .i64 a0_0, .int .i64 a0_1, .slice A0_2 l0_2.length c0_2]) (t := 29) ?hr ?_; (case hd => rfl); (case hg => rfl); (case hr => first | (go_simp; done) | (go_simp; rfl)); intro gb253 hg w5 hbox hb; have n0_ := Aside0.mk (below_step u8_6 hb); have n1_ := Aside0.mk (hbox); have n2_ := Aside0.mk ((by rw [hg]; exact (below_size u8_6) : w.heap.size ≤ gb253)); have n3_ := Aside0.mk ((by rw [hg]; exact (below_size u8_6) : w.heap.size ≤ gb253)); clear HB; have HB := n0_; have BK253 := n1_; have GW253 := n2_; have GE253 := n3_; clear n0_ n1_ n2_ n3_; clear hb hbox hg)))
  (try simp only [Act.put, List.setIfInBounds_toArray, List.set_cons_zero, List.set_cons_succ])
  go_cut [28] (fun v28 wc => ∃ (kq : Nat) (x28_3 : Bool), v28 = .bool x28_3 ∧ Aside0 (impl_look.j0 kq a1 a2 x28_3 a0_0 a0_1 l0_2 = some (r1, r2)) ∧ Aside0 (kq ≤ k) ∧ Aside0 (wc.heap[gb253]? = some (.cells #[.int .i64 a0_0, .int .i64 a0_1, (.slice A0_2 l0_2.length c0_2)] 29 (0, 0))) ∧ Aside0 (Below w.heap.size w wc))
  case first =>
    have H := HC4.out
    clear HC4
    replace H := Option.bind_eq_some_iff.mp H
    obtain ⟨t254, A60, H⟩ := H
    have A6 := Aside0.mk A60
    clear A60
    by_cases c7 : t254 = true
    rotate_left
    · replace c7 := Bool.eq_false_iff.mpr c7
      subst c7
      rw [if_neg (show ¬ (false = true) by decide)] at H
      have H' := Aside0.mk H
      clear H
      have hcz19_0 : w5.cell? ⟨gb253, 0, none⟩ = some (.int .i64 a0_0) := (blk_cell BK253.out 0).trans rfl
      have hcz19_1 : w5.cell? ⟨gb253, 1, none⟩ = some (.int .i64 a0_1) := (blk_cell BK253.out 1).trans rfl
      have hcz19_2 : w5.cell? ⟨gb253, 2, none⟩ = some (.slice A0_2 l0_2.length c0_2) := (blk_cell BK253.out 2).trans rfl
      have hfz19_0 := blk_frozen BK253.out 0
      have hfz19_1 := blk_frozen BK253.out 1
      have hfz19_2 := blk_frozen BK253.out 2
      go_wp2_with (first | (first | (go_at_call 23; (with_reducible refine (impl_areSessions.calls k a0_0 a0_1 _ _ l0_2 false _ ?side1 ?side2 A6.out).mono ?_); (case side1 => exact u8_5); (case side2 => exact HC0_2.out); rintro e w20 ⟨rfl, hb⟩; have n0_ := Aside0.mk (blk_below (g := gb253) (o := .cells #[.int .i64 a0_0, .int .i64 a0_1, .slice A0_2 l0_2.length c0_2] 29 (0, 0)) u8_1 hb); have n1_ := Aside0.mk (below_step u8_0 hb); clear BK253; clear HB; have BK253 := n0_; have HB := n1_; clear n0_ n1_; (try clear hb); (try clear hb2); (try clear hk); (try clear hi))) | go_quiet (first | (go_at_call 23; (with_reducible refine (impl_areSessions.calls k a0_0 a0_1 _ _ l0_2 false _ ?side1 ?side2 A6.out).mono ?_); (case side1 => exact u8_5); (case side2 => exact HC0_2.out); rintro e w20 ⟨rfl, hb⟩; have n0_ := Aside0.mk (blk_below (g := gb253) (o := .cells #[.int .i64 a0_0, .int .i64 a0_1, .slice A0_2 l0_2.length c0_2] 29 (0, 0)) u8_1 hb); have n1_ := Aside0.mk (below_step u8_0 hb); clear BK253; clear HB; have BK253 := n0_; have HB := n1_; clear n0_ n1_; (try clear hb); (try clear hb2); (try clear hk); (try clear hi))))
      go_meet
      case rel => exact ⟨_, (true), u8_10, H', ⟨by first | omega | exact Nat.le_refl _⟩, ⟨u8_1⟩, ⟨u8_0⟩⟩
    subst c7
    rw [if_pos rfl] at H
    by_cases c8 : a1 < 1
    · rw [if_pos c8] at H
      have c8b0 : decide (a1 < 1) = true := decide_eq_true c8
      clear c8
      (first | rw [c8b0] | (simp only [i64_w, i32_w]; rw [c8b0]) | skip)
      have H' := Aside0.mk H
      clear H
      have hcz9_0 : w5.cell? ⟨gb253, 0, none⟩ = some (.int .i64 a0_0) := (blk_cell BK253.out 0).trans rfl
      have hcz9_1 : w5.cell? ⟨gb253, 1, none⟩ = some (.int .i64 a0_1) := (blk_cell BK253.out 1).trans rfl
      have hcz9_2 : w5.cell? ⟨gb253, 2, none⟩ = some (.slice A0_2 l0_2.length c0_2) := (blk_cell BK253.out 2).trans rfl
      have hfz9_0 := blk_frozen BK253.out 0
      have hfz9_1 := blk_frozen BK253.out 1
      have hfz9_2 := blk_frozen BK253.out 2
      go_wp2_with (first | (first | (go_at_call 23; (with_reducible refine (impl_areSessions.calls k a0_0 a0_1 _ _ l0_2 true _ ?side1 ?side2 A6.out).mono ?_); (case side1 => exact u8_5); (case side2 => exact HC0_2.out); rintro e w10 ⟨rfl, hb⟩; have n0_ := Aside0.mk (blk_below (g := gb253) (o := .cells #[.int .i64 a0_0, .int .i64 a0_1, .slice A0_2 l0_2.length c0_2] 29 (0, 0)) u8_1 hb); have n1_ := Aside0.mk (below_step u8_0 hb); clear BK253; clear HB; have BK253 := n0_; have HB := n1_; clear n0_ n1_; (try clear hb); (try clear hb2); (try clear hk); (try clear hi))) | go_quiet (first | (go_at_call 23; (with_reducible refine (impl_areSessions.calls k a0_0 a0_1 _ _ l0_2 true _ ?side1 ?side2 A6.out).mono ?_); (case side1 => exact u8_5); (case side2 => exact HC0_2.out); rintro e w10 ⟨rfl, hb⟩; have n0_ := Aside0.mk (blk_below (g := gb253) (o := .cells #[.int .i64 a0_0, .int .i64 a0_1, .slice A0_2 l0_2.length c0_2] 29 (0, 0)) u8_1 hb); have n1_ := Aside0.mk (below_step u8_0 hb); clear BK253; clear HB; have BK253 := n0_; have HB := n1_; clear n0_ n1_; (try clear hb); (try clear hb2); (try clear hk); (try clear hi))))
      go_meet
      case rel => exact ⟨_, (true), u8_10, H', ⟨by first | omega | exact Nat.le_refl _⟩, ⟨u8_1⟩, ⟨u8_0⟩⟩
    rw [if_neg c8] at H
    have c8b0 : decide (a1 < 1) = false := decide_eq_false c8
    clear c8
    (first | rw [c8b0] | (simp only [i64_w, i32_w]; rw [c8b0]) | skip)
    by_cases c11 : a1 > 999
    · rw [if_pos c11] at H
      have c11b0 : decide (999 < a1) = true := decide_eq_true c11
      clear c11
      have H' := Aside0.mk H
      clear H
      have hcz12_0 : w5.cell? ⟨gb253, 0, none⟩ = some (.int .i64 a0_0) := (blk_cell BK253.out 0).trans rfl
      have hcz12_1 : w5.cell? ⟨gb253, 1, none⟩ = some (.int .i64 a0_1) := (blk_cell BK253.out 1).trans rfl
      have hcz12_2 : w5.cell? ⟨gb253, 2, none⟩ = some (.slice A0_2 l0_2.length c0_2) := (blk_cell BK253.out 2).trans rfl
      have hfz12_0 := blk_frozen BK253.out 0
      have hfz12_1 := blk_frozen BK253.out 1
      have hfz12_2 := blk_frozen BK253.out 2
      go_wp2_with (first | (first | (go_at_call 23; (with_reducible refine (impl_areSessions.calls k a0_0 a0_1 _ _ l0_2 true _ ?side1 ?side2 A6.out).mono ?_); (case side1 => exact u8_5); (case side2 => exact HC0_2.out); rintro e w13 ⟨rfl, hb⟩; have n0_ := Aside0.mk (blk_below (g := gb253) (o := .cells #[.int .i64 a0_0, .int .i64 a0_1, .slice A0_2 l0_2.length c0_2] 29 (0, 0)) u8_1 hb); have n1_ := Aside0.mk (below_step u8_0 hb); clear BK253; clear HB; have BK253 := n0_; have HB := n1_; clear n0_ n1_; (try clear hb); (try clear hb2); (try clear hk); (try clear hi))) | go_quiet (first | (go_at_call 23; (with_reducible refine (impl_areSessions.calls k a0_0 a0_1 _ _ l0_2 true _ ?side1 ?side2 A6.out).mono ?_); (case side1 => exact u8_5); (case side2 => exact HC0_2.out); rintro e w13 ⟨rfl, hb⟩; have n0_ := Aside0.mk (blk_below (g := gb253) (o := .cells #[.int .i64 a0_0, .int .i64 a0_1, .slice A0_2 l0_2.length c0_2] 29 (0, 0)) u8_1 hb); have n1_ := Aside0.mk (below_step u8_0 hb); clear BK253; clear HB; have BK253 := n0_; have HB := n1_; clear n0_ n1_; (try clear hb); (try clear hb2); (try clear hk); (try clear hi))))
      go_meet
      case rel => exact ⟨_, (true), u8_10, H', ⟨by first | omega | exact Nat.le_refl _⟩, ⟨u8_1⟩, ⟨u8_0⟩⟩
    rw [if_neg c11] at H
    have c11b0 : decide (999 < a1) = false := decide_eq_false c11
    clear c11
    by_cases c14 : a2 < 1
    · rw [if_pos c14] at H
      have c14b0 : decide (a2 < 1) = true := decide_eq_true c14
      clear c14
      have H' := Aside0.mk H
      clear H
      have hcz15_0 : w5.cell? ⟨gb253, 0, none⟩ = some (.int .i64 a0_0) := (blk_cell BK253.out 0).trans rfl
      have hcz15_1 : w5.cell? ⟨gb253, 1, none⟩ = some (.int .i64 a0_1) := (blk_cell BK253.out 1).trans rfl
      have hcz15_2 : w5.cell? ⟨gb253, 2, none⟩ = some (.slice A0_2 l0_2.length c0_2) := (blk_cell BK253.out 2).trans rfl
      have hfz15_0 := blk_frozen BK253.out 0
      have hfz15_1 := blk_frozen BK253.out 1
      have hfz15_2 := blk_frozen BK253.out 2
      go_wp2_with (first | (first | (go_at_call 23; (with_reducible refine (impl_areSessions.calls k a0_0 a0_1 _ _ l0_2 true _ ?side1 ?side2 A6.out).mono ?_); (case side1 => exact u8_5); (case side2 => exact HC0_2.out); rintro e w16 ⟨rfl, hb⟩; have n0_ := Aside0.mk (blk_below (g := gb253) (o := .cells #[.int .i64 a0_0, .int .i64 a0_1, .slice A0_2 l0_2.length c0_2] 29 (0, 0)) u8_1 hb); have n1_ := Aside0.mk (below_step u8_0 hb); clear BK253; clear HB; have BK253 := n0_; have HB := n1_; clear n0_ n1_; (try clear hb); (try clear hb2); (try clear hk); (try clear hi))) | go_quiet (first | (go_at_call 23; (with_reducible refine (impl_areSessions.calls k a0_0 a0_1 _ _ l0_2 true _ ?side1 ?side2 A6.out).mono ?_); (case side1 => exact u8_5); (case side2 => exact HC0_2.out); rintro e w16 ⟨rfl, hb⟩; have n0_ := Aside0.mk (blk_below (g := gb253) (o := .cells #[.int .i64 a0_0, .int .i64 a0_1, .slice A0_2 l0_2.length c0_2] 29 (0, 0)) u8_1 hb); have n1_ := Aside0.mk (below_step u8_0 hb); clear BK253; clear HB; have BK253 := n0_; have HB := n1_; clear n0_ n1_; (try clear hb); (try clear hb2); (try clear hk); (try clear hi))))
      go_meet
      case rel => exact ⟨_, (true), u8_10, H', ⟨by first | omega | exact Nat.le_refl _⟩, ⟨u8_1⟩, ⟨u8_0⟩⟩
    rw [if_neg c14] at H
    have c14b0 : decide (a2 < 1) = false := decide_eq_false c14
    clear c14
    have H' := Aside0.mk H
    clear H
    have hcz17_0 : w5.cell? ⟨gb253, 0, none⟩ = some (.int .i64 a0_0) := (blk_cell BK253.out 0).trans rfl
    have hcz17_1 : w5.cell? ⟨gb253, 1, none⟩ = some (.int .i64 a0_1) := (blk_cell BK253.out 1).trans rfl
    have hcz17_2 : w5.cell? ⟨gb253, 2, none⟩ = some (.slice A0_2 l0_2.length c0_2) := (blk_cell BK253.out 2).trans rfl
    have hfz17_0 := blk_frozen BK253.out 0
    have hfz17_1 := blk_frozen BK253.out 1
    have hfz17_2 := blk_frozen BK253.out 2
    go_wp2_with (first | (first | (go_at_call 23; (with_reducible refine (impl_areSessions.calls k a0_0 a0_1 _ _ l0_2 true _ ?side1 ?side2 A6.out).mono ?_); (case side1 => exact u8_5); (case side2 => exact HC0_2.out); rintro e w18 ⟨rfl, hb⟩; have n0_ := Aside0.mk (blk_below (g := gb253) (o := .cells #[.int .i64 a0_0, .int .i64 a0_1, .slice A0_2 l0_2.length c0_2] 29 (0, 0)) u8_1 hb); have n1_ := Aside0.mk (below_step u8_0 hb); clear BK253; clear HB; have BK253 := n0_; have HB := n1_; clear n0_ n1_; (try clear hb); (try clear hb2); (try clear hk); (try clear hi))) | go_quiet (first | (go_at_call 23; (with_reducible refine (impl_areSessions.calls k a0_0 a0_1 _ _ l0_2 true _ ?side1 ?side2 A6.out).mono ?_); (case side1 => exact u8_5); (case side2 => exact HC0_2.out); rintro e w18 ⟨rfl, hb⟩; have n0_ := Aside0.mk (blk_below (g := gb253) (o := .cells #[.int .i64 a0_0, .int .i64 a0_1, .slice A0_2 l0_2.length c0_2] 29 (0, 0)) u8_1 hb); have n1_ := Aside0.mk (below_step u8_0 hb); clear BK253; clear HB; have BK253 := n0_; have HB := n1_; clear n0_ n1_; (try clear hb); (try clear hb2); (try clear hk); (try clear hi))))
    go_meet
    case rel => exact ⟨_, (decide (a2 > 1000000)), u8_10, H', ⟨by first | omega | exact Nat.le_refl _⟩, ⟨u8_1⟩, ⟨u8_0⟩⟩
  clear HC4
  try clear c1
  try clear c2
  try clear p2
  try clear c7
  try clear c8
  try clear c8b0
  try clear c11
  try clear c11b0
  try clear c14
  try clear c14b0
  try clear hcz12_0
  try clear hcz12_1
  try clear hcz12_2
  try clear hcz15_0
  try clear hcz15_1
  try clear hcz15_2
  try clear hcz17_0
  try clear hcz17_1
  try clear hcz17_2
  try clear hcz19_0
  try clear hcz19_1
  try clear hcz19_2
  try clear hcz9_0
  try clear hcz9_1
  try clear hcz9_2
  try clear hfz12_0
  try clear hfz12_1
  try clear hfz12_2
  try clear hfz15_0
  try clear hfz15_1
  try clear hfz15_2
  try clear hfz17_0
  try clear hfz17_1
  try clear hfz17_2
  try clear hfz19_0
  try clear hfz19_1
  try clear hfz19_2
  try clear hfz9_0
  try clear hfz9_1
  try clear hfz9_2
  obtain ⟨kq, x28_3, rfl, HA, HJ3, BK253, HB⟩ := hcut
  cases kq with
  | zero => exact absurd HA.out (by simp [impl_look.j0])
  | succ kj3 =>
    have H := HA.out
    clear HA
    simp only [impl_look.j0] at H
    by_cases c21 : x28_3 = true
    · subst c21
      rw [if_pos rfl] at H
      simp only [Option.some.injEq, Prod.mk.injEq] at H
      obtain ⟨rfl, rfl⟩ := H
      go_wp2
      repeat (go_quiet (fail); try go_wp2)
      go_ret2
      exact ⟨by first | rfl | (simp [errW_none, errW_some] <;> rfl) | (simp [*, errW_none, errW_some] <;> rfl), u8_0⟩
    replace c21 := Bool.eq_false_iff.mpr c21
    subst c21
    rw [if_neg (show ¬ (false = true) by decide)] at H
    replace H := Option.bind_eq_some_iff.mp H
    obtain ⟨t256, A220, H⟩ := H
    have A22 := Aside0.mk A220
    clear A220
    have HC23 := Aside0.mk H
    clear H
    go_upto_if 34 with (first | ((with_reducible refine gate_dst (N := 8) rfl ?_); refine box_event ?hg (N := 8) ?hd (cs := #[.int .i64 0, .int .i64 0, .int .i64 0, .string (⟨#[]⟩ : ByteArray)]) (t := 45) ?hr ?_; (case hd => rfl); (case hg => rfl); (case hr => first | (go_simp; done) | (go_simp; rfl)); intro gb255 hg w24 hbox hb; have n0_ := Aside0.mk (blk_below (g := gb253) (o := .cells #[.int .i64 a0_0, .int .i64 a0_1, .slice A0_2 l0_2.length c0_2] 29 (0, 0)) u8_1 hb); have n1_ := Aside0.mk (below_step u8_0 hb); have n2_ := Aside0.mk (hbox); have n3_ := Aside0.mk ((by rw [hg]; exact (below_size u8_0) : w.heap.size ≤ gb255)); have n4_ := Aside0.mk ((by rw [hg]; exact (below_size u8_0) : w.heap.size ≤ gb255)); have n5_ := Aside0.mk ((by rw [hg]; exact Nat.ne_of_lt (blk_lt (g := gb253) (o := .cells #[.int .i64 a0_0, .int .i64 a0_1, .slice A0_2 l0_2.length c0_2] 29 (0, 0)) u8_1) : gb253 ≠ gb255)); have n6_ := Aside0.mk ((by rw [hg]; exact Nat.ne_of_gt (blk_lt (g := gb253) (o := .cells #[.int .i64 a0_0, .int .i64 a0_1, .slice A0_2 l0_2.length c0_2] 29 (0, 0)) u8_1) : gb255 ≠ gb253)); clear BK253; clear HB; have BK253 := n0_; have HB := n1_; have BK255 := n2_; have GW255 := n3_; have GE255 := n4_; have NB253_255 := n5_; have NB255_253 := n6_; clear n0_ n1_ n2_ n3_ n4_ n5_ n6_; clear hb hbox hg; have hnb25 := NB255_253.out; have hnc25 := NB253_255.out; have hcz26_0 : w24.cell? ⟨gb255, 0, none⟩ = some (.int .i64 0) := (blk_cell BK255.out 0).trans rfl; have hcz26_1 : w24.cell? ⟨gb255, 1, none⟩ = some (.int .i64 0) := (blk_cell BK255.out 1).trans rfl; have hcz26_2 : w24.cell? ⟨gb255, 2, none⟩ = some (.int .i64 0) := (blk_cell BK255.out 2).trans rfl; have hcz26_3 : w24.cell? ⟨gb255, 3, none⟩ = some (.string (⟨#[]⟩ : ByteArray)) := (blk_cell BK255.out 3).trans rfl; have hfz26_0 := blk_frozen BK255.out 0; have hfz26_1 := blk_frozen BK255.out 1; have hfz26_2 := blk_frozen BK255.out 2; have hfz26_3 := blk_frozen BK255.out 3; have hcz27_0 : w24.cell? ⟨gb253, 0, none⟩ = some (.int .i64 a0_0) := (blk_cell BK253.out 0).trans rfl; have hcz27_1 : w24.cell? ⟨gb253, 1, none⟩ = some (.int .i64 a0_1) := (blk_cell BK253.out 1).trans rfl; have hcz27_2 : w24.cell? ⟨gb253, 2, none⟩ = some (.slice A0_2 l0_2.length c0_2) := (blk_cell BK253.out 2).trans rfl; have hfz27_0 := blk_frozen BK253.out 0; have hfz27_1 := blk_frozen BK253.out 1; have hfz27_2 := blk_frozen BK253.out 2) | (go_at_call 30; (with_reducible refine (impl_sessionOf.calls a0_0 a0_1 _ _ l0_2 a1 t256 _ ?side1 ?side2 A22.out).mono ?_); (case side1 => exact (by exact Kd.C_below HR0_2.out u8_2)); (case side2 => exact HC0_2.out); rintro e w28 ⟨rfl, hb⟩; have n0_ := Aside0.mk (blk_below (g := gb253) (o := .cells #[.int .i64 a0_0, .int .i64 a0_1, .slice A0_2 l0_2.length c0_2] 29 (0, 0)) u8_3 hb); have n1_ := Aside0.mk (blk_below (g := gb255) (o := .cells #[.int .i64 0, .int .i64 0, .int .i64 0, .string (⟨#[]⟩ : ByteArray)] 45 (0, 0)) u8_4 hb); have n2_ := Aside0.mk (below_step u8_2 hb); clear BK253; clear BK255; clear HB; have BK253 := n0_; have BK255 := n1_; have HB := n2_; clear n0_ n1_ n2_; (try clear hb); (try clear hb2); (try clear hk); (try clear hi)))
    repeat (go_quiet (first | ((with_reducible refine gate_dst (N := 8) rfl ?_); refine box_event ?hg (N := 8) ?hd (cs := #[.int .i64 0, .int .i64 0, .int .i64 0, .string (⟨#[]⟩ : ByteArray)]) (t := 45) ?hr ?_; (case hd => rfl); (case hg => rfl); (case hr => first | (go_simp; done) | (go_simp; rfl)); intro gb255 hg w24 hbox hb; have n0_ := Aside0.mk (blk_below (g := gb253) (o := .cells #[.int .i64 a0_0, .int .i64 a0_1, .slice A0_2 l0_2.length c0_2] 29 (0, 0)) u8_1 hb); have n1_ := Aside0.mk (below_step u8_0 hb); have n2_ := Aside0.mk (hbox); have n3_ := Aside0.mk ((by rw [hg]; exact (below_size u8_0) : w.heap.size ≤ gb255)); have n4_ := Aside0.mk ((by rw [hg]; exact (below_size u8_0) : w.heap.size ≤ gb255)); have n5_ := Aside0.mk ((by rw [hg]; exact Nat.ne_of_lt (blk_lt (g := gb253) (o := .cells #[.int .i64 a0_0, .int .i64 a0_1, .slice A0_2 l0_2.length c0_2] 29 (0, 0)) u8_1) : gb253 ≠ gb255)); have n6_ := Aside0.mk ((by rw [hg]; exact Nat.ne_of_gt (blk_lt (g := gb253) (o := .cells #[.int .i64 a0_0, .int .i64 a0_1, .slice A0_2 l0_2.length c0_2] 29 (0, 0)) u8_1) : gb255 ≠ gb253)); clear BK253; clear HB; have BK253 := n0_; have HB := n1_; have BK255 := n2_; have GW255 := n3_; have GE255 := n4_; have NB253_255 := n5_; have NB255_253 := n6_; clear n0_ n1_ n2_ n3_ n4_ n5_ n6_; clear hb hbox hg; have hnb25 := NB255_253.out; have hnc25 := NB253_255.out; have hcz26_0 : w24.cell? ⟨gb255, 0, none⟩ = some (.int .i64 0) := (blk_cell BK255.out 0).trans rfl; have hcz26_1 : w24.cell? ⟨gb255, 1, none⟩ = some (.int .i64 0) := (blk_cell BK255.out 1).trans rfl; have hcz26_2 : w24.cell? ⟨gb255, 2, none⟩ = some (.int .i64 0) := (blk_cell BK255.out 2).trans rfl; have hcz26_3 : w24.cell? ⟨gb255, 3, none⟩ = some (.string (⟨#[]⟩ : ByteArray)) := (blk_cell BK255.out 3).trans rfl; have hfz26_0 := blk_frozen BK255.out 0; have hfz26_1 := blk_frozen BK255.out 1; have hfz26_2 := blk_frozen BK255.out 2; have hfz26_3 := blk_frozen BK255.out 3; have hcz27_0 : w24.cell? ⟨gb253, 0, none⟩ = some (.int .i64 a0_0) := (blk_cell BK253.out 0).trans rfl; have hcz27_1 : w24.cell? ⟨gb253, 1, none⟩ = some (.int .i64 a0_1) := (blk_cell BK253.out 1).trans rfl; have hcz27_2 : w24.cell? ⟨gb253, 2, none⟩ = some (.slice A0_2 l0_2.length c0_2) := (blk_cell BK253.out 2).trans rfl; have hfz27_0 := blk_frozen BK253.out 0; have hfz27_1 := blk_frozen BK253.out 1; have hfz27_2 := blk_frozen BK253.out 2) | (go_at_call 30; (with_reducible refine (impl_sessionOf.calls a0_0 a0_1 _ _ l0_2 a1 t256 _ ?side1 ?side2 A22.out).mono ?_); (case side1 => exact (by exact Kd.C_below HR0_2.out u8_2)); (case side2 => exact HC0_2.out); rintro e w28 ⟨rfl, hb⟩; have n0_ := Aside0.mk (blk_below (g := gb253) (o := .cells #[.int .i64 a0_0, .int .i64 a0_1, .slice A0_2 l0_2.length c0_2] 29 (0, 0)) u8_3 hb); have n1_ := Aside0.mk (blk_below (g := gb255) (o := .cells #[.int .i64 0, .int .i64 0, .int .i64 0, .string (⟨#[]⟩ : ByteArray)] 45 (0, 0)) u8_4 hb); have n2_ := Aside0.mk (below_step u8_2 hb); clear BK253; clear BK255; clear HB; have BK253 := n0_; have BK255 := n1_; have HB := n2_; clear n0_ n1_ n2_; (try clear hb); (try clear hb2); (try clear hk); (try clear hi))); go_upto_if 34 with (first | ((with_reducible refine gate_dst (N := 8) rfl ?_); refine box_event ?hg (N := 8) ?hd (cs := #[.int .i64 0, .int .i64 0, .int .i64 0, .string (⟨#[]⟩ : ByteArray)]) (t := 45) ?hr ?_; (case hd => rfl); (case hg => rfl); (case hr => first | (go_simp; done) | (go_simp; rfl)); intro gb255 hg w24 hbox hb; have n0_ := Aside0.mk (blk_below (g := gb253) (o := .cells #[.int .i64 a0_0, .int .i64 a0_1, .slice A0_2 l0_2.length c0_2] 29 (0, 0)) u8_1 hb); have n1_ := Aside0.mk (below_step u8_0 hb); have n2_ := Aside0.mk (hbox); have n3_ := Aside0.mk ((by rw [hg]; exact (below_size u8_0) : w.heap.size ≤ gb255)); have n4_ := Aside0.mk ((by rw [hg]; exact (below_size u8_0) : w.heap.size ≤ gb255)); have n5_ := Aside0.mk ((by rw [hg]; exact Nat.ne_of_lt (blk_lt (g := gb253) (o := .cells #[.int .i64 a0_0, .int .i64 a0_1, .slice A0_2 l0_2.length c0_2] 29 (0, 0)) u8_1) : gb253 ≠ gb255)); have n6_ := Aside0.mk ((by rw [hg]; exact Nat.ne_of_gt (blk_lt (g := gb253) (o := .cells #[.int .i64 a0_0, .int .i64 a0_1, .slice A0_2 l0_2.length c0_2] 29 (0, 0)) u8_1) : gb255 ≠ gb253)); clear BK253; clear HB; have BK253 := n0_; have HB := n1_; have BK255 := n2_; have GW255 := n3_; have GE255 := n4_; have NB253_255 := n5_; have NB255_253 := n6_; clear n0_ n1_ n2_ n3_ n4_ n5_ n6_; clear hb hbox hg; have hnb25 := NB255_253.out; have hnc25 := NB253_255.out; have hcz26_0 : w24.cell? ⟨gb255, 0, none⟩ = some (.int .i64 0) := (blk_cell BK255.out 0).trans rfl; have hcz26_1 : w24.cell? ⟨gb255, 1, none⟩ = some (.int .i64 0) := (blk_cell BK255.out 1).trans rfl; have hcz26_2 : w24.cell? ⟨gb255, 2, none⟩ = some (.int .i64 0) := (blk_cell BK255.out 2).trans rfl; have hcz26_3 : w24.cell? ⟨gb255, 3, none⟩ = some (.string (⟨#[]⟩ : ByteArray)) := (blk_cell BK255.out 3).trans rfl; have hfz26_0 := blk_frozen BK255.out 0; have hfz26_1 := blk_frozen BK255.out 1; have hfz26_2 := blk_frozen BK255.out 2; have hfz26_3 := blk_frozen BK255.out 3; have hcz27_0 : w24.cell? ⟨gb253, 0, none⟩ = some (.int .i64 a0_0) := (blk_cell BK253.out 0).trans rfl; have hcz27_1 : w24.cell? ⟨gb253, 1, none⟩ = some (.int .i64 a0_1) := (blk_cell BK253.out 1).trans rfl; have hcz27_2 : w24.cell? ⟨gb253, 2, none⟩ = some (.slice A0_2 l0_2.length c0_2) := (blk_cell BK253.out 2).trans rfl; have hfz27_0 := blk_frozen BK253.out 0; have hfz27_1 := blk_frozen BK253.out 1; have hfz27_2 := blk_frozen BK253.out 2) | (go_at_call 30; (with_reducible refine (impl_sessionOf.calls a0_0 a0_1 _ _ l0_2 a1 t256 _ ?side1 ?side2 A22.out).mono ?_); (case side1 => exact (by exact Kd.C_below HR0_2.out u8_2)); (case side2 => exact HC0_2.out); rintro e w28 ⟨rfl, hb⟩; have n0_ := Aside0.mk (blk_below (g := gb253) (o := .cells #[.int .i64 a0_0, .int .i64 a0_1, .slice A0_2 l0_2.length c0_2] 29 (0, 0)) u8_3 hb); have n1_ := Aside0.mk (blk_below (g := gb255) (o := .cells #[.int .i64 0, .int .i64 0, .int .i64 0, .string (⟨#[]⟩ : ByteArray)] 45 (0, 0)) u8_4 hb); have n2_ := Aside0.mk (below_step u8_2 hb); clear BK253; clear BK255; clear HB; have BK253 := n0_; have BK255 := n1_; have HB := n2_; clear n0_ n1_ n2_; (try clear hb); (try clear hb2); (try clear hk); (try clear hi))))
    (try simp only [Act.put, List.setIfInBounds_toArray, List.set_cons_zero, List.set_cons_succ])
    go_cut [] (fun wc => ∃ (kq : Nat) (x256000_22 : Int) (x256001_22 : Int) (x256002_22 : Int) (x256003_22 : ByteArray), Aside0 (impl_look.j1 kq a2 x256000_22 x256001_22 x256002_22 x256003_22 = some (r1, r2)) ∧ Aside0 (kq ≤ kj3) ∧ Aside0 (wc.heap[gb253]? = some (.cells #[.int .i64 a0_0, .int .i64 a0_1, (.slice A0_2 l0_2.length c0_2)] 29 (0, 0))) ∧ Aside0 (wc.heap[gb255]? = some (.cells #[.int .i64 x256000_22, .int .i64 x256001_22, .int .i64 x256002_22, .string x256003_22] 45 (0, 0))) ∧ Aside0 (Below w.heap.size w wc))
    case first =>
      have H := HC23.out
      clear HC23
      by_cases c29 : t256 ≥ 0
      rotate_left
      · rw [if_neg c29] at H
        have c29b0 : decide (0 ≤ t256) = false := decide_eq_false c29
        clear c29
        (first | rw [c29b0] | (simp only [i64_w, i32_w]; rw [c29b0]) | skip)
        have H' := Aside0.mk H
        clear H
        go_wp2
        repeat (go_quiet (fail); try go_wp2)
        go_meet
        case rel => exact ⟨_, (0), (0), (0), ((⟨#[]⟩ : ByteArray)), H', ⟨(by have := HJ3.out; first | omega | exact Nat.le_refl _)⟩, ⟨u8_1⟩, ⟨(by (with_reducible repeat (first | refine blk_drewN ?_ _ | refine blk_drew ?_ | refine blk_alloc ?_ _)); exact BK255.out)⟩, ⟨u8_2⟩⟩
      rw [if_pos c29] at H
      have c29b0 : decide (0 ≤ t256) = true := decide_eq_true c29
      clear c29
      (first | rw [c29b0] | (simp only [i64_w, i32_w]; rw [c29b0]) | skip)
      by_cases c30 : 0 ≤ t256
      rotate_left
      · rw [if_neg c30] at H
        exact absurd H (by simp)
      rw [if_pos c30] at H
      have c30b0 : decide (0 ≤ t256) = true := decide_eq_true c30
      clear c30
      by_cases c31 : t256 < (l0_2.length : Int)
      rotate_left
      · rw [if_neg c31] at H
        exact absurd H (by simp)
      rw [if_pos c31] at H
      have c31b0 : decide (t256 < (l0_2.length : Int)) = true := decide_eq_true c31
      clear c31
      have H' := Aside0.mk H
      clear H
      have hnb32 := NB253_255.out
      have hnc32 := NB255_253.out
      have hcz33_0 : w28.cell? ⟨gb253, 0, none⟩ = some (.int .i64 a0_0) := (blk_cell BK253.out 0).trans rfl
      have hcz33_1 : w28.cell? ⟨gb253, 1, none⟩ = some (.int .i64 a0_1) := (blk_cell BK253.out 1).trans rfl
      have hcz33_2 : w28.cell? ⟨gb253, 2, none⟩ = some (.slice A0_2 l0_2.length c0_2) := (blk_cell BK253.out 2).trans rfl
      have hfz33_0 := blk_frozen BK253.out 0
      have hfz33_1 := blk_frozen BK253.out 1
      have hfz33_2 := blk_frozen BK253.out 2
      have p257 : 0 ≤ (t256 : Int) := of_decide_eq_true (by first | (with_reducible assumption) | assumption)
      have q257 : t256 < (l0_2.length : Int) := of_decide_eq_true (by first | (with_reducible assumption) | assumption)
      obtain ⟨ad257, e257, hx257_0, hx257_1, hx257_2, hx257_3⟩ := at_T45 HR0_2.out t256 p257 q257
      cases e257
      replace hx257_0 := (HB.out.cell (World.block_lt_of_cell? w _ hx257_0)).trans hx257_0
      replace hx257_1 := (HB.out.cell (World.block_lt_of_cell? w _ hx257_1)).trans hx257_1
      replace hx257_2 := (HB.out.cell (World.block_lt_of_cell? w _ hx257_2)).trans hx257_2
      replace hx257_3 := (HB.out.cell (World.block_lt_of_cell? w _ hx257_3)).trans hx257_3
      replace p257 := eq_true p257
      replace q257 := eq_true q257
      have hcz34_0 : w28.cell? ⟨gb255, 0, none⟩ = some (.int .i64 0) := (blk_cell BK255.out 0).trans rfl
      have hcz34_1 : w28.cell? ⟨gb255, 1, none⟩ = some (.int .i64 0) := (blk_cell BK255.out 1).trans rfl
      have hcz34_2 : w28.cell? ⟨gb255, 2, none⟩ = some (.int .i64 0) := (blk_cell BK255.out 2).trans rfl
      have hcz34_3 : w28.cell? ⟨gb255, 3, none⟩ = some (.string (⟨#[]⟩ : ByteArray)) := (blk_cell BK255.out 3).trans rfl
      have hfz34_0 := blk_frozen BK255.out 0
      have hfz34_1 := blk_frozen BK255.out 1
      have hfz34_2 := blk_frozen BK255.out 2
      have hfz34_3 := blk_frozen BK255.out 3
      go_wp2
      repeat (go_quiet (fail); try go_wp2)
      go_meet
      case rel => exact ⟨_, ((rd_T45 l0_2 t256).f0), ((rd_T45 l0_2 t256).f1), ((rd_T45 l0_2 t256).f2), ((rd_T45 l0_2 t256).f3), H', ⟨(by have := HJ3.out; first | omega | exact Nat.le_refl _)⟩, ⟨u8_3⟩, ⟨(by (with_reducible repeat (first | refine blk_drewN ?_ _ | refine blk_drew ?_ | refine blk_alloc ?_ _)); refine blk_put (cs := #[.int .i64 ((rd_T45 l0_2 t256).f0), .int .i64 ((rd_T45 l0_2 t256).f1), .int .i64 ((rd_T45 l0_2 t256).f2), .string (⟨#[]⟩ : ByteArray)]) ?_ 3 _ rfl; (with_reducible repeat (first | refine blk_drewN ?_ _ | refine blk_drew ?_ | refine blk_alloc ?_ _)); refine blk_put (cs := #[.int .i64 ((rd_T45 l0_2 t256).f0), .int .i64 ((rd_T45 l0_2 t256).f1), .int .i64 0, .string (⟨#[]⟩ : ByteArray)]) ?_ 2 _ rfl; (with_reducible repeat (first | refine blk_drewN ?_ _ | refine blk_drew ?_ | refine blk_alloc ?_ _)); refine blk_put (cs := #[.int .i64 ((rd_T45 l0_2 t256).f0), .int .i64 0, .int .i64 0, .string (⟨#[]⟩ : ByteArray)]) ?_ 1 _ rfl; (with_reducible repeat (first | refine blk_drewN ?_ _ | refine blk_drew ?_ | refine blk_alloc ?_ _)); refine blk_put (cs := #[.int .i64 0, .int .i64 0, .int .i64 0, .string (⟨#[]⟩ : ByteArray)]) ?_ 0 _ rfl; (with_reducible repeat (first | refine blk_drewN ?_ _ | refine blk_drew ?_ | refine blk_alloc ?_ _)); exact BK255.out)⟩, ⟨u8_2⟩⟩
    clear HC23
    try clear c1
    try clear c2
    try clear p2
    try clear q2
    try clear hx2
    try clear c3
    try clear c7
    try clear c8
    try clear c8b0
    try clear c11
    try clear c11b0
    try clear c14
    try clear c14b0
    try clear c21
    try clear c25
    try clear p25
    try clear q25
    try clear hx25
    try clear c26
    try clear c29
    try clear c29b0
    try clear c30
    try clear c30b0
    try clear c31
    try clear c31b0
    try clear c32
    try clear hcz12_0
    try clear hcz12_1
    try clear hcz12_2
    try clear hcz15_0
    try clear hcz15_1
    try clear hcz15_2
    try clear hcz17_0
    try clear hcz17_1
    try clear hcz17_2
    try clear hcz19_0
    try clear hcz19_1
    try clear hcz19_2
    try clear hcz26_0
    try clear hcz26_1
    try clear hcz26_2
    try clear hcz26_3
    try clear hcz27_0
    try clear hcz27_1
    try clear hcz27_2
    try clear hcz33_0
    try clear hcz33_1
    try clear hcz33_2
    try clear hcz34_0
    try clear hcz34_1
    try clear hcz34_2
    try clear hcz34_3
    try clear hcz9_0
    try clear hcz9_1
    try clear hcz9_2
    try clear hfz12_0
    try clear hfz12_1
    try clear hfz12_2
    try clear hfz15_0
    try clear hfz15_1
    try clear hfz15_2
    try clear hfz17_0
    try clear hfz17_1
    try clear hfz17_2
    try clear hfz19_0
    try clear hfz19_1
    try clear hfz19_2
    try clear hfz26_0
    try clear hfz26_1
    try clear hfz26_2
    try clear hfz26_3
    try clear hfz27_0
    try clear hfz27_1
    try clear hfz27_2
    try clear hfz33_0
    try clear hfz33_1
    try clear hfz33_2
    try clear hfz34_0
    try clear hfz34_1
    try clear hfz34_2
    try clear hfz34_3
    try clear hfz9_0
    try clear hfz9_1
    try clear hfz9_2
    try clear hx257_0
    try clear hx257_1
    try clear hx257_2
    try clear hx257_3
    try clear p2
    try clear p257
    try clear q257
    obtain ⟨kq, x256000_22, x256001_22, x256002_22, x256003_22, HA, HJ22, BK253, BK255, HB⟩ := hcut
    cases kq with
    | zero => exact absurd HA.out (by simp [impl_look.j1])
    | succ kj22 =>
      have H := HA.out
      clear HA
      simp only [impl_look.j1] at H
      by_cases c35 : a2 = (wrap64 (x256001_22 + 1))
      · rw [if_pos c35] at H
        have c35b0 : (a2 == (wrap64 (x256001_22 + 1))) = true := beq_iff_eq.mpr c35
        have c35b1 : (a2 != (wrap64 (x256001_22 + 1))) = false := bne_eq_false_iff_eq.mpr c35
        clear c35
        simp only [Option.some.injEq, Prod.mk.injEq] at H
        obtain ⟨rfl, rfl⟩ := H
        have hnb36 := NB255_253.out
        have hnc36 := NB253_255.out
        have hcz37_0 : wc.cell? ⟨gb255, 0, none⟩ = some (.int .i64 x256000_22) := (blk_cell BK255.out 0).trans rfl
        have hcz37_1 : wc.cell? ⟨gb255, 1, none⟩ = some (.int .i64 x256001_22) := (blk_cell BK255.out 1).trans rfl
        have hcz37_2 : wc.cell? ⟨gb255, 2, none⟩ = some (.int .i64 x256002_22) := (blk_cell BK255.out 2).trans rfl
        have hcz37_3 : wc.cell? ⟨gb255, 3, none⟩ = some (.string x256003_22) := (blk_cell BK255.out 3).trans rfl
        have hfz37_0 := blk_frozen BK255.out 0
        have hfz37_1 := blk_frozen BK255.out 1
        have hfz37_2 := blk_frozen BK255.out 2
        have hfz37_3 := blk_frozen BK255.out 3
        go_wp2
        repeat (go_quiet (fail); try go_wp2)
        go_ret2
        exact ⟨by first | rfl | (simp [errW_none, errW_some] <;> rfl) | (simp [*, errW_none, errW_some] <;> rfl), u8_2⟩
      rw [if_neg c35] at H
      have c35b0 : (a2 == (wrap64 (x256001_22 + 1))) = false := beq_eq_false_iff_ne.mpr c35
      have c35b1 : (a2 != (wrap64 (x256001_22 + 1))) = true := bne_iff_ne.mpr c35
      by_cases c38 : a2 = x256001_22
      · rw [if_pos c38] at H
        have c38b0 : (a2 == x256001_22) = true := beq_iff_eq.mpr c38
        have c38b1 : (a2 != x256001_22) = false := bne_eq_false_iff_eq.mpr c38
        clear c38
        simp only [Option.some.injEq, Prod.mk.injEq] at H
        obtain ⟨rfl, rfl⟩ := H
        have hnb39 := NB255_253.out
        have hnc39 := NB253_255.out
        have hcz40_0 : wc.cell? ⟨gb255, 0, none⟩ = some (.int .i64 x256000_22) := (blk_cell BK255.out 0).trans rfl
        have hcz40_1 : wc.cell? ⟨gb255, 1, none⟩ = some (.int .i64 x256001_22) := (blk_cell BK255.out 1).trans rfl
        have hcz40_2 : wc.cell? ⟨gb255, 2, none⟩ = some (.int .i64 x256002_22) := (blk_cell BK255.out 2).trans rfl
        have hcz40_3 : wc.cell? ⟨gb255, 3, none⟩ = some (.string x256003_22) := (blk_cell BK255.out 3).trans rfl
        have hfz40_0 := blk_frozen BK255.out 0
        have hfz40_1 := blk_frozen BK255.out 1
        have hfz40_2 := blk_frozen BK255.out 2
        have hfz40_3 := blk_frozen BK255.out 3
        go_wp2
        repeat (go_quiet (fail); try go_wp2)
        go_ret2
        exact ⟨by first | rfl | (simp [errW_none, errW_some] <;> rfl) | (simp [*, errW_none, errW_some] <;> rfl), u8_2⟩
      rw [if_neg c38] at H
      have c38b0 : (a2 == x256001_22) = false := beq_eq_false_iff_ne.mpr c38
      have c38b1 : (a2 != x256001_22) = true := bne_iff_ne.mpr c38
      by_cases c41 : a2 < x256001_22
      · rw [if_pos c41] at H
        have c41b0 : decide (a2 < x256001_22) = true := decide_eq_true c41
        clear c41
        simp only [Option.some.injEq, Prod.mk.injEq] at H
        obtain ⟨rfl, rfl⟩ := H
        have hnb42 := NB255_253.out
        have hnc42 := NB253_255.out
        have hcz43_0 : wc.cell? ⟨gb255, 0, none⟩ = some (.int .i64 x256000_22) := (blk_cell BK255.out 0).trans rfl
        have hcz43_1 : wc.cell? ⟨gb255, 1, none⟩ = some (.int .i64 x256001_22) := (blk_cell BK255.out 1).trans rfl
        have hcz43_2 : wc.cell? ⟨gb255, 2, none⟩ = some (.int .i64 x256002_22) := (blk_cell BK255.out 2).trans rfl
        have hcz43_3 : wc.cell? ⟨gb255, 3, none⟩ = some (.string x256003_22) := (blk_cell BK255.out 3).trans rfl
        have hfz43_0 := blk_frozen BK255.out 0
        have hfz43_1 := blk_frozen BK255.out 1
        have hfz43_2 := blk_frozen BK255.out 2
        have hfz43_3 := blk_frozen BK255.out 3
        go_wp2
        repeat (go_quiet (fail); try go_wp2)
        go_ret2
        exact ⟨by first | rfl | (simp [errW_none, errW_some] <;> rfl) | (simp [*, errW_none, errW_some] <;> rfl), u8_2⟩
      rw [if_neg c41] at H
      have c41b0 : decide (a2 < x256001_22) = false := decide_eq_false c41
      clear c41
      simp only [Option.some.injEq, Prod.mk.injEq] at H
      obtain ⟨rfl, rfl⟩ := H
      have hnb44 := NB255_253.out
      have hnc44 := NB253_255.out
      have hcz45_0 : wc.cell? ⟨gb255, 0, none⟩ = some (.int .i64 x256000_22) := (blk_cell BK255.out 0).trans rfl
      have hcz45_1 : wc.cell? ⟨gb255, 1, none⟩ = some (.int .i64 x256001_22) := (blk_cell BK255.out 1).trans rfl
      have hcz45_2 : wc.cell? ⟨gb255, 2, none⟩ = some (.int .i64 x256002_22) := (blk_cell BK255.out 2).trans rfl
      have hcz45_3 : wc.cell? ⟨gb255, 3, none⟩ = some (.string x256003_22) := (blk_cell BK255.out 3).trans rfl
      have hfz45_0 := blk_frozen BK255.out 0
      have hfz45_1 := blk_frozen BK255.out 1
      have hfz45_2 := blk_frozen BK255.out 2
      have hfz45_3 := blk_frozen BK255.out 3
      go_wp2
      repeat (go_quiet (fail); try go_wp2)
      go_ret2
      exact ⟨by first | rfl | (simp [errW_none, errW_some] <;> rfl) | (simp [*, errW_none, errW_some] <;> rfl), u8_2⟩

/-! ### impl_copySessions: function 29 -/
def impl_copySessions.f (a0_0 : Int) (a0_1 : Int) (l0_2 : List (S45)) : Option (Int × Int × (List (S45))) := (some (([] : List (S45)) : List (S45))).bind fun y260 => (if y260.length + l0_2.length < 3518437208883 then (some (a0_0, a0_1, (y260 ++ l0_2))) else (none))
set_option maxHeartbeats 8000000 in
set_option maxRecDepth 100000 in
theorem impl_copySessions.calls (a0_0 : Int) (a0_1 : Int) (A0_2 : Option Addr) (c0_2 : Nat) (l0_2 : List (S45)) (r1 : Int) (r2 : Int) (r3 : List (S45)) (w : World) (hr0_2 : Kd.C k45 w A0_2 l0_2.length l0_2) (hc0_2 : l0_2.length ≤ c0_2) (h : impl_copySessions.f a0_0 a0_1 l0_2 = some (r1, r2, r3)) :
    Calls Try.prog 29 #[.agg #[.int .i64 a0_0, .int .i64 a0_1, .slice A0_2 l0_2.length c0_2]] w fun e w' => ∃ v2_ : Value, e = .returned (.agg #[.int .i64 r1, .int .i64 r2, v2_]) ∧ Kd.R k45 45 w' w.heap.size (fun _ => True) v2_ r3 ∧ Below w.heap.size w w' := by
  have hu29 := Try.underlying29
  have HR0_2 := Aside0.mk hr0_2
  have HC0_2 := Aside0.mk hc0_2
  clear hr0_2 hc0_2
  have HB := Aside0.mk (Below.refl w.heap.size w)
  have H : ((some (([] : List (S45)) : List (S45))).bind fun y260 => (if y260.length + l0_2.length < 3518437208883 then (some (a0_0, a0_1, (y260 ++ l0_2))) else (none))) = some (r1, r2, r3) := h
  clear h
  obtain ⟨y260, hy260⟩ : ∃ y_ : List (S45), y_ = (([] : List (S45))) := ⟨_, rfl⟩
  replace H : (if y260.length + l0_2.length < 3518437208883 then (some (a0_0, a0_1, (y260 ++ l0_2))) else (none)) = some (r1, r2, r3) := by first | (rw [hy260]; with_reducible exact H) | (have H2_ := (Option.bind_some _ _).symm.trans H; rw [hy260]; with_reducible exact H2_) | (have H2_ := (Option.bind_some _ _).symm.trans H; with_reducible exact H2_) | with_reducible exact H | (rw [hy260]; exact H) | exact H
  have Ny260 := Aside0.mk hy260
  clear hy260
  by_cases c2 : y260.length + l0_2.length < 3518437208883
  rotate_left
  · rw [if_neg c2] at H
    exact absurd H (by simp)
  rw [if_pos c2] at H
  have LMc2 := Aside0.mk c2
  clear c2
  obtain ⟨y263, hy263⟩ : ∃ y_ : List (S45), y_ = (y260 ++ l0_2) := ⟨_, rfl⟩
  replace H : (some (a0_0, a0_1, y263)) = some (r1, r2, r3) := by first | (rw [hy263]; with_reducible exact H) | (have H2_ := (Option.bind_some _ _).symm.trans H; rw [hy263]; with_reducible exact H2_) | (have H2_ := (Option.bind_some _ _).symm.trans H; with_reducible exact H2_) | with_reducible exact H | (rw [hy263]; exact H) | exact H
  have Ny263 := Aside0.mk hy263
  clear hy263
  simp only [Option.some.injEq, Prod.mk.injEq] at H
  obtain ⟨rfl, rfl, rfl⟩ := H
  go_enter Try.func29, Try.ntmps29
  go_wp2_with (first | ((with_reducible refine gate_dst (N := 1) rfl ?_); refine box_event ?hg (N := 1) ?hd (cs := #[.int .i64 a0_0, .int .i64 a0_1, .slice A0_2 l0_2.length c0_2]) (t := 29) ?hr ?_; (case hd => rfl); (case hg => rfl); (case hr => first | (go_simp; done) | (go_simp; rfl)); intro gb258 hg w3 hbox hb; have n0_ := Aside0.mk (below_step u8_6 hb); have n1_ := Aside0.mk (hbox); have n2_ := Aside0.mk ((by rw [hg]; exact (below_size u8_6) : w.heap.size ≤ gb258)); have n3_ := Aside0.mk ((by rw [hg]; exact (below_size u8_6) : w.heap.size ≤ gb258)); clear HB; have HB := n0_; have BK258 := n1_; have GW258 := n2_; have GE258 := n3_; clear n0_ n1_ n2_ n3_; clear hb hbox hg) | ((with_reducible refine gate_dst (N := 2) rfl ?_); refine box_event ?hg (N := 2) ?hd (cs := #[.int .i64 0, .int .i64 0, .slice none 0 0]) (t := 29) ?hr ?_; (case hd => rfl); (case hg => rfl); (case hr => first | (go_simp; done) | (go_simp; rfl)); intro gb259 hg w4 hbox hb; have n0_ := Aside0.mk (blk_below (g := gb258) (o := .cells #[.int .i64 a0_0, .int .i64 a0_1, .slice A0_2 l0_2.length c0_2] 29 (0, 0)) u8_8 hb); have n1_ := Aside0.mk (below_step u8_9 hb); have n2_ := Aside0.mk (hbox); have n3_ := Aside0.mk ((by rw [hg]; exact (below_size u8_9) : w.heap.size ≤ gb259)); have n4_ := Aside0.mk ((by rw [hg]; exact (below_size u8_9) : w.heap.size ≤ gb259)); have n5_ := Aside0.mk ((by rw [hg]; exact Nat.ne_of_lt (blk_lt (g := gb258) (o := .cells #[.int .i64 a0_0, .int .i64 a0_1, .slice A0_2 l0_2.length c0_2] 29 (0, 0)) u8_8) : gb258 ≠ gb259)); have n6_ := Aside0.mk ((by rw [hg]; exact Nat.ne_of_gt (blk_lt (g := gb258) (o := .cells #[.int .i64 a0_0, .int .i64 a0_1, .slice A0_2 l0_2.length c0_2] 29 (0, 0)) u8_8) : gb259 ≠ gb258)); clear BK258; clear HB; have BK258 := n0_; have HB := n1_; have BK259 := n2_; have GW259 := n3_; have GE259 := n4_; have NB258_259 := n5_; have NB259_258 := n6_; clear n0_ n1_ n2_ n3_ n4_ n5_ n6_; clear hb hbox hg) | ((with_reducible refine gate_dst (N := 3) rfl ?_); refine Kd.R_lit k45 _ 45 ?hg (N := 3) ?hd (xs := ([] : List (S45))) (inner := []) (ok := fun _ => True) (okp := fun _ => True) ?hr ?hp (fun _ hk => hk) trivial (Below.refl _ _) (Nat.le_refl _) (by simp) ?_; (case hd => rfl); (case hg => rfl); (case hr => first | (go_simp; done) | (go_simp; rfl)); (case hp => exact (Reps.none _ _)); intro v261 w5 ho6 hb hg_ hnew_; clear hg_ hnew_; (first | rw [← Ny260.out] at ho6 | (simp only [Int.reduceToNat] at ho6; rw [← Ny260.out] at ho6)); have n0_ := Aside0.mk (Kd.R_lower ho6 (below_size u8_7)); have n1_ := Aside0.mk (blk_below (g := gb258) (o := .cells #[.int .i64 a0_0, .int .i64 a0_1, .slice A0_2 l0_2.length c0_2] 29 (0, 0)) u8_8 hb); have n2_ := Aside0.mk (blk_below (g := gb259) (o := .cells #[.int .i64 0, .int .i64 0, .slice none 0 0] 29 (0, 0)) u8_11 hb); have n3_ := Aside0.mk (below_step u8_7 hb); clear BK258; clear BK259; clear HB; have HO262 := n0_; have BK258 := n1_; have BK259 := n2_; have HB := n3_; clear n0_ n1_ n2_ n3_; clear hb ho6; have hnb7 := NB258_259.out; have hnc7 := NB259_258.out; have hcz8_0 : w5.cell? ⟨gb258, 0, none⟩ = some (.int .i64 a0_0) := (blk_cell BK258.out 0).trans rfl; have hcz8_1 : w5.cell? ⟨gb258, 1, none⟩ = some (.int .i64 a0_1) := (blk_cell BK258.out 1).trans rfl; have hcz8_2 : w5.cell? ⟨gb258, 2, none⟩ = some (.slice A0_2 l0_2.length c0_2) := (blk_cell BK258.out 2).trans rfl; have hfz8_0 := blk_frozen BK258.out 0; have hfz8_1 := blk_frozen BK258.out 1; have hfz8_2 := blk_frozen BK258.out 2) | ((with_reducible refine gate_builtin (b := .append) (xs := #[.tmp 3, .tmp 5]) rfl ?_); at_builtin; refine Kd.R_append_rows k45 (w0 := w) w.heap.size rfl (.tmp 3) (.tmp 5) 27 45 (.agg #[(.int .i64 0), (.int .i64 0), (.int .i64 0), (.string ⟨#[]⟩)]) 40 rfl Try.underlying27 info45 rfl (by decide) (by omega) v261 y260 l0_2 _ _ _ (fun _ => True) (fun _ => False) rfl rfl ?aO ?aR (fun _ _ h => h) (fun _ h => h.elim) ?aF ?aB ?aS ?aL ?_; (case aR => repeat (first | exact (Kd.C_below HR0_2.out HB.out) | (with_reducible refine Kd.C_alloc ?_ _) | (with_reducible refine Kd.C_drewN ?_ _) | (with_reducible refine Kd.C_drew ?_))); (case aB => exact u8_7); (case aF => exact (fun _ _ => trivial)); (case aO => exact (by (with_reducible repeat (first | apply Kd.R_alloc | apply Kd.R_drewN | apply Kd.R_drew)); exact HO262.out)); (case aS => exact (below_size u8_7)); (case aL => have := LMc2.out; omega); intro v264 w9 ho hb hg hat; rw [← Ny263.out] at ho; have n0_ := Aside0.mk (blk_grown (g := gb258) (o := .cells #[.int .i64 a0_0, .int .i64 a0_1, .slice A0_2 l0_2.length c0_2] 29 (0, 0)) u8_8 hg (Kd.R_ne HO262.out BK258.out (by decide))); have n1_ := Aside0.mk (blk_grown (g := gb259) (o := .cells #[.int .i64 0, .int .i64 0, .slice none 0 0] 29 (0, 0)) u8_11 hg (Kd.R_ne HO262.out BK259.out (by decide))); have n2_ := Aside0.mk (hb); have n3_ := Aside0.mk (ho); clear BK258; clear BK259; clear HB; clear HO262; have BK258 := n0_; have BK259 := n1_; have HB := n2_; have HO265 := n3_; clear n0_ n1_ n2_ n3_; clear ho hb hg hat; obtain ⟨Ao10, co10, eo10⟩ := Kd.R_slice HO265.out; subst eo10; have hcz11_0 : w9.cell? ⟨gb258, 0, none⟩ = some (.int .i64 a0_0) := (blk_cell BK258.out 0).trans rfl; have hcz11_1 : w9.cell? ⟨gb258, 1, none⟩ = some (.int .i64 a0_1) := (blk_cell BK258.out 1).trans rfl; have hcz11_2 : w9.cell? ⟨gb258, 2, none⟩ = some (.slice A0_2 l0_2.length c0_2) := (blk_cell BK258.out 2).trans rfl; have hfz11_0 := blk_frozen BK258.out 0; have hfz11_1 := blk_frozen BK258.out 1; have hfz11_2 := blk_frozen BK258.out 2; have hcz12_0 : w9.cell? ⟨gb259, 0, none⟩ = some (.int .i64 0) := (blk_cell BK259.out 0).trans rfl; have hcz12_1 : w9.cell? ⟨gb259, 1, none⟩ = some (.int .i64 0) := (blk_cell BK259.out 1).trans rfl; have hcz12_2 : w9.cell? ⟨gb259, 2, none⟩ = some (.slice none 0 0) := (blk_cell BK259.out 2).trans rfl; have hfz12_0 := blk_frozen BK259.out 0; have hfz12_1 := blk_frozen BK259.out 1; have hfz12_2 := blk_frozen BK259.out 2))
  refine bodyPost_ret (results_cell_row rfl _ _ gb259 29 #[.int .i64 a0_0, .int .i64 a0_1, .slice Ao10 y263.length co10] (0, 0) _ rfl (by (with_reducible repeat (first | refine blk_drewN ?_ _ | refine blk_drew ?_ | refine blk_alloc ?_ _)); refine blk_put (cs := #[.int .i64 a0_0, .int .i64 a0_1, .slice none 0 0]) ?_ 2 _ rfl; (with_reducible repeat (first | refine blk_drewN ?_ _ | refine blk_drew ?_ | refine blk_alloc ?_ _)); refine blk_put (cs := #[.int .i64 a0_0, .int .i64 0, .slice none 0 0]) ?_ 1 _ rfl; (with_reducible repeat (first | refine blk_drewN ?_ _ | refine blk_drew ?_ | refine blk_alloc ?_ _)); refine blk_put (cs := #[.int .i64 0, .int .i64 0, .slice none 0 0]) ?_ 0 _ rfl; (with_reducible repeat (first | refine blk_drewN ?_ _ | refine blk_drew ?_ | refine blk_alloc ?_ _)); refine blk_far ?_ NB259_258.out _; (with_reducible repeat (first | refine blk_drewN ?_ _ | refine blk_drew ?_ | refine blk_alloc ?_ _)); exact BK259.out) Try.underlying29 rfl (by kernel_rfl)) rfl ?_
  exact ⟨_, by first | rfl | (simp [errW_none, errW_some] <;> rfl) | (simp [*, errW_none, errW_some] <;> rfl), (by (with_reducible repeat (first | apply Kd.R_alloc | apply Kd.R_drewN | apply Kd.R_drew)); exact Kd.R_mono (Kd.R_far (p := ⟨gb259, 2, none⟩) (Kd.R_far (p := ⟨gb259, 1, none⟩) (Kd.R_far (p := ⟨gb259, 0, none⟩) (Kd.R_far (p := ⟨gb258, 2, none⟩) (Kd.R_types (Kd.R_types HO265.out BK258.out (by decide)) BK259.out (by decide)) (fun _ hk => hk.1.2) (.slice Ao10 y263.length co10)) (fun _ hk => hk.2) (.int .i64 a0_0)) (fun _ hk => hk.2) (.int .i64 a0_1)) (fun _ hk => hk.2) (.slice Ao10 y263.length co10)) (fun _ hk => trivial)), u8_7⟩

/-! ### impl_Session_31: function 31 -/
def impl_Session_31.enc (x : S45) : List Value := [.int .i64 x.f0, .int .i64 x.f1, .int .i64 x.f2, .string x.f3]
theorem impl_Session_31.flat : Go.Proofs.Ytjdpifafijcpbaa.Slc.Flat k45 impl_Session_31.enc := ⟨fun w base ok x => k45_mkM w base ok x, fun h => k45_open h⟩
def impl_Session_31.f (l0 : List (S45)) (a1 : Int) (a2 : Int) : Option (List (S45)) := if 0 ≤ a1 ∧ a2 = a1 + 1 ∧ a1 < (l0.length : Int) then some (l0.eraseIdx a1.toNat) else none
theorem impl_Session_31.size : (Try.prog.info? 45).map (·.size) = some 4 := by kernel_rfl
theorem impl_Session_31.zero (w : World) : (zeroValue 45).run Try.prog w = .ok (.agg #[.int .i64 0, .int .i64 0, .int .i64 0, .string ⟨#[]⟩]) w := by kernel_rfl
set_option maxHeartbeats 2000000 in
set_option maxRecDepth 100000 in
theorem impl_Session_31.calls (P0_ : Nat → Prop) (u9000_ : Value) (l0 : List (S45)) (a1 : Int) (a2 : Int) (r : List (S45)) (w0 w : World) (hB : Below w0.heap.size w0 w) (ho0 : Kd.R k45 45 w w0.heap.size P0_ u9000_ l0) (h : impl_Session_31.f l0 a1 a2 = some r) :
    Calls Try.prog 31 #[u9000_, .int .i64 a1, .int .i64 a2] w fun e w' => ∃ v0_ : Value, e = .returned (v0_) ∧ Kd.R k45 45 w' w0.heap.size (fun k_ => (P0_ k_ ∨ w.heap.size ≤ k_)) v0_ r ∧ Below w0.heap.size w0 w' ∧ Kept w w' (fun k_ => P0_ k_) := by
  unfold impl_Session_31.f at h
  by_cases hc : 0 ≤ a1 ∧ a2 = a1 + 1 ∧ a1 < (l0.length : Int)
  rotate_left
  · rw [if_neg hc] at h; cases h
  rw [if_pos hc] at h
  obtain rfl := Option.some.inj h
  clear h
  obtain ⟨h0, rfl, hlt⟩ := hc
  obtain ⟨i, rfl⟩ := Int.eq_ofNat_of_zero_le h0
  have hi : i < l0.length := by omega
  obtain ⟨g, cap, cur, hv, hg, hP, hb, hcap, hm, hs, ht⟩ := impl_Session_31.flat.block ho0 (by omega)
  subst hv
  obtain ⟨n, hn⟩ : ∃ n, n = l0.length := ⟨_, rfl⟩
  unfold maxLen at hm
  have hm63 := hm
  have HO := Aside0.mk (Kd.R_mono ho0 (ok' := fun k_ => P0_ k_ ∨ w.heap.size ≤ k_) (fun k hk => .inl hk))
  have HB := Aside0.mk hB
  have HG := Aside0.mk hg
  have HP := Aside0.mk hP
  have HN := Aside0.mk hn
  rw [← hn] at HO ⊢
  rw [← hn] at hi hcap
  clear ho0 hB hg hP hb hs ht hn h0 hlt
  have e1 : (i : Int) + 1 = ((i + 1 : Nat) : Int) := by omega
  rw [Int.toNat_natCast]
  have p1 : (i : Int) ≤ ((i + 1 : Nat) : Int) := by omega
  have p2 : ((i + 1 : Nat) : Int) ≤ (n : Int) := by omega
  have p3 : ¬ ((i : Int) = ((i + 1 : Nat) : Int)) := by omega
  rw [e1]
  clear e1
  have hsz := impl_Session_31.size
  have hdr : Aside0 (Kd.R k45 45 w.drew w0.heap.size (fun k_ => P0_ k_ ∨ w.heap.size ≤ k_) (.slice (some ⟨g, 0, none⟩) n cap) l0) := ⟨HO.out⟩
  have hbd : Aside0 (Below w0.heap.size w0 w.drew) := ⟨below_drew HB.out⟩
  clear HO
  have hic : i ≤ cap := by omega
  have hjc : i + 1 ≤ cap := by omega
  have hq : (i : Int) ≤ (i : Int) + 1 := by omega
  have hr0 : (0 : Int) ≤ (i : Int) + 1 := by omega
  have hr1 : (i : Int) + 1 ≤ (n : Int) := by omega
  by_cases hce : cap = i + 1
  · subst hce
    clear hic hjc
    go_enter Try.func31, Try.ntmps31
    go_wp2_with (fail)
    go_region_law (refine Kd.R_delete_step k45 (w0 := w0) w0.heap.size (by simp [Region.wanted]) (.tmp 22) (.tmp 25) 27 45 rfl Try.underlying27 hsz (g := g) (n := n) (c := i + 1) (k := i) (m := n - (i + 1)) (c2 := 0) (A := some ⟨g, 0, none⟩) (by simp [Act.eval, Act.put]) (by simp [Act.eval, Act.put]; omega) (by simp) rfl hdr.out hi hbd.out hbd.out.size ?_; intro w1 hr hb hgw)
    have hcn : ¬ ((i + 1) = n - 1) := by omega
    have hnn : n - 1 ≤ n := by omega
    have hk1 : ((n - 1 : Nat) : Int) ≤ (n : Int) := by omega
    obtain ⟨hl1, _, hok1, _, _, cur1, hb1, hs1, ht1⟩ := impl_Session_31.flat.blockG hr
    have hsz3 : (k45).sz = 4 := rfl
    have hcl : ∀ ty, (Builtin.clear_ #[27] ty #[.slice (some ⟨g, (n - 1) * 4, none⟩) (n - (n - 1)) ((i + 1) - (n - 1))]).run Try.prog w1 = .ok (.tuple #[]) (w1.setCells g ((n - 1) * 4) (.agg #[.int .i64 0, .int .i64 0, .int .i64 0, .string ⟨#[]⟩] : Value).cells.toList) := fun ty => by
      rw [show n - (n - 1) = 1 by omega]
      refine Go.Proofs.Ytjdpifafijcpbaa.Slc.run_clear_one w1 _ 45 ty _ Try.underlying27 impl_Session_31.zero g _ _ (by decide) (fun j hj => ?_) (fun j hj => blk_frozen hb1 _)
      have hj' : j < 4 := hj
      rw [blk_cell hb1, Array.getElem?_eq_getElem (by rw [hs1, hsz3]; omega)]
      rfl
    obtain ⟨W2, hW2⟩ : ∃ W2, W2 = w1.setCells g ((n - 1) * 4) (.agg #[.int .i64 0, .int .i64 0, .int .i64 0, .string ⟨#[]⟩] : Value).cells.toList := ⟨_, rfl⟩
    rw [← hW2] at hcl
    obtain ⟨cur2, hb2, hs2, hk2, _⟩ := Go.Proofs.Ytjdpifafijcpbaa.Slc.setCells_blk g 45 (.agg #[.int .i64 0, .int .i64 0, .int .i64 0, .string ⟨#[]⟩] : Value).cells.toList ((n - 1) * 4) w1 cur1 hb1
    rw [← hW2] at hb2
    have hR : Kd.R k45 45 W2 w0.heap.size (fun k_ => (P0_ k_ ∨ w.heap.size ≤ k_)) (.slice (some ⟨g, 0, none⟩) (n - 1) (i + 1)) (l0.eraseIdx i) := by
      refine impl_Session_31.flat.row hb2 HG.out hok1 hl1.symm (by omega) (by unfold maxLen; omega) (hs2.trans hs1) ?_
      rw [← ht1, ← hl1]
      apply List.ext_getElem?
      intro q
      by_cases hq : q < (n - 1) * (k45).sz
      · rw [List.getElem?_take_of_lt hq, List.getElem?_take_of_lt hq, Array.getElem?_toList, Array.getElem?_toList]
        exact hk2 q (.inl (by rw [hsz3] at hq; exact hq))
      · rw [List.getElem?_eq_none u8_12, List.getElem?_eq_none u8_12]
    have hBel : Below w0.heap.size w0 W2 := by rw [hW2]; exact Go.Proofs.Ytjdpifafijcpbaa.Slc.below_setCells HG.out _ _ hb
    have hKp : Kept w W2 (fun k_ => P0_ k_) := by
      rw [hW2]
      exact Go.Proofs.Ytjdpifafijcpbaa.Slc.kept_setCells (.inl HP.out) _ _ (Kept.of_grown (W := w.drew) hgw (Kept.drew (Kept.refl w _)) (fun k hk => .inl (by injection hk with hk; exact hk ▸ HP.out)))
    have HR := Aside0.mk hR
    have HBe := Aside0.mk hBel
    have HKp := Aside0.mk hKp
    clear hR hBel hKp hr hb hgw hb1 hs1 ht1 hb2 hs2 hk2 hW2 hl1 hok1 hsz3
    go_wp2
    go_ret
    exact ⟨_, rfl, HR.out, HBe.out, HKp.out⟩
  go_enter Try.func31, Try.ntmps31
  go_wp2_with (fail)
  go_region_law (refine Kd.R_delete_step k45 (w0 := w0) w0.heap.size (by simp [Region.wanted]) (.tmp 22) (.tmp 25) 27 45 rfl Try.underlying27 hsz (g := g) (n := n) (c := cap) (k := i) (m := n - (i + 1)) (c2 := cap - (i + 1)) (A := some ⟨g, (i + 1) * 4, none⟩) (by simp [Act.eval, Act.put]) (by simp [Act.eval, Act.put]) (by rw [if_neg hce]; simp only [Option.map_some, add_plain]; first | done | rfl) rfl hdr.out hi hbd.out hbd.out.size ?_; intro w1 hr hb hgw)
  have hcn : ¬ (cap = n - 1) := by omega
  have hnn : n - 1 ≤ n := by omega
  have hk1 : ((n - 1 : Nat) : Int) ≤ (n : Int) := by omega
  obtain ⟨hl1, _, hok1, _, _, cur1, hb1, hs1, ht1⟩ := impl_Session_31.flat.blockG hr
  have hsz3 : (k45).sz = 4 := rfl
  have hcl : ∀ ty, (Builtin.clear_ #[27] ty #[.slice (some ⟨g, (n - 1) * 4, none⟩) (n - (n - 1)) (cap - (n - 1))]).run Try.prog w1 = .ok (.tuple #[]) (w1.setCells g ((n - 1) * 4) (.agg #[.int .i64 0, .int .i64 0, .int .i64 0, .string ⟨#[]⟩] : Value).cells.toList) := fun ty => by
    rw [show n - (n - 1) = 1 by omega]
    refine Go.Proofs.Ytjdpifafijcpbaa.Slc.run_clear_one w1 _ 45 ty _ Try.underlying27 impl_Session_31.zero g _ _ (by decide) (fun j hj => ?_) (fun j hj => blk_frozen hb1 _)
    have hj' : j < 4 := hj
    rw [blk_cell hb1, Array.getElem?_eq_getElem (by rw [hs1, hsz3]; omega)]
    rfl
  obtain ⟨W2, hW2⟩ : ∃ W2, W2 = w1.setCells g ((n - 1) * 4) (.agg #[.int .i64 0, .int .i64 0, .int .i64 0, .string ⟨#[]⟩] : Value).cells.toList := ⟨_, rfl⟩
  rw [← hW2] at hcl
  obtain ⟨cur2, hb2, hs2, hk2, _⟩ := Go.Proofs.Ytjdpifafijcpbaa.Slc.setCells_blk g 45 (.agg #[.int .i64 0, .int .i64 0, .int .i64 0, .string ⟨#[]⟩] : Value).cells.toList ((n - 1) * 4) w1 cur1 hb1
  rw [← hW2] at hb2
  have hR : Kd.R k45 45 W2 w0.heap.size (fun k_ => (P0_ k_ ∨ w.heap.size ≤ k_)) (.slice (some ⟨g, 0, none⟩) (n - 1) cap) (l0.eraseIdx i) := by
    refine impl_Session_31.flat.row hb2 HG.out hok1 hl1.symm (by omega) (by unfold maxLen; omega) (hs2.trans hs1) ?_
    rw [← ht1, ← hl1]
    apply List.ext_getElem?
    intro q
    by_cases hq : q < (n - 1) * (k45).sz
    · rw [List.getElem?_take_of_lt hq, List.getElem?_take_of_lt hq, Array.getElem?_toList, Array.getElem?_toList]
      exact hk2 q (.inl (by rw [hsz3] at hq; exact hq))
    · rw [List.getElem?_eq_none u8_12, List.getElem?_eq_none u8_12]
  have hBel : Below w0.heap.size w0 W2 := by rw [hW2]; exact Go.Proofs.Ytjdpifafijcpbaa.Slc.below_setCells HG.out _ _ hb
  have hKp : Kept w W2 (fun k_ => P0_ k_) := by
    rw [hW2]
    exact Go.Proofs.Ytjdpifafijcpbaa.Slc.kept_setCells (.inl HP.out) _ _ (Kept.of_grown (W := w.drew) hgw (Kept.drew (Kept.refl w _)) (fun k hk => .inl (by injection hk with hk; exact hk ▸ HP.out)))
  have HR := Aside0.mk hR
  have HBe := Aside0.mk hBel
  have HKp := Aside0.mk hKp
  clear hR hBel hKp hr hb hgw hb1 hs1 ht1 hb2 hs2 hk2 hW2 hl1 hok1 hsz3
  go_wp2
  go_ret
  exact ⟨_, rfl, HR.out, HBe.out, HKp.out⟩


end Go.Proofs.Ytjdpifafijcpbaa.QFnExactKeep
