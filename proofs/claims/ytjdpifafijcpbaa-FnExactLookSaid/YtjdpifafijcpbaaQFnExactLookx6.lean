-- Printed by the session's own program wip/prx.py.
import Derived.Test.YtjdpifafijcpbaaQFnExactLookx0
import Derived.Test.YtjdpifafijcpbaaQFnExactLookx1
import Derived.Test.YtjdpifafijcpbaaQFnExactLookx2
import Derived.Test.YtjdpifafijcpbaaQFnExactLookx4
import Derived.Test.YtjdpifafijcpbaaQFnExactLookx5
namespace Go.Proofs.Ytjdpifafijcpbaa.QFnExactLook
open Go.RowKit Go.Proofs.YtjdpifafijcpbaaW.PrintWords Go.Proofs.YtjdpifafijcpbaaW.PrintLast Go.Proofs.YtjdpifafijcpbaaW.PrintMore
attribute [local go_sem] max2_int min2_int max_two min_two max_three min_three max_four min_four Go.Proofs.Ytjdpifafijcpbaa.Set.isSome_setCell   -- for this text's walks alone
set_option linter.unusedVariables false
set_option linter.unusedSimpArgs false

-- squeezed
theorem u6_0 {P : Prop} (h : P := by repeat (first | (with_reducible first | exact HB.out | apply below_alloc | apply pw_below_drewN | apply below_drew1 | refine below_set ?_ GE169.out) | exact HB.out)) : P := h
theorem u6_1 {P : Prop} (h : P := by (with_reducible repeat (first | refine blk_drewN ?_ _ | refine blk_drew ?_ | refine blk_alloc ?_ _)); exact BK169.out) : P := h
theorem u6_2 {P : Prop} (h : P := by repeat (first | exact (Kd.C_below HR0_2.out HB.out) | (with_reducible refine Kd.C_alloc ?_ _) | (with_reducible refine Kd.C_drewN ?_ _) | (with_reducible refine Kd.C_drew ?_))) : P := h
theorem u6_3 {P : Prop} (h : P := by repeat (first | (with_reducible first | exact HB.out | apply below_alloc | apply pw_below_drewN | apply below_drew1 | refine below_set ?_ GE169.out | refine below_set ?_ GE171.out) | exact HB.out)) : P := h
theorem u6_4 {P : Prop} (h : P := by (with_reducible repeat (first | refine blk_drewN ?_ _ | refine blk_drew ?_ | refine blk_alloc ?_ _)); refine blk_far ?_ NB169_171.out _; (with_reducible repeat (first | refine blk_drewN ?_ _ | refine blk_drew ?_ | refine blk_alloc ?_ _)); refine blk_far ?_ NB169_171.out _; (with_reducible repeat (first | refine blk_drewN ?_ _ | refine blk_drew ?_ | refine blk_alloc ?_ _)); refine blk_far ?_ NB169_171.out _; (with_reducible repeat (first | refine blk_drewN ?_ _ | refine blk_drew ?_ | refine blk_alloc ?_ _)); refine blk_far ?_ NB169_171.out _; (with_reducible repeat (first | refine blk_drewN ?_ _ | refine blk_drew ?_ | refine blk_alloc ?_ _)); exact BK169.out) : P := h
theorem u6_5 {P : Prop} (h : P := by (with_reducible repeat (first | refine blk_drewN ?_ _ | refine blk_drew ?_ | refine blk_alloc ?_ _)); refine blk_put (cs := #[.int .i64 0, .int .i64 0, .int .i64 0, .string (⟨#[]⟩ : ByteArray)]) ?_ 3 _ rfl; (with_reducible repeat (first | refine blk_drewN ?_ _ | refine blk_drew ?_ | refine blk_alloc ?_ _)); refine blk_put (cs := #[.int .i64 0, .int .i64 0, .int .i64 0, .string (⟨#[]⟩ : ByteArray)]) ?_ 2 _ rfl; (with_reducible repeat (first | refine blk_drewN ?_ _ | refine blk_drew ?_ | refine blk_alloc ?_ _)); refine blk_put (cs := #[.int .i64 0, .int .i64 0, .int .i64 0, .string (⟨#[]⟩ : ByteArray)]) ?_ 1 _ rfl; (with_reducible repeat (first | refine blk_drewN ?_ _ | refine blk_drew ?_ | refine blk_alloc ?_ _)); refine blk_put (cs := #[.int .i64 0, .int .i64 0, .int .i64 0, .string (⟨#[]⟩ : ByteArray)]) ?_ 0 _ rfl; (with_reducible repeat (first | refine blk_drewN ?_ _ | refine blk_drew ?_ | refine blk_alloc ?_ _)); exact BK171.out) : P := h
theorem u6_6 {P : Prop} (h : P := by repeat (first | (with_reducible first | exact HB.out | apply below_alloc | apply pw_below_drewN | apply below_drew1) | exact HB.out)) : P := h
theorem u6_7 {P : Prop} (h : P := by repeat (first | (with_reducible first | exact HB.out | apply below_alloc | apply pw_below_drewN | apply below_drew1 | refine below_set ?_ GE177.out) | exact HB.out)) : P := h
theorem u6_8 {P : Prop} (h : P := by (try simp only [List.map_toArray, List.map_cons, List.map_nil]); first | done | rfl | (simp only [List.length_drop, List.length_take]; rfl)) : P := h
theorem u6_9 {P : Prop} (h : P := by (with_reducible repeat (first | refine blk_drewN ?_ _ | refine blk_drew ?_ | refine blk_alloc ?_ _)); exact BK177.out) : P := h
theorem u6_10 {P : Prop} (h : P := by repeat (first | (with_reducible first | exact HB.out | apply below_alloc | apply pw_below_drewN | apply below_drew1 | refine below_set ?_ GE177.out | refine below_set ?_ GE191.out) | exact HB.out)) : P := h
theorem u6_11 {P : Prop} (h : P := by (with_reducible repeat (first | apply Kd.R_alloc | apply Kd.R_drewN | apply Kd.R_drew)); exact HO183.out) : P := h
theorem u6_12 {P : Prop} (h : P := by (with_reducible repeat (first | apply Kd.R_alloc | apply Kd.R_drewN | apply Kd.R_drew)); exact (Kd.R_mono (Kd.R_far (p := ⟨gb191, 2, none⟩) (Kd.R_far (p := ⟨gb191, 1, none⟩) (Kd.R_far (p := ⟨gb191, 0, none⟩) (Kd.R_types HO190.out BK191.out (by decide)) (fun _ hk => hk.2) (.int .i64 t186)) (fun _ hk => hk.2) (.int .i64 t187)) (fun _ hk => hk.2) (.slice Ao27 t188.length co27)) (fun _ h_ => h_.1))) : P := h
theorem u6_13 {P : Prop} (h : P := by (with_reducible repeat (first | apply Kd.R_alloc | apply Kd.R_drewN | apply Kd.R_drew)); exact HO190.out) : P := h
theorem u6_14 {P : Prop} (h : P := by first | rfl | (simp; done) | (simp [*]; done)) : P := h
theorem u6_15 {P : Prop} (h : P := by repeat (first | (with_reducible first | exact HB.out | apply below_alloc | apply pw_below_drewN | apply below_drew1 | refine below_set ?_ GE174.out) | exact HB.out)) : P := h
theorem u6_16 {P : Prop} (h : P := by (with_reducible repeat (first | refine blk_drewN ?_ _ | refine blk_drew ?_ | refine blk_alloc ?_ _)); exact BK191.out) : P := h
/-! ### impl_sessionOf: function 30 -/
def impl_sessionOf.p (a1 : Int) (y : S45) : Bool := (y.f0 == a1)
def impl_sessionOf.f (a0_0 : Int) (a0_1 : Int) (l0_2 : List (S45)) (a1 : Int) : Option Int := some (Go.Proofs.Ytjdpifafijcpbaa.Slc.idxB (impl_sessionOf.p a1) l0_2)
set_option maxHeartbeats 400000 in
theorem impl_sessionOf.lit (b : Nat) (a1 : Int) (y : S45) (w : World) (hid : w.cell? ⟨b, 0, none⟩ = some (.int .i64 a1)) :
    Calls Try.prog 41 #[.agg #[.int .i64 y.f0, .int .i64 y.f1, .int .i64 y.f2, .string y.f3], .pointer (some ⟨b, 0, none⟩)] w fun e w' => e = .returned (.bool (impl_sessionOf.p a1 y)) ∧ Below w.heap.size w w' := by
  have hu := Try.underlying45
  have hlt := World.block_lt_of_cell? w _ hid
  have hid2 : ∀ o, (w.alloc o).cell? ⟨b, 0, none⟩ = some (.int .i64 a1) := fun o => ((below_alloc (Below.refl w.heap.size w) o).cell (p := ⟨b, 0, none⟩) hlt).trans hid
  go_enter Try.func41, Try.ntmps41
  go_wp2
  go_ret
  exact ⟨rfl, below_alloc (Below.refl _ _) _⟩
set_option maxHeartbeats 1600000 in
theorem impl_sessionOf.idx (p : S45 → Bool) (bs : Array Value) (A0 : Option Addr) (c0 : Nat) (l0 : List S45) (w : World) (hr0 : Kd.C k45 w A0 l0.length l0) (hc0 : l0.length ≤ c0)
    (hf : ∀ (y : S45) (W : World), Below w.heap.size w W → Calls Try.prog 41 (#[.agg #[.int .i64 y.f0, .int .i64 y.f1, .int .i64 y.f2, .string y.f3]] ++ bs) W fun e w' => e = .returned (.bool (p y)) ∧ Below W.heap.size W w') :
    Calls Try.prog 40 #[.slice A0 l0.length c0, .func (.func 41) #[] bs] w fun e w' => e = .returned (.int .i64 (Go.Proofs.Ytjdpifafijcpbaa.Slc.idxB p l0)) ∧ Below w.heap.size w w' := by
  have hu45 := Try.underlying45
  have hn : l0.length ≤ 9223372036854775807 := hr0.2.1
  have HR := Aside0.mk hr0
  have HF := Aside0.mk hf
  clear hr0 hf
  go_enter Try.func40, Try.ntmps40
  go_wp2
  go_loopg [5, 8] l0.length (fun gg _ s8 wr => ∃ kk : Int, 0 ≤ kk ∧ kk ≤ l0.length ∧ l0.length - kk.toNat ≤ gg ∧ s8 = .int .i64 kk ∧ Aside0 (Below w.heap.size w wr) ∧ Aside0 (∀ j : Nat, (j : Int) < kk → p (l0.getD j z45) = false))
  case atStart => exact ⟨0, by omega, by omega, by omega, rfl, ⟨Below.refl _ w⟩, ⟨fun j hj => by omega⟩⟩
  obtain ⟨kk, h0, hk, hg, rfl, BW, HA⟩ := hrel
  by_cases hlt : kk < (l0.length : Int)
  rotate_left
  · go_wp2
    go_ret
    refine ⟨?_, BW.out⟩
    rw [Go.Proofs.Ytjdpifafijcpbaa.Slc.idxB_miss p l0 z45 (fun j hj => HA.out j (by omega))]
    rfl
  obtain ⟨ad, e, hx0, hx1, hx2, hx3⟩ := at_T45 HR.out kk h0 hlt
  cases e
  replace hx0 := (BW.out.cell (World.block_lt_of_cell? w _ hx0)).trans hx0
  replace hx1 := (BW.out.cell (World.block_lt_of_cell? w _ hx1)).trans hx1
  replace hx2 := (BW.out.cell (World.block_lt_of_cell? w _ hx2)).trans hx2
  replace hx3 := (BW.out.cell (World.block_lt_of_cell? w _ hx3)).trans hx3
  have HC := Aside0.mk (HF.out (l0.getD kk.toNat z45) wr BW.out)
  cases hq : p (l0.getD kk.toNat z45) with
  | true =>
    have HQ := Aside0.mk hq
    rw [hq] at HC
    clear hq
    go_wp2_with (go_at_call 41; refine HC.out.mono ?_; rintro e w' ⟨rfl, hb'⟩)
    go_ret
    refine ⟨?_, below_step BW.out hb'⟩
    rw [Go.Proofs.Ytjdpifafijcpbaa.Slc.idxB_hit p l0 z45 kk.toNat (by omega) HQ.out (fun j hj => HA.out j (by omega)), Int.toNat_of_nonneg h0]
    rfl
  | false =>
    have HQ := Aside0.mk hq
    rw [hq] at HC
    clear hq
    go_wp2_with (go_at_call 41; refine HC.out.mono ?_; rintro e w' ⟨rfl, hb'⟩)
    go_roundg (l0.length - (kk + 1).toNat)
    case measure => omega
    case rel =>
      refine ⟨kk + 1, by omega, by omega, by omega, by go_num, ⟨below_step BW.out hb'⟩, ⟨fun j hj => ?_⟩⟩
      by_cases e : (j : Int) = kk
      rotate_left
      · exact HA.out j (by omega)
      have := HQ.out
      rw [← e, Int.toNat_natCast] at this
      exact this
set_option maxHeartbeats 400000 in
theorem impl_sessionOf.calls (a0_0 : Int) (a0_1 : Int) (A0_2 : Option Addr) (c0_2 : Nat) (l0_2 : List (S45)) (a1 : Int) (r : Int) (w : World) (hr0_2 : Kd.C k45 w A0_2 l0_2.length l0_2) (hc0_2 : l0_2.length ≤ c0_2) (h : impl_sessionOf.f a0_0 a0_1 l0_2 a1 = some r) :
    Calls Try.prog 30 #[.agg #[.int .i64 a0_0, .int .i64 a0_1, .slice A0_2 l0_2.length c0_2], .int .i64 a1] w fun e w' => e = .returned (.int .i64 r) ∧ Below w.heap.size w w' := by
  obtain rfl := Option.some.inj h
  have hu := Try.underlying29
  have HR := Aside0.mk hr0_2
  have HC0 := Aside0.mk hc0_2
  clear hr0_2 hc0_2 h
  go_enter Try.func30, Try.ntmps30
  have hce : ((w.alloc (.cells #[.int .i64 a0_0, .int .i64 a0_1, .slice A0_2 l0_2.length c0_2] 29)).alloc (.cells #[.int .i64 a1] 3)).cell? ⟨w.heap.size + 1, 0, none⟩ = some (.int .i64 a1) := by first | (simp; done) | (simp [World.alloc, World.cell?]; done)
  have HCE := Aside0.mk hce
  clear hce
  go_wp2_with (go_at_call 40; refine (impl_sessionOf.idx (impl_sessionOf.p a1) #[.pointer (some ⟨w.heap.size + 1, 0, none⟩)] A0_2 c0_2 l0_2 _ (Kd.C_below HR.out (below_alloc (below_alloc (Below.refl _ _) _) _)) HC0.out (fun y W hW => impl_sessionOf.lit (w.heap.size + 1) a1 y W ((hW.cell (World.block_lt_of_cell? _ _ HCE.out)).trans HCE.out))).mono ?_; rintro e w' ⟨rfl, hb'⟩)
  go_ret
  exact ⟨rfl, below_step (below_alloc (below_alloc (Below.refl _ _) _) _) hb'⟩


/-! ### impl_look: function 26 -/
mutual
def impl_look.j0 : Nat → Int → Int → Bool → Int → Int → List (S45) → Option (Int × ByteArray)
  | 0, _, _, _, _, _, _ => none
  | k + 1, x1, x2, x28, x170000, x170001, x170002 => if x28 = true then (some (4, (⟨#[]⟩ : ByteArray))) else ((impl_sessionOf.f x170000 x170001 x170002 x1).bind fun t172 => (if t172 ≥ 0 then (if 0 ≤ t172 then (if t172 < (x170002.length : Int) then (impl_look.j1 k x2 ((rd_T45 x170002 t172).f0) ((rd_T45 x170002 t172).f1) ((rd_T45 x170002 t172).f2) ((rd_T45 x170002 t172).f3)) else (none)) else (none)) else (impl_look.j1 k x2 0 0 0 (⟨#[]⟩ : ByteArray))))
def impl_look.j1 : Nat → Int → Int → Int → Int → ByteArray → Option (Int × ByteArray)
  | 0, _, _, _, _, _ => none
  | k + 1, x2, x172000, x172001, x172002, x172003 => if x2 = (wrap64 (x172001 + 1)) then (some (0, (⟨#[]⟩ : ByteArray))) else (if x2 = x172001 then (some (1, x172003)) else (if x2 < x172001 then (some (2, (⟨#[]⟩ : ByteArray))) else (some (3, (⟨#[]⟩ : ByteArray)))))
end
def impl_look.f (k : Nat) (a0_0 : Int) (a0_1 : Int) (l0_2 : List (S45)) (a1 : Int) (a2 : Int) : Option (Int × ByteArray) := (impl_areSessions.f k a0_0 a0_1 l0_2).bind fun t170 => (if t170 = true then (if a1 < 1 then (impl_look.j0 k a1 a2 true a0_0 a0_1 l0_2) else (if a1 > 999 then (impl_look.j0 k a1 a2 true a0_0 a0_1 l0_2) else (if a2 < 1 then (impl_look.j0 k a1 a2 true a0_0 a0_1 l0_2) else (impl_look.j0 k a1 a2 (decide (a2 > 1000000)) a0_0 a0_1 l0_2)))) else (impl_look.j0 k a1 a2 true a0_0 a0_1 l0_2))
theorem impl_look.mono_l : ∀ k, (∀ y0 y1 y2 y3 y4 y5, LeO (impl_look.j0 k y0 y1 y2 y3 y4 y5) (impl_look.j0 (k + 1) y0 y1 y2 y3 y4 y5)) ∧ (∀ y0 y1 y2 y3 y4, LeO (impl_look.j1 k y0 y1 y2 y3 y4) (impl_look.j1 (k + 1) y0 y1 y2 y3 y4))
  | 0 => ⟨fun _ _ _ _ _ _ r h => by simp [impl_look.j0] at h, fun _ _ _ _ _ r h => by simp [impl_look.j1] at h⟩
  | k + 1 => by
    obtain ⟨ih0, ih1⟩ := impl_look.mono_l k
    refine ⟨?_, ?_⟩
    · intro y0 y1 y2 y3 y4 y5
      unfold impl_look.j0
      repeat' first
      | (with_reducible exact ih0 _ _ _ _ _ _)
      | (with_reducible exact ih1 _ _ _ _ _)
      | (with_reducible exact impl_areSessions.mono _ _ _ _)
      | (with_reducible exact LeO.refl _)
      | (with_reducible exact LeO.none _)
      | (with_reducible refine LeO.ite ?_ ?_)
      | (with_reducible refine LeO.bind ?_ (fun _ => ?_))
      | exact ih0 _ _ _ _ _ _
      | exact ih1 _ _ _ _ _
      | exact impl_areSessions.mono _ _ _ _
      | exact LeO.none _
      | refine LeO.ite ?_ ?_
      | refine LeO.bind ?_ (fun _ => ?_)
    · intro y0 y1 y2 y3 y4
      unfold impl_look.j1
      repeat' first
      | (with_reducible exact ih0 _ _ _ _ _ _)
      | (with_reducible exact ih1 _ _ _ _ _)
      | (with_reducible exact impl_areSessions.mono _ _ _ _)
      | (with_reducible exact LeO.refl _)
      | (with_reducible exact LeO.none _)
      | (with_reducible refine LeO.ite ?_ ?_)
      | (with_reducible refine LeO.bind ?_ (fun _ => ?_))
      | exact ih0 _ _ _ _ _ _
      | exact ih1 _ _ _ _ _
      | exact impl_areSessions.mono _ _ _ _
      | exact LeO.none _
      | refine LeO.ite ?_ ?_
      | refine LeO.bind ?_ (fun _ => ?_)
theorem impl_look.mono : ∀ a0 a1 a2 a3 a4 k, LeO (impl_look.f k a0 a1 a2 a3 a4) (impl_look.f (k + 1) a0 a1 a2 a3 a4) := by
  intro a0 a1 a2 a3 a4 k
  obtain ⟨ih0, ih1⟩ := impl_look.mono_l k
  unfold impl_look.f
  repeat' first
      | (with_reducible exact ih0 _ _ _ _ _ _)
      | (with_reducible exact ih1 _ _ _ _ _)
      | (with_reducible exact impl_areSessions.mono _ _ _ _)
      | (with_reducible exact LeO.refl _)
      | (with_reducible exact LeO.none _)
      | (with_reducible refine LeO.ite ?_ ?_)
      | (with_reducible refine LeO.bind ?_ (fun _ => ?_))
      | exact ih0 _ _ _ _ _ _
      | exact ih1 _ _ _ _ _
      | exact impl_areSessions.mono _ _ _ _
      | exact LeO.none _
      | refine LeO.ite ?_ ?_
      | refine LeO.bind ?_ (fun _ => ?_)
set_option maxHeartbeats 8000000 in
set_option maxRecDepth 100000 in
theorem impl_look.calls (k : Nat) (a0_0 : Int) (a0_1 : Int) (A0_2 : Option Addr) (c0_2 : Nat) (l0_2 : List (S45)) (a1 : Int) (a2 : Int) (r1 : Int) (r2 : ByteArray) (w : World) (hr0_2 : Kd.C k45 w A0_2 l0_2.length l0_2) (hc0_2 : l0_2.length ≤ c0_2) (h : impl_look.f k a0_0 a0_1 l0_2 a1 a2 = some (r1, r2)) :
    Calls Try.prog 26 #[.agg #[.int .i64 a0_0, .int .i64 a0_1, .slice A0_2 l0_2.length c0_2], .int .i64 a1, .int .i64 a2] w fun e w' => e = .returned (.tuple #[.int .i64 r1, .string r2]) ∧ Below w.heap.size w w' := by
  have hu29 := Try.underlying29
  have hu45 := Try.underlying45
  have HR0_2 := Aside0.mk hr0_2
  have HC0_2 := Aside0.mk hc0_2
  clear hr0_2 hc0_2
  have HB := Aside0.mk (Below.refl w.heap.size w)
  have H : ((impl_areSessions.f k a0_0 a0_1 l0_2).bind fun t170 => (if t170 = true then (if a1 < 1 then (impl_look.j0 k a1 a2 true a0_0 a0_1 l0_2) else (if a1 > 999 then (impl_look.j0 k a1 a2 true a0_0 a0_1 l0_2) else (if a2 < 1 then (impl_look.j0 k a1 a2 true a0_0 a0_1 l0_2) else (impl_look.j0 k a1 a2 (decide (a2 > 1000000)) a0_0 a0_1 l0_2)))) else (impl_look.j0 k a1 a2 true a0_0 a0_1 l0_2))) = some (r1, r2) := h
  clear h
  have HC4 := Aside0.mk H
  clear H
  go_enter Try.func26, Try.ntmps26
  go_upto_region 1 with (first | ((with_reducible refine gate_dst (N := 3) rfl ?_); refine box_event ?hg (N := 3) ?hd (cs := #[.int .i64 a0_0, .int .i64 a0_1, .slice A0_2 l0_2.length c0_2]) (t := 29) ?hr ?_; (case hd => rfl); (case hg => rfl); (case hr => first | (go_simp; done) | (go_simp; rfl)); intro gb169 hg w5 hbox hb; have n0_ := Aside0.mk (below_step u6_6 hb); have n1_ := Aside0.mk (hbox); have n2_ := Aside0.mk ((by rw [hg]; exact (below_size u6_6) : w.heap.size ≤ gb169)); have n3_ := Aside0.mk ((by rw [hg]; exact (below_size u6_6) : w.heap.size ≤ gb169)); clear HB; have HB := n0_; have BK169 := n1_; have GW169 := n2_; have GE169 := n3_; clear n0_ n1_ n2_ n3_; clear hb hbox hg))
  repeat (go_quiet (first | ((with_reducible refine gate_dst (N := 3) rfl ?_); refine box_event ?hg (N := 3) ?hd (cs := #[.int .i64 a0_0, .int .i64 a0_1, .slice A0_2 l0_2.length c0_2]) (t := 29) ?hr ?_; (case hd => rfl); (case hg => rfl); (case hr => first | (go_simp; done) | (go_simp; rfl)); intro gb169 hg w5 hbox hb; have n0_ := Aside0.mk (below_step u6_6 hb); have n1_ := Aside0.mk (hbox); have n2_ := Aside0.mk ((by rw [hg]; exact (below_size u6_6) : w.heap.size ≤ gb169)); have n3_ := Aside0.mk ((by rw [hg]; exact (below_size u6_6) : w.heap.size ≤ gb169)); clear HB; have HB := n0_; have BK169 := n1_; have GW169 := n2_; have GE169 := n3_; clear n0_ n1_ n2_ n3_; clear hb hbox hg)); go_upto_region 1 with (first | ((with_reducible refine gate_dst (N := 3) rfl ?_); refine box_event ?hg (N := 3) ?hd (cs := #[.int .i64 a0_0, .int .i64 a0_1, .slice A0_2 l0_2.length c0_2]) (t := 29) ?hr ?_; (case hd => rfl); (case hg => rfl); (case hr => first | (go_simp; done) | (go_simp; rfl)); intro gb169 hg w5 hbox hb; have n0_ := Aside0.mk (below_step u6_6 hb); have n1_ := Aside0.mk (hbox); have n2_ := Aside0.mk ((by rw [hg]; exact (below_size u6_6) : w.heap.size ≤ gb169)); have n3_ := Aside0.mk ((by rw [hg]; exact (below_size u6_6) : w.heap.size ≤ gb169)); clear HB; have HB := n0_; have BK169 := n1_; have GW169 := n2_; have GE169 := n3_; clear n0_ n1_ n2_ n3_; clear hb hbox hg)))
  (try simp only [Act.put, List.setIfInBounds_toArray, List.set_cons_zero, List.set_cons_succ])
  go_cut [28] (fun v28 wc => ∃ (kq : Nat) (x28_3 : Bool), v28 = .bool x28_3 ∧ Aside0 (impl_look.j0 kq a1 a2 x28_3 a0_0 a0_1 l0_2 = some (r1, r2)) ∧ Aside0 (kq ≤ k) ∧ Aside0 (wc.heap[gb169]? = some (.cells #[.int .i64 a0_0, .int .i64 a0_1, (.slice A0_2 l0_2.length c0_2)] 29 (0, 0))) ∧ Aside0 (Below w.heap.size w wc))
  case first =>
    have H := HC4.out
    clear HC4
    replace H := Option.bind_eq_some_iff.mp H
    obtain ⟨t170, A60, H⟩ := H
    replace H : (if t170 = true then (if a1 < 1 then (impl_look.j0 k a1 a2 true a0_0 a0_1 l0_2) else (if a1 > 999 then (impl_look.j0 k a1 a2 true a0_0 a0_1 l0_2) else (if a2 < 1 then (impl_look.j0 k a1 a2 true a0_0 a0_1 l0_2) else (impl_look.j0 k a1 a2 (decide (a2 > 1000000)) a0_0 a0_1 l0_2)))) else (impl_look.j0 k a1 a2 true a0_0 a0_1 l0_2)) = some (r1, r2) := H
    have A6 := Aside0.mk A60
    clear A60
    by_cases c7 : t170 = true
    rotate_left
    · replace c7 := Bool.eq_false_iff.mpr c7
      subst c7
      have H1 : (impl_look.j0 k a1 a2 true a0_0 a0_1 l0_2) = some (r1, r2) := by rw [if_neg (show ¬ (false = true) by decide)] at H; exact H
      clear H
      have H := H1
      clear H1
      have H' := Aside0.mk H
      clear H
      have hcz19_0 : w5.cell? ⟨gb169, 0, none⟩ = some (.int .i64 a0_0) := (blk_cell BK169.out 0).trans rfl
      have hcz19_1 : w5.cell? ⟨gb169, 1, none⟩ = some (.int .i64 a0_1) := (blk_cell BK169.out 1).trans rfl
      have hcz19_2 : w5.cell? ⟨gb169, 2, none⟩ = some (.slice A0_2 l0_2.length c0_2) := (blk_cell BK169.out 2).trans rfl
      have hfz19_0 := blk_frozen BK169.out 0
      have hfz19_1 := blk_frozen BK169.out 1
      have hfz19_2 := blk_frozen BK169.out 2
      go_wp2_with (first | (first | (go_at_call 23; (with_reducible refine (impl_areSessions.calls k a0_0 a0_1 _ _ l0_2 false _ ?side1 ?side2 A6.out).mono ?_); (case side1 => exact u6_2); (case side2 => exact HC0_2.out); rintro e w20 ⟨rfl, hb⟩; have n0_ := Aside0.mk (blk_below (g := gb169) (o := .cells #[.int .i64 a0_0, .int .i64 a0_1, .slice A0_2 l0_2.length c0_2] 29 (0, 0)) u6_1 hb); have n1_ := Aside0.mk (below_step u6_0 hb); clear BK169; clear HB; have BK169 := n0_; have HB := n1_; clear n0_ n1_; (try clear hb); (try clear hb2); (try clear hk); (try clear hi))) | go_quiet (first | (go_at_call 23; (with_reducible refine (impl_areSessions.calls k a0_0 a0_1 _ _ l0_2 false _ ?side1 ?side2 A6.out).mono ?_); (case side1 => exact u6_2); (case side2 => exact HC0_2.out); rintro e w20 ⟨rfl, hb⟩; have n0_ := Aside0.mk (blk_below (g := gb169) (o := .cells #[.int .i64 a0_0, .int .i64 a0_1, .slice A0_2 l0_2.length c0_2] 29 (0, 0)) u6_1 hb); have n1_ := Aside0.mk (below_step u6_0 hb); clear BK169; clear HB; have BK169 := n0_; have HB := n1_; clear n0_ n1_; (try clear hb); (try clear hb2); (try clear hk); (try clear hi))))
      go_meet
      case rel => exact ⟨_, (true), u6_14, H', ⟨by first | omega | exact Nat.le_refl _⟩, ⟨u6_1⟩, ⟨u6_0⟩⟩
    subst c7
    have H1 : (if a1 < 1 then (impl_look.j0 k a1 a2 true a0_0 a0_1 l0_2) else (if a1 > 999 then (impl_look.j0 k a1 a2 true a0_0 a0_1 l0_2) else (if a2 < 1 then (impl_look.j0 k a1 a2 true a0_0 a0_1 l0_2) else (impl_look.j0 k a1 a2 (decide (a2 > 1000000)) a0_0 a0_1 l0_2)))) = some (r1, r2) := by rw [if_pos rfl] at H; exact H
    clear H
    have H := H1
    clear H1
    by_cases c8 : a1 < 1
    · rw [if_pos c8] at H
      have c8b0 : decide (a1 < 1) = true := decide_eq_true c8
      clear c8
      (first | rw [c8b0] | (simp only [i64_w, i32_w]; rw [c8b0]) | skip)
      have H' := Aside0.mk H
      clear H
      have hcz9_0 : w5.cell? ⟨gb169, 0, none⟩ = some (.int .i64 a0_0) := (blk_cell BK169.out 0).trans rfl
      have hcz9_1 : w5.cell? ⟨gb169, 1, none⟩ = some (.int .i64 a0_1) := (blk_cell BK169.out 1).trans rfl
      have hcz9_2 : w5.cell? ⟨gb169, 2, none⟩ = some (.slice A0_2 l0_2.length c0_2) := (blk_cell BK169.out 2).trans rfl
      have hfz9_0 := blk_frozen BK169.out 0
      have hfz9_1 := blk_frozen BK169.out 1
      have hfz9_2 := blk_frozen BK169.out 2
      go_wp2_with (first | (first | (go_at_call 23; (with_reducible refine (impl_areSessions.calls k a0_0 a0_1 _ _ l0_2 true _ ?side1 ?side2 A6.out).mono ?_); (case side1 => exact u6_2); (case side2 => exact HC0_2.out); rintro e w10 ⟨rfl, hb⟩; have n0_ := Aside0.mk (blk_below (g := gb169) (o := .cells #[.int .i64 a0_0, .int .i64 a0_1, .slice A0_2 l0_2.length c0_2] 29 (0, 0)) u6_1 hb); have n1_ := Aside0.mk (below_step u6_0 hb); clear BK169; clear HB; have BK169 := n0_; have HB := n1_; clear n0_ n1_; (try clear hb); (try clear hb2); (try clear hk); (try clear hi))) | go_quiet (first | (go_at_call 23; (with_reducible refine (impl_areSessions.calls k a0_0 a0_1 _ _ l0_2 true _ ?side1 ?side2 A6.out).mono ?_); (case side1 => exact u6_2); (case side2 => exact HC0_2.out); rintro e w10 ⟨rfl, hb⟩; have n0_ := Aside0.mk (blk_below (g := gb169) (o := .cells #[.int .i64 a0_0, .int .i64 a0_1, .slice A0_2 l0_2.length c0_2] 29 (0, 0)) u6_1 hb); have n1_ := Aside0.mk (below_step u6_0 hb); clear BK169; clear HB; have BK169 := n0_; have HB := n1_; clear n0_ n1_; (try clear hb); (try clear hb2); (try clear hk); (try clear hi))))
      go_meet
      case rel => exact ⟨_, (true), u6_14, H', ⟨by first | omega | exact Nat.le_refl _⟩, ⟨u6_1⟩, ⟨u6_0⟩⟩
    rw [if_neg c8] at H
    have c8b0 : decide (a1 < 1) = false := decide_eq_false c8
    clear c8
    (first | rw [c8b0] | (simp only [i64_w, i32_w]; rw [c8b0]) | skip)
    by_cases c11 : a1 > 999
    · rw [if_pos c11] at H
      have c11b0 : decide (999 < a1) = true := decide_eq_true c11
      clear c11
      have H' := Aside0.mk H
      clear H
      have hcz12_0 : w5.cell? ⟨gb169, 0, none⟩ = some (.int .i64 a0_0) := (blk_cell BK169.out 0).trans rfl
      have hcz12_1 : w5.cell? ⟨gb169, 1, none⟩ = some (.int .i64 a0_1) := (blk_cell BK169.out 1).trans rfl
      have hcz12_2 : w5.cell? ⟨gb169, 2, none⟩ = some (.slice A0_2 l0_2.length c0_2) := (blk_cell BK169.out 2).trans rfl
      have hfz12_0 := blk_frozen BK169.out 0
      have hfz12_1 := blk_frozen BK169.out 1
      have hfz12_2 := blk_frozen BK169.out 2
      go_wp2_with (first | (first | (go_at_call 23; (with_reducible refine (impl_areSessions.calls k a0_0 a0_1 _ _ l0_2 true _ ?side1 ?side2 A6.out).mono ?_); (case side1 => exact u6_2); (case side2 => exact HC0_2.out); rintro e w13 ⟨rfl, hb⟩; have n0_ := Aside0.mk (blk_below (g := gb169) (o := .cells #[.int .i64 a0_0, .int .i64 a0_1, .slice A0_2 l0_2.length c0_2] 29 (0, 0)) u6_1 hb); have n1_ := Aside0.mk (below_step u6_0 hb); clear BK169; clear HB; have BK169 := n0_; have HB := n1_; clear n0_ n1_; (try clear hb); (try clear hb2); (try clear hk); (try clear hi))) | go_quiet (first | (go_at_call 23; (with_reducible refine (impl_areSessions.calls k a0_0 a0_1 _ _ l0_2 true _ ?side1 ?side2 A6.out).mono ?_); (case side1 => exact u6_2); (case side2 => exact HC0_2.out); rintro e w13 ⟨rfl, hb⟩; have n0_ := Aside0.mk (blk_below (g := gb169) (o := .cells #[.int .i64 a0_0, .int .i64 a0_1, .slice A0_2 l0_2.length c0_2] 29 (0, 0)) u6_1 hb); have n1_ := Aside0.mk (below_step u6_0 hb); clear BK169; clear HB; have BK169 := n0_; have HB := n1_; clear n0_ n1_; (try clear hb); (try clear hb2); (try clear hk); (try clear hi))))
      go_meet
      case rel => exact ⟨_, (true), u6_14, H', ⟨by first | omega | exact Nat.le_refl _⟩, ⟨u6_1⟩, ⟨u6_0⟩⟩
    rw [if_neg c11] at H
    have c11b0 : decide (999 < a1) = false := decide_eq_false c11
    clear c11
    by_cases c14 : a2 < 1
    · rw [if_pos c14] at H
      have c14b0 : decide (a2 < 1) = true := decide_eq_true c14
      clear c14
      have H' := Aside0.mk H
      clear H
      have hcz15_0 : w5.cell? ⟨gb169, 0, none⟩ = some (.int .i64 a0_0) := (blk_cell BK169.out 0).trans rfl
      have hcz15_1 : w5.cell? ⟨gb169, 1, none⟩ = some (.int .i64 a0_1) := (blk_cell BK169.out 1).trans rfl
      have hcz15_2 : w5.cell? ⟨gb169, 2, none⟩ = some (.slice A0_2 l0_2.length c0_2) := (blk_cell BK169.out 2).trans rfl
      have hfz15_0 := blk_frozen BK169.out 0
      have hfz15_1 := blk_frozen BK169.out 1
      have hfz15_2 := blk_frozen BK169.out 2
      go_wp2_with (first | (first | (go_at_call 23; (with_reducible refine (impl_areSessions.calls k a0_0 a0_1 _ _ l0_2 true _ ?side1 ?side2 A6.out).mono ?_); (case side1 => exact u6_2); (case side2 => exact HC0_2.out); rintro e w16 ⟨rfl, hb⟩; have n0_ := Aside0.mk (blk_below (g := gb169) (o := .cells #[.int .i64 a0_0, .int .i64 a0_1, .slice A0_2 l0_2.length c0_2] 29 (0, 0)) u6_1 hb); have n1_ := Aside0.mk (below_step u6_0 hb); clear BK169; clear HB; have BK169 := n0_; have HB := n1_; clear n0_ n1_; (try clear hb); (try clear hb2); (try clear hk); (try clear hi))) | go_quiet (first | (go_at_call 23; (with_reducible refine (impl_areSessions.calls k a0_0 a0_1 _ _ l0_2 true _ ?side1 ?side2 A6.out).mono ?_); (case side1 => exact u6_2); (case side2 => exact HC0_2.out); rintro e w16 ⟨rfl, hb⟩; have n0_ := Aside0.mk (blk_below (g := gb169) (o := .cells #[.int .i64 a0_0, .int .i64 a0_1, .slice A0_2 l0_2.length c0_2] 29 (0, 0)) u6_1 hb); have n1_ := Aside0.mk (below_step u6_0 hb); clear BK169; clear HB; have BK169 := n0_; have HB := n1_; clear n0_ n1_; (try clear hb); (try clear hb2); (try clear hk); (try clear hi))))
      go_meet
      case rel => exact ⟨_, (true), u6_14, H', ⟨by first | omega | exact Nat.le_refl _⟩, ⟨u6_1⟩, ⟨u6_0⟩⟩
    rw [if_neg c14] at H
    have c14b0 : decide (a2 < 1) = false := decide_eq_false c14
    clear c14
    have H' := Aside0.mk H
    clear H
    have hcz17_0 : w5.cell? ⟨gb169, 0, none⟩ = some (.int .i64 a0_0) := (blk_cell BK169.out 0).trans rfl
    have hcz17_1 : w5.cell? ⟨gb169, 1, none⟩ = some (.int .i64 a0_1) := (blk_cell BK169.out 1).trans rfl
    have hcz17_2 : w5.cell? ⟨gb169, 2, none⟩ = some (.slice A0_2 l0_2.length c0_2) := (blk_cell BK169.out 2).trans rfl
    have hfz17_0 := blk_frozen BK169.out 0
    have hfz17_1 := blk_frozen BK169.out 1
    have hfz17_2 := blk_frozen BK169.out 2
    go_wp2_with (first | (first | (go_at_call 23; (with_reducible refine (impl_areSessions.calls k a0_0 a0_1 _ _ l0_2 true _ ?side1 ?side2 A6.out).mono ?_); (case side1 => exact u6_2); (case side2 => exact HC0_2.out); rintro e w18 ⟨rfl, hb⟩; have n0_ := Aside0.mk (blk_below (g := gb169) (o := .cells #[.int .i64 a0_0, .int .i64 a0_1, .slice A0_2 l0_2.length c0_2] 29 (0, 0)) u6_1 hb); have n1_ := Aside0.mk (below_step u6_0 hb); clear BK169; clear HB; have BK169 := n0_; have HB := n1_; clear n0_ n1_; (try clear hb); (try clear hb2); (try clear hk); (try clear hi))) | go_quiet (first | (go_at_call 23; (with_reducible refine (impl_areSessions.calls k a0_0 a0_1 _ _ l0_2 true _ ?side1 ?side2 A6.out).mono ?_); (case side1 => exact u6_2); (case side2 => exact HC0_2.out); rintro e w18 ⟨rfl, hb⟩; have n0_ := Aside0.mk (blk_below (g := gb169) (o := .cells #[.int .i64 a0_0, .int .i64 a0_1, .slice A0_2 l0_2.length c0_2] 29 (0, 0)) u6_1 hb); have n1_ := Aside0.mk (below_step u6_0 hb); clear BK169; clear HB; have BK169 := n0_; have HB := n1_; clear n0_ n1_; (try clear hb); (try clear hb2); (try clear hk); (try clear hi))))
    go_meet
    case rel => exact ⟨_, (decide (a2 > 1000000)), u6_14, H', ⟨by first | omega | exact Nat.le_refl _⟩, ⟨u6_1⟩, ⟨u6_0⟩⟩
  clear HC4
  try clear c1
  try clear c2
  try clear p2
  try clear c7
  try clear c8
  try clear c8b0
  try clear c11
  try clear c11b0
  try clear c14
  try clear c14b0
  try clear hcz12_0
  try clear hcz12_1
  try clear hcz12_2
  try clear hcz15_0
  try clear hcz15_1
  try clear hcz15_2
  try clear hcz17_0
  try clear hcz17_1
  try clear hcz17_2
  try clear hcz19_0
  try clear hcz19_1
  try clear hcz19_2
  try clear hcz9_0
  try clear hcz9_1
  try clear hcz9_2
  try clear hfz12_0
  try clear hfz12_1
  try clear hfz12_2
  try clear hfz15_0
  try clear hfz15_1
  try clear hfz15_2
  try clear hfz17_0
  try clear hfz17_1
  try clear hfz17_2
  try clear hfz19_0
  try clear hfz19_1
  try clear hfz19_2
  try clear hfz9_0
  try clear hfz9_1
  try clear hfz9_2
  obtain ⟨kq, x28_3, rfl, HA, HJ3, BK169, HB⟩ := hcut
  cases kq with
  | zero => exact absurd HA.out (by simp [impl_look.j0])
  | succ kj3 =>
    have H := HA.out
    clear HA
    simp only [impl_look.j0] at H
    by_cases c21 : x28_3 = true
    · subst c21
      have H1 : (some (4, (⟨#[]⟩ : ByteArray))) = some (r1, r2) := by rw [if_pos rfl] at H; exact H
      clear H
      have H := H1
      clear H1
      simp only [Option.some.injEq, Prod.mk.injEq] at H
      obtain ⟨rfl, rfl⟩ := H
      go_wp2
      repeat (go_quiet (fail); try go_wp2)
      go_ret2
      exact ⟨by first | rfl | (simp [errW_none, errW_some] <;> rfl) | (simp [*, errW_none, errW_some] <;> rfl), u6_0⟩
    replace c21 := Bool.eq_false_iff.mpr c21
    subst c21
    have H1 : ((impl_sessionOf.f a0_0 a0_1 l0_2 a1).bind fun t172 => (if t172 ≥ 0 then (if 0 ≤ t172 then (if t172 < (l0_2.length : Int) then (impl_look.j1 kj3 a2 ((rd_T45 l0_2 t172).f0) ((rd_T45 l0_2 t172).f1) ((rd_T45 l0_2 t172).f2) ((rd_T45 l0_2 t172).f3)) else (none)) else (none)) else (impl_look.j1 kj3 a2 0 0 0 (⟨#[]⟩ : ByteArray)))) = some (r1, r2) := by rw [if_neg (show ¬ (false = true) by decide)] at H; exact H
    clear H
    have H := H1
    clear H1
    replace H := Option.bind_eq_some_iff.mp H
    obtain ⟨t172, A220, H⟩ := H
    replace H : (if t172 ≥ 0 then (if 0 ≤ t172 then (if t172 < (l0_2.length : Int) then (impl_look.j1 kj3 a2 ((rd_T45 l0_2 t172).f0) ((rd_T45 l0_2 t172).f1) ((rd_T45 l0_2 t172).f2) ((rd_T45 l0_2 t172).f3)) else (none)) else (none)) else (impl_look.j1 kj3 a2 0 0 0 (⟨#[]⟩ : ByteArray))) = some (r1, r2) := H
    have A22 := Aside0.mk A220
    clear A220
    have HC23 := Aside0.mk H
    clear H
    go_upto_if 34 with (first | ((with_reducible refine gate_dst (N := 8) rfl ?_); refine box_event ?hg (N := 8) ?hd (cs := #[.int .i64 0, .int .i64 0, .int .i64 0, .string (⟨#[]⟩ : ByteArray)]) (t := 45) ?hr ?_; (case hd => rfl); (case hg => rfl); (case hr => first | (go_simp; done) | (go_simp; rfl)); intro gb171 hg w24 hbox hb; have n0_ := Aside0.mk (blk_below (g := gb169) (o := .cells #[.int .i64 a0_0, .int .i64 a0_1, .slice A0_2 l0_2.length c0_2] 29 (0, 0)) u6_1 hb); have n1_ := Aside0.mk (below_step u6_0 hb); have n2_ := Aside0.mk (hbox); have n3_ := Aside0.mk ((by rw [hg]; exact (below_size u6_0) : w.heap.size ≤ gb171)); have n4_ := Aside0.mk ((by rw [hg]; exact (below_size u6_0) : w.heap.size ≤ gb171)); have n5_ := Aside0.mk ((by rw [hg]; exact Nat.ne_of_lt (blk_lt (g := gb169) (o := .cells #[.int .i64 a0_0, .int .i64 a0_1, .slice A0_2 l0_2.length c0_2] 29 (0, 0)) u6_1) : gb169 ≠ gb171)); have n6_ := Aside0.mk ((by rw [hg]; exact Nat.ne_of_gt (blk_lt (g := gb169) (o := .cells #[.int .i64 a0_0, .int .i64 a0_1, .slice A0_2 l0_2.length c0_2] 29 (0, 0)) u6_1) : gb171 ≠ gb169)); clear BK169; clear HB; have BK169 := n0_; have HB := n1_; have BK171 := n2_; have GW171 := n3_; have GE171 := n4_; have NB169_171 := n5_; have NB171_169 := n6_; clear n0_ n1_ n2_ n3_ n4_ n5_ n6_; clear hb hbox hg; have hnb25 := NB171_169.out; have hnc25 := NB169_171.out; have hcz26_0 : w24.cell? ⟨gb171, 0, none⟩ = some (.int .i64 0) := (blk_cell BK171.out 0).trans rfl; have hcz26_1 : w24.cell? ⟨gb171, 1, none⟩ = some (.int .i64 0) := (blk_cell BK171.out 1).trans rfl; have hcz26_2 : w24.cell? ⟨gb171, 2, none⟩ = some (.int .i64 0) := (blk_cell BK171.out 2).trans rfl; have hcz26_3 : w24.cell? ⟨gb171, 3, none⟩ = some (.string (⟨#[]⟩ : ByteArray)) := (blk_cell BK171.out 3).trans rfl; have hfz26_0 := blk_frozen BK171.out 0; have hfz26_1 := blk_frozen BK171.out 1; have hfz26_2 := blk_frozen BK171.out 2; have hfz26_3 := blk_frozen BK171.out 3; have hcz27_0 : w24.cell? ⟨gb169, 0, none⟩ = some (.int .i64 a0_0) := (blk_cell BK169.out 0).trans rfl; have hcz27_1 : w24.cell? ⟨gb169, 1, none⟩ = some (.int .i64 a0_1) := (blk_cell BK169.out 1).trans rfl; have hcz27_2 : w24.cell? ⟨gb169, 2, none⟩ = some (.slice A0_2 l0_2.length c0_2) := (blk_cell BK169.out 2).trans rfl; have hfz27_0 := blk_frozen BK169.out 0; have hfz27_1 := blk_frozen BK169.out 1; have hfz27_2 := blk_frozen BK169.out 2) | (go_at_call 30; (with_reducible refine (impl_sessionOf.calls a0_0 a0_1 _ _ l0_2 a1 t172 _ ?side1 ?side2 A22.out).mono ?_); (case side1 => exact (by exact Kd.C_below HR0_2.out u6_3)); (case side2 => exact HC0_2.out); rintro e w28 ⟨rfl, hb⟩; have n0_ := Aside0.mk (blk_below (g := gb169) (o := .cells #[.int .i64 a0_0, .int .i64 a0_1, .slice A0_2 l0_2.length c0_2] 29 (0, 0)) u6_4 hb); have n1_ := Aside0.mk (blk_below (g := gb171) (o := .cells #[.int .i64 0, .int .i64 0, .int .i64 0, .string (⟨#[]⟩ : ByteArray)] 45 (0, 0)) u6_5 hb); have n2_ := Aside0.mk (below_step u6_3 hb); clear BK169; clear BK171; clear HB; have BK169 := n0_; have BK171 := n1_; have HB := n2_; clear n0_ n1_ n2_; (try clear hb); (try clear hb2); (try clear hk); (try clear hi)))
    repeat (go_quiet (first | ((with_reducible refine gate_dst (N := 8) rfl ?_); refine box_event ?hg (N := 8) ?hd (cs := #[.int .i64 0, .int .i64 0, .int .i64 0, .string (⟨#[]⟩ : ByteArray)]) (t := 45) ?hr ?_; (case hd => rfl); (case hg => rfl); (case hr => first | (go_simp; done) | (go_simp; rfl)); intro gb171 hg w24 hbox hb; have n0_ := Aside0.mk (blk_below (g := gb169) (o := .cells #[.int .i64 a0_0, .int .i64 a0_1, .slice A0_2 l0_2.length c0_2] 29 (0, 0)) u6_1 hb); have n1_ := Aside0.mk (below_step u6_0 hb); have n2_ := Aside0.mk (hbox); have n3_ := Aside0.mk ((by rw [hg]; exact (below_size u6_0) : w.heap.size ≤ gb171)); have n4_ := Aside0.mk ((by rw [hg]; exact (below_size u6_0) : w.heap.size ≤ gb171)); have n5_ := Aside0.mk ((by rw [hg]; exact Nat.ne_of_lt (blk_lt (g := gb169) (o := .cells #[.int .i64 a0_0, .int .i64 a0_1, .slice A0_2 l0_2.length c0_2] 29 (0, 0)) u6_1) : gb169 ≠ gb171)); have n6_ := Aside0.mk ((by rw [hg]; exact Nat.ne_of_gt (blk_lt (g := gb169) (o := .cells #[.int .i64 a0_0, .int .i64 a0_1, .slice A0_2 l0_2.length c0_2] 29 (0, 0)) u6_1) : gb171 ≠ gb169)); clear BK169; clear HB; have BK169 := n0_; have HB := n1_; have BK171 := n2_; have GW171 := n3_; have GE171 := n4_; have NB169_171 := n5_; have NB171_169 := n6_; clear n0_ n1_ n2_ n3_ n4_ n5_ n6_; clear hb hbox hg; have hnb25 := NB171_169.out; have hnc25 := NB169_171.out; have hcz26_0 : w24.cell? ⟨gb171, 0, none⟩ = some (.int .i64 0) := (blk_cell BK171.out 0).trans rfl; have hcz26_1 : w24.cell? ⟨gb171, 1, none⟩ = some (.int .i64 0) := (blk_cell BK171.out 1).trans rfl; have hcz26_2 : w24.cell? ⟨gb171, 2, none⟩ = some (.int .i64 0) := (blk_cell BK171.out 2).trans rfl; have hcz26_3 : w24.cell? ⟨gb171, 3, none⟩ = some (.string (⟨#[]⟩ : ByteArray)) := (blk_cell BK171.out 3).trans rfl; have hfz26_0 := blk_frozen BK171.out 0; have hfz26_1 := blk_frozen BK171.out 1; have hfz26_2 := blk_frozen BK171.out 2; have hfz26_3 := blk_frozen BK171.out 3; have hcz27_0 : w24.cell? ⟨gb169, 0, none⟩ = some (.int .i64 a0_0) := (blk_cell BK169.out 0).trans rfl; have hcz27_1 : w24.cell? ⟨gb169, 1, none⟩ = some (.int .i64 a0_1) := (blk_cell BK169.out 1).trans rfl; have hcz27_2 : w24.cell? ⟨gb169, 2, none⟩ = some (.slice A0_2 l0_2.length c0_2) := (blk_cell BK169.out 2).trans rfl; have hfz27_0 := blk_frozen BK169.out 0; have hfz27_1 := blk_frozen BK169.out 1; have hfz27_2 := blk_frozen BK169.out 2) | (go_at_call 30; (with_reducible refine (impl_sessionOf.calls a0_0 a0_1 _ _ l0_2 a1 t172 _ ?side1 ?side2 A22.out).mono ?_); (case side1 => exact (by exact Kd.C_below HR0_2.out u6_3)); (case side2 => exact HC0_2.out); rintro e w28 ⟨rfl, hb⟩; have n0_ := Aside0.mk (blk_below (g := gb169) (o := .cells #[.int .i64 a0_0, .int .i64 a0_1, .slice A0_2 l0_2.length c0_2] 29 (0, 0)) u6_4 hb); have n1_ := Aside0.mk (blk_below (g := gb171) (o := .cells #[.int .i64 0, .int .i64 0, .int .i64 0, .string (⟨#[]⟩ : ByteArray)] 45 (0, 0)) u6_5 hb); have n2_ := Aside0.mk (below_step u6_3 hb); clear BK169; clear BK171; clear HB; have BK169 := n0_; have BK171 := n1_; have HB := n2_; clear n0_ n1_ n2_; (try clear hb); (try clear hb2); (try clear hk); (try clear hi))); go_upto_if 34 with (first | ((with_reducible refine gate_dst (N := 8) rfl ?_); refine box_event ?hg (N := 8) ?hd (cs := #[.int .i64 0, .int .i64 0, .int .i64 0, .string (⟨#[]⟩ : ByteArray)]) (t := 45) ?hr ?_; (case hd => rfl); (case hg => rfl); (case hr => first | (go_simp; done) | (go_simp; rfl)); intro gb171 hg w24 hbox hb; have n0_ := Aside0.mk (blk_below (g := gb169) (o := .cells #[.int .i64 a0_0, .int .i64 a0_1, .slice A0_2 l0_2.length c0_2] 29 (0, 0)) u6_1 hb); have n1_ := Aside0.mk (below_step u6_0 hb); have n2_ := Aside0.mk (hbox); have n3_ := Aside0.mk ((by rw [hg]; exact (below_size u6_0) : w.heap.size ≤ gb171)); have n4_ := Aside0.mk ((by rw [hg]; exact (below_size u6_0) : w.heap.size ≤ gb171)); have n5_ := Aside0.mk ((by rw [hg]; exact Nat.ne_of_lt (blk_lt (g := gb169) (o := .cells #[.int .i64 a0_0, .int .i64 a0_1, .slice A0_2 l0_2.length c0_2] 29 (0, 0)) u6_1) : gb169 ≠ gb171)); have n6_ := Aside0.mk ((by rw [hg]; exact Nat.ne_of_gt (blk_lt (g := gb169) (o := .cells #[.int .i64 a0_0, .int .i64 a0_1, .slice A0_2 l0_2.length c0_2] 29 (0, 0)) u6_1) : gb171 ≠ gb169)); clear BK169; clear HB; have BK169 := n0_; have HB := n1_; have BK171 := n2_; have GW171 := n3_; have GE171 := n4_; have NB169_171 := n5_; have NB171_169 := n6_; clear n0_ n1_ n2_ n3_ n4_ n5_ n6_; clear hb hbox hg; have hnb25 := NB171_169.out; have hnc25 := NB169_171.out; have hcz26_0 : w24.cell? ⟨gb171, 0, none⟩ = some (.int .i64 0) := (blk_cell BK171.out 0).trans rfl; have hcz26_1 : w24.cell? ⟨gb171, 1, none⟩ = some (.int .i64 0) := (blk_cell BK171.out 1).trans rfl; have hcz26_2 : w24.cell? ⟨gb171, 2, none⟩ = some (.int .i64 0) := (blk_cell BK171.out 2).trans rfl; have hcz26_3 : w24.cell? ⟨gb171, 3, none⟩ = some (.string (⟨#[]⟩ : ByteArray)) := (blk_cell BK171.out 3).trans rfl; have hfz26_0 := blk_frozen BK171.out 0; have hfz26_1 := blk_frozen BK171.out 1; have hfz26_2 := blk_frozen BK171.out 2; have hfz26_3 := blk_frozen BK171.out 3; have hcz27_0 : w24.cell? ⟨gb169, 0, none⟩ = some (.int .i64 a0_0) := (blk_cell BK169.out 0).trans rfl; have hcz27_1 : w24.cell? ⟨gb169, 1, none⟩ = some (.int .i64 a0_1) := (blk_cell BK169.out 1).trans rfl; have hcz27_2 : w24.cell? ⟨gb169, 2, none⟩ = some (.slice A0_2 l0_2.length c0_2) := (blk_cell BK169.out 2).trans rfl; have hfz27_0 := blk_frozen BK169.out 0; have hfz27_1 := blk_frozen BK169.out 1; have hfz27_2 := blk_frozen BK169.out 2) | (go_at_call 30; (with_reducible refine (impl_sessionOf.calls a0_0 a0_1 _ _ l0_2 a1 t172 _ ?side1 ?side2 A22.out).mono ?_); (case side1 => exact (by exact Kd.C_below HR0_2.out u6_3)); (case side2 => exact HC0_2.out); rintro e w28 ⟨rfl, hb⟩; have n0_ := Aside0.mk (blk_below (g := gb169) (o := .cells #[.int .i64 a0_0, .int .i64 a0_1, .slice A0_2 l0_2.length c0_2] 29 (0, 0)) u6_4 hb); have n1_ := Aside0.mk (blk_below (g := gb171) (o := .cells #[.int .i64 0, .int .i64 0, .int .i64 0, .string (⟨#[]⟩ : ByteArray)] 45 (0, 0)) u6_5 hb); have n2_ := Aside0.mk (below_step u6_3 hb); clear BK169; clear BK171; clear HB; have BK169 := n0_; have BK171 := n1_; have HB := n2_; clear n0_ n1_ n2_; (try clear hb); (try clear hb2); (try clear hk); (try clear hi))))
    (try simp only [Act.put, List.setIfInBounds_toArray, List.set_cons_zero, List.set_cons_succ])
    go_cut [] (fun wc => ∃ (kq : Nat) (x172000_22 : Int) (x172001_22 : Int) (x172002_22 : Int) (x172003_22 : ByteArray), Aside0 (impl_look.j1 kq a2 x172000_22 x172001_22 x172002_22 x172003_22 = some (r1, r2)) ∧ Aside0 (kq ≤ kj3) ∧ Aside0 (wc.heap[gb169]? = some (.cells #[.int .i64 a0_0, .int .i64 a0_1, (.slice A0_2 l0_2.length c0_2)] 29 (0, 0))) ∧ Aside0 (wc.heap[gb171]? = some (.cells #[.int .i64 x172000_22, .int .i64 x172001_22, .int .i64 x172002_22, .string x172003_22] 45 (0, 0))) ∧ Aside0 (Below w.heap.size w wc))
    case first =>
      have H := HC23.out
      clear HC23
      by_cases c29 : t172 ≥ 0
      rotate_left
      · rw [if_neg c29] at H
        have c29b0 : decide (0 ≤ t172) = false := decide_eq_false c29
        clear c29
        (first | rw [c29b0] | (simp only [i64_w, i32_w]; rw [c29b0]) | skip)
        have H' := Aside0.mk H
        clear H
        go_wp2
        repeat (go_quiet (fail); try go_wp2)
        go_meet
        case rel => exact ⟨_, (0), (0), (0), ((⟨#[]⟩ : ByteArray)), H', ⟨(by have := HJ3.out; first | omega | exact Nat.le_refl _)⟩, ⟨u6_1⟩, ⟨(by (with_reducible repeat (first | refine blk_drewN ?_ _ | refine blk_drew ?_ | refine blk_alloc ?_ _)); exact BK171.out)⟩, ⟨u6_3⟩⟩
      rw [if_pos c29] at H
      have c29b0 : decide (0 ≤ t172) = true := decide_eq_true c29
      clear c29
      (first | rw [c29b0] | (simp only [i64_w, i32_w]; rw [c29b0]) | skip)
      by_cases c30 : 0 ≤ t172
      rotate_left
      · rw [if_neg c30] at H
        exact absurd H (by simp)
      rw [if_pos c30] at H
      have c30b0 : decide (0 ≤ t172) = true := decide_eq_true c30
      clear c30
      by_cases c31 : t172 < (l0_2.length : Int)
      rotate_left
      · rw [if_neg c31] at H
        exact absurd H (by simp)
      rw [if_pos c31] at H
      have c31b0 : decide (t172 < (l0_2.length : Int)) = true := decide_eq_true c31
      clear c31
      have H' := Aside0.mk H
      clear H
      have hnb32 := NB169_171.out
      have hnc32 := NB171_169.out
      have hcz33_0 : w28.cell? ⟨gb169, 0, none⟩ = some (.int .i64 a0_0) := (blk_cell BK169.out 0).trans rfl
      have hcz33_1 : w28.cell? ⟨gb169, 1, none⟩ = some (.int .i64 a0_1) := (blk_cell BK169.out 1).trans rfl
      have hcz33_2 : w28.cell? ⟨gb169, 2, none⟩ = some (.slice A0_2 l0_2.length c0_2) := (blk_cell BK169.out 2).trans rfl
      have hfz33_0 := blk_frozen BK169.out 0
      have hfz33_1 := blk_frozen BK169.out 1
      have hfz33_2 := blk_frozen BK169.out 2
      have p173 : 0 ≤ (t172 : Int) := of_decide_eq_true (by first | (with_reducible assumption) | assumption)
      have q173 : t172 < (l0_2.length : Int) := of_decide_eq_true (by first | (with_reducible assumption) | assumption)
      obtain ⟨ad173, e173, hx173_0, hx173_1, hx173_2, hx173_3⟩ := at_T45 HR0_2.out t172 p173 q173
      cases e173
      replace hx173_0 := (HB.out.cell (World.block_lt_of_cell? w _ hx173_0)).trans hx173_0
      replace hx173_1 := (HB.out.cell (World.block_lt_of_cell? w _ hx173_1)).trans hx173_1
      replace hx173_2 := (HB.out.cell (World.block_lt_of_cell? w _ hx173_2)).trans hx173_2
      replace hx173_3 := (HB.out.cell (World.block_lt_of_cell? w _ hx173_3)).trans hx173_3
      replace p173 := eq_true p173
      replace q173 := eq_true q173
      have hcz34_0 : w28.cell? ⟨gb171, 0, none⟩ = some (.int .i64 0) := (blk_cell BK171.out 0).trans rfl
      have hcz34_1 : w28.cell? ⟨gb171, 1, none⟩ = some (.int .i64 0) := (blk_cell BK171.out 1).trans rfl
      have hcz34_2 : w28.cell? ⟨gb171, 2, none⟩ = some (.int .i64 0) := (blk_cell BK171.out 2).trans rfl
      have hcz34_3 : w28.cell? ⟨gb171, 3, none⟩ = some (.string (⟨#[]⟩ : ByteArray)) := (blk_cell BK171.out 3).trans rfl
      have hfz34_0 := blk_frozen BK171.out 0
      have hfz34_1 := blk_frozen BK171.out 1
      have hfz34_2 := blk_frozen BK171.out 2
      have hfz34_3 := blk_frozen BK171.out 3
      go_wp2
      repeat (go_quiet (fail); try go_wp2)
      go_meet
      case rel => exact ⟨_, ((rd_T45 l0_2 t172).f0), ((rd_T45 l0_2 t172).f1), ((rd_T45 l0_2 t172).f2), ((rd_T45 l0_2 t172).f3), H', ⟨(by have := HJ3.out; first | omega | exact Nat.le_refl _)⟩, ⟨u6_4⟩, ⟨(by (with_reducible repeat (first | refine blk_drewN ?_ _ | refine blk_drew ?_ | refine blk_alloc ?_ _)); refine blk_put (cs := #[.int .i64 ((rd_T45 l0_2 t172).f0), .int .i64 ((rd_T45 l0_2 t172).f1), .int .i64 ((rd_T45 l0_2 t172).f2), .string (⟨#[]⟩ : ByteArray)]) ?_ 3 _ rfl; (with_reducible repeat (first | refine blk_drewN ?_ _ | refine blk_drew ?_ | refine blk_alloc ?_ _)); refine blk_put (cs := #[.int .i64 ((rd_T45 l0_2 t172).f0), .int .i64 ((rd_T45 l0_2 t172).f1), .int .i64 0, .string (⟨#[]⟩ : ByteArray)]) ?_ 2 _ rfl; (with_reducible repeat (first | refine blk_drewN ?_ _ | refine blk_drew ?_ | refine blk_alloc ?_ _)); refine blk_put (cs := #[.int .i64 ((rd_T45 l0_2 t172).f0), .int .i64 0, .int .i64 0, .string (⟨#[]⟩ : ByteArray)]) ?_ 1 _ rfl; (with_reducible repeat (first | refine blk_drewN ?_ _ | refine blk_drew ?_ | refine blk_alloc ?_ _)); refine blk_put (cs := #[.int .i64 0, .int .i64 0, .int .i64 0, .string (⟨#[]⟩ : ByteArray)]) ?_ 0 _ rfl; (with_reducible repeat (first | refine blk_drewN ?_ _ | refine blk_drew ?_ | refine blk_alloc ?_ _)); exact BK171.out)⟩, ⟨u6_3⟩⟩
    clear HC23
    try clear c1
    try clear p1
    try clear q1
    try clear hx1
    try clear c2
    try clear p2
    try clear c3
    try clear c7
    try clear c8
    try clear c8b0
    try clear c11
    try clear c11b0
    try clear c14
    try clear c14b0
    try clear p17
    try clear q17
    try clear hx17
    try clear c21
    try clear c25
    try clear c26
    try clear c29
    try clear c29b0
    try clear c30
    try clear c30b0
    try clear c31
    try clear c31b0
    try clear c32
    try clear hcz12_0
    try clear hcz12_1
    try clear hcz12_2
    try clear hcz15_0
    try clear hcz15_1
    try clear hcz15_2
    try clear hcz17_0
    try clear hcz17_1
    try clear hcz17_2
    try clear hcz19_0
    try clear hcz19_1
    try clear hcz19_2
    try clear hcz26_0
    try clear hcz26_1
    try clear hcz26_2
    try clear hcz26_3
    try clear hcz27_0
    try clear hcz27_1
    try clear hcz27_2
    try clear hcz33_0
    try clear hcz33_1
    try clear hcz33_2
    try clear hcz34_0
    try clear hcz34_1
    try clear hcz34_2
    try clear hcz34_3
    try clear hcz9_0
    try clear hcz9_1
    try clear hcz9_2
    try clear hfz12_0
    try clear hfz12_1
    try clear hfz12_2
    try clear hfz15_0
    try clear hfz15_1
    try clear hfz15_2
    try clear hfz17_0
    try clear hfz17_1
    try clear hfz17_2
    try clear hfz19_0
    try clear hfz19_1
    try clear hfz19_2
    try clear hfz26_0
    try clear hfz26_1
    try clear hfz26_2
    try clear hfz26_3
    try clear hfz27_0
    try clear hfz27_1
    try clear hfz27_2
    try clear hfz33_0
    try clear hfz33_1
    try clear hfz33_2
    try clear hfz34_0
    try clear hfz34_1
    try clear hfz34_2
    try clear hfz34_3
    try clear hfz9_0
    try clear hfz9_1
    try clear hfz9_2
    try clear hx173_0
    try clear hx173_1
    try clear hx173_2
    try clear hx173_3
    try clear p173
    try clear p2
    try clear q173
    obtain ⟨kq, x172000_22, x172001_22, x172002_22, x172003_22, HA, HJ22, BK169, BK171, HB⟩ := hcut
    cases kq with
    | zero => exact absurd HA.out (by simp [impl_look.j1])
    | succ kj22 =>
      have H := HA.out
      clear HA
      simp only [impl_look.j1] at H
      by_cases c35 : a2 = (wrap64 (x172001_22 + 1))
      · rw [if_pos c35] at H
        have c35b0 : (a2 == (wrap64 (x172001_22 + 1))) = true := beq_iff_eq.mpr c35
        have c35b1 : (a2 != (wrap64 (x172001_22 + 1))) = false := bne_eq_false_iff_eq.mpr c35
        clear c35
        simp only [Option.some.injEq, Prod.mk.injEq] at H
        obtain ⟨rfl, rfl⟩ := H
        have hnb36 := NB171_169.out
        have hnc36 := NB169_171.out
        have hcz37_0 : wc.cell? ⟨gb171, 0, none⟩ = some (.int .i64 x172000_22) := (blk_cell BK171.out 0).trans rfl
        have hcz37_1 : wc.cell? ⟨gb171, 1, none⟩ = some (.int .i64 x172001_22) := (blk_cell BK171.out 1).trans rfl
        have hcz37_2 : wc.cell? ⟨gb171, 2, none⟩ = some (.int .i64 x172002_22) := (blk_cell BK171.out 2).trans rfl
        have hcz37_3 : wc.cell? ⟨gb171, 3, none⟩ = some (.string x172003_22) := (blk_cell BK171.out 3).trans rfl
        have hfz37_0 := blk_frozen BK171.out 0
        have hfz37_1 := blk_frozen BK171.out 1
        have hfz37_2 := blk_frozen BK171.out 2
        have hfz37_3 := blk_frozen BK171.out 3
        go_wp2
        repeat (go_quiet (fail); try go_wp2)
        go_ret2
        exact ⟨by first | rfl | (simp [errW_none, errW_some] <;> rfl) | (simp [*, errW_none, errW_some] <;> rfl), u6_3⟩
      rw [if_neg c35] at H
      have c35b0 : (a2 == (wrap64 (x172001_22 + 1))) = false := beq_eq_false_iff_ne.mpr c35
      have c35b1 : (a2 != (wrap64 (x172001_22 + 1))) = true := bne_iff_ne.mpr c35
      by_cases c38 : a2 = x172001_22
      · rw [if_pos c38] at H
        have c38b0 : (a2 == x172001_22) = true := beq_iff_eq.mpr c38
        have c38b1 : (a2 != x172001_22) = false := bne_eq_false_iff_eq.mpr c38
        clear c38
        simp only [Option.some.injEq, Prod.mk.injEq] at H
        obtain ⟨rfl, rfl⟩ := H
        have hnb39 := NB171_169.out
        have hnc39 := NB169_171.out
        have hcz40_0 : wc.cell? ⟨gb171, 0, none⟩ = some (.int .i64 x172000_22) := (blk_cell BK171.out 0).trans rfl
        have hcz40_1 : wc.cell? ⟨gb171, 1, none⟩ = some (.int .i64 x172001_22) := (blk_cell BK171.out 1).trans rfl
        have hcz40_2 : wc.cell? ⟨gb171, 2, none⟩ = some (.int .i64 x172002_22) := (blk_cell BK171.out 2).trans rfl
        have hcz40_3 : wc.cell? ⟨gb171, 3, none⟩ = some (.string x172003_22) := (blk_cell BK171.out 3).trans rfl
        have hfz40_0 := blk_frozen BK171.out 0
        have hfz40_1 := blk_frozen BK171.out 1
        have hfz40_2 := blk_frozen BK171.out 2
        have hfz40_3 := blk_frozen BK171.out 3
        go_wp2
        repeat (go_quiet (fail); try go_wp2)
        go_ret2
        exact ⟨by first | rfl | (simp [errW_none, errW_some] <;> rfl) | (simp [*, errW_none, errW_some] <;> rfl), u6_3⟩
      rw [if_neg c38] at H
      have c38b0 : (a2 == x172001_22) = false := beq_eq_false_iff_ne.mpr c38
      have c38b1 : (a2 != x172001_22) = true := bne_iff_ne.mpr c38
      by_cases c41 : a2 < x172001_22
      · rw [if_pos c41] at H
        have c41b0 : decide (a2 < x172001_22) = true := decide_eq_true c41
        clear c41
        simp only [Option.some.injEq, Prod.mk.injEq] at H
        obtain ⟨rfl, rfl⟩ := H
        have hnb42 := NB171_169.out
        have hnc42 := NB169_171.out
        have hcz43_0 : wc.cell? ⟨gb171, 0, none⟩ = some (.int .i64 x172000_22) := (blk_cell BK171.out 0).trans rfl
        have hcz43_1 : wc.cell? ⟨gb171, 1, none⟩ = some (.int .i64 x172001_22) := (blk_cell BK171.out 1).trans rfl
        have hcz43_2 : wc.cell? ⟨gb171, 2, none⟩ = some (.int .i64 x172002_22) := (blk_cell BK171.out 2).trans rfl
        have hcz43_3 : wc.cell? ⟨gb171, 3, none⟩ = some (.string x172003_22) := (blk_cell BK171.out 3).trans rfl
        have hfz43_0 := blk_frozen BK171.out 0
        have hfz43_1 := blk_frozen BK171.out 1
        have hfz43_2 := blk_frozen BK171.out 2
        have hfz43_3 := blk_frozen BK171.out 3
        go_wp2
        repeat (go_quiet (fail); try go_wp2)
        go_ret2
        exact ⟨by first | rfl | (simp [errW_none, errW_some] <;> rfl) | (simp [*, errW_none, errW_some] <;> rfl), u6_3⟩
      rw [if_neg c41] at H
      have c41b0 : decide (a2 < x172001_22) = false := decide_eq_false c41
      clear c41
      simp only [Option.some.injEq, Prod.mk.injEq] at H
      obtain ⟨rfl, rfl⟩ := H
      have hnb44 := NB171_169.out
      have hnc44 := NB169_171.out
      have hcz45_0 : wc.cell? ⟨gb171, 0, none⟩ = some (.int .i64 x172000_22) := (blk_cell BK171.out 0).trans rfl
      have hcz45_1 : wc.cell? ⟨gb171, 1, none⟩ = some (.int .i64 x172001_22) := (blk_cell BK171.out 1).trans rfl
      have hcz45_2 : wc.cell? ⟨gb171, 2, none⟩ = some (.int .i64 x172002_22) := (blk_cell BK171.out 2).trans rfl
      have hcz45_3 : wc.cell? ⟨gb171, 3, none⟩ = some (.string x172003_22) := (blk_cell BK171.out 3).trans rfl
      have hfz45_0 := blk_frozen BK171.out 0
      have hfz45_1 := blk_frozen BK171.out 1
      have hfz45_2 := blk_frozen BK171.out 2
      have hfz45_3 := blk_frozen BK171.out 3
      go_wp2
      repeat (go_quiet (fail); try go_wp2)
      go_ret2
      exact ⟨by first | rfl | (simp [errW_none, errW_some] <;> rfl) | (simp [*, errW_none, errW_some] <;> rfl), u6_3⟩

/-! ### impl_Look: function 13 -/
def impl_Look.f (k : Nat) (a0_0 : Int) (a0_1 : Int) (l0_2 : List (S45)) (a1 : Int) (a2 : Int) : Option (Int × ByteArray) := (impl_look.f k a0_0 a0_1 l0_2 a1 a2).bind fun bt175 => (some (bt175.1, bt175.2))
theorem impl_Look.mono : ∀ a0 a1 a2 a3 a4 k, LeO (impl_Look.f k a0 a1 a2 a3 a4) (impl_Look.f (k + 1) a0 a1 a2 a3 a4) := by
  intro a0 a1 a2 a3 a4 k
  unfold impl_Look.f
  repeat' first
      | (with_reducible exact impl_look.mono _ _ _ _ _ _)
      | (with_reducible exact LeO.refl _)
      | (with_reducible exact LeO.none _)
      | (with_reducible refine LeO.ite ?_ ?_)
      | (with_reducible refine LeO.bind ?_ (fun _ => ?_))
      | exact impl_look.mono _ _ _ _ _ _
      | exact LeO.none _
      | refine LeO.ite ?_ ?_
      | refine LeO.bind ?_ (fun _ => ?_)
set_option maxHeartbeats 8000000 in
set_option maxRecDepth 100000 in
theorem impl_Look.calls (k : Nat) (a0_0 : Int) (a0_1 : Int) (A0_2 : Option Addr) (c0_2 : Nat) (l0_2 : List (S45)) (a1 : Int) (a2 : Int) (r1 : Int) (r2 : ByteArray) (w : World) (hr0_2 : Kd.C k45 w A0_2 l0_2.length l0_2) (hc0_2 : l0_2.length ≤ c0_2) (h : impl_Look.f k a0_0 a0_1 l0_2 a1 a2 = some (r1, r2)) :
    Calls Try.prog 13 #[.agg #[.int .i64 a0_0, .int .i64 a0_1, .slice A0_2 l0_2.length c0_2], .int .i64 a1, .int .i64 a2] w fun e w' => e = .returned (.tuple #[.int .i64 r1, .string r2]) ∧ Below w.heap.size w w' := by
  have hu29 := Try.underlying29
  have HR0_2 := Aside0.mk hr0_2
  have HC0_2 := Aside0.mk hc0_2
  clear hr0_2 hc0_2
  have HB := Aside0.mk (Below.refl w.heap.size w)
  have H : ((impl_look.f k a0_0 a0_1 l0_2 a1 a2).bind fun bt175 => (some (bt175.1, bt175.2))) = some (r1, r2) := h
  clear h
  replace H := Option.bind_eq_some_iff.mp H
  obtain ⟨⟨t175, t176⟩, A40, H⟩ := H
  replace H : (some (t175, t176)) = some (r1, r2) := H
  have A4 := Aside0.mk A40
  clear A40
  simp only [Option.some.injEq, Prod.mk.injEq] at H
  obtain ⟨rfl, rfl⟩ := H
  go_enter Try.func13, Try.ntmps13
  go_wp2_with (first | ((with_reducible refine gate_dst (N := 3) rfl ?_); refine box_event ?hg (N := 3) ?hd (cs := #[.int .i64 a0_0, .int .i64 a0_1, .slice A0_2 l0_2.length c0_2]) (t := 29) ?hr ?_; (case hd => rfl); (case hg => rfl); (case hr => first | (go_simp; done) | (go_simp; rfl)); intro gb174 hg w5 hbox hb; have n0_ := Aside0.mk (below_step u6_6 hb); have n1_ := Aside0.mk (hbox); have n2_ := Aside0.mk ((by rw [hg]; exact (below_size u6_6) : w.heap.size ≤ gb174)); have n3_ := Aside0.mk ((by rw [hg]; exact (below_size u6_6) : w.heap.size ≤ gb174)); clear HB; have HB := n0_; have BK174 := n1_; have GW174 := n2_; have GE174 := n3_; clear n0_ n1_ n2_ n3_; clear hb hbox hg; have hcz6_0 : w5.cell? ⟨gb174, 0, none⟩ = some (.int .i64 a0_0) := (blk_cell BK174.out 0).trans rfl; have hcz6_1 : w5.cell? ⟨gb174, 1, none⟩ = some (.int .i64 a0_1) := (blk_cell BK174.out 1).trans rfl; have hcz6_2 : w5.cell? ⟨gb174, 2, none⟩ = some (.slice A0_2 l0_2.length c0_2) := (blk_cell BK174.out 2).trans rfl; have hfz6_0 := blk_frozen BK174.out 0; have hfz6_1 := blk_frozen BK174.out 1; have hfz6_2 := blk_frozen BK174.out 2) | ((with_reducible refine gate_callee (f := 26) rfl ?_); refine goesL_ (some 11) rfl rfl Try.func26 (by kernel_rfl) rfl #[.agg #[.int .i64 a0_0, .int .i64 a0_1, .slice A0_2 l0_2.length c0_2], .int .i64 a1, .int .i64 a2] rfl u6_8 ?_; (with_reducible refine (impl_look.calls k a0_0 a0_1 _ _ l0_2 a1 a2 t175 t176 _ ?side1 ?side2 A4.out).mono ?_); (case side1 => exact u6_2); (case side2 => exact HC0_2.out); rintro e w7 ⟨rfl, hb⟩; refine ⟨_, rfl, ?_⟩; have n0_ := Aside0.mk (blk_below (g := gb174) (o := .cells #[.int .i64 a0_0, .int .i64 a0_1, .slice A0_2 l0_2.length c0_2] 29 (0, 0)) (by (with_reducible repeat (first | refine blk_drewN ?_ _ | refine blk_drew ?_ | refine blk_alloc ?_ _)); exact BK174.out) hb); have n1_ := Aside0.mk (below_step u6_15 hb); clear BK174; clear HB; have BK174 := n0_; have HB := n1_; clear n0_ n1_; (try clear hb); (try clear hb2); (try clear hk); (try clear hi)))
  go_ret2
  exact ⟨by first | rfl | (simp [errW_none, errW_some] <;> rfl) | (simp [*, errW_none, errW_some] <;> rfl), u6_15⟩

/-! ### laws_FnExactLook: function 4 -/
def laws_FnExactLook.f (k : Nat) (a0_0 : Int) (a0_1 : Int) (l0_2 : List (S54)) (a1 : Int) (a2 : Int) : Option (Bool) := (laws_szSessions.f k a0_0 a0_1 l0_2 1048576).bind fun t178 => (if t178 < 0 then (some true) else ((laws_toSessions.f k a0_0 a0_1 l0_2).bind fun bt179 => ((spec_Look.f k bt179.1 bt179.2.1 bt179.2.2 a1 a2).bind fun bt184 => ((laws_toSessions.f k a0_0 a0_1 l0_2).bind fun bt186 => ((impl_Look.f k bt186.1 bt186.2.1 bt186.2.2 a1 a2).bind fun bt192 => (if bt192.1 = bt184.1 then (if bt192.2.toList = bt184.2.toList then ((laws_toSessions.f k a0_0 a0_1 l0_2).bind fun bt194 => ((laws_eqSessions.f k bt186.1 bt186.2.1 bt186.2.2 bt194.1 bt194.2.1 bt194.2.2).bind fun t199 => (if t199 = true then (some true) else (some false)))) else (some false)) else (some false)))))))
theorem laws_FnExactLook.mono : ∀ a0 a1 a2 a3 a4 k, LeO (laws_FnExactLook.f k a0 a1 a2 a3 a4) (laws_FnExactLook.f (k + 1) a0 a1 a2 a3 a4) := by
  intro a0 a1 a2 a3 a4 k
  unfold laws_FnExactLook.f
  repeat' first
      | (with_reducible exact impl_Look.mono _ _ _ _ _ _)
      | (with_reducible exact laws_eqSessions.mono _ _ _ _ _ _ _)
      | (with_reducible exact laws_szSessions.mono _ _ _ _ _)
      | (with_reducible exact laws_toSessions.mono _ _ _ _)
      | (with_reducible exact spec_Look.mono _ _ _ _ _ _)
      | (with_reducible exact LeO.refl _)
      | (with_reducible exact LeO.none _)
      | (with_reducible refine LeO.ite ?_ ?_)
      | (with_reducible refine LeO.bind ?_ (fun _ => ?_))
      | exact impl_Look.mono _ _ _ _ _ _
      | exact laws_eqSessions.mono _ _ _ _ _ _ _
      | exact laws_szSessions.mono _ _ _ _ _
      | exact laws_toSessions.mono _ _ _ _
      | exact spec_Look.mono _ _ _ _ _ _
      | exact LeO.none _
      | refine LeO.ite ?_ ?_
      | refine LeO.bind ?_ (fun _ => ?_)
set_option maxHeartbeats 8000000 in
set_option maxRecDepth 100000 in
theorem laws_FnExactLook.calls (k : Nat) (a0_0 : Int) (a0_1 : Int) (A0_2 : Option Addr) (c0_2 : Nat) (l0_2 : List (S54)) (a1 : Int) (a2 : Int) (r : Bool) (w : World) (hr0_2 : Kd.C k54 w A0_2 l0_2.length l0_2) (hc0_2 : l0_2.length ≤ c0_2) (h : laws_FnExactLook.f k a0_0 a0_1 l0_2 a1 a2 = some r) (hr_ : Aside0 (r = true)) :
    Calls Try.prog 4 #[.agg #[.int .i64 a0_0, .int .i64 a0_1, .slice A0_2 l0_2.length c0_2], .int .i64 a1, .int .i64 a2] w fun e w' => e = .returned (.bool r) ∧ Below w.heap.size w w' := by
  have hu24 := Try.underlying24
  have hu29 := Try.underlying29
  have HR0_2 := Aside0.mk hr0_2
  have HC0_2 := Aside0.mk hc0_2
  clear hr0_2 hc0_2
  have HB := Aside0.mk (Below.refl w.heap.size w)
  have H : ((laws_szSessions.f k a0_0 a0_1 l0_2 1048576).bind fun t178 => (if t178 < 0 then (some true) else ((laws_toSessions.f k a0_0 a0_1 l0_2).bind fun bt179 => ((spec_Look.f k bt179.1 bt179.2.1 bt179.2.2 a1 a2).bind fun bt184 => ((laws_toSessions.f k a0_0 a0_1 l0_2).bind fun bt186 => ((impl_Look.f k bt186.1 bt186.2.1 bt186.2.2 a1 a2).bind fun bt192 => (if bt192.1 = bt184.1 then (if bt192.2.toList = bt184.2.toList then ((laws_toSessions.f k a0_0 a0_1 l0_2).bind fun bt194 => ((laws_eqSessions.f k bt186.1 bt186.2.1 bt186.2.2 bt194.1 bt194.2.1 bt194.2.2).bind fun t199 => (if t199 = true then (some true) else (some false)))) else (some false)) else (some false)))))))) = some r := h
  clear h
  replace H := Option.bind_eq_some_iff.mp H
  obtain ⟨t178, A40, H⟩ := H
  replace H : (if t178 < 0 then (some true) else ((laws_toSessions.f k a0_0 a0_1 l0_2).bind fun bt179 => ((spec_Look.f k bt179.1 bt179.2.1 bt179.2.2 a1 a2).bind fun bt184 => ((laws_toSessions.f k a0_0 a0_1 l0_2).bind fun bt186 => ((impl_Look.f k bt186.1 bt186.2.1 bt186.2.2 a1 a2).bind fun bt192 => (if bt192.1 = bt184.1 then (if bt192.2.toList = bt184.2.toList then ((laws_toSessions.f k a0_0 a0_1 l0_2).bind fun bt194 => ((laws_eqSessions.f k bt186.1 bt186.2.1 bt186.2.2 bt194.1 bt194.2.1 bt194.2.2).bind fun t199 => (if t199 = true then (some true) else (some false)))) else (some false)) else (some false))))))) = some r := H
  have A4 := Aside0.mk A40
  clear A40
  have H9 := Aside0.mk H
  clear H
  go_enter Try.func4, Try.ntmps4
  go_upto_if 17 with (first | ((with_reducible refine gate_dst (N := 3) rfl ?_); refine box_event ?hg (N := 3) ?hd (cs := #[.int .i64 a0_0, .int .i64 a0_1, .slice A0_2 l0_2.length c0_2]) (t := 24) ?hr ?_; (case hd => rfl); (case hg => rfl); (case hr => first | (go_simp; done) | (go_simp; rfl)); intro gb177 hg w5 hbox hb; have n0_ := Aside0.mk (below_step u6_6 hb); have n1_ := Aside0.mk (hbox); have n2_ := Aside0.mk ((by rw [hg]; exact (below_size u6_6) : w.heap.size ≤ gb177)); have n3_ := Aside0.mk ((by rw [hg]; exact (below_size u6_6) : w.heap.size ≤ gb177)); clear HB; have HB := n0_; have BK177 := n1_; have GW177 := n2_; have GE177 := n3_; clear n0_ n1_ n2_ n3_; clear hb hbox hg; have hcz6_0 : w5.cell? ⟨gb177, 0, none⟩ = some (.int .i64 a0_0) := (blk_cell BK177.out 0).trans rfl; have hcz6_1 : w5.cell? ⟨gb177, 1, none⟩ = some (.int .i64 a0_1) := (blk_cell BK177.out 1).trans rfl; have hcz6_2 : w5.cell? ⟨gb177, 2, none⟩ = some (.slice A0_2 l0_2.length c0_2) := (blk_cell BK177.out 2).trans rfl; have hfz6_0 := blk_frozen BK177.out 0; have hfz6_1 := blk_frozen BK177.out 1; have hfz6_2 := blk_frozen BK177.out 2) | ((with_reducible refine gate_callee (f := 7) rfl ?_); refine goesL_ (some 15) rfl rfl Try.func7 (by kernel_rfl) rfl #[.agg #[.int .i64 a0_0, .int .i64 a0_1, .slice A0_2 l0_2.length c0_2], .int .i64 1048576] rfl u6_8 ?_; (with_reducible refine (laws_szSessions.calls k a0_0 a0_1 _ _ l0_2 1048576 t178 _ ?side1 ?side2 A4.out).mono ?_); (case side1 => exact u6_2); (case side2 => exact HC0_2.out); rintro e w7 ⟨rfl, hb⟩; refine ⟨_, rfl, ?_⟩; have n0_ := Aside0.mk (blk_below (g := gb177) (o := .cells #[.int .i64 a0_0, .int .i64 a0_1, .slice A0_2 l0_2.length c0_2] 24 (0, 0)) u6_9 hb); have n1_ := Aside0.mk (below_step u6_7 hb); clear BK177; clear HB; have BK177 := n0_; have HB := n1_; clear n0_ n1_; (try clear hb); (try clear hb2); (try clear hk); (try clear hi)))
  have H := H9.out
  clear H9
  by_cases c8 : t178 < 0
  · rw [if_pos c8] at H
    have c8b0 : decide (t178 < 0) = true := decide_eq_true c8
    clear c8
    (first | rw [c8b0] | (simp only [i64_w, i32_w]; rw [c8b0]) | skip)
    obtain rfl := Option.some.inj H
    go_wp2
    go_ret
    exact ⟨by first | rfl | (simp [errW_none, errW_some] <;> rfl) | (simp [*, errW_none, errW_some] <;> rfl), u6_7⟩
  rw [if_neg c8] at H
  have c8b0 : decide (t178 < 0) = false := decide_eq_false c8
  clear c8
  (first | rw [c8b0] | (simp only [i64_w, i32_w]; rw [c8b0]) | skip)
  replace H := Option.bind_eq_some_iff.mp H
  obtain ⟨⟨t179, t180, t181⟩, A90, H⟩ := H
  replace H : ((spec_Look.f k t179 t180 t181 a1 a2).bind fun bt184 => ((laws_toSessions.f k a0_0 a0_1 l0_2).bind fun bt186 => ((impl_Look.f k bt186.1 bt186.2.1 bt186.2.2 a1 a2).bind fun bt192 => (if bt192.1 = bt184.1 then (if bt192.2.toList = bt184.2.toList then ((laws_toSessions.f k a0_0 a0_1 l0_2).bind fun bt194 => ((laws_eqSessions.f k bt186.1 bt186.2.1 bt186.2.2 bt194.1 bt194.2.1 bt194.2.2).bind fun t199 => (if t199 = true then (some true) else (some false)))) else (some false)) else (some false))))) = some r := H
  have A9 := Aside0.mk A90
  clear A90
  replace H := Option.bind_eq_some_iff.mp H
  obtain ⟨⟨t184, t185⟩, A100, H⟩ := H
  replace H : ((laws_toSessions.f k a0_0 a0_1 l0_2).bind fun bt186 => ((impl_Look.f k bt186.1 bt186.2.1 bt186.2.2 a1 a2).bind fun bt192 => (if bt192.1 = t184 then (if bt192.2.toList = t185.toList then ((laws_toSessions.f k a0_0 a0_1 l0_2).bind fun bt194 => ((laws_eqSessions.f k bt186.1 bt186.2.1 bt186.2.2 bt194.1 bt194.2.1 bt194.2.2).bind fun t199 => (if t199 = true then (some true) else (some false)))) else (some false)) else (some false)))) = some r := H
  have A10 := Aside0.mk A100
  clear A100
  replace H := Option.bind_eq_some_iff.mp H
  obtain ⟨⟨t186, t187, t188⟩, A110, H⟩ := H
  replace H : ((impl_Look.f k t186 t187 t188 a1 a2).bind fun bt192 => (if bt192.1 = t184 then (if bt192.2.toList = t185.toList then ((laws_toSessions.f k a0_0 a0_1 l0_2).bind fun bt194 => ((laws_eqSessions.f k t186 t187 t188 bt194.1 bt194.2.1 bt194.2.2).bind fun t199 => (if t199 = true then (some true) else (some false)))) else (some false)) else (some false))) = some r := H
  have A11 := Aside0.mk A110
  clear A110
  replace H := Option.bind_eq_some_iff.mp H
  obtain ⟨⟨t192, t193⟩, A120, H⟩ := H
  replace H : (if t192 = t184 then (if t193.toList = t185.toList then ((laws_toSessions.f k a0_0 a0_1 l0_2).bind fun bt194 => ((laws_eqSessions.f k t186 t187 t188 bt194.1 bt194.2.1 bt194.2.2).bind fun t199 => (if t199 = true then (some true) else (some false)))) else (some false)) else (some false)) = some r := H
  have A12 := Aside0.mk A120
  clear A120
  by_cases c13 : t192 = t184
  rotate_left
  · rw [if_neg c13] at H
    have c13b0 : (t192 == t184) = false := beq_eq_false_iff_ne.mpr c13
    have c13b1 : (t192 != t184) = true := bne_iff_ne.mpr c13
    exact absurd ((Option.some.inj H).trans hr_.out) (by decide)
  rw [if_pos c13] at H
  have c13b0 : (t192 == t184) = true := beq_iff_eq.mpr c13
  have c13b1 : (t192 != t184) = false := bne_eq_false_iff_eq.mpr c13
  clear c13
  by_cases c14 : t193.toList = t185.toList
  rotate_left
  · rw [if_neg c14] at H
    have c14b0 : (t193.toList == t185.toList) = false := beq_eq_false_iff_ne.mpr c14
    have c14b1 : (t193.toList != t185.toList) = true := bne_iff_ne.mpr c14
    exact absurd ((Option.some.inj H).trans hr_.out) (by decide)
  rw [if_pos c14] at H
  have c14b0 : (t193.toList == t185.toList) = true := beq_iff_eq.mpr c14
  have c14b1 : (t193.toList != t185.toList) = false := bne_eq_false_iff_eq.mpr c14
  clear c14
  replace H := Option.bind_eq_some_iff.mp H
  obtain ⟨⟨t194, t195, t196⟩, A150, H⟩ := H
  replace H : ((laws_eqSessions.f k t186 t187 t188 t194 t195 t196).bind fun t199 => (if t199 = true then (some true) else (some false))) = some r := H
  have A15 := Aside0.mk A150
  clear A150
  replace H := Option.bind_eq_some_iff.mp H
  obtain ⟨t199, A160, H⟩ := H
  replace H : (if t199 = true then (some true) else (some false)) = some r := H
  have A16 := Aside0.mk A160
  clear A160
  by_cases c17 : t199 = true
  rotate_left
  · replace c17 := Bool.eq_false_iff.mpr c17
    subst c17
    have H1 : (some false) = some r := by rw [if_neg (show ¬ (false = true) by decide)] at H; exact H
    clear H
    have H := H1
    clear H1
    exact absurd ((Option.some.inj H).trans hr_.out) (by decide)
  subst c17
  have H1 : (some true) = some r := by rw [if_pos rfl] at H; exact H
  clear H
  have H := H1
  clear H1
  obtain rfl := Option.some.inj H
  have hcz18_0 : w7.cell? ⟨gb177, 0, none⟩ = some (.int .i64 a0_0) := (blk_cell BK177.out 0).trans rfl
  have hcz18_1 : w7.cell? ⟨gb177, 1, none⟩ = some (.int .i64 a0_1) := (blk_cell BK177.out 1).trans rfl
  have hcz18_2 : w7.cell? ⟨gb177, 2, none⟩ = some (.slice A0_2 l0_2.length c0_2) := (blk_cell BK177.out 2).trans rfl
  have hfz18_0 := blk_frozen BK177.out 0
  have hfz18_1 := blk_frozen BK177.out 1
  have hfz18_2 := blk_frozen BK177.out 2
  try go_wp2_with (first | ((with_reducible refine gate_callee (f := 9) rfl ?_); refine goesL_ (some 20) rfl rfl Try.func9 (by kernel_rfl) rfl #[.agg #[.int .i64 a0_0, .int .i64 a0_1, .slice A0_2 l0_2.length c0_2]] rfl u6_8 ?_; (with_reducible refine (laws_toSessions.calls k a0_0 a0_1 _ _ l0_2 t179 t180 t181 _ ?side1 ?side2 A9.out).mono ?_); (case side1 => exact u6_2); (case side2 => exact HC0_2.out); rintro e w19 ⟨v182, rfl, ho0, hb⟩; refine ⟨_, rfl, ?_⟩; have n0_ := Aside0.mk (Kd.R_lower ho0 (below_size u6_7)); have n1_ := Aside0.mk (blk_below (g := gb177) (o := .cells #[.int .i64 a0_0, .int .i64 a0_1, .slice A0_2 l0_2.length c0_2] 24 (0, 0)) u6_9 hb); have n2_ := Aside0.mk (below_step u6_7 hb); clear BK177; clear HB; have HO183 := n0_; have BK177 := n1_; have HB := n2_; clear n0_ n1_ n2_; (try clear hb); (try clear hb2); (try clear hk); (try clear hi); (try clear ho0); obtain ⟨Ao20, co20, eo20⟩ := Kd.R_slice HO183.out; subst eo20) | ((with_reducible refine gate_callee (f := 12) rfl ?_); refine goesL_ (some 23) rfl rfl Try.func12 (by kernel_rfl) rfl #[.agg #[.int .i64 t179, .int .i64 t180, .slice Ao20 t181.length co20], .int .i64 a1, .int .i64 a2] rfl u6_8 ?_; (with_reducible refine (spec_Look.calls k t179 t180 _ _ t181 a1 a2 t184 t185 _ ?side1 ?side2 A10.out).mono ?_); (case side1 => exact (by repeat (first | exact (Kd.R_reads' HO183.out).2.2 | (with_reducible refine Kd.C_alloc ?_ _) | (with_reducible refine Kd.C_drewN ?_ _) | (with_reducible refine Kd.C_drew ?_)))); (case side2 => exact (Kd.R_reads' HO183.out).2.1); rintro e w21 ⟨rfl, hb⟩; refine ⟨_, rfl, ?_⟩; have n0_ := Aside0.mk (Kd.R_below u6_11 hb); have n1_ := Aside0.mk (blk_below (g := gb177) (o := .cells #[.int .i64 a0_0, .int .i64 a0_1, .slice A0_2 l0_2.length c0_2] 24 (0, 0)) u6_9 hb); have n2_ := Aside0.mk (below_step u6_7 hb); clear HO183; clear BK177; clear HB; have HO183 := n0_; have BK177 := n1_; have HB := n2_; clear n0_ n1_ n2_; (try clear hb); (try clear hb2); (try clear hk); (try clear hi); have hcz22_0 : w21.cell? ⟨gb177, 0, none⟩ = some (.int .i64 a0_0) := (blk_cell BK177.out 0).trans rfl; have hcz22_1 : w21.cell? ⟨gb177, 1, none⟩ = some (.int .i64 a0_1) := (blk_cell BK177.out 1).trans rfl; have hcz22_2 : w21.cell? ⟨gb177, 2, none⟩ = some (.slice A0_2 l0_2.length c0_2) := (blk_cell BK177.out 2).trans rfl; have hfz22_0 := blk_frozen BK177.out 0; have hfz22_1 := blk_frozen BK177.out 1; have hfz22_2 := blk_frozen BK177.out 2) | ((with_reducible refine gate_callee (f := 9) rfl ?_); refine goesL_ (some 27) rfl rfl Try.func9 (by kernel_rfl) rfl #[.agg #[.int .i64 a0_0, .int .i64 a0_1, .slice A0_2 l0_2.length c0_2]] rfl u6_8 ?_; (with_reducible refine (laws_toSessions.calls k a0_0 a0_1 _ _ l0_2 t186 t187 t188 _ ?side1 ?side2 A11.out).mono ?_); (case side1 => exact u6_2); (case side2 => exact HC0_2.out); rintro e w23 ⟨v189, rfl, ho0, hb⟩; refine ⟨_, rfl, ?_⟩; have n0_ := Aside0.mk (Kd.R_elder' u6_11 (Kd.R_base ho0) hb); have n1_ := Aside0.mk (Kd.R_lower (Kd.R_new' ho0 (Kd.R_lt u6_11)) (below_size u6_7)); have n2_ := Aside0.mk (blk_below (g := gb177) (o := .cells #[.int .i64 a0_0, .int .i64 a0_1, .slice A0_2 l0_2.length c0_2] 24 (0, 0)) u6_9 hb); have n3_ := Aside0.mk (below_step u6_7 hb); clear HO183; clear BK177; clear HB; have HO183 := n0_; have HO190 := n1_; have BK177 := n2_; have HB := n3_; clear n0_ n1_ n2_ n3_; (try clear hb); (try clear hb2); (try clear hk); (try clear hi); (try clear ho0)) | ((with_reducible refine gate_dst (N := 10) rfl ?_); refine box_event ?hg (N := 10) ?hd (cs := #[.int .i64 0, .int .i64 0, .slice none 0 0]) (t := 29) ?hr ?_; (case hd => rfl); (case hg => rfl); (case hr => first | (go_simp; done) | (go_simp; rfl)); intro gb191 hg w24 hbox hb; have n0_ := Aside0.mk (Kd.R_below u6_11 hb); have n1_ := Aside0.mk (Kd.R_below u6_13 hb); have n2_ := Aside0.mk (blk_below (g := gb177) (o := .cells #[.int .i64 a0_0, .int .i64 a0_1, .slice A0_2 l0_2.length c0_2] 24 (0, 0)) u6_9 hb); have n3_ := Aside0.mk (below_step u6_7 hb); have n4_ := Aside0.mk (hbox); have n5_ := Aside0.mk ((by rw [hg]; exact (below_size u6_7) : w.heap.size ≤ gb191)); have n6_ := Aside0.mk ((by rw [hg]; exact (below_size u6_7) : w.heap.size ≤ gb191)); have n7_ := Aside0.mk ((by rw [hg]; exact Nat.ne_of_lt (blk_lt (g := gb177) (o := .cells #[.int .i64 a0_0, .int .i64 a0_1, .slice A0_2 l0_2.length c0_2] 24 (0, 0)) u6_9) : gb177 ≠ gb191)); have n8_ := Aside0.mk ((by rw [hg]; exact Nat.ne_of_gt (blk_lt (g := gb177) (o := .cells #[.int .i64 a0_0, .int .i64 a0_1, .slice A0_2 l0_2.length c0_2] 24 (0, 0)) u6_9) : gb191 ≠ gb177)); clear HO183; clear HO190; clear BK177; clear HB; have HO183 := n0_; have HO190 := n1_; have BK177 := n2_; have HB := n3_; have BK191 := n4_; have GW191 := n5_; have GE191 := n6_; have NB177_191 := n7_; have NB191_177 := n8_; clear n0_ n1_ n2_ n3_ n4_ n5_ n6_ n7_ n8_; clear hb hbox hg; have hnb25 := NB191_177.out; have hnc25 := NB177_191.out; have hcz26_0 : w24.cell? ⟨gb191, 0, none⟩ = some (.int .i64 0) := (blk_cell BK191.out 0).trans rfl; have hcz26_1 : w24.cell? ⟨gb191, 1, none⟩ = some (.int .i64 0) := (blk_cell BK191.out 1).trans rfl; have hcz26_2 : w24.cell? ⟨gb191, 2, none⟩ = some (.slice none 0 0) := (blk_cell BK191.out 2).trans rfl; have hfz26_0 := blk_frozen BK191.out 0; have hfz26_1 := blk_frozen BK191.out 1; have hfz26_2 := blk_frozen BK191.out 2; obtain ⟨Ao27, co27, eo27⟩ := Kd.R_slice HO190.out; subst eo27) | ((with_reducible refine gate_callee (f := 13) rfl ?_); refine goesL_ (some 32) rfl rfl Try.func13 (by kernel_rfl) rfl #[.agg #[.int .i64 t186, .int .i64 t187, .slice Ao27 t188.length co27], .int .i64 a1, .int .i64 a2] rfl u6_8 ?_; (with_reducible refine (impl_Look.calls k t186 t187 _ _ t188 a1 a2 t192 t193 _ ?side1 ?side2 A12.out).mono ?_); (case side1 => exact (by refine (Kd.R_reads' (e := 45) (base := w.heap.size) (ok := fun k_ => (True ∧ some k_ ≠ (.slice Ao20 t181.length co20 : Value).ownBlock)) (n := t188.length) (c := co27) ?_).2.2; exact u6_12)); (case side2 => exact (Kd.R_reads' HO190.out).2.1); rintro e w28 ⟨rfl, hb⟩; refine ⟨_, rfl, ?_⟩; have n0_ := Aside0.mk (Kd.R_below (by (with_reducible repeat (first | apply Kd.R_alloc | apply Kd.R_drewN | apply Kd.R_drew)); exact (Kd.R_mono (Kd.R_far (p := ⟨gb191, 2, none⟩) (Kd.R_far (p := ⟨gb191, 1, none⟩) (Kd.R_far (p := ⟨gb191, 0, none⟩) (Kd.R_types HO183.out BK191.out (by decide)) (fun _ hk => hk.2) (.int .i64 t186)) (fun _ hk => hk.2) (.int .i64 t187)) (fun _ hk => hk.2) (.slice Ao27 t188.length co27)) (fun _ h_ => h_.1))) hb); have n1_ := Aside0.mk (Kd.R_below u6_12 hb); have n2_ := Aside0.mk (blk_below (g := gb177) (o := .cells #[.int .i64 a0_0, .int .i64 a0_1, .slice A0_2 l0_2.length c0_2] 24 (0, 0)) (by (with_reducible repeat (first | refine blk_drewN ?_ _ | refine blk_drew ?_ | refine blk_alloc ?_ _)); refine blk_far ?_ NB177_191.out _; (with_reducible repeat (first | refine blk_drewN ?_ _ | refine blk_drew ?_ | refine blk_alloc ?_ _)); refine blk_far ?_ NB177_191.out _; (with_reducible repeat (first | refine blk_drewN ?_ _ | refine blk_drew ?_ | refine blk_alloc ?_ _)); refine blk_far ?_ NB177_191.out _; (with_reducible repeat (first | refine blk_drewN ?_ _ | refine blk_drew ?_ | refine blk_alloc ?_ _)); exact BK177.out) hb); have n3_ := Aside0.mk (blk_below (g := gb191) (o := .cells #[.int .i64 t186, .int .i64 t187, .slice Ao27 t188.length co27] 29 (0, 0)) (by (with_reducible repeat (first | refine blk_drewN ?_ _ | refine blk_drew ?_ | refine blk_alloc ?_ _)); refine blk_put (cs := #[.int .i64 t186, .int .i64 t187, .slice none 0 0]) ?_ 2 _ rfl; (with_reducible repeat (first | refine blk_drewN ?_ _ | refine blk_drew ?_ | refine blk_alloc ?_ _)); refine blk_put (cs := #[.int .i64 t186, .int .i64 0, .slice none 0 0]) ?_ 1 _ rfl; (with_reducible repeat (first | refine blk_drewN ?_ _ | refine blk_drew ?_ | refine blk_alloc ?_ _)); refine blk_put (cs := #[.int .i64 0, .int .i64 0, .slice none 0 0]) ?_ 0 _ rfl; (with_reducible repeat (first | refine blk_drewN ?_ _ | refine blk_drew ?_ | refine blk_alloc ?_ _)); exact BK191.out) hb); have n4_ := Aside0.mk (below_step u6_10 hb); clear HO183; clear HO190; clear BK177; clear BK191; clear HB; have HO183 := n0_; have HO190 := n1_; have BK177 := n2_; have BK191 := n3_; have HB := n4_; clear n0_ n1_ n2_ n3_ n4_; (try clear hb); (try clear hb2); (try clear hk); (try clear hi)))
  have n0_ := Aside0.mk (Kd.R_drew HO183.out)
  have n1_ := Aside0.mk (Kd.R_drew HO190.out)
  have n2_ := Aside0.mk (blk_drew BK177.out)
  have n3_ := Aside0.mk (blk_drew BK191.out)
  have n4_ := Aside0.mk (below_drew1 HB.out)
  clear HO183
  clear HO190
  clear BK177
  clear BK191
  clear HB
  have HO183 := n0_
  have HO190 := n1_
  have BK177 := n2_
  have BK191 := n3_
  have HB := n4_
  clear n0_ n1_ n2_ n3_ n4_
  refine start_ (n := 5) (S := fun w' => w'.cell? ⟨gb191, 0, none⟩ = some (.int .i64 t186) ∧ w'.cell? ⟨gb191, 1, none⟩ = some (.int .i64 t187) ∧ w'.cell? ⟨gb191, 2, none⟩ = some (.slice Ao27 t188.length co27) ∧ w'.cell? ⟨gb177, 0, none⟩ = some (.int .i64 a0_0) ∧ w'.cell? ⟨gb177, 1, none⟩ = some (.int .i64 a0_1) ∧ w'.cell? ⟨gb177, 2, none⟩ = some (.slice A0_2 l0_2.length c0_2)) (ds := []) #[false, false, false, false, false] (by kernel_rfl) rfl rfl ⟨(blk_cell BK191.out 0).trans rfl, (blk_cell BK191.out 1).trans rfl, (blk_cell BK191.out 2).trans rfl, (blk_cell BK177.out 0).trans rfl, (blk_cell BK177.out 1).trans rfl, (blk_cell BK177.out 2).trans rfl⟩ (fun hHeld => ?_)
  generalize w28.drew = w29 at HO183 HO190 BK177 BK191 HB hHeld ⊢
  refine take_ (i := 0) (N := some 43) (v := ?_) (a' := ?_) #[true, false, false, false, false] rfl rfl (by kernel_rfl) (fun _ _ _ h => h) (Or.inl ⟨by rfl, ?_⟩) hHeld ?_ ?_
  rotate_left
  · rintro w' ⟨s0, s1, s2, s3, s4, s5⟩
    go_simp
    with_reducible rfl
  rotate_left
  · simp only [Act.put, List.setIfInBounds_toArray, List.set_cons_zero, List.set_cons_succ, i64_w, i32_w]
    rfl
  refine take_ (i := 1) (N := some 44) (v := ?_) (a' := ?_) #[true, true, false, false, false] rfl rfl (by kernel_rfl) (fun _ _ _ h => h) (Or.inl ⟨by rfl, ?_⟩) hHeld ?_ ?_
  rotate_left
  · rintro w' ⟨s0, s1, s2, s3, s4, s5⟩
    go_simp
    with_reducible rfl
  rotate_left
  · simp only [Act.put, List.setIfInBounds_toArray, List.set_cons_zero, List.set_cons_succ, i64_w, i32_w]
    rfl
  refine one_ (i := 2) (N := some 45) #[true, true, true, false, false] rfl rfl (by kernel_rfl) (by decide) (fun K hK => ?_)
  refine goes_ Try.func9 (by kernel_rfl) rfl #[.agg #[.int .i64 a0_0, .int .i64 a0_1, .slice A0_2 l0_2.length c0_2]] (by rfl) rfl rfl u6_8 ?_
  with_reducible refine (laws_toSessions.calls k a0_0 a0_1 _ _ l0_2 t194 t195 t196 _ ?side1 ?side2 A15.out).mono ?_
  (case side1 => exact u6_2)
  (case side2 => exact HC0_2.out)
  rintro e w30 ⟨v197, rfl, ho0, hb⟩
  refine ⟨_, rfl, ?_⟩
  have n0_ := Aside0.mk (Kd.R_elder' u6_11 (Kd.R_base ho0) hb)
  have n1_ := Aside0.mk (Kd.R_elder' u6_13 (Kd.R_base ho0) hb)
  have n2_ := Aside0.mk (Kd.R_lower (Kd.R_new' (Kd.R_new' ho0 (Kd.R_lt u6_11)) (Kd.R_lt u6_13)) (below_size u6_10))
  have n3_ := Aside0.mk (blk_below (g := gb177) (o := .cells #[.int .i64 a0_0, .int .i64 a0_1, .slice A0_2 l0_2.length c0_2] 24 (0, 0)) u6_9 hb)
  have n4_ := Aside0.mk (blk_below (g := gb191) (o := .cells #[.int .i64 t186, .int .i64 t187, .slice Ao27 t188.length co27] 29 (0, 0)) u6_16 hb)
  have n5_ := Aside0.mk (below_step u6_10 hb)
  clear HO183
  clear HO190
  clear BK177
  clear BK191
  clear HB
  have HO183 := n0_
  have HO190 := n1_
  have HO198 := n2_
  have BK177 := n3_
  have BK191 := n4_
  have HB := n5_
  clear n0_ n1_ n2_ n3_ n4_ n5_
  (try clear hb)
  (try clear hb2)
  (try clear hk)
  (try clear hi)
  (try clear ho0)
  obtain ⟨Ao31, co31, eo31⟩ := Kd.R_slice HO198.out
  (first | subst eo31 | (injection eo31 with f1_ f2_ f3_; have f4_ := f1_.symm; have f5_ := f3_.symm; clear f1_ f2_ f3_; subst f4_; subst f5_))
  refine hK.out _ _ ⟨(blk_cell BK191.out 0).trans rfl, (blk_cell BK191.out 1).trans rfl, (blk_cell BK191.out 2).trans rfl, (blk_cell BK177.out 0).trans rfl, (blk_cell BK177.out 1).trans rfl, (blk_cell BK177.out 2).trans rfl⟩ (fun hHeld => ?_)
  clear hK K
  refine norm_ (a' := ?_) ?_ ?_
  rotate_left
  · show Act.put _ (some 45) _ = _
    simp only [Act.put, List.setIfInBounds_toArray, List.set_cons_zero, List.set_cons_succ, i64_w, i32_w]
    rfl
  refine one_ (i := 3) (N := some 46) #[true, true, true, true, false] rfl rfl (by kernel_rfl) (by decide) (fun K hK => ?_)
  refine goes_ Try.func11 (by kernel_rfl) rfl #[.agg #[.int .i64 t186, .int .i64 t187, .slice Ao27 t188.length co27], .agg #[.int .i64 t194, .int .i64 t195, .slice Ao31 t196.length co31]] (by rfl) rfl rfl u6_8 ?_
  with_reducible refine (laws_eqSessions.calls k t186 t187 _ _ t188 t194 t195 _ _ t196 true _ ?side1 ?side2 ?side3 ?side4 A16.out).mono ?_
  (case side1 => exact (by repeat (first | exact (Kd.R_reads' HO190.out).2.2 | (with_reducible refine Kd.C_alloc ?_ _) | (with_reducible refine Kd.C_drewN ?_ _) | (with_reducible refine Kd.C_drew ?_))))
  (case side2 => exact (Kd.R_reads' HO190.out).2.1)
  (case side3 => exact (by repeat (first | exact (Kd.R_reads' HO198.out).2.2 | (with_reducible refine Kd.C_alloc ?_ _) | (with_reducible refine Kd.C_drewN ?_ _) | (with_reducible refine Kd.C_drew ?_))))
  (case side4 => exact (Kd.R_reads' HO198.out).2.1)
  rintro e w32 ⟨rfl, hb⟩
  refine ⟨_, rfl, ?_⟩
  have n0_ := Aside0.mk (Kd.R_below u6_11 hb)
  have n1_ := Aside0.mk (Kd.R_below u6_13 hb)
  have n2_ := Aside0.mk (Kd.R_below (by (with_reducible repeat (first | apply Kd.R_alloc | apply Kd.R_drewN | apply Kd.R_drew)); exact HO198.out) hb)
  have n3_ := Aside0.mk (blk_below (g := gb177) (o := .cells #[.int .i64 a0_0, .int .i64 a0_1, .slice A0_2 l0_2.length c0_2] 24 (0, 0)) u6_9 hb)
  have n4_ := Aside0.mk (blk_below (g := gb191) (o := .cells #[.int .i64 t186, .int .i64 t187, .slice Ao27 t188.length co27] 29 (0, 0)) u6_16 hb)
  have n5_ := Aside0.mk (below_step u6_10 hb)
  clear HO183
  clear HO190
  clear HO198
  clear BK177
  clear BK191
  clear HB
  have HO183 := n0_
  have HO190 := n1_
  have HO198 := n2_
  have BK177 := n3_
  have BK191 := n4_
  have HB := n5_
  clear n0_ n1_ n2_ n3_ n4_ n5_
  (try clear hb)
  (try clear hb2)
  (try clear hk)
  (try clear hi)
  refine hK.out _ _ ⟨(blk_cell BK191.out 0).trans rfl, (blk_cell BK191.out 1).trans rfl, (blk_cell BK191.out 2).trans rfl, (blk_cell BK177.out 0).trans rfl, (blk_cell BK177.out 1).trans rfl, (blk_cell BK177.out 2).trans rfl⟩ (fun hHeld => ?_)
  clear hK K
  refine norm_ (a' := ?_) ?_ ?_
  rotate_left
  · show Act.put _ (some 46) _ = _
    simp only [Act.put, List.setIfInBounds_toArray, List.set_cons_zero, List.set_cons_succ, i64_w, i32_w]
    rfl
  refine pure_ (i := 4) (N := some 47) (v := ?_) (a' := ?_) #[true, true, true, true, true] rfl rfl (by kernel_rfl) (fun _ _ _ h => h) (Or.inl ⟨by rfl, ?_⟩) ?_ ?_
  rotate_left
  · intro w'
    go_simp
    with_reducible rfl
  rotate_left
  · simp only [Act.put, List.setIfInBounds_toArray, List.set_cons_zero, List.set_cons_succ, i64_w, i32_w]
    rfl
  refine done_ (by kernel_rfl) ?_
  try go_wp2
  go_ret
  exact ⟨by first | rfl | (simp [errW_none, errW_some] <;> rfl) | (simp [*, errW_none, errW_some] <;> rfl), u6_10⟩

end Go.Proofs.Ytjdpifafijcpbaa.QFnExactLook
