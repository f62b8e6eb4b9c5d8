-- Printed by the session's own program wip/prx.py.
import Derived.Test.YtjdpifafijcpbaaDoorSqFnOnce
import Derived.Test.YtjdpifafijcpbaaDoorQFnOncex0
import Derived.Test.YtjdpifafijcpbaaDoorQFnOncex7
namespace Go.Proofs.YtjdpifafijcpbaaDoor.QFnOnce
open Go.RowKit Go.Proofs.YtjdpifafijcpbaaDoorW.PrintWords Go.Proofs.YtjdpifafijcpbaaDoorW.PrintLast Go.Proofs.YtjdpifafijcpbaaDoorW.PrintMore Go.Proofs.YtjdpifafijcpbaaDoor.SqFnOnce
attribute [local go_sem] max2_int min2_int max_two min_two max_three min_three max_four min_four Go.Proofs.YtjdpifafijcpbaaDoor.Set.isSome_setCell
set_option linter.unusedVariables false
set_option linter.unusedSimpArgs false

-- squeezed
theorem u8_1 {P : Prop} (h : P := by (with_reducible repeat (first | refine blk_drewN ?_ _ | refine blk_drew ?_ | refine blk_alloc ?_ _)); exact BK256.out) : P := h
theorem u8_3 {P : Prop} (h : P := by (with_reducible repeat (first | refine blk_drewN ?_ _ | refine blk_drew ?_ | refine blk_alloc ?_ _)); refine blk_far ?_ NB256_258.out _; (with_reducible repeat (first | refine blk_drewN ?_ _ | refine blk_drew ?_ | refine blk_alloc ?_ _)); refine blk_far ?_ NB256_258.out _; (with_reducible repeat (first | refine blk_drewN ?_ _ | refine blk_drew ?_ | refine blk_alloc ?_ _)); refine blk_far ?_ NB256_258.out _; (with_reducible repeat (first | refine blk_drewN ?_ _ | refine blk_drew ?_ | refine blk_alloc ?_ _)); refine blk_far ?_ NB256_258.out _; (with_reducible repeat (first | refine blk_drewN ?_ _ | refine blk_drew ?_ | refine blk_alloc ?_ _)); exact BK256.out) : P := h
theorem u8_4 {P : Prop} (h : P := by (with_reducible repeat (first | refine blk_drewN ?_ _ | refine blk_drew ?_ | refine blk_alloc ?_ _)); refine blk_put (cs := #[.int .i64 0, .int .i64 0, .int .i64 0, .string (⟨#[]⟩ : ByteArray)]) ?_ 3 _ rfl; (with_reducible repeat (first | refine blk_drewN ?_ _ | refine blk_drew ?_ | refine blk_alloc ?_ _)); refine blk_put (cs := #[.int .i64 0, .int .i64 0, .int .i64 0, .string (⟨#[]⟩ : ByteArray)]) ?_ 2 _ rfl; (with_reducible repeat (first | refine blk_drewN ?_ _ | refine blk_drew ?_ | refine blk_alloc ?_ _)); refine blk_put (cs := #[.int .i64 0, .int .i64 0, .int .i64 0, .string (⟨#[]⟩ : ByteArray)]) ?_ 1 _ rfl; (with_reducible repeat (first | refine blk_drewN ?_ _ | refine blk_drew ?_ | refine blk_alloc ?_ _)); refine blk_put (cs := #[.int .i64 0, .int .i64 0, .int .i64 0, .string (⟨#[]⟩ : ByteArray)]) ?_ 0 _ rfl; (with_reducible repeat (first | refine blk_drewN ?_ _ | refine blk_drew ?_ | refine blk_alloc ?_ _)); exact BK258.out) : P := h
theorem u8_8 {P : Prop} (h : P := by rw [List.length_take]; omega) : P := h
/-! ### impl_sessionOf: function 47 -/
def impl_sessionOf.p (a1 : Int) (y : S54) : Bool := (y.f0 == a1)
def impl_sessionOf.f (a0_0 : Int) (a0_1 : Int) (l0_2 : List (S54)) (a1 : Int) : Option Int := some (Go.Proofs.YtjdpifafijcpbaaDoor.Slc.idxB (impl_sessionOf.p a1) l0_2)
set_option maxHeartbeats 400000 in
theorem impl_sessionOf.lit (b : Nat) (a1 : Int) (y : S54) (w : World) (hid : w.cell? ⟨b, 0, none⟩ = some (.int .i64 a1)) :
   Calls Tryd.prog 63 #[.agg #[.int .i64 y.f0, .int .i64 y.f1, .int .i64 y.f2, .string y.f3], .pointer (some ⟨b, 0, none⟩)] w fun e w' => e = .returned (.bool (impl_sessionOf.p a1 y)) ∧ Below w.heap.size w w' := by
 have hu := Tryd.underlying54
 have hlt := World.block_lt_of_cell? w _ hid
 have hid2 : ∀ o, (w.alloc o).cell? ⟨b, 0, none⟩ = some (.int .i64 a1) := fun o => ((below_alloc (Below.refl w.heap.size w) o).cell (p := ⟨b, 0, none⟩) hlt).trans hid
 go_enter Tryd.func63, Tryd.ntmps63
 go_wp2
 go_ret
 exact ⟨rfl, below_alloc (Below.refl _ _) _⟩
set_option maxHeartbeats 1600000 in
theorem impl_sessionOf.idx (p : S54 → Bool) (bs : Array Value) (A0 : Option Addr) (c0 : Nat) (l0 : List S54) (w : World) (hr0 : Kd.C k54 w A0 l0.length l0) (hc0 : l0.length ≤ c0)
   (hf : ∀ (y : S54) (W : World), Below w.heap.size w W → Calls Tryd.prog 63 (#[.agg #[.int .i64 y.f0, .int .i64 y.f1, .int .i64 y.f2, .string y.f3]] ++ bs) W fun e w' => e = .returned (.bool (p y)) ∧ Below W.heap.size W w') :
   Calls Tryd.prog 62 #[.slice A0 l0.length c0, .func (.func 63) #[] bs] w fun e w' => e = .returned (.int .i64 (Go.Proofs.YtjdpifafijcpbaaDoor.Slc.idxB p l0)) ∧ Below w.heap.size w w' := by
 have hu54 := Tryd.underlying54
 have hn : l0.length ≤ 9223372036854775807 := hr0.2.1
 have HR := am hr0
 have HF := am hf
 clear hr0 hf
 go_enter Tryd.func62, Tryd.ntmps62
 go_wp2
 go_loopg [5, 8] l0.length (fun gg _ s8 wr => ∃ kk : Int, 0 ≤ kk ∧ kk ≤ l0.length ∧ l0.length - kk.toNat ≤ gg ∧ s8 = .int .i64 kk ∧ Aside0 (Below w.heap.size w wr) ∧ Aside0 (∀ j : Nat, (j : Int) < kk → p (l0.getD j z54) = false))
 case atStart => exact ⟨0, by omega, by omega, by omega, rfl, ⟨Below.refl _ w⟩, ⟨fun j hj => by omega⟩⟩
 obtain ⟨kk, h0, hk, hg, rfl, BW, HA⟩ := hrel
 by_cases hlt : kk < (l0.length : Int)
 rotate_left
 · go_wp2
   go_ret
   refine ⟨?_, BW.out⟩
   rw [Go.Proofs.YtjdpifafijcpbaaDoor.Slc.idxB_miss p l0 z54 (fun j hj => HA.out j (by omega))]
   rfl
 obtain ⟨ad, e, hx0, hx1, hx2, hx3⟩ := at_T54 HR.out kk h0 hlt
 cases e
 replace hx0 := (BW.out.cell (World.block_lt_of_cell? w _ hx0)).trans hx0
 replace hx1 := (BW.out.cell (World.block_lt_of_cell? w _ hx1)).trans hx1
 replace hx2 := (BW.out.cell (World.block_lt_of_cell? w _ hx2)).trans hx2
 replace hx3 := (BW.out.cell (World.block_lt_of_cell? w _ hx3)).trans hx3
 have HC := am (HF.out (l0.getD kk.toNat z54) wr BW.out)
 cases hq : p (l0.getD kk.toNat z54) with
 | true =>
   have HQ := am hq
   rw [hq] at HC
   clear hq
   go_wp2_with (go_at_call 63; refine HC.out.mono ?_; rintro e w' ⟨rfl, hb'⟩)
   go_ret
   refine ⟨?_, below_step BW.out hb'⟩
   rw [Go.Proofs.YtjdpifafijcpbaaDoor.Slc.idxB_hit p l0 z54 kk.toNat (by omega) HQ.out (fun j hj => HA.out j (by omega)), Int.toNat_of_nonneg h0]
   rfl
 | false =>
   have HQ := am hq
   rw [hq] at HC
   clear hq
   go_wp2_with (go_at_call 63; refine HC.out.mono ?_; rintro e w' ⟨rfl, hb'⟩)
   go_roundg (l0.length - (kk + 1).toNat)
   case measure => omega
   case rel =>
     refine ⟨kk + 1, by omega, by omega, by omega, by go_num, ⟨below_step BW.out hb'⟩, ⟨fun j hj => ?_⟩⟩
     by_cases e : (j : Int) = kk
     rotate_left
     · exact HA.out j (by omega)
     have := HQ.out
     rw [← e, Int.toNat_natCast] at this
     exact this
set_option maxHeartbeats 400000 in
theorem impl_sessionOf.calls (a0_0 : Int) (a0_1 : Int) (A0_2 : Option Addr) (c0_2 : Nat) (l0_2 : List (S54)) (a1 : Int) (r : Int) (w : World) (hr0_2 : Kd.C k54 w A0_2 l0_2.length l0_2) (hc0_2 : l0_2.length ≤ c0_2) (h : impl_sessionOf.f a0_0 a0_1 l0_2 a1 = some r) :
   Calls Tryd.prog 47 #[.agg #[.int .i64 a0_0, .int .i64 a0_1, .slice A0_2 l0_2.length c0_2], .int .i64 a1] w fun e w' => e = .returned (.int .i64 r) ∧ Below w.heap.size w w' := by
 obtain rfl := Option.some.inj h
 have hu := Tryd.underlying30
 have HR := am hr0_2
 have HC0 := am hc0_2
 clear hr0_2 hc0_2 h
 go_enter Tryd.func47, Tryd.ntmps47
 have hce : ((w.alloc (.cells #[.int .i64 a0_0, .int .i64 a0_1, .slice A0_2 l0_2.length c0_2] 30)).alloc (.cells #[.int .i64 a1] 3)).cell? ⟨w.heap.size + 1, 0, none⟩ = some (.int .i64 a1) := by first | (simp; done) | (simp [World.alloc, World.cell?]; done)
 have HCE := am hce
 clear hce
 go_wp2_with (go_at_call 62; refine (impl_sessionOf.idx (impl_sessionOf.p a1) #[.pointer (some ⟨w.heap.size + 1, 0, none⟩)] A0_2 c0_2 l0_2 _ (Kd.C_below HR.out (below_alloc (below_alloc (Below.refl _ _) _) _)) HC0.out (fun y W hW => impl_sessionOf.lit (w.heap.size + 1) a1 y W ((hW.cell (World.block_lt_of_cell? _ _ HCE.out)).trans HCE.out))).mono ?_; rintro e w' ⟨rfl, hb'⟩)
 go_ret
 exact ⟨rfl, below_step (below_alloc (below_alloc (Below.refl _ _) _) _) hb'⟩


/-! ### impl_look: function 37 -/
mutual
def impl_look.j0 : Nat → Int → Int → Bool → Int → Int → List (S54) → Option (Int × ByteArray)
 | 0, _, _, _, _, _, _ => none
 | k + 1, x1, x2, x28, x257000, x257001, x257002 => if x28 = true then (some (4, (⟨#[]⟩ : ByteArray))) else ((impl_sessionOf.f x257000 x257001 x257002 x1).bind fun t259 => (if t259 ≥ 0 then (if 0 ≤ t259 then (if t259 < (x257002.length : Int) then (impl_look.j1 k x2 ((rd_T54 x257002 t259).f0) ((rd_T54 x257002 t259).f1) ((rd_T54 x257002 t259).f2) ((rd_T54 x257002 t259).f3)) else (none)) else (none)) else (impl_look.j1 k x2 0 0 0 (⟨#[]⟩ : ByteArray))))
def impl_look.j1 : Nat → Int → Int → Int → Int → ByteArray → Option (Int × ByteArray)
 | 0, _, _, _, _, _ => none
 | k + 1, x2, x259000, x259001, x259002, x259003 => if x2 = (wrap64 (x259001 + 1)) then (some (0, (⟨#[]⟩ : ByteArray))) else (if x2 = x259001 then (some (1, x259003)) else (if x2 < x259001 then (some (2, (⟨#[]⟩ : ByteArray))) else (some (3, (⟨#[]⟩ : ByteArray)))))
end
def impl_look.f (k : Nat) (a0_0 : Int) (a0_1 : Int) (l0_2 : List (S54)) (a1 : Int) (a2 : Int) : Option (Int × ByteArray) := (impl_areSessions.f k a0_0 a0_1 l0_2).bind fun t257 => (if t257 = true then (if a1 < 1 then (impl_look.j0 k a1 a2 true a0_0 a0_1 l0_2) else (if a1 > 999 then (impl_look.j0 k a1 a2 true a0_0 a0_1 l0_2) else (if a2 < 1 then (impl_look.j0 k a1 a2 true a0_0 a0_1 l0_2) else (impl_look.j0 k a1 a2 (decide (a2 > 1000000)) a0_0 a0_1 l0_2)))) else (impl_look.j0 k a1 a2 true a0_0 a0_1 l0_2))
theorem impl_look.mono_l : ∀ k, (∀ y0 y1 y2 y3 y4 y5, LeO (impl_look.j0 k y0 y1 y2 y3 y4 y5) (impl_look.j0 (k + 1) y0 y1 y2 y3 y4 y5)) ∧ (∀ y0 y1 y2 y3 y4, LeO (impl_look.j1 k y0 y1 y2 y3 y4) (impl_look.j1 (k + 1) y0 y1 y2 y3 y4))
 | 0 => ⟨fun _ _ _ _ _ _ r h => by simp [impl_look.j0] at h, fun _ _ _ _ _ r h => by simp [impl_look.j1] at h⟩
 | k + 1 => by
   obtain ⟨ih0, ih1⟩ := impl_look.mono_l k
   refine ⟨?_, ?_⟩ <;> intros <;> (first | unfold impl_look.j0 | unfold impl_look.j1) <;> repeat' first
   | (with_reducible exact ih0 _ _ _ _ _ _)
   | (with_reducible exact ih1 _ _ _ _ _)
   | (with_reducible exact impl_areSessions.mono _ _ _ _)
   | (with_reducible exact LeO.refl _)
   | (with_reducible exact LeO.none _)
   | (with_reducible refine LeO.ite ?_ ?_)
   | (with_reducible refine LeO.bind ?_ (fun _ => ?_))
   | exact ih0 _ _ _ _ _ _
   | exact ih1 _ _ _ _ _
   | exact impl_areSessions.mono _ _ _ _
   | exact LeO.none _
   | refine LeO.ite ?_ ?_
   | refine LeO.bind ?_ (fun _ => ?_)
theorem impl_look.mono : ∀ a0 a1 a2 a3 a4 k, LeO (impl_look.f k a0 a1 a2 a3 a4) (impl_look.f (k + 1) a0 a1 a2 a3 a4) := by
 intro a0 a1 a2 a3 a4 k
 obtain ⟨ih0, ih1⟩ := impl_look.mono_l k
 unfold impl_look.f
 repeat' first
     | (with_reducible exact ih0 _ _ _ _ _ _)
     | (with_reducible exact ih1 _ _ _ _ _)
     | (with_reducible exact impl_areSessions.mono _ _ _ _)
     | (with_reducible exact LeO.refl _)
     | (with_reducible exact LeO.none _)
     | (with_reducible refine LeO.ite ?_ ?_)
     | (with_reducible refine LeO.bind ?_ (fun _ => ?_))
     | exact ih0 _ _ _ _ _ _
     | exact ih1 _ _ _ _ _
     | exact impl_areSessions.mono _ _ _ _
     | exact LeO.none _
     | refine LeO.ite ?_ ?_
     | refine LeO.bind ?_ (fun _ => ?_)
set_option maxHeartbeats 8000000 in
set_option maxRecDepth 100000 in
theorem impl_look.calls (k : Nat) (a0_0 : Int) (a0_1 : Int) (A0_2 : Option Addr) (c0_2 : Nat) (l0_2 : List (S54)) (a1 : Int) (a2 : Int) (r1 : Int) (r2 : ByteArray) (w : World) (hr0_2 : Kd.C k54 w A0_2 l0_2.length l0_2) (hc0_2 : l0_2.length ≤ c0_2) (h : impl_look.f k a0_0 a0_1 l0_2 a1 a2 = some (r1, r2)) :
   Calls Tryd.prog 37 #[.agg #[.int .i64 a0_0, .int .i64 a0_1, .slice A0_2 l0_2.length c0_2], .int .i64 a1, .int .i64 a2] w fun e w' => e = .returned (.tuple #[.int .i64 r1, .string r2]) ∧ Below w.heap.size w w' := by
 have hu30 := Tryd.underlying30
 have hu54 := Tryd.underlying54
 have HR0_2 := am hr0_2
 have HC0_2 := am hc0_2
 clear hr0_2 hc0_2
 have HB := am (Below.refl w.heap.size w)
 have H : ((impl_areSessions.f k a0_0 a0_1 l0_2).bind fun t257 => (if t257 = true then (if a1 < 1 then (impl_look.j0 k a1 a2 true a0_0 a0_1 l0_2) else (if a1 > 999 then (impl_look.j0 k a1 a2 true a0_0 a0_1 l0_2) else (if a2 < 1 then (impl_look.j0 k a1 a2 true a0_0 a0_1 l0_2) else (impl_look.j0 k a1 a2 (decide (a2 > 1000000)) a0_0 a0_1 l0_2)))) else (impl_look.j0 k a1 a2 true a0_0 a0_1 l0_2))) = some (r1, r2) := h
 clear h
 have HC4 := am H
 clear H
 go_enter Tryd.func37, Tryd.ntmps37
 go_upto_region 1 with (first | ((with_reducible refine gate_dst (N := 3) rfl ?_); refine box_event ?hg (N := 3) ?hd (cs := #[.int .i64 a0_0, .int .i64 a0_1, .slice A0_2 l0_2.length c0_2]) (t := 30) ?hr ?_; (case hd => rfl); (case hg => rfl); (case hr => first | (go_simp; done) | (go_simp; rfl)); intro gb256 hg w5 hbox hb; have BK256 := am (hbox); have GW256 := am ((by rw [hg]; exact (below_size q0) : w.heap.size ≤ gb256)); have GE256 := am ((by rw [hg]; exact (below_size q0) : w.heap.size ≤ gb256)); replace HB := am (below_step q0 hb); clear hb hbox hg))
 repeat (go_quiet (first | ((with_reducible refine gate_dst (N := 3) rfl ?_); refine box_event ?hg (N := 3) ?hd (cs := #[.int .i64 a0_0, .int .i64 a0_1, .slice A0_2 l0_2.length c0_2]) (t := 30) ?hr ?_; (case hd => rfl); (case hg => rfl); (case hr => first | (go_simp; done) | (go_simp; rfl)); intro gb256 hg w5 hbox hb; have BK256 := am (hbox); have GW256 := am ((by rw [hg]; exact (below_size q0) : w.heap.size ≤ gb256)); have GE256 := am ((by rw [hg]; exact (below_size q0) : w.heap.size ≤ gb256)); replace HB := am (below_step q0 hb); clear hb hbox hg)); go_upto_region 1 with (first | ((with_reducible refine gate_dst (N := 3) rfl ?_); refine box_event ?hg (N := 3) ?hd (cs := #[.int .i64 a0_0, .int .i64 a0_1, .slice A0_2 l0_2.length c0_2]) (t := 30) ?hr ?_; (case hd => rfl); (case hg => rfl); (case hr => first | (go_simp; done) | (go_simp; rfl)); intro gb256 hg w5 hbox hb; have BK256 := am (hbox); have GW256 := am ((by rw [hg]; exact (below_size q0) : w.heap.size ≤ gb256)); have GE256 := am ((by rw [hg]; exact (below_size q0) : w.heap.size ≤ gb256)); replace HB := am (below_step q0 hb); clear hb hbox hg)))
 (try simp only [Act.put, la, lb, lc])
 go_cut [28] (fun v28 wc => ∃ (kq : Nat) (x28_3 : Bool), v28 = .bool x28_3 ∧ Aside0 (impl_look.j0 kq a1 a2 x28_3 a0_0 a0_1 l0_2 = some (r1, r2)) ∧ Aside0 (kq ≤ k) ∧ Aside0 (wc.heap[gb256]? = some (.cells #[.int .i64 a0_0, .int .i64 a0_1, (.slice A0_2 l0_2.length c0_2)] 30 (0, 0))) ∧ Aside0 (Below w.heap.size w wc))
 case first =>
   have H := HC4.out
   clear HC4
   replace H := Option.bind_eq_some_iff.mp H
   obtain ⟨t257, A60, H⟩ := H
   have A6 := am A60
   clear A60
   by_cases c7 : t257 = true
   rotate_left
   · replace c7 := Bool.eq_false_iff.mpr c7
     subst c7
     rw [nf] at H
     have H' := am H
     clear H
     obtain ⟨hcz19_0, hcz19_1, hcz19_2, hfz19_0, hfz19_1, hfz19_2⟩ := bc3f w5 BK256.out
     go_wp2_with (first | (first | (go_at_call 35; (with_reducible refine (impl_areSessions.calls k a0_0 a0_1 _ _ l0_2 false _ ?side1 ?side2 A6.out).mono ?_); (case side1 => exact q5); (case side2 => exact HC0_2.out); rintro e w20 ⟨rfl, hb⟩; replace BK256 := am (blk_below (g := gb256) (o := .cells #[.int .i64 a0_0, .int .i64 a0_1, .slice A0_2 l0_2.length c0_2] 30 (0, 0)) u8_1 hb); replace HB := am (below_step q0 hb); (try clear hb); (try clear hb2); (try clear hk); (try clear hi))) | go_quiet (first | (go_at_call 35; (with_reducible refine (impl_areSessions.calls k a0_0 a0_1 _ _ l0_2 false _ ?side1 ?side2 A6.out).mono ?_); (case side1 => exact q5); (case side2 => exact HC0_2.out); rintro e w20 ⟨rfl, hb⟩; replace BK256 := am (blk_below (g := gb256) (o := .cells #[.int .i64 a0_0, .int .i64 a0_1, .slice A0_2 l0_2.length c0_2] 30 (0, 0)) u8_1 hb); replace HB := am (below_step q0 hb); (try clear hb); (try clear hb2); (try clear hk); (try clear hi))))
     go_meet
     case rel => exact ⟨_, (true), q4, H', ⟨by first | omega | exact Nat.le_refl _⟩, ⟨u8_1⟩, ⟨q0⟩⟩
   subst c7
   rw [if_pos rfl] at H
   by_cases c8 : a1 < 1
   · rw [if_pos c8] at H
     have c8b0 : decide (a1 < 1) = true := decide_eq_true c8
     clear c8
     (first | rw [c8b0] | (simp only [i64_w, i32_w]; rw [c8b0]) | skip)
     have H' := am H
     clear H
     obtain ⟨hcz9_0, hcz9_1, hcz9_2, hfz9_0, hfz9_1, hfz9_2⟩ := bc3f w5 BK256.out
     go_wp2_with (first | (first | (go_at_call 35; (with_reducible refine (impl_areSessions.calls k a0_0 a0_1 _ _ l0_2 true _ ?side1 ?side2 A6.out).mono ?_); (case side1 => exact q5); (case side2 => exact HC0_2.out); rintro e w10 ⟨rfl, hb⟩; replace BK256 := am (blk_below (g := gb256) (o := .cells #[.int .i64 a0_0, .int .i64 a0_1, .slice A0_2 l0_2.length c0_2] 30 (0, 0)) u8_1 hb); replace HB := am (below_step q0 hb); (try clear hb); (try clear hb2); (try clear hk); (try clear hi))) | go_quiet (first | (go_at_call 35; (with_reducible refine (impl_areSessions.calls k a0_0 a0_1 _ _ l0_2 true _ ?side1 ?side2 A6.out).mono ?_); (case side1 => exact q5); (case side2 => exact HC0_2.out); rintro e w10 ⟨rfl, hb⟩; replace BK256 := am (blk_below (g := gb256) (o := .cells #[.int .i64 a0_0, .int .i64 a0_1, .slice A0_2 l0_2.length c0_2] 30 (0, 0)) u8_1 hb); replace HB := am (below_step q0 hb); (try clear hb); (try clear hb2); (try clear hk); (try clear hi))))
     go_meet
     case rel => exact ⟨_, (true), q4, H', ⟨by first | omega | exact Nat.le_refl _⟩, ⟨u8_1⟩, ⟨q0⟩⟩
   rw [if_neg c8] at H
   have c8b0 : decide (a1 < 1) = false := decide_eq_false c8
   clear c8
   (first | rw [c8b0] | (simp only [i64_w, i32_w]; rw [c8b0]) | skip)
   by_cases c11 : a1 > 999
   · rw [if_pos c11] at H
     have c11b0 : decide (999 < a1) = true := decide_eq_true c11
     clear c11
     have H' := am H
     clear H
     obtain ⟨hcz12_0, hcz12_1, hcz12_2, hfz12_0, hfz12_1, hfz12_2⟩ := bc3f w5 BK256.out
     go_wp2_with (first | (first | (go_at_call 35; (with_reducible refine (impl_areSessions.calls k a0_0 a0_1 _ _ l0_2 true _ ?side1 ?side2 A6.out).mono ?_); (case side1 => exact q5); (case side2 => exact HC0_2.out); rintro e w13 ⟨rfl, hb⟩; replace BK256 := am (blk_below (g := gb256) (o := .cells #[.int .i64 a0_0, .int .i64 a0_1, .slice A0_2 l0_2.length c0_2] 30 (0, 0)) u8_1 hb); replace HB := am (below_step q0 hb); (try clear hb); (try clear hb2); (try clear hk); (try clear hi))) | go_quiet (first | (go_at_call 35; (with_reducible refine (impl_areSessions.calls k a0_0 a0_1 _ _ l0_2 true _ ?side1 ?side2 A6.out).mono ?_); (case side1 => exact q5); (case side2 => exact HC0_2.out); rintro e w13 ⟨rfl, hb⟩; replace BK256 := am (blk_below (g := gb256) (o := .cells #[.int .i64 a0_0, .int .i64 a0_1, .slice A0_2 l0_2.length c0_2] 30 (0, 0)) u8_1 hb); replace HB := am (below_step q0 hb); (try clear hb); (try clear hb2); (try clear hk); (try clear hi))))
     go_meet
     case rel => exact ⟨_, (true), q4, H', ⟨by first | omega | exact Nat.le_refl _⟩, ⟨u8_1⟩, ⟨q0⟩⟩
   rw [if_neg c11] at H
   have c11b0 : decide (999 < a1) = false := decide_eq_false c11
   clear c11
   by_cases c14 : a2 < 1
   · rw [if_pos c14] at H
     have c14b0 : decide (a2 < 1) = true := decide_eq_true c14
     clear c14
     have H' := am H
     clear H
     obtain ⟨hcz15_0, hcz15_1, hcz15_2, hfz15_0, hfz15_1, hfz15_2⟩ := bc3f w5 BK256.out
     go_wp2_with (first | (first | (go_at_call 35; (with_reducible refine (impl_areSessions.calls k a0_0 a0_1 _ _ l0_2 true _ ?side1 ?side2 A6.out).mono ?_); (case side1 => exact q5); (case side2 => exact HC0_2.out); rintro e w16 ⟨rfl, hb⟩; replace BK256 := am (blk_below (g := gb256) (o := .cells #[.int .i64 a0_0, .int .i64 a0_1, .slice A0_2 l0_2.length c0_2] 30 (0, 0)) u8_1 hb); replace HB := am (below_step q0 hb); (try clear hb); (try clear hb2); (try clear hk); (try clear hi))) | go_quiet (first | (go_at_call 35; (with_reducible refine (impl_areSessions.calls k a0_0 a0_1 _ _ l0_2 true _ ?side1 ?side2 A6.out).mono ?_); (case side1 => exact q5); (case side2 => exact HC0_2.out); rintro e w16 ⟨rfl, hb⟩; replace BK256 := am (blk_below (g := gb256) (o := .cells #[.int .i64 a0_0, .int .i64 a0_1, .slice A0_2 l0_2.length c0_2] 30 (0, 0)) u8_1 hb); replace HB := am (below_step q0 hb); (try clear hb); (try clear hb2); (try clear hk); (try clear hi))))
     go_meet
     case rel => exact ⟨_, (true), q4, H', ⟨by first | omega | exact Nat.le_refl _⟩, ⟨u8_1⟩, ⟨q0⟩⟩
   rw [if_neg c14] at H
   have c14b0 : decide (a2 < 1) = false := decide_eq_false c14
   clear c14
   have H' := am H
   clear H
   obtain ⟨hcz17_0, hcz17_1, hcz17_2, hfz17_0, hfz17_1, hfz17_2⟩ := bc3f w5 BK256.out
   go_wp2_with (first | (first | (go_at_call 35; (with_reducible refine (impl_areSessions.calls k a0_0 a0_1 _ _ l0_2 true _ ?side1 ?side2 A6.out).mono ?_); (case side1 => exact q5); (case side2 => exact HC0_2.out); rintro e w18 ⟨rfl, hb⟩; replace BK256 := am (blk_below (g := gb256) (o := .cells #[.int .i64 a0_0, .int .i64 a0_1, .slice A0_2 l0_2.length c0_2] 30 (0, 0)) u8_1 hb); replace HB := am (below_step q0 hb); (try clear hb); (try clear hb2); (try clear hk); (try clear hi))) | go_quiet (first | (go_at_call 35; (with_reducible refine (impl_areSessions.calls k a0_0 a0_1 _ _ l0_2 true _ ?side1 ?side2 A6.out).mono ?_); (case side1 => exact q5); (case side2 => exact HC0_2.out); rintro e w18 ⟨rfl, hb⟩; replace BK256 := am (blk_below (g := gb256) (o := .cells #[.int .i64 a0_0, .int .i64 a0_1, .slice A0_2 l0_2.length c0_2] 30 (0, 0)) u8_1 hb); replace HB := am (below_step q0 hb); (try clear hb); (try clear hb2); (try clear hk); (try clear hi))))
   go_meet
   case rel => exact ⟨_, (decide (a2 > 1000000)), q4, H', ⟨by first | omega | exact Nat.le_refl _⟩, ⟨u8_1⟩, ⟨q0⟩⟩
 clear HC4
 obtain ⟨kq, x28_3, rfl, HA, HJ3, BK256, HB⟩ := hcut
 cases kq with
 | zero => exact absurd HA.out (by simp [impl_look.j0])
 | succ kj3 =>
   have H := HA.out
   clear HA
   simp only [impl_look.j0] at H
   by_cases c21 : x28_3 = true
   · subst c21
     rw [if_pos rfl] at H
     simp only [Option.some.injEq, Prod.mk.injEq] at H
     obtain ⟨rfl, rfl⟩ := H
     go_wp2
     repeat (go_quiet (fail); try go_wp2)
     go_ret2
     exact ⟨er, q0⟩
   replace c21 := Bool.eq_false_iff.mpr c21
   subst c21
   rw [nf] at H
   replace H := Option.bind_eq_some_iff.mp H
   obtain ⟨t259, A220, H⟩ := H
   have A22 := am A220
   clear A220
   have HC23 := am H
   clear H
   go_upto_if 34 with (first | ((with_reducible refine gate_dst (N := 8) rfl ?_); refine box_event ?hg (N := 8) ?hd (cs := #[.int .i64 0, .int .i64 0, .int .i64 0, .string (⟨#[]⟩ : ByteArray)]) (t := 54) ?hr ?_; (case hd => rfl); (case hg => rfl); (case hr => first | (go_simp; done) | (go_simp; rfl)); intro gb258 hg w24 hbox hb; have BK258 := am (hbox); have GW258 := am ((by rw [hg]; exact (below_size q0) : w.heap.size ≤ gb258)); have GE258 := am ((by rw [hg]; exact (below_size q0) : w.heap.size ≤ gb258)); replace HB := am (below_step q0 hb); have NB256_258 := am ((by rw [hg]; exact Nat.ne_of_lt (blk_lt (g := gb256) (o := .cells #[.int .i64 a0_0, .int .i64 a0_1, .slice A0_2 l0_2.length c0_2] 30 (0, 0)) u8_1) : gb256 ≠ gb258)); have NB258_256 := am ((by rw [hg]; exact Nat.ne_of_gt (blk_lt (g := gb256) (o := .cells #[.int .i64 a0_0, .int .i64 a0_1, .slice A0_2 l0_2.length c0_2] 30 (0, 0)) u8_1) : gb258 ≠ gb256)); replace BK256 := am (blk_below (g := gb256) (o := .cells #[.int .i64 a0_0, .int .i64 a0_1, .slice A0_2 l0_2.length c0_2] 30 (0, 0)) u8_1 hb); clear hb hbox hg; have hnb25 := NB258_256.out; have hnc25 := NB256_258.out; obtain ⟨hcz26_0, hcz26_1, hcz26_2, hcz26_3, hfz26_0, hfz26_1, hfz26_2, hfz26_3⟩ := bc4f w24 BK258.out; obtain ⟨hcz27_0, hcz27_1, hcz27_2, hfz27_0, hfz27_1, hfz27_2⟩ := bc3f w24 BK256.out) | (go_at_call 47; (with_reducible refine (impl_sessionOf.calls a0_0 a0_1 _ _ l0_2 a1 t259 _ ?side1 ?side2 A22.out).mono ?_); (case side1 => exact (by exact Kd.C_below HR0_2.out q0)); (case side2 => exact HC0_2.out); rintro e w28 ⟨rfl, hb⟩; replace BK256 := am (blk_below (g := gb256) (o := .cells #[.int .i64 a0_0, .int .i64 a0_1, .slice A0_2 l0_2.length c0_2] 30 (0, 0)) u8_3 hb); replace BK258 := am (blk_below (g := gb258) (o := .cells #[.int .i64 0, .int .i64 0, .int .i64 0, .string (⟨#[]⟩ : ByteArray)] 54 (0, 0)) u8_4 hb); replace HB := am (below_step q0 hb); (try clear hb); (try clear hb2); (try clear hk); (try clear hi)))
   repeat (go_quiet (first | ((with_reducible refine gate_dst (N := 8) rfl ?_); refine box_event ?hg (N := 8) ?hd (cs := #[.int .i64 0, .int .i64 0, .int .i64 0, .string (⟨#[]⟩ : ByteArray)]) (t := 54) ?hr ?_; (case hd => rfl); (case hg => rfl); (case hr => first | (go_simp; done) | (go_simp; rfl)); intro gb258 hg w24 hbox hb; have BK258 := am (hbox); have GW258 := am ((by rw [hg]; exact (below_size q0) : w.heap.size ≤ gb258)); have GE258 := am ((by rw [hg]; exact (below_size q0) : w.heap.size ≤ gb258)); replace HB := am (below_step q0 hb); have NB256_258 := am ((by rw [hg]; exact Nat.ne_of_lt (blk_lt (g := gb256) (o := .cells #[.int .i64 a0_0, .int .i64 a0_1, .slice A0_2 l0_2.length c0_2] 30 (0, 0)) u8_1) : gb256 ≠ gb258)); have NB258_256 := am ((by rw [hg]; exact Nat.ne_of_gt (blk_lt (g := gb256) (o := .cells #[.int .i64 a0_0, .int .i64 a0_1, .slice A0_2 l0_2.length c0_2] 30 (0, 0)) u8_1) : gb258 ≠ gb256)); replace BK256 := am (blk_below (g := gb256) (o := .cells #[.int .i64 a0_0, .int .i64 a0_1, .slice A0_2 l0_2.length c0_2] 30 (0, 0)) u8_1 hb); clear hb hbox hg; have hnb25 := NB258_256.out; have hnc25 := NB256_258.out; obtain ⟨hcz26_0, hcz26_1, hcz26_2, hcz26_3, hfz26_0, hfz26_1, hfz26_2, hfz26_3⟩ := bc4f w24 BK258.out; obtain ⟨hcz27_0, hcz27_1, hcz27_2, hfz27_0, hfz27_1, hfz27_2⟩ := bc3f w24 BK256.out) | (go_at_call 47; (with_reducible refine (impl_sessionOf.calls a0_0 a0_1 _ _ l0_2 a1 t259 _ ?side1 ?side2 A22.out).mono ?_); (case side1 => exact (by exact Kd.C_below HR0_2.out q0)); (case side2 => exact HC0_2.out); rintro e w28 ⟨rfl, hb⟩; replace BK256 := am (blk_below (g := gb256) (o := .cells #[.int .i64 a0_0, .int .i64 a0_1, .slice A0_2 l0_2.length c0_2] 30 (0, 0)) u8_3 hb); replace BK258 := am (blk_below (g := gb258) (o := .cells #[.int .i64 0, .int .i64 0, .int .i64 0, .string (⟨#[]⟩ : ByteArray)] 54 (0, 0)) u8_4 hb); replace HB := am (below_step q0 hb); (try clear hb); (try clear hb2); (try clear hk); (try clear hi))); go_upto_if 34 with (first | ((with_reducible refine gate_dst (N := 8) rfl ?_); refine box_event ?hg (N := 8) ?hd (cs := #[.int .i64 0, .int .i64 0, .int .i64 0, .string (⟨#[]⟩ : ByteArray)]) (t := 54) ?hr ?_; (case hd => rfl); (case hg => rfl); (case hr => first | (go_simp; done) | (go_simp; rfl)); intro gb258 hg w24 hbox hb; have BK258 := am (hbox); have GW258 := am ((by rw [hg]; exact (below_size q0) : w.heap.size ≤ gb258)); have GE258 := am ((by rw [hg]; exact (below_size q0) : w.heap.size ≤ gb258)); replace HB := am (below_step q0 hb); have NB256_258 := am ((by rw [hg]; exact Nat.ne_of_lt (blk_lt (g := gb256) (o := .cells #[.int .i64 a0_0, .int .i64 a0_1, .slice A0_2 l0_2.length c0_2] 30 (0, 0)) u8_1) : gb256 ≠ gb258)); have NB258_256 := am ((by rw [hg]; exact Nat.ne_of_gt (blk_lt (g := gb256) (o := .cells #[.int .i64 a0_0, .int .i64 a0_1, .slice A0_2 l0_2.length c0_2] 30 (0, 0)) u8_1) : gb258 ≠ gb256)); replace BK256 := am (blk_below (g := gb256) (o := .cells #[.int .i64 a0_0, .int .i64 a0_1, .slice A0_2 l0_2.length c0_2] 30 (0, 0)) u8_1 hb); clear hb hbox hg; have hnb25 := NB258_256.out; have hnc25 := NB256_258.out; obtain ⟨hcz26_0, hcz26_1, hcz26_2, hcz26_3, hfz26_0, hfz26_1, hfz26_2, hfz26_3⟩ := bc4f w24 BK258.out; obtain ⟨hcz27_0, hcz27_1, hcz27_2, hfz27_0, hfz27_1, hfz27_2⟩ := bc3f w24 BK256.out) | (go_at_call 47; (with_reducible refine (impl_sessionOf.calls a0_0 a0_1 _ _ l0_2 a1 t259 _ ?side1 ?side2 A22.out).mono ?_); (case side1 => exact (by exact Kd.C_below HR0_2.out q0)); (case side2 => exact HC0_2.out); rintro e w28 ⟨rfl, hb⟩; replace BK256 := am (blk_below (g := gb256) (o := .cells #[.int .i64 a0_0, .int .i64 a0_1, .slice A0_2 l0_2.length c0_2] 30 (0, 0)) u8_3 hb); replace BK258 := am (blk_below (g := gb258) (o := .cells #[.int .i64 0, .int .i64 0, .int .i64 0, .string (⟨#[]⟩ : ByteArray)] 54 (0, 0)) u8_4 hb); replace HB := am (below_step q0 hb); (try clear hb); (try clear hb2); (try clear hk); (try clear hi))))
   (try simp only [Act.put, la, lb, lc])
   go_cut [] (fun wc => ∃ (kq : Nat) (x259000_22 : Int) (x259001_22 : Int) (x259002_22 : Int) (x259003_22 : ByteArray), Aside0 (impl_look.j1 kq a2 x259000_22 x259001_22 x259002_22 x259003_22 = some (r1, r2)) ∧ Aside0 (kq ≤ kj3) ∧ Aside0 (wc.heap[gb256]? = some (.cells #[.int .i64 a0_0, .int .i64 a0_1, (.slice A0_2 l0_2.length c0_2)] 30 (0, 0))) ∧ Aside0 (wc.heap[gb258]? = some (.cells #[.int .i64 x259000_22, .int .i64 x259001_22, .int .i64 x259002_22, .string x259003_22] 54 (0, 0))) ∧ Aside0 (Below w.heap.size w wc))
   case first =>
     have H := HC23.out
     clear HC23
     by_cases c29 : t259 ≥ 0
     rotate_left
     · rw [if_neg c29] at H
       have c29b0 : decide (0 ≤ t259) = false := decide_eq_false c29
       clear c29
       (first | rw [c29b0] | (simp only [i64_w, i32_w]; rw [c29b0]) | skip)
       have H' := am H
       clear H
       go_wp2
       repeat (go_quiet (fail); try go_wp2)
       go_meet
       case rel => exact ⟨_, (0), (0), (0), ((⟨#[]⟩ : ByteArray)), H', ⟨(by have := HJ3.out; first | omega | exact Nat.le_refl _)⟩, ⟨u8_1⟩, ⟨(by (with_reducible repeat (first | refine blk_drewN ?_ _ | refine blk_drew ?_ | refine blk_alloc ?_ _)); exact BK258.out)⟩, ⟨q0⟩⟩
     rw [if_pos c29] at H
     have c29b0 : decide (0 ≤ t259) = true := decide_eq_true c29
     clear c29
     (first | rw [c29b0] | (simp only [i64_w, i32_w]; rw [c29b0]) | skip)
     by_cases c30 : 0 ≤ t259
     rotate_left
     · rw [if_neg c30] at H
       exact absurd H (by simp)
     rw [if_pos c30] at H
     have c30b0 : decide (0 ≤ t259) = true := decide_eq_true c30
     clear c30
     by_cases c31 : t259 < (l0_2.length : Int)
     rotate_left
     · rw [if_neg c31] at H
       exact absurd H (by simp)
     rw [if_pos c31] at H
     have c31b0 : decide (t259 < (l0_2.length : Int)) = true := decide_eq_true c31
     clear c31
     have H' := am H
     clear H
     have hnb32 := NB256_258.out
     have hnc32 := NB258_256.out
     obtain ⟨hcz33_0, hcz33_1, hcz33_2, hfz33_0, hfz33_1, hfz33_2⟩ := bc3f w28 BK256.out
     have p260 : 0 ≤ (t259 : Int) := of_decide_eq_true (by first | (with_reducible assumption) | assumption)
     have q260 : t259 < (l0_2.length : Int) := of_decide_eq_true (by first | (with_reducible assumption) | assumption)
     obtain ⟨ad260, e260, hx260_0, hx260_1, hx260_2, hx260_3⟩ := at_T54 HR0_2.out t259 p260 q260
     cases e260
     replace hx260_0 := cm HB.out hx260_0
     replace hx260_1 := cm HB.out hx260_1
     replace hx260_2 := cm HB.out hx260_2
     replace hx260_3 := cm HB.out hx260_3
     replace p260 := eq_true p260
     replace q260 := eq_true q260
     obtain ⟨hcz34_0, hcz34_1, hcz34_2, hcz34_3, hfz34_0, hfz34_1, hfz34_2, hfz34_3⟩ := bc4f w28 BK258.out
     go_wp2
     repeat (go_quiet (fail); try go_wp2)
     go_meet
     case rel => exact ⟨_, ((rd_T54 l0_2 t259).f0), ((rd_T54 l0_2 t259).f1), ((rd_T54 l0_2 t259).f2), ((rd_T54 l0_2 t259).f3), H', ⟨(by have := HJ3.out; first | omega | exact Nat.le_refl _)⟩, ⟨u8_3⟩, ⟨(by (with_reducible repeat (first | refine blk_drewN ?_ _ | refine blk_drew ?_ | refine blk_alloc ?_ _)); refine blk_put (cs := #[.int .i64 ((rd_T54 l0_2 t259).f0), .int .i64 ((rd_T54 l0_2 t259).f1), .int .i64 ((rd_T54 l0_2 t259).f2), .string (⟨#[]⟩ : ByteArray)]) ?_ 3 _ rfl; (with_reducible repeat (first | refine blk_drewN ?_ _ | refine blk_drew ?_ | refine blk_alloc ?_ _)); refine blk_put (cs := #[.int .i64 ((rd_T54 l0_2 t259).f0), .int .i64 ((rd_T54 l0_2 t259).f1), .int .i64 0, .string (⟨#[]⟩ : ByteArray)]) ?_ 2 _ rfl; (with_reducible repeat (first | refine blk_drewN ?_ _ | refine blk_drew ?_ | refine blk_alloc ?_ _)); refine blk_put (cs := #[.int .i64 ((rd_T54 l0_2 t259).f0), .int .i64 0, .int .i64 0, .string (⟨#[]⟩ : ByteArray)]) ?_ 1 _ rfl; (with_reducible repeat (first | refine blk_drewN ?_ _ | refine blk_drew ?_ | refine blk_alloc ?_ _)); refine blk_put (cs := #[.int .i64 0, .int .i64 0, .int .i64 0, .string (⟨#[]⟩ : ByteArray)]) ?_ 0 _ rfl; (with_reducible repeat (first | refine blk_drewN ?_ _ | refine blk_drew ?_ | refine blk_alloc ?_ _)); exact BK258.out)⟩, ⟨q0⟩⟩
   clear HC23
   try clear c21
   try clear hcz26_0
   try clear hcz26_1
   try clear hcz26_2
   try clear hcz26_3
   try clear hcz27_0
   try clear hcz27_1
   try clear hcz27_2
   try clear hfz26_0
   try clear hfz26_1
   try clear hfz26_2
   try clear hfz26_3
   try clear hfz27_0
   try clear hfz27_1
   try clear hfz27_2
   obtain ⟨kq, x259000_22, x259001_22, x259002_22, x259003_22, HA, HJ22, BK256, BK258, HB⟩ := hcut
   cases kq with
   | zero => exact absurd HA.out (by simp [impl_look.j1])
   | succ kj22 =>
     have H := HA.out
     clear HA
     simp only [impl_look.j1] at H
     by_cases c35 : a2 = (wrap64 (x259001_22 + 1))
     · rw [if_pos c35] at H
       have c35b0 : (a2 == (wrap64 (x259001_22 + 1))) = true := beq_iff_eq.mpr c35
       have c35b1 : (a2 != (wrap64 (x259001_22 + 1))) = false := bne_eq_false_iff_eq.mpr c35
       clear c35
       simp only [Option.some.injEq, Prod.mk.injEq] at H
       obtain ⟨rfl, rfl⟩ := H
       have hnb36 := NB258_256.out
       have hnc36 := NB256_258.out
       obtain ⟨hcz37_0, hcz37_1, hcz37_2, hcz37_3, hfz37_0, hfz37_1, hfz37_2, hfz37_3⟩ := bc4f wc BK258.out
       go_wp2
       repeat (go_quiet (fail); try go_wp2)
       go_ret2
       exact ⟨er, q0⟩
     rw [if_neg c35] at H
     have c35b0 : (a2 == (wrap64 (x259001_22 + 1))) = false := beq_eq_false_iff_ne.mpr c35
     have c35b1 : (a2 != (wrap64 (x259001_22 + 1))) = true := bne_iff_ne.mpr c35
     by_cases c38 : a2 = x259001_22
     · rw [if_pos c38] at H
       have c38b0 : (a2 == x259001_22) = true := beq_iff_eq.mpr c38
       have c38b1 : (a2 != x259001_22) = false := bne_eq_false_iff_eq.mpr c38
       clear c38
       simp only [Option.some.injEq, Prod.mk.injEq] at H
       obtain ⟨rfl, rfl⟩ := H
       have hnb39 := NB258_256.out
       have hnc39 := NB256_258.out
       obtain ⟨hcz40_0, hcz40_1, hcz40_2, hcz40_3, hfz40_0, hfz40_1, hfz40_2, hfz40_3⟩ := bc4f wc BK258.out
       go_wp2
       repeat (go_quiet (fail); try go_wp2)
       go_ret2
       exact ⟨er, q0⟩
     rw [if_neg c38] at H
     have c38b0 : (a2 == x259001_22) = false := beq_eq_false_iff_ne.mpr c38
     have c38b1 : (a2 != x259001_22) = true := bne_iff_ne.mpr c38
     by_cases c41 : a2 < x259001_22
     · rw [if_pos c41] at H
       have c41b0 : decide (a2 < x259001_22) = true := decide_eq_true c41
       clear c41
       simp only [Option.some.injEq, Prod.mk.injEq] at H
       obtain ⟨rfl, rfl⟩ := H
       have hnb42 := NB258_256.out
       have hnc42 := NB256_258.out
       obtain ⟨hcz43_0, hcz43_1, hcz43_2, hcz43_3, hfz43_0, hfz43_1, hfz43_2, hfz43_3⟩ := bc4f wc BK258.out
       go_wp2
       repeat (go_quiet (fail); try go_wp2)
       go_ret2
       exact ⟨er, q0⟩
     rw [if_neg c41] at H
     have c41b0 : decide (a2 < x259001_22) = false := decide_eq_false c41
     clear c41
     simp only [Option.some.injEq, Prod.mk.injEq] at H
     obtain ⟨rfl, rfl⟩ := H
     have hnb44 := NB258_256.out
     have hnc44 := NB256_258.out
     obtain ⟨hcz45_0, hcz45_1, hcz45_2, hcz45_3, hfz45_0, hfz45_1, hfz45_2, hfz45_3⟩ := bc4f wc BK258.out
     go_wp2
     repeat (go_quiet (fail); try go_wp2)
     go_ret2
     exact ⟨er, q0⟩

/-! ### impl_Session_48: function 48 -/
def impl_Session_48.enc (x : S54) : List Value := [.int .i64 x.f0, .int .i64 x.f1, .int .i64 x.f2, .string x.f3]
theorem impl_Session_48.flat : Go.Proofs.YtjdpifafijcpbaaDoor.Slc.Flat k54 impl_Session_48.enc := ⟨fun w base ok x => k54_mkM w base ok x, fun h => k54_open h⟩
def impl_Session_48.f (l0 : List (S54)) (a1 : Int) (a2 : Int) : Option (List (S54)) := if 0 ≤ a1 ∧ a2 = a1 + 1 ∧ a1 < (l0.length : Int) then some (l0.eraseIdx a1.toNat) else none
theorem impl_Session_48.size : (Tryd.prog.info? 54).map (·.size) = some 4 := by kernel_rfl
theorem impl_Session_48.zero (w : World) : (zeroValue 54).run Tryd.prog w = .ok (.agg #[.int .i64 0, .int .i64 0, .int .i64 0, .string ⟨#[]⟩]) w := by kernel_rfl
set_option maxHeartbeats 2000000 in
set_option maxRecDepth 100000 in
theorem impl_Session_48.calls (P0_ : Nat → Prop) (u9000_ : Value) (l0 : List (S54)) (a1 : Int) (a2 : Int) (r : List (S54)) (w0 w : World) (hB : Below w0.heap.size w0 w) (ho0 : Kd.R k54 54 w w0.heap.size P0_ u9000_ l0) (h : impl_Session_48.f l0 a1 a2 = some r) :
   Calls Tryd.prog 48 #[u9000_, .int .i64 a1, .int .i64 a2] w fun e w' => ∃ v0_ : Value, e = .returned (v0_) ∧ Kd.R k54 54 w' w0.heap.size (fun k_ => (P0_ k_ ∨ w.heap.size ≤ k_)) v0_ r ∧ Below w0.heap.size w0 w' ∧ Kept w w' (fun k_ => P0_ k_) := by
 unfold impl_Session_48.f at h
 by_cases hc : 0 ≤ a1 ∧ a2 = a1 + 1 ∧ a1 < (l0.length : Int)
 rotate_left
 · rw [if_neg hc] at h; cases h
 rw [if_pos hc] at h
 obtain rfl := Option.some.inj h
 clear h
 obtain ⟨h0, rfl, hlt⟩ := hc
 obtain ⟨i, rfl⟩ := Int.eq_ofNat_of_zero_le h0
 have hi : i < l0.length := by omega
 obtain ⟨g, cap, cur, hv, hg, hP, hb, hcap, hm, hs, ht⟩ := impl_Session_48.flat.block ho0 (by omega)
 subst hv
 obtain ⟨n, hn⟩ : ∃ n, n = l0.length := ⟨_, rfl⟩
 unfold maxLen at hm
 have hm63 := hm
 have HO := am (Kd.R_mono ho0 (ok' := fun k_ => P0_ k_ ∨ w.heap.size ≤ k_) (fun k hk => .inl hk))
 have HB := am hB
 have HG := am hg
 have HP := am hP
 have HN := am hn
 rw [← hn] at HO ⊢
 rw [← hn] at hi hcap
 clear ho0 hB hg hP hb hs ht hn h0 hlt
 have e1 : (i : Int) + 1 = ((i + 1 : Nat) : Int) := by omega
 rw [Int.toNat_natCast]
 have p1 : (i : Int) ≤ ((i + 1 : Nat) : Int) := by omega
 have p2 : ((i + 1 : Nat) : Int) ≤ (n : Int) := by omega
 have p3 : ¬ ((i : Int) = ((i + 1 : Nat) : Int)) := by omega
 rw [e1]
 clear e1
 have hsz := impl_Session_48.size
 have hdr : Aside0 (Kd.R k54 54 w.drew w0.heap.size (fun k_ => P0_ k_ ∨ w.heap.size ≤ k_) (.slice (some ⟨g, 0, none⟩) n cap) l0) := ⟨HO.out⟩
 have hbd : Aside0 (Below w0.heap.size w0 w.drew) := ⟨below_drew HB.out⟩
 clear HO
 have hic : i ≤ cap := by omega
 have hjc : i + 1 ≤ cap := by omega
 have hq : (i : Int) ≤ (i : Int) + 1 := by omega
 have hr0 : (0 : Int) ≤ (i : Int) + 1 := by omega
 have hr1 : (i : Int) + 1 ≤ (n : Int) := by omega
 by_cases hce : cap = i + 1
 · subst hce
   clear hic hjc
   go_enter Tryd.func48, Tryd.ntmps48
   go_wp2_with (fail)
   go_region_law (refine Kd.R_delete_step k54 (w0 := w0) w0.heap.size (by simp [Region.wanted]) (.tmp 22) (.tmp 25) 28 54 rfl Tryd.underlying28 hsz (g := g) (n := n) (c := i + 1) (k := i) (m := n - (i + 1)) (c2 := 0) (A := some ⟨g, 0, none⟩) (by simp [Act.eval, Act.put]) (by simp [Act.eval, Act.put]; omega) (by simp) rfl hdr.out hi hbd.out hbd.out.size ?_; intro w1 hr hb hgw)
   have hcn : ¬ ((i + 1) = n - 1) := by omega
   have hnn : n - 1 ≤ n := by omega
   have hk1 : ((n - 1 : Nat) : Int) ≤ (n : Int) := by omega
   obtain ⟨hl1, _, hok1, _, _, cur1, hb1, hs1, ht1⟩ := impl_Session_48.flat.blockG hr
   have hsz3 : (k54).sz = 4 := rfl
   have hcl : ∀ ty, (Builtin.clear_ #[28] ty #[.slice (some ⟨g, (n - 1) * 4, none⟩) (n - (n - 1)) ((i + 1) - (n - 1))]).run Tryd.prog w1 = .ok (.tuple #[]) (w1.setCells g ((n - 1) * 4) (.agg #[.int .i64 0, .int .i64 0, .int .i64 0, .string ⟨#[]⟩] : Value).cells.toList) := fun ty => by
     rw [show n - (n - 1) = 1 by omega]
     refine Go.Proofs.YtjdpifafijcpbaaDoor.Slc.run_clear_one w1 _ 54 ty _ Tryd.underlying28 impl_Session_48.zero g _ _ (by decide) (fun j hj => ?_) (fun j hj => blk_frozen hb1 _)
     have hj' : j < 4 := hj
     rw [blk_cell hb1, Array.getElem?_eq_getElem (by rw [hs1, hsz3]; omega)]
     rfl
   obtain ⟨W2, hW2⟩ : ∃ W2, W2 = w1.setCells g ((n - 1) * 4) (.agg #[.int .i64 0, .int .i64 0, .int .i64 0, .string ⟨#[]⟩] : Value).cells.toList := ⟨_, rfl⟩
   rw [← hW2] at hcl
   -- simp only [Nat.mul_one] at hcl
   obtain ⟨cur2, hb2, hs2, hk2, _⟩ := Go.Proofs.YtjdpifafijcpbaaDoor.Slc.setCells_blk g 54 (.agg #[.int .i64 0, .int .i64 0, .int .i64 0, .string ⟨#[]⟩] : Value).cells.toList ((n - 1) * 4) w1 cur1 hb1
   rw [← hW2] at hb2
   have hR : Kd.R k54 54 W2 w0.heap.size (fun k_ => (P0_ k_ ∨ w.heap.size ≤ k_)) (.slice (some ⟨g, 0, none⟩) (n - 1) (i + 1)) (l0.eraseIdx i) := by
     refine impl_Session_48.flat.row hb2 HG.out hok1 hl1.symm (by omega) (by unfold maxLen; omega) (hs2.trans hs1) ?_
     rw [← ht1, ← hl1]
     apply List.ext_getElem?
     intro q
     by_cases hq : q < (n - 1) * (k54).sz
     · rw [List.getElem?_take_of_lt hq, List.getElem?_take_of_lt hq, Array.getElem?_toList, Array.getElem?_toList]
       exact hk2 q (.inl (by rw [hsz3] at hq; exact hq))
     · rw [List.getElem?_eq_none u8_8, List.getElem?_eq_none u8_8]
   have hBel : Below w0.heap.size w0 W2 := by rw [hW2]; exact Go.Proofs.YtjdpifafijcpbaaDoor.Slc.below_setCells HG.out _ _ hb
   have hKp : Kept w W2 (fun k_ => P0_ k_) := by
     rw [hW2]
     exact Go.Proofs.YtjdpifafijcpbaaDoor.Slc.kept_setCells (.inl HP.out) _ _ (Kept.of_grown (W := w.drew) hgw (Kept.drew (Kept.refl w _)) (fun k hk => .inl (by injection hk with hk; exact hk ▸ HP.out)))
   have HR := am hR
   have HBe := am hBel
   have HKp := am hKp
   clear hR hBel hKp hr hb hgw hb1 hs1 ht1 hb2 hs2 hk2 hW2 hl1 hok1 hsz3
   go_wp2
   go_ret
   exact ⟨_, rfl, HR.out, HBe.out, HKp.out⟩
 go_enter Tryd.func48, Tryd.ntmps48
 go_wp2_with (fail)
 go_region_law (refine Kd.R_delete_step k54 (w0 := w0) w0.heap.size (by simp [Region.wanted]) (.tmp 22) (.tmp 25) 28 54 rfl Tryd.underlying28 hsz (g := g) (n := n) (c := cap) (k := i) (m := n - (i + 1)) (c2 := cap - (i + 1)) (A := some ⟨g, (i + 1) * 4, none⟩) (by simp [Act.eval, Act.put]) (by simp [Act.eval, Act.put]) (by rw [if_neg hce]; simp only [Option.map_some, add_plain]; first | done | rfl) rfl hdr.out hi hbd.out hbd.out.size ?_; intro w1 hr hb hgw)
 have hcn : ¬ (cap = n - 1) := by omega
 have hnn : n - 1 ≤ n := by omega
 have hk1 : ((n - 1 : Nat) : Int) ≤ (n : Int) := by omega
 obtain ⟨hl1, _, hok1, _, _, cur1, hb1, hs1, ht1⟩ := impl_Session_48.flat.blockG hr
 have hsz3 : (k54).sz = 4 := rfl
 have hcl : ∀ ty, (Builtin.clear_ #[28] ty #[.slice (some ⟨g, (n - 1) * 4, none⟩) (n - (n - 1)) (cap - (n - 1))]).run Tryd.prog w1 = .ok (.tuple #[]) (w1.setCells g ((n - 1) * 4) (.agg #[.int .i64 0, .int .i64 0, .int .i64 0, .string ⟨#[]⟩] : Value).cells.toList) := fun ty => by
   rw [show n - (n - 1) = 1 by omega]
   refine Go.Proofs.YtjdpifafijcpbaaDoor.Slc.run_clear_one w1 _ 54 ty _ Tryd.underlying28 impl_Session_48.zero g _ _ (by decide) (fun j hj => ?_) (fun j hj => blk_frozen hb1 _)
   have hj' : j < 4 := hj
   rw [blk_cell hb1, Array.getElem?_eq_getElem (by rw [hs1, hsz3]; omega)]
   rfl
 obtain ⟨W2, hW2⟩ : ∃ W2, W2 = w1.setCells g ((n - 1) * 4) (.agg #[.int .i64 0, .int .i64 0, .int .i64 0, .string ⟨#[]⟩] : Value).cells.toList := ⟨_, rfl⟩
 rw [← hW2] at hcl
 -- simp only [Nat.mul_one] at hcl
 obtain ⟨cur2, hb2, hs2, hk2, _⟩ := Go.Proofs.YtjdpifafijcpbaaDoor.Slc.setCells_blk g 54 (.agg #[.int .i64 0, .int .i64 0, .int .i64 0, .string ⟨#[]⟩] : Value).cells.toList ((n - 1) * 4) w1 cur1 hb1
 rw [← hW2] at hb2
 have hR : Kd.R k54 54 W2 w0.heap.size (fun k_ => (P0_ k_ ∨ w.heap.size ≤ k_)) (.slice (some ⟨g, 0, none⟩) (n - 1) cap) (l0.eraseIdx i) := by
   refine impl_Session_48.flat.row hb2 HG.out hok1 hl1.symm (by omega) (by unfold maxLen; omega) (hs2.trans hs1) ?_
   rw [← ht1, ← hl1]
   apply List.ext_getElem?
   intro q
   by_cases hq : q < (n - 1) * (k54).sz
   · rw [List.getElem?_take_of_lt hq, List.getElem?_take_of_lt hq, Array.getElem?_toList, Array.getElem?_toList]
     exact hk2 q (.inl (by rw [hsz3] at hq; exact hq))
   · rw [List.getElem?_eq_none u8_8, List.getElem?_eq_none u8_8]
 have hBel : Below w0.heap.size w0 W2 := by rw [hW2]; exact Go.Proofs.YtjdpifafijcpbaaDoor.Slc.below_setCells HG.out _ _ hb
 have hKp : Kept w W2 (fun k_ => P0_ k_) := by
   rw [hW2]
   exact Go.Proofs.YtjdpifafijcpbaaDoor.Slc.kept_setCells (.inl HP.out) _ _ (Kept.of_grown (W := w.drew) hgw (Kept.drew (Kept.refl w _)) (fun k hk => .inl (by injection hk with hk; exact hk ▸ HP.out)))
 have HR := am hR
 have HBe := am hBel
 have HKp := am hKp
 clear hR hBel hKp hr hb hgw hb1 hs1 ht1 hb2 hs2 hk2 hW2 hl1 hok1 hsz3
 go_wp2
 go_ret
 exact ⟨_, rfl, HR.out, HBe.out, HKp.out⟩


end Go.Proofs.YtjdpifafijcpbaaDoor.QFnOnce
