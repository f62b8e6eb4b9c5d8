-- Printed by the session's own program wip/prx.py.
import Derived.Test.YtfabcjkaoidmeaaQFnExactChartOkx0
namespace Go.Proofs.Ytfabcjkaoidmeaa.QFnExactChartOk
open Go.RowKit Go.Proofs.YtfabcjkaoidmeaaW.PrintWords Go.Proofs.YtfabcjkaoidmeaaW.PrintLast Go.Proofs.YtfabcjkaoidmeaaW.PrintMore
attribute [local go_sem] max2_int min2_int max_two min_two max_three min_three max_four min_four Go.Proofs.Ytfabcjkaoidmeaa.Set.isSome_setCell   -- for this text's walks alone
set_option linter.unusedVariables false
set_option linter.unusedSimpArgs false

/-! ### impl_findRange: function 59 -/
def idxB {α : Type} (p : α → Bool) (xs : List α) : Int := match xs.findIdx? p with | some i => (i : Int) | none => -1
theorem idxB_hit {α : Type} (p : α → Bool) (xs : List α) (z : α) (i : Nat) (hi : i < xs.length) (h : p (xs.getD i z) = true) (hb : ∀ j, j < i → p (xs.getD j z) = false) : idxB p xs = (i : Int) := by
  have e : xs.findIdx? p = some i := by
    rw [List.findIdx?_eq_some_iff_getElem]
    refine ⟨hi, ?_, fun j hj => ?_⟩
    · rw [List.getD_eq_getElem?_getD, List.getElem?_eq_getElem hi] at h
      exact h
    · have := hb j hj
      rw [List.getD_eq_getElem?_getD, List.getElem?_eq_getElem (by omega)] at this
      simpa using this
  unfold idxB
  rw [e]
theorem idxB_miss {α : Type} (p : α → Bool) (xs : List α) (z : α) (hb : ∀ j, j < xs.length → p (xs.getD j z) = false) : idxB p xs = -1 := by
  have e : xs.findIdx? p = none := by
    rw [List.findIdx?_eq_none_iff]
    intro x hx
    obtain ⟨j, hj, rfl⟩ := List.mem_iff_getElem.1 hx
    have := hb j hj
    rw [List.getD_eq_getElem?_getD, List.getElem?_eq_getElem hj] at this
    exact this
  unfold idxB
  rw [e]
def impl_findRange.f (l0 : List S26) (a1 : Int) : Option Int := some (idxB (fun r => decide (a1 ≤ r.f1)) l0)
set_option maxHeartbeats 400000 in
theorem impl_findRange.lit (b : Nat) (a1 x0 x1 x2 : Int) (w : World) (hid : w.cell? ⟨b, 0, none⟩ = some (.int .u64 a1)) :
    Calls Try.prog 74 #[.agg #[.int .u64 x0, .int .u64 x1, .int .i64 x2], .pointer (some ⟨b, 0, none⟩)] w fun e w' => e = .returned (.bool (decide (a1 ≤ x1))) ∧ Below w.heap.size w w' := by
  have hu26 := Try.underlying26
  have hlt := World.block_lt_of_cell? w _ hid
  have hid2 : ∀ o, (w.alloc o).cell? ⟨b, 0, none⟩ = some (.int .u64 a1) := fun o => ((below_alloc (Below.refl w.heap.size w) o).cell (p := ⟨b, 0, none⟩) hlt).trans hid
  go_enter Try.func74, Try.ntmps74
  go_wp2
  go_ret
  exact ⟨rfl, below_alloc (Below.refl _ _) _⟩
set_option maxHeartbeats 800000 in
theorem impl_findRange.idx (b : Nat) (a1 : Int) (A0 : Option Addr) (c0 : Nat) (l0 : List S26) (w : World) (hid : w.cell? ⟨b, 0, none⟩ = some (.int .u64 a1)) (hr0 : Kd.C k26 w A0 l0.length l0) (hc0 : l0.length ≤ c0) :
    Calls Try.prog 73 #[.slice A0 l0.length c0, .func (.func 74) #[] #[.pointer (some ⟨b, 0, none⟩)]] w fun e w' => e = .returned (.int .i64 (idxB (fun r => decide (a1 ≤ r.f1)) l0)) ∧ Below w.heap.size w w' := by
  have hu26 := Try.underlying26
  have hn : l0.length ≤ 9223372036854775807 := hr0.2.1
  have HR := Aside0.mk hr0
  have HI := Aside0.mk hid
  clear hr0 hid
  go_enter Try.func73, Try.ntmps73
  go_wp2
  go_loopg [5, 8] l0.length (fun gg _ s8 wr => ∃ kk : Int, 0 ≤ kk ∧ kk ≤ l0.length ∧ l0.length - kk.toNat ≤ gg ∧ s8 = .int .i64 kk ∧ Aside0 (Below w.heap.size w wr) ∧ Aside0 (∀ j : Nat, (j : Int) < kk → decide (a1 ≤ (l0.getD j z26).f1) = false))
  case atStart => exact ⟨0, by omega, by omega, by omega, rfl, ⟨Below.refl _ w⟩, ⟨fun j hj => by omega⟩⟩
  case round =>
    obtain ⟨kk, h0, hk, hg, rfl, BW, HA⟩ := hrel
    by_cases hlt : kk < (l0.length : Int)
    · obtain ⟨ad, e, hx0, hx1, hx2⟩ := at_T26 HR.out kk h0 hlt
      cases e
      replace hx0 := (BW.out.cell (World.block_lt_of_cell? w _ hx0)).trans hx0
      replace hx1 := (BW.out.cell (World.block_lt_of_cell? w _ hx1)).trans hx1
      replace hx2 := (BW.out.cell (World.block_lt_of_cell? w _ hx2)).trans hx2
      have hcall := impl_findRange.lit b a1 (rd_T26 l0 kk).f0 (rd_T26 l0 kk).f1 (rd_T26 l0 kk).f2 wr ((BW.out.cell (World.block_lt_of_cell? w _ HI.out)).trans HI.out)
      have HC := Aside0.mk hcall
      clear hcall
      cases hq : decide (a1 ≤ (rd_T26 l0 kk).f1) with
      | true =>
        have HQ := Aside0.mk hq
        rw [hq] at HC
        clear hq
        go_wp2_with (go_at_call 74; refine HC.out.mono ?_; rintro e w' ⟨rfl, hb'⟩)
        go_ret
        refine ⟨?_, below_step BW.out hb'⟩
        rw [idxB_hit (fun r : S26 => decide (a1 ≤ r.f1)) l0 z26 kk.toNat (by omega) HQ.out (fun j hj => HA.out j (by omega)), Int.toNat_of_nonneg h0]
        rfl
      | false =>
        have HQ := Aside0.mk hq
        rw [hq] at HC
        clear hq
        go_wp2_with (go_at_call 74; refine HC.out.mono ?_; rintro e w' ⟨rfl, hb'⟩)
        go_roundg (l0.length - (kk + 1).toNat)
        case measure => omega
        case rel =>
          refine ⟨kk + 1, by omega, by omega, by omega, by go_num, ⟨below_step BW.out hb'⟩, ⟨fun j hj => ?_⟩⟩
          by_cases e : (j : Int) = kk
          · have := HQ.out
            rw [← e, rd_T26, Int.toNat_natCast] at this
            exact this
          · exact HA.out j (by omega)
    · go_wp2
      go_ret
      refine ⟨?_, BW.out⟩
      rw [idxB_miss (fun r : S26 => decide (a1 ≤ r.f1)) l0 z26 (fun j hj => HA.out j (by omega))]
      rfl
set_option maxHeartbeats 400000 in
theorem impl_findRange.calls (A0 : Option Addr) (c0 : Nat) (l0 : List (S26)) (a1 : Int) (r : Int) (w : World) (hr0 : Kd.C k26 w A0 l0.length l0) (hc0 : l0.length ≤ c0) (h : impl_findRange.f l0 a1 = some r) :
    Calls Try.prog 59 #[.slice A0 l0.length c0, .int .u64 a1] w fun e w' => e = .returned (.int .i64 r) ∧ Below w.heap.size w w' := by
  obtain rfl := Option.some.inj h
  have HR := Aside0.mk hr0
  have HC0 := Aside0.mk hc0
  clear hr0 hc0 h
  go_enter Try.func59, Try.ntmps59
  go_wp2_with (go_at_call 73; refine (impl_findRange.idx w.heap.size a1 A0 c0 l0 _ (by simp) (Kd.C_below HR.out (below_alloc (Below.refl _ _) _)) HC0.out).mono ?_; rintro e w' ⟨rfl, hb'⟩)
  go_ret
  exact ⟨rfl, below_step (below_alloc (Below.refl _ _) _) hb'⟩


end Go.Proofs.Ytfabcjkaoidmeaa.QFnExactChartOk
