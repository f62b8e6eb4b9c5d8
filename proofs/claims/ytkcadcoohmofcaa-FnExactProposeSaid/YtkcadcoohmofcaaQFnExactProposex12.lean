-- Printed by the session's own program wip/prx.py.
import Derived.Test.YtkcadcoohmofcaaSqFnExactPropose
import Derived.Test.YtkcadcoohmofcaaQFnExactProposex0
namespace Go.Proofs.Ytkcadcoohmofcaa.QFnExactPropose
open Go.RowKit Go.Proofs.YtkcadcoohmofcaaW.PrintWords Go.Proofs.YtkcadcoohmofcaaW.PrintLast Go.Proofs.YtkcadcoohmofcaaW.PrintMore Go.Proofs.Ytkcadcoohmofcaa.SqFnExactPropose
attribute [local go_sem] max2_int min2_int max_two min_two max_three min_three max_four min_four Go.Proofs.Ytkcadcoohmofcaa.Set.isSome_setCell
set_option linter.unusedVariables false
set_option linter.unusedSimpArgs false

-- squeezed
/-! ### slices_Min_int_int: function 116 -/
def slices_Min_int_int.f (l0 : List Int) : Option Int := if 0 < l0.length then some (Lib.minOf l0) else none
set_option maxHeartbeats 2000000 in
set_option maxRecDepth 100000 in
theorem slices_Min_int_int.calls (A0 : Option Addr) (c0 : Nat) (l0 : List Int) (r : Int) (w : World) (hr0 : Kd.C (Kd.int .i64) w A0 l0.length l0) (hc0 : l0.length ≤ c0) (h : slices_Min_int_int.f l0 = some r) :
   Calls Try.prog 116 #[.slice A0 l0.length c0] w fun e w' => e = .returned (.int .i64 r) ∧ ∃ nd, w' = w.drewN nd := by
 unfold slices_Min_int_int.f at h
 by_cases h0 : 0 < l0.length
 rotate_left
 · rw [if_neg h0] at h; cases h
 rw [if_pos h0] at h
 obtain rfl := Option.some.inj h
 have hn : l0.length ≤ 9223372036854775807 := hr0.2.1
 have HR := am hr0
 have H1 : Aside0 (rd l0 0 = Lib.minOf (l0.take 1)) := ⟨by rw [Lib.minOf_one]; rfl⟩
 have HS : Aside0 (∀ k : Int, 0 < k → k < (l0.length : Int) → min (Lib.minOf (l0.take k.toNat)) (rd l0 k) = Lib.minOf (l0.take (k + 1).toNat)) := ⟨fun k h1 h2 => by
   rw [show (k + 1).toNat = k.toNat + 1 by omega, Lib.minOf_step l0 k.toNat (by omega) (by omega)]
   rfl⟩
 obtain ⟨ad, rfl, hx⟩ := Kd.at_int hr0 0 (by omega) (by omega)
 have hx0 : w.cell? ad = some (.int .i64 (rd l0 0)) := hx
 clear hr0 hx
 go_enter Try.func116, Try.ntmps116
 go_wp2
 go_loopg [3, 4] l0.length (fun gg s3 s4 wr => ∃ k : Int, 0 < k ∧ k ≤ l0.length ∧ l0.length - k.toNat ≤ gg ∧ s4 = .int .i64 k ∧ s3 = .int .i64 (Lib.minOf (l0.take k.toNat)) ∧ wr = w)
 case atStart => exact ⟨1, by omega, by omega, by omega, rfl, congrArg (Value.int .i64) H1.out, rfl⟩
 obtain ⟨k, hk0, hk, hg, rfl, rfl, rfl⟩ := hrel
 by_cases hlt : k < (l0.length : Int)
 rotate_left
 · go_wp2
   go_ret
   have e : k.toNat = l0.length := by omega
   rw [e, List.take_of_length_le (Nat.le_refl _)]
   exact ⟨rfl, 0, rfl⟩
 obtain ⟨ad', e, hx1⟩ := Kd.at_int HR.out k (by omega) hlt
 cases e
 have HE := am (HS.out k hk0 hlt)
 go_wp2
 all_goals (go_roundg (l0.length - (k + 1).toNat); (case measure => omega); (case rel => exact ⟨k + 1, by omega, by omega, by omega, by go_num, by rw [← HE.out]; congr 1; omega, rfl⟩))


end Go.Proofs.Ytkcadcoohmofcaa.QFnExactPropose
