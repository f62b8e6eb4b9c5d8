import Derived.Test.YtkcadcoohmofcaaSqFnExactSettled
import Derived.Test.YtkcadcoohmofcaaQFnExactSettledx0
import Derived.Test.YtkcadcoohmofcaaQFnExactSettledx14
namespace Go.Proofs.Ytkcadcoohmofcaa.QFnExactSettled
open Go.RowKit Go.Proofs.YtkcadcoohmofcaaW.PrintWords Go.Proofs.YtkcadcoohmofcaaW.PrintLast Go.Proofs.YtkcadcoohmofcaaW.PrintMore Go.Proofs.Ytkcadcoohmofcaa.SqFnExactSettled
attribute [local go_sem] max2_int min2_int max_two min_two max_three min_three max_four min_four Go.Proofs.Ytkcadcoohmofcaa.Set.isSome_setCell
set_option linter.unusedVariables false
set_option linter.unusedSimpArgs false
def impl_Entry.ent (y : S85) : Bool := decide (y.f0 > 0) && (decide (y.f0 ≤ 1000000) && decide ((y.f1.size : Int) ≤ 40))
theorem impl_Entry.ent_e (y : S85) : impl_isEntry.f y.f0 y.f1 = some (impl_Entry.ent y) := by
 unfold impl_isEntry.f impl_Entry.ent
 by_cases h1 : y.f0 > 0
 rotate_left
 · simp [h1]
 by_cases h2 : y.f0 ≤ 1000000
 · simp [h1, h2]
 simp [h1, h2]
def impl_Entry.p (a1_3 : Int) (y : S85) : Bool := !impl_Entry.ent y || decide (y.f0 > a1_3)
def impl_Entry.f (l0 : List S85) (a1_0 : Int) (a1_1 : Int) (a1_2 : Int) (a1_3 : Int) (a1_4 : Int) (a1_5 : Int) (a1_6 : Int) (a1_7 : Bool) (l1_8 : List (S85)) : Option Bool := some (l0.any (impl_Entry.p a1_3))
set_option maxHeartbeats 800000 in
set_option maxRecDepth 100000 in
theorem impl_Entry.lit (b : Nat) (a1_3 : Int) (y : S85) (w : World) (hid : w.cell? ⟨b, 3, none⟩ = some (.int .i64 a1_3)) :
   Calls Try.prog 110 #[.agg #[.int .i64 y.f0, .string y.f1], .pointer (some ⟨b, 0, none⟩)] w fun e w' => e = .returned (.bool (impl_Entry.p a1_3 y)) ∧ Below w.heap.size w w' := by
 have hu := Try.underlying85
 have hu2 := Try.underlying29
 have hlt := World.block_lt_of_cell? w _ hid
 have hE := impl_Entry.ent_e y
 have HID := am hid
 have HLT := am hlt
 clear hid hlt
 unfold impl_Entry.p
 cases hq : impl_Entry.ent y with
 | false =>
   rw [hq] at hE
   have HE := am hE
   clear hE hq
   go_enter Try.func110, Try.ntmps110
   go_wp2_with (go_at_call 111; refine (impl_isEntry.calls _ _ _ _ HE.out).mono ?_; rintro e w' ⟨rfl, hb'⟩; have HB := am (below_step (below_alloc (Below.refl w.heap.size w) _) hb'); have hy0 : w'.cell? ⟨w.heap.size, 0, none⟩ = some (.int .i64 y.f0) := (hb'.cell (p := ⟨w.heap.size, 0, none⟩) (by simp)).trans (by simp); clear hb'; have hc3 := (HB.out.cell (p := ⟨b, 3, none⟩) HLT.out).trans HID.out)
   go_ret
   exact ⟨by simp, HB.out⟩
 | true =>
   rw [hq] at hE
   have HE := am hE
   clear hE hq
   go_enter Try.func110, Try.ntmps110
   go_wp2_with (go_at_call 111; refine (impl_isEntry.calls _ _ _ _ HE.out).mono ?_; rintro e w' ⟨rfl, hb'⟩; have HB := am (below_step (below_alloc (Below.refl w.heap.size w) _) hb'); have hy0 : w'.cell? ⟨w.heap.size, 0, none⟩ = some (.int .i64 y.f0) := (hb'.cell (p := ⟨w.heap.size, 0, none⟩) (by simp)).trans (by simp); clear hb'; have hc3 := (HB.out.cell (p := ⟨b, 3, none⟩) HLT.out).trans HID.out)
   go_ret
   exact ⟨by simp, HB.out⟩
set_option maxHeartbeats 1600000 in
theorem impl_Entry.idx (p : S85 → Bool) (bs : Array Value) (A0 : Option Addr) (c0 : Nat) (l0 : List S85) (w : World) (hr0 : Kd.C k85 w A0 l0.length l0) (hc0 : l0.length ≤ c0)
   (hf : ∀ (y : S85) (W : World), Below w.heap.size w W → Calls Try.prog 110 (#[.agg #[.int .i64 y.f0, .string y.f1]] ++ bs) W fun e w' => e = .returned (.bool (p y)) ∧ Below W.heap.size W w') :
   Calls Try.prog 122 #[.slice A0 l0.length c0, .func (.func 110) #[] bs] w fun e w' => e = .returned (.int .i64 (Go.Proofs.Ytkcadcoohmofcaa.Slc.idxB p l0)) ∧ Below w.heap.size w w' := by
 have hu85 := Try.underlying85
 have hn : l0.length ≤ 9223372036854775807 := hr0.2.1
 have HR := am hr0
 have HF := am hf
 clear hr0 hf
 go_enter Try.func122, Try.ntmps122
 go_wp2
 go_loopg [5, 8] l0.length (fun gg _ s8 wr => ∃ kk : Int, 0 ≤ kk ∧ kk ≤ l0.length ∧ l0.length - kk.toNat ≤ gg ∧ s8 = .int .i64 kk ∧ Aside0 (Below w.heap.size w wr) ∧ Aside0 (∀ j : Nat, (j : Int) < kk → p (l0.getD j z85) = false))
 case atStart => exact ⟨0, by omega, by omega, by omega, rfl, ⟨Below.refl _ w⟩, ⟨fun j hj => by omega⟩⟩
 obtain ⟨kk, h0, hk, hg, rfl, BW, HA⟩ := hrel
 by_cases hlt : kk < (l0.length : Int)
 rotate_left
 · go_wp2
   go_ret
   refine ⟨?_, BW.out⟩
   rw [Go.Proofs.Ytkcadcoohmofcaa.Slc.idxB_miss p l0 z85 (fun j hj => HA.out j (by omega))]
   rfl
 obtain ⟨ad, e, hx0, hx1⟩ := at_T85 HR.out kk h0 hlt
 cases e
 replace hx0 := (BW.out.cell (World.block_lt_of_cell? w _ hx0)).trans hx0
 replace hx1 := (BW.out.cell (World.block_lt_of_cell? w _ hx1)).trans hx1
 have HC := am (HF.out (l0.getD kk.toNat z85) wr BW.out)
 cases hq : p (l0.getD kk.toNat z85) with
 | true =>
   have HQ := am hq
   rw [hq] at HC
   clear hq
   go_wp2_with (go_at_call 110; refine HC.out.mono ?_; rintro e w' ⟨rfl, hb'⟩)
   go_ret
   refine ⟨?_, below_step BW.out hb'⟩
   rw [Go.Proofs.Ytkcadcoohmofcaa.Slc.idxB_hit p l0 z85 kk.toNat (by omega) HQ.out (fun j hj => HA.out j (by omega)), Int.toNat_of_nonneg h0]
   rfl
 | false =>
   have HQ := am hq
   rw [hq] at HC
   clear hq
   go_wp2_with (go_at_call 110; refine HC.out.mono ?_; rintro e w' ⟨rfl, hb'⟩)
   go_roundg (l0.length - (kk + 1).toNat)
   case measure => omega
   case rel =>
     refine ⟨kk + 1, by omega, by omega, by omega, by go_num, ⟨below_step BW.out hb'⟩, ⟨fun j hj => ?_⟩⟩
     by_cases e : (j : Int) = kk
     rotate_left
     · exact HA.out j (by omega)
     have := HQ.out
     rw [← e, Int.toNat_natCast] at this
     exact this
set_option maxHeartbeats 400000 in
theorem impl_Entry.calls (A0 : Option Addr) (c0 : Nat) (l0 : List S85) (a1_0 : Int) (a1_1 : Int) (a1_2 : Int) (a1_3 : Int) (a1_4 : Int) (a1_5 : Int) (a1_6 : Int) (a1_7 : Bool) (A1_8 : Option Addr) (c1_8 : Nat) (l1_8 : List (S85)) (r : Bool) (w : World) {b : Nat} (hr0 : Kd.C k85 w A0 l0.length l0) (hc0 : l0.length ≤ c0) (hr1_8 : Kd.C k85 w A1_8 l1_8.length l1_8) (hc1_8 : l1_8.length ≤ c1_8) (hb : w.heap[b]? = some (.cells #[.int .i64 a1_0, .int .i64 a1_1, .int .i64 a1_2, .int .i64 a1_3, .int .i64 a1_4, .int .i64 a1_5, .int .i64 a1_6, .bool a1_7, .slice A1_8 l1_8.length c1_8] 29 (0, 0))) (h : impl_Entry.f l0 a1_0 a1_1 a1_2 a1_3 a1_4 a1_5 a1_6 a1_7 l1_8 = some r) :
   Calls Try.prog 109 #[.slice A0 l0.length c0, .func (.func 110) #[] #[.pointer (some ⟨b, 0, none⟩)]] w fun e w' => e = .returned (.bool r) ∧ Below w.heap.size w w' := by
 obtain rfl := Option.some.inj h
 have HI := am (impl_Entry.idx (impl_Entry.p a1_3) #[.pointer (some ⟨b, 0, none⟩)] A0 c0 l0 w hr0 hc0 (fun y W hW => impl_Entry.lit b a1_3 y W ((blk_cell ((hW.block b (blk_lt hb)).trans hb) 3).trans rfl)))
 clear hr0 hc0 hb h hr1_8 hc1_8
 go_enter Try.func109, Try.ntmps109
 go_wp2_with (go_at_call 122; refine HI.out.mono ?_; rintro e w' ⟨rfl, hb'⟩)
 go_ret
 exact ⟨(by first | (rw [← Go.Proofs.Ytkcadcoohmofcaa.Slc.idxB_any]; done) | (rw [← Go.Proofs.Ytkcadcoohmofcaa.Slc.idxB_any]; rfl)), hb'⟩
end Go.Proofs.Ytkcadcoohmofcaa.QFnExactSettled
