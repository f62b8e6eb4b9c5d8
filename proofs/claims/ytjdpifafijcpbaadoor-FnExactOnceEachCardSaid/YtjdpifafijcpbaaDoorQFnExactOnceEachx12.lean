-- Printed by the session's own program wip/prx.py.
import Derived.Test.YtjdpifafijcpbaaDoorShelf
import Derived.Test.YtjdpifafijcpbaaDoorSqFnExactOnceEach
import Derived.Test.YtjdpifafijcpbaaDoorQFnExactOnceEachx0
import Derived.Test.YtjdpifafijcpbaaDoorQFnExactOnceEachx7
import Derived.Test.YtjdpifafijcpbaaDoorQFnExactOnceEachx8
import Derived.Test.YtjdpifafijcpbaaDoorQFnExactOnceEachx9
import Derived.Test.YtjdpifafijcpbaaDoorQFnExactOnceEachx11
namespace Go.Proofs.YtjdpifafijcpbaaDoor.QFnExactOnceEach
open Go.RowKit Go.Proofs.YtjdpifafijcpbaaDoorW.PrintWords Go.Proofs.YtjdpifafijcpbaaDoorW.PrintLast Go.Proofs.YtjdpifafijcpbaaDoorW.PrintMore Go.Proofs.YtjdpifafijcpbaaDoor.SqFnExactOnceEach
attribute [local go_sem] max2_int min2_int max_two min_two max_three min_three max_four min_four Go.Proofs.YtjdpifafijcpbaaDoor.Set.isSome_setCell
set_option linter.unusedVariables false
set_option linter.unusedSimpArgs false

-- squeezed
theorem u12_2 {P : Prop} (h : P := by (with_reducible repeat (first | refine blk_drewN ?_ _ | refine blk_drew ?_ | refine blk_alloc ?_ _)); exact BK330.out) : P := h
theorem u12_3 {P : Prop} (h : P := by (with_reducible repeat (first | refine blk_drewN ?_ _ | refine blk_drew ?_ | refine blk_alloc ?_ _)); refine blk_far ?_ NB330_337.out _; (with_reducible repeat (first | refine blk_drewN ?_ _ | refine blk_drew ?_ | refine blk_alloc ?_ _)); refine blk_far ?_ NB330_337.out _; (with_reducible repeat (first | refine blk_drewN ?_ _ | refine blk_drew ?_ | refine blk_alloc ?_ _)); refine blk_far ?_ NB330_337.out _; (with_reducible repeat (first | refine blk_drewN ?_ _ | refine blk_drew ?_ | refine blk_alloc ?_ _)); exact BK330.out) : P := h
theorem u12_4 {P : Prop} (h : P := by (with_reducible repeat (first | refine blk_drewN ?_ _ | refine blk_drew ?_ | refine blk_alloc ?_ _)); refine blk_far ?_ NB331_337.out _; (with_reducible repeat (first | refine blk_drewN ?_ _ | refine blk_drew ?_ | refine blk_alloc ?_ _)); refine blk_far ?_ NB331_337.out _; (with_reducible repeat (first | refine blk_drewN ?_ _ | refine blk_drew ?_ | refine blk_alloc ?_ _)); refine blk_far ?_ NB331_337.out _; (with_reducible repeat (first | refine blk_drewN ?_ _ | refine blk_drew ?_ | refine blk_alloc ?_ _)); exact BK331.out) : P := h
theorem u12_5 {P : Prop} (h : P := by (with_reducible repeat (first | apply Kd.R_alloc | apply Kd.R_drewN | apply Kd.R_drew)); exact (Kd.R_mono (Kd.R_far (p := ⟨gb337, 2, none⟩) (Kd.R_far (p := ⟨gb337, 1, none⟩) (Kd.R_far (p := ⟨gb337, 0, none⟩) (Kd.R_types HO_7.out BK337.out (by decide)) (fun _ hk => hk.2) (.int .i64 t344)) (fun _ hk => hk.2) (.int .i64 t345)) (fun _ hk => hk.2) (.slice Ao54 t346.length co54)) (fun _ h_ => h_.1))) : P := h
theorem u12_6 {P : Prop} (h : P := by (with_reducible repeat (first | refine blk_drewN ?_ _ | refine blk_drew ?_ | refine blk_alloc ?_ _)); exact BK331.out) : P := h
theorem u12_7 {P : Prop} (h : P := by (with_reducible repeat (first | refine blk_drewN ?_ _ | refine blk_drew ?_ | refine blk_alloc ?_ _)); refine blk_put (cs := #[.int .i64 t344, .int .i64 t345, .slice Ao46 x338002_2.length co46]) ?_ 2 _ rfl; (with_reducible repeat (first | refine blk_drewN ?_ _ | refine blk_drew ?_ | refine blk_alloc ?_ _)); refine blk_put (cs := #[.int .i64 t344, .int .i64 x338001_2, .slice Ao46 x338002_2.length co46]) ?_ 1 _ rfl; (with_reducible repeat (first | refine blk_drewN ?_ _ | refine blk_drew ?_ | refine blk_alloc ?_ _)); refine blk_put (cs := #[.int .i64 x338000_2, .int .i64 x338001_2, .slice Ao46 x338002_2.length co46]) ?_ 0 _ rfl; (with_reducible repeat (first | refine blk_drewN ?_ _ | refine blk_drew ?_ | refine blk_alloc ?_ _)); exact BK337.out) : P := h
theorem u12_8 {P : Prop} (h : P := by (with_reducible repeat (first | refine blk_drewN ?_ _ | refine blk_drew ?_ | refine blk_alloc ?_ _)); exact BK337.out) : P := h
theorem u12_9 {P : Prop} (h : P := by (with_reducible repeat (first | refine blk_drewN ?_ _ | refine blk_drew ?_ | refine blk_alloc ?_ _)); refine blk_far ?_ NB343_337.out _; (with_reducible repeat (first | refine blk_drewN ?_ _ | refine blk_drew ?_ | refine blk_alloc ?_ _)); refine blk_far ?_ NB343_337.out _; (with_reducible repeat (first | refine blk_drewN ?_ _ | refine blk_drew ?_ | refine blk_alloc ?_ _)); refine blk_far ?_ NB343_337.out _; (with_reducible repeat (first | refine blk_drewN ?_ _ | refine blk_drew ?_ | refine blk_alloc ?_ _)); exact BK343.out) : P := h
theorem u12_10 {P : Prop} (h : P := by (with_reducible repeat (first | refine blk_drewN ?_ _ | refine blk_drew ?_ | refine blk_alloc ?_ _)); refine blk_far ?_ NB350_337.out _; (with_reducible repeat (first | refine blk_drewN ?_ _ | refine blk_drew ?_ | refine blk_alloc ?_ _)); refine blk_far ?_ NB350_337.out _; (with_reducible repeat (first | refine blk_drewN ?_ _ | refine blk_drew ?_ | refine blk_alloc ?_ _)); refine blk_far ?_ NB350_337.out _; (with_reducible repeat (first | refine blk_drewN ?_ _ | refine blk_drew ?_ | refine blk_alloc ?_ _)); exact BK350.out) : P := h
theorem u12_12 {P : Prop} (h : P := by (with_reducible repeat (first | apply Kd.R_alloc | apply Kd.R_drewN | apply Kd.R_drew)); exact (Kd.R_mono (Kd.R_far (p := ⟨gb343, 2, none⟩) (Kd.R_far (p := ⟨gb343, 1, none⟩) (Kd.R_far (p := ⟨gb343, 0, none⟩) (Kd.R_types HO_338002.out BK343.out (by decide)) (fun _ hk => hk.2) (.int .i64 ((rd_T50 l1 x28_2).f0))) (fun _ hk => hk.2) (.int .i64 ((rd_T50 l1 x28_2).f1))) (fun _ hk => hk.2) (.string ((rd_T50 l1 x28_2).f2))) (fun _ h_ => h_.1))) : P := h
theorem u12_13 {P : Prop} (h : P := by (with_reducible repeat (first | apply Kd.R_alloc | apply Kd.R_drewN | apply Kd.R_drew)); exact (Kd.R_mono (Kd.R_far (p := ⟨gb337, 2, none⟩) (Kd.R_far (p := ⟨gb337, 1, none⟩) (Kd.R_far (p := ⟨gb337, 0, none⟩) (Kd.R_types HO_338002.out BK337.out (by decide)) (fun _ hk => hk.2) (.int .i64 t344)) (fun _ hk => hk.2) (.int .i64 t345)) (fun _ hk => hk.2) (.slice Ao54 t346.length co54)) (fun _ h_ => h_.1))) : P := h
theorem u12_14 {P : Prop} (h : P := by (with_reducible repeat (first | apply Kd.R_alloc | apply Kd.R_drewN | apply Kd.R_drew)); exact Kd.R_mono (Kd.R_far (p := ⟨gb337, 2, none⟩) (Kd.R_far (p := ⟨gb337, 1, none⟩) (Kd.R_far (p := ⟨gb337, 0, none⟩) (Kd.R_types HO_7.out BK337.out (by decide)) (fun _ hk => hk.2) (.int .i64 t344)) (fun _ hk => hk.2) (.int .i64 t345)) (fun _ hk => hk.2) (.slice Ao54 t346.length co54)) (fun _ hk => trivial)) : P := h
theorem u12_15 {P : Prop} (h : P := by (with_reducible repeat (first | apply Kd.R_alloc | apply Kd.R_drewN | apply Kd.R_drew)); exact (Kd.R_mono (Kd.R_far (p := ⟨gb337, 2, none⟩) (Kd.R_far (p := ⟨gb337, 1, none⟩) (Kd.R_far (p := ⟨gb337, 0, none⟩) (Kd.R_types HO348.out BK337.out (by decide)) (fun _ hk => hk.2) (.int .i64 t344)) (fun _ hk => hk.2) (.int .i64 t345)) (fun _ hk => hk.2) (.slice Ao54 t346.length co54)) (fun _ h_ => h_.1))) : P := h
theorem u12_19 {P : Prop} (h : P := by (with_reducible repeat (first | refine blk_drewN ?_ _ | refine blk_drew ?_ | refine blk_alloc ?_ _)); refine blk_put (cs := #[.int .i64 t332, .int .i64 t333, .slice none 0 0]) ?_ 2 _ rfl; (with_reducible repeat (first | refine blk_drewN ?_ _ | refine blk_drew ?_ | refine blk_alloc ?_ _)); refine blk_put (cs := #[.int .i64 t332, .int .i64 0, .slice none 0 0]) ?_ 1 _ rfl; (with_reducible repeat (first | refine blk_drewN ?_ _ | refine blk_drew ?_ | refine blk_alloc ?_ _)); refine blk_put (cs := #[.int .i64 0, .int .i64 0, .slice none 0 0]) ?_ 0 _ rfl; (with_reducible repeat (first | refine blk_drewN ?_ _ | refine blk_drew ?_ | refine blk_alloc ?_ _)); exact BK337.out) : P := h
theorem u12_21 {P : Prop} (h : P := by (with_reducible repeat (first | apply Kd.R_alloc | apply Kd.R_drewN | apply Kd.R_drew)); exact (Kd.R_mono (Kd.R_far (p := ⟨gb350, 2, none⟩) (Kd.R_far (p := ⟨gb350, 1, none⟩) (Kd.R_far (p := ⟨gb350, 0, none⟩) (Kd.R_types HO_338002.out BK350.out (by decide)) (fun _ hk => hk.2) (.int .i64 t344)) (fun _ hk => hk.2) (.int .i64 t345)) (fun _ hk => hk.2) (.slice Ao54 t346.length co54)) (fun _ h_ => h_.1))) : P := h
theorem u12_22 {P : Prop} (h : P := by (with_reducible repeat (first | apply Kd.R_alloc | apply Kd.R_drewN | apply Kd.R_drew)); exact (Kd.R_mono (Kd.R_far (p := ⟨gb337, 2, none⟩) (Kd.R_far (p := ⟨gb337, 1, none⟩) (Kd.R_far (p := ⟨gb337, 0, none⟩) (Kd.R_types HO336.out BK337.out (by decide)) (fun _ hk => hk.2) (.int .i64 t332)) (fun _ hk => hk.2) (.int .i64 t333)) (fun _ hk => hk.2) (.slice Ao14 t334.length co14)) (fun _ h_ => h_.1))) : P := h
theorem u12_25 {P : Prop} (h : P := by (with_reducible repeat (first | apply Kd.R_alloc | apply Kd.R_drewN | apply Kd.R_drew)); exact HO_338002.out) : P := h
theorem u12_26 {P : Prop} (h : P := by (with_reducible repeat (first | apply Kd.R_alloc | apply Kd.R_drewN | apply Kd.R_drew)); exact Kd.R_mono HO348.out (fun _ hk => trivial)) : P := h
theorem u12_27 {P : Prop} (h : P := by (with_reducible repeat (first | refine blk_drewN ?_ _ | refine blk_drew ?_ | refine blk_alloc ?_ _)); exact BK343.out) : P := h
theorem u12_28 {P : Prop} (h : P := by (with_reducible repeat (first | refine blk_drewN ?_ _ | refine blk_drew ?_ | refine blk_alloc ?_ _)); exact BK363.out) : P := h
theorem u12_30 {P : Prop} (h : P := by (with_reducible repeat (first | apply Kd.R_alloc | apply Kd.R_drewN | apply Kd.R_drew)); exact HO336.out) : P := h
theorem u12_32 {P : Prop} (h : P := by first | (go_simp; done) | (go_simp; rfl)) : P := h
theorem u12_33 {P : Prop} (h : P := by have := HJ3.out; have := HK2.out; omega) : P := h
/-! ### strconv_Itoa: function 38 -/
def strconv_Itoa.f (a0 : Int) : Option ByteArray := if 0 ≤ a0 ∧ a0 < 100 then some ⟨(Lib.decDigits a0.toNat).toArray⟩ else none
theorem strconv_Itoa.calls (a0 : Int) (r : ByteArray) (w : World) (h : strconv_Itoa.f a0 = some r) :
   Calls Tryd.prog 38 #[.int .i64 a0] w fun e w' => e = .returned (.string r) ∧ ∃ nd, w' = w.drewN nd := by
 unfold strconv_Itoa.f at h
 by_cases c : 0 ≤ a0 ∧ a0 < 100
 rotate_left
 · rw [if_neg c] at h; cases h
 rw [if_pos c] at h
 obtain rfl := Option.some.inj h
 have e : a0 = (a0.toNat : Int) := (Int.toNat_of_nonneg c.1).symm
 have hc := Go.Proofs.YtjdpifafijcpbaaDoor.Shelf.Tryd.strconv_Itoa_small a0.toNat (by omega) w
 rw [← e] at hc
 exact hc.mono fun e w' ⟨h1, h2⟩ => ⟨h1, 0, h2⟩


/-! ### impl_OnceEach: function 11 -/
mutual
def impl_OnceEach.j0 : Nat → List (S50) → Bool → Int → Int → List (S54) → Option (Int × Int × (List (S54)) × List ByteArray)
 | 0, _, _, _, _, _ => none
 | k + 1, x1, x23, x338000, x338001, x338002 => if x23 = true then (some (x338000, x338001, x338002, ([] : List ByteArray))) else (impl_OnceEach.l0 k (([] : List ByteArray)) x1 (x1.length : Int) 0 x338000 x338001 x338002)
def impl_OnceEach.l0 : Nat → List ByteArray → List (S50) → Int → Int → Int → Int → List (S54) → Option (Int × Int × (List (S54)) × List ByteArray)
 | 0, _, _, _, _, _, _, _ => none
 | k + 1, x7, x26, x27, x28, x338000, x338001, x338002 => if x28 < x27 then (if 0 ≤ x28 then (if x28 < (x26.length : Int) then ((impl_keep.f k x338000 x338001 x338002 ((rd_T50 x26 x28).f0) ((rd_T50 x26 x28).f1) ((rd_T50 x26 x28).f2)).bind fun bt344 => ((impl_look.f k x338000 x338001 x338002 ((rd_T50 x26 x28).f0) ((rd_T50 x26 x28).f1)).bind fun bt351 => (if bt344.2.2.2 = true then (if x7.length < 8796093022208 then (impl_OnceEach.l0 k (x7 ++ [(rd_T50 x26 x28).f2]) x26 x27 (wrap64 (x28 + 1)) bt344.1 bt344.2.1 bt344.2.2.1) else (none)) else (if bt351.1 = 1 then (if x7.length < 8796093022208 then (impl_OnceEach.l0 k (x7 ++ [bt351.2]) x26 x27 (wrap64 (x28 + 1)) bt344.1 bt344.2.1 bt344.2.2.1) else (none)) else ((strconv_Itoa.f bt351.1).bind fun t359 => (if 1 + t359.size ≤ 9223372036854775807 then (if x7.length < 8796093022208 then (impl_OnceEach.l0 k (x7 ++ [(⟨#[33]⟩ : ByteArray) ++ t359]) x26 x27 (wrap64 (x28 + 1)) bt344.1 bt344.2.1 bt344.2.2.1) else (none)) else (none))))))) else (none)) else (none)) else (some (x338000, x338001, x338002, x7))
end
def impl_OnceEach.f (k : Nat) (a0_0 : Int) (a0_1 : Int) (l0_2 : List (S54)) (l1 : List (S50)) : Option (Int × Int × (List (S54)) × List ByteArray) := (impl_copySessions.f a0_0 a0_1 l0_2).bind fun bt332 => ((impl_areSessions.f k a0_0 a0_1 l0_2).bind fun t338 => (if t338 = true then (impl_OnceEach.j0 k l1 (decide ((l1.length : Int) > 200)) bt332.1 bt332.2.1 bt332.2.2) else (impl_OnceEach.j0 k l1 true bt332.1 bt332.2.1 bt332.2.2)))
theorem impl_OnceEach.mono_l : ∀ k, (∀ y0 y1 y2 y3 y4, LeO (impl_OnceEach.j0 k y0 y1 y2 y3 y4) (impl_OnceEach.j0 (k + 1) y0 y1 y2 y3 y4)) ∧ (∀ y0 y1 y2 y3 y4 y5 y6, LeO (impl_OnceEach.l0 k y0 y1 y2 y3 y4 y5 y6) (impl_OnceEach.l0 (k + 1) y0 y1 y2 y3 y4 y5 y6))
 | 0 => ⟨fun _ _ _ _ _ r h => by simp [impl_OnceEach.j0] at h, fun _ _ _ _ _ _ _ r h => by simp [impl_OnceEach.l0] at h⟩
 | k + 1 => by
   obtain ⟨ih0, ih1⟩ := impl_OnceEach.mono_l k
   refine ⟨?_, ?_⟩ <;> intros <;> (first | unfold impl_OnceEach.j0 | unfold impl_OnceEach.l0) <;> repeat' first
   | (with_reducible exact ih0 _ _ _ _ _)
   | (with_reducible exact ih1 _ _ _ _ _ _ _)
   | (with_reducible exact impl_areSessions.mono _ _ _ _)
   | (with_reducible exact impl_keep.mono _ _ _ _ _ _ _)
   | (with_reducible exact impl_look.mono _ _ _ _ _ _)
   | (with_reducible exact LeO.refl _)
   | (with_reducible exact LeO.none _)
   | (with_reducible refine LeO.ite ?_ ?_)
   | (with_reducible refine LeO.bind ?_ (fun _ => ?_))
   | exact ih0 _ _ _ _ _
   | exact ih1 _ _ _ _ _ _ _
   | exact impl_areSessions.mono _ _ _ _
   | exact impl_keep.mono _ _ _ _ _ _ _
   | exact impl_look.mono _ _ _ _ _ _
   | exact LeO.none _
   | refine LeO.ite ?_ ?_
   | refine LeO.bind ?_ (fun _ => ?_)
theorem impl_OnceEach.mono : ∀ a0 a1 a2 a3 k, LeO (impl_OnceEach.f k a0 a1 a2 a3) (impl_OnceEach.f (k + 1) a0 a1 a2 a3) := by
 intro a0 a1 a2 a3 k
 obtain ⟨ih0, ih1⟩ := impl_OnceEach.mono_l k
 unfold impl_OnceEach.f
 repeat' first
     | (with_reducible exact ih0 _ _ _ _ _)
     | (with_reducible exact ih1 _ _ _ _ _ _ _)
     | (with_reducible exact impl_areSessions.mono _ _ _ _)
     | (with_reducible exact impl_keep.mono _ _ _ _ _ _ _)
     | (with_reducible exact impl_look.mono _ _ _ _ _ _)
     | (with_reducible exact LeO.refl _)
     | (with_reducible exact LeO.none _)
     | (with_reducible refine LeO.ite ?_ ?_)
     | (with_reducible refine LeO.bind ?_ (fun _ => ?_))
     | exact ih0 _ _ _ _ _
     | exact ih1 _ _ _ _ _ _ _
     | exact impl_areSessions.mono _ _ _ _
     | exact impl_keep.mono _ _ _ _ _ _ _
     | exact impl_look.mono _ _ _ _ _ _
     | exact LeO.none _
     | refine LeO.ite ?_ ?_
     | refine LeO.bind ?_ (fun _ => ?_)
set_option maxHeartbeats 8000000 in
set_option maxRecDepth 100000 in
theorem impl_OnceEach.calls (k : Nat) (a0_0 : Int) (a0_1 : Int) (A0_2 : Option Addr) (c0_2 : Nat) (l0_2 : List (S54)) (A1 : Option Addr) (c1 : Nat) (l1 : List (S50)) (r1 : Int) (r2 : Int) (r3 : List (S54)) (r4 : List ByteArray) (w : World) (hr0_2 : Kd.C k54 w A0_2 l0_2.length l0_2) (hc0_2 : l0_2.length ≤ c0_2) (hr1 : Kd.C k50 w A1 l1.length l1) (hc1 : l1.length ≤ c1) (h : impl_OnceEach.f k a0_0 a0_1 l0_2 l1 = some (r1, r2, r3, r4)) :
   Calls Tryd.prog 11 #[.agg #[.int .i64 a0_0, .int .i64 a0_1, .slice A0_2 l0_2.length c0_2], .slice A1 l1.length c1] w fun e w' => ∃ v2_ v3_ : Value, e = .returned (.tuple #[.agg #[.int .i64 r1, .int .i64 r2, v2_], v3_]) ∧ Kd.R k54 54 w' w.heap.size (fun _ => True) v2_ r3 ∧ Kd.R Kd.string 9 w' w.heap.size (fun _ => True) v3_ r4 ∧ Below w.heap.size w w' := by
 have hu30 := Tryd.underlying30
 have hu50 := Tryd.underlying50
 have HR0_2 := am hr0_2
 have HC0_2 := am hc0_2
 clear hr0_2 hc0_2
 have HR1 := am hr1
 have HC1 := am hc1
 clear hr1 hc1
 have HB := am (Below.refl w.heap.size w)
 have H : ((impl_copySessions.f a0_0 a0_1 l0_2).bind fun bt332 => ((impl_areSessions.f k a0_0 a0_1 l0_2).bind fun t338 => (if t338 = true then (impl_OnceEach.j0 k l1 (decide ((l1.length : Int) > 200)) bt332.1 bt332.2.1 bt332.2.2) else (impl_OnceEach.j0 k l1 true bt332.1 bt332.2.1 bt332.2.2)))) = some (r1, r2, r3, r4) := h
 clear h
 replace H := Option.bind_eq_some_iff.mp H
 obtain ⟨⟨t332, t333, t334⟩, A30, H⟩ := H
 (try dsimp only at H)
 have A3 := am A30
 clear A30
 have HC4 := am H
 clear H
 go_enter Tryd.func11, Tryd.ntmps11
 go_upto_region 2 with (first | ((with_reducible refine gate_dst (N := 2) rfl ?_); (try (refine gate_guard (by rfl) ?_; dsimp only)); refine box_event ?hg (N := 2) ?hd (cs := #[.int .i64 a0_0, .int .i64 a0_1, .slice A0_2 l0_2.length c0_2]) (t := 30) ?hr ?_; (case hd => rfl); (case hg => rfl); (case hr => first | (go_simp; done) | (go_simp; rfl)); intro gb330 hg w5 hbox hb; have BK330 := am (hbox); have GW330 := am ((by rw [hg]; exact (below_size q1) : w.heap.size ≤ gb330)); have GE330 := am ((by rw [hg]; exact (below_size q1) : w.heap.size ≤ gb330)); replace HB := am (below_step q1 hb); clear hb hbox hg) | ((with_reducible refine gate_dst (N := 4) rfl ?_); (try (refine gate_guard (by rfl) ?_; dsimp only)); refine box_event ?hg (N := 4) ?hd (cs := #[.int .i64 0, .int .i64 0, .slice none 0 0]) (t := 30) ?hr ?_; (case hd => rfl); (case hg => rfl); (case hr => first | (go_simp; done) | (go_simp; rfl)); intro gb331 hg w6 hbox hb; have BK331 := am (hbox); have GW331 := am ((by rw [hg]; exact (below_size q1) : w.heap.size ≤ gb331)); have GE331 := am ((by rw [hg]; exact (below_size q1) : w.heap.size ≤ gb331)); replace HB := am (below_step q1 hb); have NB330_331 := am ((by rw [hg]; exact Nat.ne_of_lt (blk_lt (g := gb330) (o := .cells #[.int .i64 a0_0, .int .i64 a0_1, .slice A0_2 l0_2.length c0_2] 30 (0, 0)) u12_2) : gb330 ≠ gb331)); have NB331_330 := am ((by rw [hg]; exact Nat.ne_of_gt (blk_lt (g := gb330) (o := .cells #[.int .i64 a0_0, .int .i64 a0_1, .slice A0_2 l0_2.length c0_2] 30 (0, 0)) u12_2) : gb331 ≠ gb330)); replace BK330 := am (blk_below (g := gb330) (o := .cells #[.int .i64 a0_0, .int .i64 a0_1, .slice A0_2 l0_2.length c0_2] 30 (0, 0)) u12_2 hb); clear hb hbox hg; have hnb7 := NB330_331.out; have hnc7 := NB331_330.out; obtain ⟨hcz8_0, hcz8_1, hcz8_2, hfz8_0, hfz8_1, hfz8_2⟩ := bc3f w6 BK330.out) | ((with_reducible refine gate_callee (f := 34) rfl ?_); refine goesL_ (some 15) rfl rfl Tryd.func34 kr rfl #[.agg #[.int .i64 a0_0, .int .i64 a0_1, .slice A0_2 l0_2.length c0_2]] rfl q3 ?_; (with_reducible refine (impl_copySessions.calls a0_0 a0_1 _ _ l0_2 t332 t333 t334 _ ?side1 ?side2 A3.out).mono ?_); (case side1 => exact (by repeat (first | exact (Kd.C_below HR0_2.out HB.out) | (with_reducible refine Kd.C_alloc ?_ _) | (with_reducible refine Kd.C_drewN ?_ _) | (with_reducible refine Kd.C_drew ?_)))); (case side2 => exact HC0_2.out); rintro e w9 ⟨v335, rfl, ho0, hb⟩; refine ⟨_, rfl, ?_⟩; have HO336 := am (Kd.R_lower ho0 (below_size q1)); replace BK330 := am (blk_below (g := gb330) (o := .cells #[.int .i64 a0_0, .int .i64 a0_1, .slice A0_2 l0_2.length c0_2] 30 (0, 0)) u12_2 hb); replace BK331 := am (blk_below (g := gb331) (o := .cells #[.int .i64 0, .int .i64 0, .slice none 0 0] 30 (0, 0)) u12_6 hb); replace HB := am (below_step q1 hb); (try clear hb); (try clear hb2); (try clear hk); (try clear hi); (try clear ho0)) | ((with_reducible refine gate_dst (N := 6) rfl ?_); (try (refine gate_guard (by rfl) ?_; dsimp only)); refine box_event ?hg (N := 6) ?hd (cs := #[.int .i64 0, .int .i64 0, .slice none 0 0]) (t := 30) ?hr ?_; (case hd => rfl); (case hg => rfl); (case hr => first | (go_simp; done) | (go_simp; rfl)); intro gb337 hg w10 hbox hb; replace HO336 := am (Kd.R_below u12_30 hb); have BK337 := am (hbox); have GW337 := am ((by rw [hg]; exact (below_size q1) : w.heap.size ≤ gb337)); have GE337 := am ((by rw [hg]; exact (below_size q1) : w.heap.size ≤ gb337)); replace HB := am (below_step q1 hb); have NB330_337 := am ((by rw [hg]; exact Nat.ne_of_lt (blk_lt (g := gb330) (o := .cells #[.int .i64 a0_0, .int .i64 a0_1, .slice A0_2 l0_2.length c0_2] 30 (0, 0)) u12_2) : gb330 ≠ gb337)); have NB337_330 := am ((by rw [hg]; exact Nat.ne_of_gt (blk_lt (g := gb330) (o := .cells #[.int .i64 a0_0, .int .i64 a0_1, .slice A0_2 l0_2.length c0_2] 30 (0, 0)) u12_2) : gb337 ≠ gb330)); replace BK330 := am (blk_below (g := gb330) (o := .cells #[.int .i64 a0_0, .int .i64 a0_1, .slice A0_2 l0_2.length c0_2] 30 (0, 0)) u12_2 hb); have NB331_337 := am ((by rw [hg]; exact Nat.ne_of_lt (blk_lt (g := gb331) (o := .cells #[.int .i64 0, .int .i64 0, .slice none 0 0] 30 (0, 0)) u12_6) : gb331 ≠ gb337)); have NB337_331 := am ((by rw [hg]; exact Nat.ne_of_gt (blk_lt (g := gb331) (o := .cells #[.int .i64 0, .int .i64 0, .slice none 0 0] 30 (0, 0)) u12_6) : gb337 ≠ gb331)); replace BK331 := am (blk_below (g := gb331) (o := .cells #[.int .i64 0, .int .i64 0, .slice none 0 0] 30 (0, 0)) u12_6 hb); clear hb hbox hg; have hnb11 := NB337_330.out; have hnc11 := NB330_337.out; have hnb12 := NB337_331.out; have hnc12 := NB331_337.out; obtain ⟨hcz13_0, hcz13_1, hcz13_2, hfz13_0, hfz13_1, hfz13_2⟩ := bc3f w10 BK337.out; obtain ⟨Ao14, co14, eo14⟩ := Kd.R_slice HO336.out; subst eo14))
 (try simp only [Act.put, la, lb, lc])
 go_cut [23] (fun v23 wc => ∃ (kq : Nat) (x23_3 : Bool), v23 = .bool x23_3 ∧ Aside0 (impl_OnceEach.j0 kq l1 x23_3 t332 t333 t334 = some (r1, r2, r3, r4)) ∧ Aside0 (kq ≤ k) ∧ Aside0 (Kd.R k54 54 wc w.heap.size (fun _ => True) (.slice Ao14 t334.length co14) t334) ∧ Aside0 (wc.heap[gb330]? = some (.cells #[.int .i64 a0_0, .int .i64 a0_1, (.slice A0_2 l0_2.length c0_2)] 30 (0, 0))) ∧ Aside0 (wc.heap[gb331]? = some (.cells #[.int .i64 0, .int .i64 0, (.slice none 0 0)] 30 (0, 0))) ∧ Aside0 (wc.heap[gb337]? = some (.cells #[.int .i64 t332, .int .i64 t333, (.slice Ao14 t334.length co14)] 30 (0, 0))) ∧ Aside0 (Below w.heap.size w wc))
 case first =>
   have H := HC4.out
   clear HC4
   replace H := Option.bind_eq_some_iff.mp H
   obtain ⟨t338, A150, H⟩ := H
   have A15 := am A150
   clear A150
   by_cases c16 : t338 = true
   · subst c16
     rw [if_pos rfl] at H
     have H' := am H
     clear H
     have hnb17 := NB330_331.out
     have hnc17 := NB331_330.out
     have hnb18 := NB330_337.out
     have hnc18 := NB337_330.out
     obtain ⟨hcz19_0, hcz19_1, hcz19_2, hfz19_0, hfz19_1, hfz19_2⟩ := bc3f w10 BK330.out
     go_wp2_with (first | ((with_reducible refine gate_callee (f := 35) rfl ?_); refine goesL_ (some 17) rfl rfl Tryd.func35 kr rfl #[.agg #[.int .i64 a0_0, .int .i64 a0_1, .slice A0_2 l0_2.length c0_2]] rfl q3 ?_; (with_reducible refine (impl_areSessions.calls k a0_0 a0_1 _ _ l0_2 true _ ?side1 ?side2 A15.out).mono ?_); (case side1 => exact (by exact Kd.C_below HR0_2.out q1)); (case side2 => exact HC0_2.out); rintro e w20 ⟨rfl, hb⟩; refine ⟨_, rfl, ?_⟩; replace HO336 := am (Kd.R_below u12_22 hb); replace BK330 := am (blk_below (g := gb330) (o := .cells #[.int .i64 a0_0, .int .i64 a0_1, .slice A0_2 l0_2.length c0_2] 30 (0, 0)) u12_3 hb); replace BK331 := am (blk_below (g := gb331) (o := .cells #[.int .i64 0, .int .i64 0, .slice none 0 0] 30 (0, 0)) u12_4 hb); replace BK337 := am (blk_below (g := gb337) (o := .cells #[.int .i64 t332, .int .i64 t333, .slice Ao14 t334.length co14] 30 (0, 0)) u12_19 hb); replace HB := am (below_step q1 hb); (try clear hb); (try clear hb2); (try clear hk); (try clear hi)))
     go_meet
     case rel => exact ⟨_, (decide ((l1.length : Int) > 200)), q2, H', ⟨by first | omega | exact Nat.le_refl _⟩, ⟨u12_30⟩, ⟨u12_2⟩, ⟨u12_6⟩, ⟨u12_8⟩, ⟨q1⟩⟩
   replace c16 := Bool.eq_false_iff.mpr c16
   subst c16
   rw [nf] at H
   have H' := am H
   clear H
   have hnb21 := NB330_331.out
   have hnc21 := NB331_330.out
   have hnb22 := NB330_337.out
   have hnc22 := NB337_330.out
   obtain ⟨hcz23_0, hcz23_1, hcz23_2, hfz23_0, hfz23_1, hfz23_2⟩ := bc3f w10 BK330.out
   go_wp2_with (first | ((with_reducible refine gate_callee (f := 35) rfl ?_); refine goesL_ (some 17) rfl rfl Tryd.func35 kr rfl #[.agg #[.int .i64 a0_0, .int .i64 a0_1, .slice A0_2 l0_2.length c0_2]] rfl q3 ?_; (with_reducible refine (impl_areSessions.calls k a0_0 a0_1 _ _ l0_2 false _ ?side1 ?side2 A15.out).mono ?_); (case side1 => exact (by exact Kd.C_below HR0_2.out q1)); (case side2 => exact HC0_2.out); rintro e w24 ⟨rfl, hb⟩; refine ⟨_, rfl, ?_⟩; replace HO336 := am (Kd.R_below u12_22 hb); replace BK330 := am (blk_below (g := gb330) (o := .cells #[.int .i64 a0_0, .int .i64 a0_1, .slice A0_2 l0_2.length c0_2] 30 (0, 0)) u12_3 hb); replace BK331 := am (blk_below (g := gb331) (o := .cells #[.int .i64 0, .int .i64 0, .slice none 0 0] 30 (0, 0)) u12_4 hb); replace BK337 := am (blk_below (g := gb337) (o := .cells #[.int .i64 t332, .int .i64 t333, .slice Ao14 t334.length co14] 30 (0, 0)) u12_19 hb); replace HB := am (below_step q1 hb); (try clear hb); (try clear hb2); (try clear hk); (try clear hi)))
   go_meet
   case rel => exact ⟨_, (true), q2, H', ⟨by first | omega | exact Nat.le_refl _⟩, ⟨u12_30⟩, ⟨u12_2⟩, ⟨u12_6⟩, ⟨u12_8⟩, ⟨q1⟩⟩
 clear HC4
 try clear c1
 try clear hcz13_0
 try clear hcz13_1
 try clear hcz13_2
 try clear hcz8_0
 try clear hcz8_1
 try clear hcz8_2
 try clear hfz13_0
 try clear hfz13_1
 try clear hfz13_2
 try clear hfz8_0
 try clear hfz8_1
 try clear hfz8_2
 obtain ⟨kq, x23_3, rfl, HA, HJ3, HO_338002, BK330, BK331, BK337, HB⟩ := hcut
 cases kq with
 | zero => exact absurd HA.out (by simp [impl_OnceEach.j0])
 | succ kj3 =>
   have H := HA.out
   clear HA
   simp only [impl_OnceEach.j0] at H
   by_cases c25 : x23_3 = true
   · subst c25
     rw [if_pos rfl] at H
     simp only [Option.some.injEq, Prod.mk.injEq] at H
     obtain ⟨rfl, rfl, rfl, rfl⟩ := H
     have hnb26 := NB337_330.out
     have hnc26 := NB330_337.out
     have hnb27 := NB337_331.out
     have hnc27 := NB331_337.out
     obtain ⟨hcz28_0, hcz28_1, hcz28_2, hfz28_0, hfz28_1, hfz28_2⟩ := bc3f wc BK337.out
     have hnb29 := NB331_330.out
     have hnc29 := NB330_331.out
     obtain ⟨hcz30_0, hcz30_1, hcz30_2, hfz30_0, hfz30_1, hfz30_2⟩ := bc3f wc BK331.out
     go_wp2
     refine bodyPost_ret (results_ct rfl _ _ gb331 30 #[.int .i64 t332, .int .i64 t333, .slice Ao14 t334.length co14] (0, 0) _ rfl (by (with_reducible repeat (first | refine blk_drewN ?_ _ | refine blk_drew ?_ | refine blk_alloc ?_ _)); refine blk_put (cs := #[.int .i64 t332, .int .i64 t333, .slice none 0 0]) ?_ 2 _ rfl; (with_reducible repeat (first | refine blk_drewN ?_ _ | refine blk_drew ?_ | refine blk_alloc ?_ _)); refine blk_put (cs := #[.int .i64 t332, .int .i64 0, .slice none 0 0]) ?_ 1 _ rfl; (with_reducible repeat (first | refine blk_drewN ?_ _ | refine blk_drew ?_ | refine blk_alloc ?_ _)); refine blk_put (cs := #[.int .i64 0, .int .i64 0, .slice none 0 0]) ?_ 0 _ rfl; (with_reducible repeat (first | refine blk_drewN ?_ _ | refine blk_drew ?_ | refine blk_alloc ?_ _)); exact BK331.out) Tryd.underlying30 rfl kr) rfl ?_
     exact ⟨_, _, er, (by (with_reducible repeat (first | apply Kd.R_alloc | apply Kd.R_drewN | apply Kd.R_drew)); exact Kd.R_mono (Kd.R_far (p := ⟨gb331, 2, none⟩) (Kd.R_far (p := ⟨gb331, 1, none⟩) (Kd.R_far (p := ⟨gb331, 0, none⟩) (Kd.R_types HO_338002.out BK331.out (by decide)) (fun _ hk => hk.2) (.int .i64 t332)) (fun _ hk => hk.2) (.int .i64 t333)) (fun _ hk => hk.2) (.slice Ao14 t334.length co14)) (fun _ hk => trivial)), (by first | exact Kd.R_nil _ _ _ _ _ | exact Kd.N_nil _ _ _ _ _ | exact Kd.V_nil _ _ _ _ _ | exact Kd.Q_nil _ _ _ _ _ | exact Kd.S_nil _ _ _ _ _), q1⟩
   replace c25 := Bool.eq_false_iff.mpr c25
   subst c25
   rw [nf] at H
   obtain ⟨y339, hy339⟩ : ∃ y_ : List ByteArray, y_ = (([] : List ByteArray)) := ⟨_, rfl⟩
   replace H : (impl_OnceEach.l0 kj3 y339 l1 (l1.length : Int) 0 t332 t333 t334) = some (r1, r2, r3, r4) := by first | (rw [hy339]; with_reducible exact H) | (have H2_ := (Option.bind_some _ _).symm.trans H; rw [hy339]; with_reducible exact H2_) | (have H2_ := (Option.bind_some _ _).symm.trans H; with_reducible exact H2_) | with_reducible exact H | (rw [hy339]; exact H) | exact H
   have Ny339 := am hy339
   clear hy339
   have H' := am H
   clear H
   go_wp2_with (first | ((with_reducible refine gate_dst (N := 25) rfl ?_); (try (refine gate_guard (by rfl) ?_; dsimp only)); refine Kd.R_lit Kd.string _ 9 ?hg (N := 25) ?hd (xs := ([] : List ByteArray)) (inner := []) (ok := fun _ => True) (okp := fun _ => True) ?hr ?hp (fun _ hk => hk) trivial (Below.refl _ _) (Nat.le_refl _) (by simp) ?_; (case hd => rfl); (case hg => rfl); (case hr => first | (go_simp; done) | (go_simp; rfl)); (case hp => exact (Reps.none _ _)); intro v340 w31 ho32 hb hg_ hnew_; clear hg_ hnew_; (first | rw [← Ny339.out] at ho32 | (simp only [Int.reduceToNat] at ho32; rw [← Ny339.out] at ho32)); replace HO_338002 := am (Kd.R_below u12_25 hb); have HO341 := am (Kd.R_lower ho32 (below_size q1)); replace BK330 := am (blk_below (g := gb330) (o := .cells #[.int .i64 a0_0, .int .i64 a0_1, .slice A0_2 l0_2.length c0_2] 30 (0, 0)) u12_2 hb); replace BK331 := am (blk_below (g := gb331) (o := .cells #[.int .i64 0, .int .i64 0, .slice none 0 0] 30 (0, 0)) u12_6 hb); replace BK337 := am (blk_below (g := gb337) (o := .cells #[.int .i64 t332, .int .i64 t333, .slice Ao14 t334.length co14] 30 (0, 0)) u12_8 hb); replace HB := am (below_step q1 hb); clear hb ho32))
   go_loopg [7, 28] kj3 (fun kq v7 v28 w' => ∃ (x7_2 : List ByteArray) (x28_2 : Int) (x338000_2 : Int) (x338001_2 : Int) (x338002_2 : List (S54)) (u338002 : Value), v28 = .int .i64 x28_2 ∧ Aside0 (impl_OnceEach.l0 kq x7_2 l1 (l1.length : Int) x28_2 x338000_2 x338001_2 x338002_2 = some (r1, r2, r3, r4)) ∧ Aside0 (kq ≤ kj3) ∧ Aside0 (Kd.R Kd.string 9 w' w.heap.size (fun _ => True) v7 x7_2) ∧ Aside0 (Kd.R k54 54 w' w.heap.size (fun _ => True) u338002 x338002_2) ∧ Aside0 (w'.heap[gb330]? = some (.cells #[.int .i64 a0_0, .int .i64 a0_1, (.slice A0_2 l0_2.length c0_2)] 30 (0, 0))) ∧ Aside0 (w'.heap[gb331]? = some (.cells #[.int .i64 0, .int .i64 0, (.slice none 0 0)] 30 (0, 0))) ∧ Aside0 (w'.heap[gb337]? = some (.cells #[.int .i64 x338000_2, .int .i64 x338001_2, u338002] 30 (0, 0))) ∧ Aside0 (Below w.heap.size w w'))
   case atStart => exact ⟨(y339), (0), (t332), (t333), (t334), (.slice Ao14 t334.length co14), q2, H', ⟨Nat.le_refl _⟩, ⟨(by (with_reducible repeat (first | apply Kd.R_alloc | apply Kd.R_drewN | apply Kd.R_drew)); exact HO341.out)⟩, ⟨u12_25⟩, ⟨u12_2⟩, ⟨u12_6⟩, ⟨u12_8⟩, ⟨q1⟩⟩
   clear H'
   try clear c1
   try clear c25
   try clear hcz13_0
   try clear hcz13_1
   try clear hcz13_2
   try clear hcz8_0
   try clear hcz8_1
   try clear hcz8_2
   try clear hfz13_0
   try clear hfz13_1
   try clear hfz13_2
   try clear hfz8_0
   try clear hfz8_1
   try clear hfz8_2
   obtain ⟨x7_2, x28_2, x338000_2, x338001_2, x338002_2, u338002, rfl, HA, HK2, HO_7, HO_338002, BK330, BK331, BK337, HB⟩ := hrel
   cases gk with
   | zero => exact absurd HA.out (by simp [impl_OnceEach.l0])
   | succ k2 =>
     have H := HA.out
     clear HA
     simp only [impl_OnceEach.l0] at H
     by_cases c33 : x28_2 < (l1.length : Int)
     rotate_left
     · rw [if_neg c33] at H
       have c33b0 : decide (x28_2 < (l1.length : Int)) = false := decide_eq_false c33
       clear c33
       simp only [Option.some.injEq, Prod.mk.injEq] at H
       obtain ⟨rfl, rfl, rfl, rfl⟩ := H
       have hnb98 := NB337_330.out
       have hnc98 := NB330_337.out
       have hnb99 := NB337_331.out
       have hnc99 := NB331_337.out
       obtain ⟨hcz100_0, hcz100_1, hcz100_2, hfz100_0, hfz100_1, hfz100_2⟩ := bc3f wr BK337.out
       have hnb101 := NB331_330.out
       have hnc101 := NB330_331.out
       obtain ⟨hcz102_0, hcz102_1, hcz102_2, hfz102_0, hfz102_1, hfz102_2⟩ := bc3f wr BK331.out
       obtain ⟨Ao103, co103, eo103⟩ := Kd.R_slice HO_338002.out
       subst eo103
       go_wp2
       refine bodyPost_ret (results_ct rfl _ _ gb331 30 #[.int .i64 x338000_2, .int .i64 x338001_2, .slice Ao103 x338002_2.length co103] (0, 0) _ rfl (by (with_reducible repeat (first | refine blk_drewN ?_ _ | refine blk_drew ?_ | refine blk_alloc ?_ _)); refine blk_put (cs := #[.int .i64 x338000_2, .int .i64 x338001_2, .slice none 0 0]) ?_ 2 _ rfl; (with_reducible repeat (first | refine blk_drewN ?_ _ | refine blk_drew ?_ | refine blk_alloc ?_ _)); refine blk_put (cs := #[.int .i64 x338000_2, .int .i64 0, .slice none 0 0]) ?_ 1 _ rfl; (with_reducible repeat (first | refine blk_drewN ?_ _ | refine blk_drew ?_ | refine blk_alloc ?_ _)); refine blk_put (cs := #[.int .i64 0, .int .i64 0, .slice none 0 0]) ?_ 0 _ rfl; (with_reducible repeat (first | refine blk_drewN ?_ _ | refine blk_drew ?_ | refine blk_alloc ?_ _)); exact BK331.out) Tryd.underlying30 rfl kr) rfl ?_
       exact ⟨_, _, er, (by (with_reducible repeat (first | apply Kd.R_alloc | apply Kd.R_drewN | apply Kd.R_drew)); exact Kd.R_mono (Kd.R_far (p := ⟨gb331, 2, none⟩) (Kd.R_far (p := ⟨gb331, 1, none⟩) (Kd.R_far (p := ⟨gb331, 0, none⟩) (Kd.R_types HO_338002.out BK331.out (by decide)) (fun _ hk => hk.2) (.int .i64 x338000_2)) (fun _ hk => hk.2) (.int .i64 x338001_2)) (fun _ hk => hk.2) (.slice Ao103 x338002_2.length co103)) (fun _ hk => trivial)), (by (with_reducible repeat (first | apply Kd.R_alloc | apply Kd.R_drewN | apply Kd.R_drew)); exact Kd.R_mono (Kd.R_far (p := ⟨gb331, 2, none⟩) (Kd.R_far (p := ⟨gb331, 1, none⟩) (Kd.R_far (p := ⟨gb331, 0, none⟩) (Kd.R_types HO_7.out BK331.out (by decide)) (fun _ hk => hk.2) (.int .i64 x338000_2)) (fun _ hk => hk.2) (.int .i64 x338001_2)) (fun _ hk => hk.2) (.slice Ao103 x338002_2.length co103)) (fun _ hk => trivial)), q1⟩
     rw [if_pos c33] at H
     have c33b0 : decide (x28_2 < (l1.length : Int)) = true := decide_eq_true c33
     clear c33
     by_cases c34 : 0 ≤ x28_2
     rotate_left
     · rw [if_neg c34] at H
       exact absurd H (by simp)
     rw [if_pos c34] at H
     have c34b0 : decide (0 ≤ x28_2) = true := decide_eq_true c34
     clear c34
     by_cases c35 : x28_2 < (l1.length : Int)
     rotate_left
     · rw [if_neg c35] at H
       exact absurd H (by simp)
     rw [if_pos c35] at H
     have c35b0 : decide (x28_2 < (l1.length : Int)) = true := decide_eq_true c35
     clear c35
     replace H := Option.bind_eq_some_iff.mp H
     obtain ⟨⟨t344, t345, t346, t349⟩, A360, H⟩ := H
     (try dsimp only at H)
     have A36 := am A360
     clear A360
     replace H := Option.bind_eq_some_iff.mp H
     obtain ⟨⟨t351, t352⟩, A370, H⟩ := H
     (try dsimp only at H)
     have A37 := am A370
     clear A370
     have H9 := am H
     clear H
     have p342 : 0 ≤ (x28_2 : Int) := of_decide_eq_true (by first | (with_reducible assumption) | assumption)
     have q342 : x28_2 < (l1.length : Int) := of_decide_eq_true (by first | (with_reducible assumption) | assumption)
     obtain ⟨ad342, e342, hx342_0, hx342_1, hx342_2⟩ := at_T50 HR1.out x28_2 p342 q342
     cases e342
     replace hx342_0 := cm HB.out hx342_0
     replace hx342_1 := cm HB.out hx342_1
     replace hx342_2 := cm HB.out hx342_2
     replace p342 := eq_true p342
     replace q342 := eq_true q342
     go_upto_if 52 with (first | ((with_reducible refine gate_dst (N := 9) rfl ?_); (try (refine gate_guard (by rfl) ?_; dsimp only)); refine box_event ?hg (N := 9) ?hd (cs := #[.int .i64 0, .int .i64 0, .string (⟨#[]⟩ : ByteArray)]) (t := 50) ?hr ?_; (case hd => rfl); (case hg => rfl); (case hr => first | (go_simp; done) | (go_simp; rfl)); intro gb343 hg w38 hbox hb; replace HO_7 := am (Kd.R_below q7 hb); replace HO_338002 := am (Kd.R_below u12_25 hb); have BK343 := am (hbox); have GW343 := am ((by rw [hg]; exact (below_size q1) : w.heap.size ≤ gb343)); have GE343 := am ((by rw [hg]; exact (below_size q1) : w.heap.size ≤ gb343)); replace HB := am (below_step q1 hb); have NB330_343 := am ((by rw [hg]; exact Nat.ne_of_lt (blk_lt (g := gb330) (o := .cells #[.int .i64 a0_0, .int .i64 a0_1, .slice A0_2 l0_2.length c0_2] 30 (0, 0)) u12_2) : gb330 ≠ gb343)); have NB343_330 := am ((by rw [hg]; exact Nat.ne_of_gt (blk_lt (g := gb330) (o := .cells #[.int .i64 a0_0, .int .i64 a0_1, .slice A0_2 l0_2.length c0_2] 30 (0, 0)) u12_2) : gb343 ≠ gb330)); replace BK330 := am (blk_below (g := gb330) (o := .cells #[.int .i64 a0_0, .int .i64 a0_1, .slice A0_2 l0_2.length c0_2] 30 (0, 0)) u12_2 hb); have NB331_343 := am ((by rw [hg]; exact Nat.ne_of_lt (blk_lt (g := gb331) (o := .cells #[.int .i64 0, .int .i64 0, .slice none 0 0] 30 (0, 0)) u12_6) : gb331 ≠ gb343)); have NB343_331 := am ((by rw [hg]; exact Nat.ne_of_gt (blk_lt (g := gb331) (o := .cells #[.int .i64 0, .int .i64 0, .slice none 0 0] 30 (0, 0)) u12_6) : gb343 ≠ gb331)); replace BK331 := am (blk_below (g := gb331) (o := .cells #[.int .i64 0, .int .i64 0, .slice none 0 0] 30 (0, 0)) u12_6 hb); have NB337_343 := am ((by rw [hg]; exact Nat.ne_of_lt (blk_lt (g := gb337) (o := .cells #[.int .i64 x338000_2, .int .i64 x338001_2, u338002] 30 (0, 0)) u12_8) : gb337 ≠ gb343)); have NB343_337 := am ((by rw [hg]; exact Nat.ne_of_gt (blk_lt (g := gb337) (o := .cells #[.int .i64 x338000_2, .int .i64 x338001_2, u338002] 30 (0, 0)) u12_8) : gb343 ≠ gb337)); replace BK337 := am (blk_below (g := gb337) (o := .cells #[.int .i64 x338000_2, .int .i64 x338001_2, u338002] 30 (0, 0)) u12_8 hb); clear hb hbox hg; have hnb39 := NB343_330.out; have hnc39 := NB330_343.out; have hnb40 := NB343_331.out; have hnc40 := NB331_343.out; have hnb41 := NB343_337.out; have hnc41 := NB337_343.out; obtain ⟨hcz42_0, hcz42_1, hcz42_2, hfz42_0, hfz42_1, hfz42_2⟩ := bc3f w38 BK343.out; have hnb43 := NB337_330.out; have hnc43 := NB330_337.out; have hnb44 := NB337_331.out; have hnc44 := NB331_337.out; obtain ⟨hcz45_0, hcz45_1, hcz45_2, hfz45_0, hfz45_1, hfz45_2⟩ := bc3f w38 BK337.out; obtain ⟨Ao46, co46, eo46⟩ := Kd.R_slice HO_338002.out; subst eo46) | ((with_reducible refine gate_callee (f := 36) rfl ?_); refine goesL_ (some 40) rfl rfl Tryd.func36 kr rfl #[.agg #[.int .i64 x338000_2, .int .i64 x338001_2, .slice Ao46 x338002_2.length co46], .int .i64 ((rd_T50 l1 x28_2).f0), .int .i64 ((rd_T50 l1 x28_2).f1), .string ((rd_T50 l1 x28_2).f2)] rfl q3 ?_; (with_reducible refine (impl_keep.calls k2 x338000_2 x338001_2 _ _ x338002_2 ((rd_T50 l1 x28_2).f0) ((rd_T50 l1 x28_2).f1) ((rd_T50 l1 x28_2).f2) t344 t345 t346 t349 _ ?side1 ?side2 A36.out).mono ?_); (case side1 => exact (by refine (Kd.R_reads' (e := 54) (base := w.heap.size) (ok := fun k_ => True) (n := x338002_2.length) (c := co46) ?_).2.2; exact u12_12)); (case side2 => exact (Kd.R_reads' HO_338002.out).2.1); rintro e w47 ⟨v347, rfl, ho0, hb⟩; refine ⟨_, rfl, ?_⟩; replace HO_7 := am (Kd.R_below (by (with_reducible repeat (first | apply Kd.R_alloc | apply Kd.R_drewN | apply Kd.R_drew)); exact (Kd.R_mono (Kd.R_far (p := ⟨gb343, 2, none⟩) (Kd.R_far (p := ⟨gb343, 1, none⟩) (Kd.R_far (p := ⟨gb343, 0, none⟩) (Kd.R_types HO_7.out BK343.out (by decide)) (fun _ hk => hk.2) (.int .i64 ((rd_T50 l1 x28_2).f0))) (fun _ hk => hk.2) (.int .i64 ((rd_T50 l1 x28_2).f1))) (fun _ hk => hk.2) (.string ((rd_T50 l1 x28_2).f2))) (fun _ h_ => h_.1))) hb); have HO348 := am (Kd.R_lower (Kd.R_new' ho0 (Kd.R_lt u12_12)) (below_size q1)); replace HO_338002 := am (Kd.R_elder' u12_12 (Kd.R_base ho0) hb); replace BK330 := am (blk_below (g := gb330) (o := .cells #[.int .i64 a0_0, .int .i64 a0_1, .slice A0_2 l0_2.length c0_2] 30 (0, 0)) (by (with_reducible repeat (first | refine blk_drewN ?_ _ | refine blk_drew ?_ | refine blk_alloc ?_ _)); refine blk_far ?_ NB330_343.out _; (with_reducible repeat (first | refine blk_drewN ?_ _ | refine blk_drew ?_ | refine blk_alloc ?_ _)); refine blk_far ?_ NB330_343.out _; (with_reducible repeat (first | refine blk_drewN ?_ _ | refine blk_drew ?_ | refine blk_alloc ?_ _)); refine blk_far ?_ NB330_343.out _; (with_reducible repeat (first | refine blk_drewN ?_ _ | refine blk_drew ?_ | refine blk_alloc ?_ _)); exact BK330.out) hb); replace BK331 := am (blk_below (g := gb331) (o := .cells #[.int .i64 0, .int .i64 0, .slice none 0 0] 30 (0, 0)) (by (with_reducible repeat (first | refine blk_drewN ?_ _ | refine blk_drew ?_ | refine blk_alloc ?_ _)); refine blk_far ?_ NB331_343.out _; (with_reducible repeat (first | refine blk_drewN ?_ _ | refine blk_drew ?_ | refine blk_alloc ?_ _)); refine blk_far ?_ NB331_343.out _; (with_reducible repeat (first | refine blk_drewN ?_ _ | refine blk_drew ?_ | refine blk_alloc ?_ _)); refine blk_far ?_ NB331_343.out _; (with_reducible repeat (first | refine blk_drewN ?_ _ | refine blk_drew ?_ | refine blk_alloc ?_ _)); exact BK331.out) hb); replace BK337 := am (blk_below (g := gb337) (o := .cells #[.int .i64 x338000_2, .int .i64 x338001_2, .slice Ao46 x338002_2.length co46] 30 (0, 0)) (by (with_reducible repeat (first | refine blk_drewN ?_ _ | refine blk_drew ?_ | refine blk_alloc ?_ _)); refine blk_far ?_ NB337_343.out _; (with_reducible repeat (first | refine blk_drewN ?_ _ | refine blk_drew ?_ | refine blk_alloc ?_ _)); refine blk_far ?_ NB337_343.out _; (with_reducible repeat (first | refine blk_drewN ?_ _ | refine blk_drew ?_ | refine blk_alloc ?_ _)); refine blk_far ?_ NB337_343.out _; (with_reducible repeat (first | refine blk_drewN ?_ _ | refine blk_drew ?_ | refine blk_alloc ?_ _)); exact BK337.out) hb); replace BK343 := am (blk_below (g := gb343) (o := .cells #[.int .i64 ((rd_T50 l1 x28_2).f0), .int .i64 ((rd_T50 l1 x28_2).f1), .string ((rd_T50 l1 x28_2).f2)] 50 (0, 0)) (by (with_reducible repeat (first | refine blk_drewN ?_ _ | refine blk_drew ?_ | refine blk_alloc ?_ _)); refine blk_put (cs := #[.int .i64 ((rd_T50 l1 x28_2).f0), .int .i64 ((rd_T50 l1 x28_2).f1), .string (⟨#[]⟩ : ByteArray)]) ?_ 2 _ rfl; (with_reducible repeat (first | refine blk_drewN ?_ _ | refine blk_drew ?_ | refine blk_alloc ?_ _)); refine blk_put (cs := #[.int .i64 ((rd_T50 l1 x28_2).f0), .int .i64 0, .string (⟨#[]⟩ : ByteArray)]) ?_ 1 _ rfl; (with_reducible repeat (first | refine blk_drewN ?_ _ | refine blk_drew ?_ | refine blk_alloc ?_ _)); refine blk_put (cs := #[.int .i64 0, .int .i64 0, .string (⟨#[]⟩ : ByteArray)]) ?_ 0 _ rfl; (with_reducible repeat (first | refine blk_drewN ?_ _ | refine blk_drew ?_ | refine blk_alloc ?_ _)); exact BK343.out) hb); replace HB := am (below_step q1 hb); (try clear hb); (try clear hb2); (try clear hk); (try clear hi); (try clear ho0)) | ((with_reducible refine gate_dst (N := 10) rfl ?_); (try (refine gate_guard (by rfl) ?_; dsimp only)); refine box_event ?hg (N := 10) ?hd (cs := #[.int .i64 0, .int .i64 0, .slice none 0 0]) (t := 30) ?hr ?_; (case hd => rfl); (case hg => rfl); (case hr => first | (go_simp; done) | (go_simp; rfl)); intro gb350 hg w48 hbox hb; replace HO_7 := am (Kd.R_below q7 hb); replace HO_338002 := am (Kd.R_below u12_25 hb); replace HO348 := am (Kd.R_below (by (with_reducible repeat (first | apply Kd.R_alloc | apply Kd.R_drewN | apply Kd.R_drew)); exact HO348.out) hb); have BK350 := am (hbox); have GW350 := am ((by rw [hg]; exact (below_size q1) : w.heap.size ≤ gb350)); have GE350 := am ((by rw [hg]; exact (below_size q1) : w.heap.size ≤ gb350)); replace HB := am (below_step q1 hb); have NB330_350 := am ((by rw [hg]; exact Nat.ne_of_lt (blk_lt (g := gb330) (o := .cells #[.int .i64 a0_0, .int .i64 a0_1, .slice A0_2 l0_2.length c0_2] 30 (0, 0)) u12_2) : gb330 ≠ gb350)); have NB350_330 := am ((by rw [hg]; exact Nat.ne_of_gt (blk_lt (g := gb330) (o := .cells #[.int .i64 a0_0, .int .i64 a0_1, .slice A0_2 l0_2.length c0_2] 30 (0, 0)) u12_2) : gb350 ≠ gb330)); replace BK330 := am (blk_below (g := gb330) (o := .cells #[.int .i64 a0_0, .int .i64 a0_1, .slice A0_2 l0_2.length c0_2] 30 (0, 0)) u12_2 hb); have NB331_350 := am ((by rw [hg]; exact Nat.ne_of_lt (blk_lt (g := gb331) (o := .cells #[.int .i64 0, .int .i64 0, .slice none 0 0] 30 (0, 0)) u12_6) : gb331 ≠ gb350)); have NB350_331 := am ((by rw [hg]; exact Nat.ne_of_gt (blk_lt (g := gb331) (o := .cells #[.int .i64 0, .int .i64 0, .slice none 0 0] 30 (0, 0)) u12_6) : gb350 ≠ gb331)); replace BK331 := am (blk_below (g := gb331) (o := .cells #[.int .i64 0, .int .i64 0, .slice none 0 0] 30 (0, 0)) u12_6 hb); have NB337_350 := am ((by rw [hg]; exact Nat.ne_of_lt (blk_lt (g := gb337) (o := .cells #[.int .i64 x338000_2, .int .i64 x338001_2, .slice Ao46 x338002_2.length co46] 30 (0, 0)) u12_8) : gb337 ≠ gb350)); have NB350_337 := am ((by rw [hg]; exact Nat.ne_of_gt (blk_lt (g := gb337) (o := .cells #[.int .i64 x338000_2, .int .i64 x338001_2, .slice Ao46 x338002_2.length co46] 30 (0, 0)) u12_8) : gb350 ≠ gb337)); replace BK337 := am (blk_below (g := gb337) (o := .cells #[.int .i64 x338000_2, .int .i64 x338001_2, .slice Ao46 x338002_2.length co46] 30 (0, 0)) u12_8 hb); have NB343_350 := am ((by rw [hg]; exact Nat.ne_of_lt (blk_lt (g := gb343) (o := .cells #[.int .i64 ((rd_T50 l1 x28_2).f0), .int .i64 ((rd_T50 l1 x28_2).f1), .string ((rd_T50 l1 x28_2).f2)] 50 (0, 0)) u12_27) : gb343 ≠ gb350)); have NB350_343 := am ((by rw [hg]; exact Nat.ne_of_gt (blk_lt (g := gb343) (o := .cells #[.int .i64 ((rd_T50 l1 x28_2).f0), .int .i64 ((rd_T50 l1 x28_2).f1), .string ((rd_T50 l1 x28_2).f2)] 50 (0, 0)) u12_27) : gb350 ≠ gb343)); replace BK343 := am (blk_below (g := gb343) (o := .cells #[.int .i64 ((rd_T50 l1 x28_2).f0), .int .i64 ((rd_T50 l1 x28_2).f1), .string ((rd_T50 l1 x28_2).f2)] 50 (0, 0)) u12_27 hb); clear hb hbox hg; have hnb49 := NB350_330.out; have hnc49 := NB330_350.out; have hnb50 := NB350_331.out; have hnc50 := NB331_350.out; have hnb51 := NB350_337.out; have hnc51 := NB337_350.out; have hnb52 := NB350_343.out; have hnc52 := NB343_350.out; obtain ⟨hcz53_0, hcz53_1, hcz53_2, hfz53_0, hfz53_1, hfz53_2⟩ := bc3f w48 BK350.out; obtain ⟨Ao54, co54, eo54⟩ := Kd.R_slice HO348.out; subst eo54; obtain ⟨hcz55_0, hcz55_1, hcz55_2, hfz55_0, hfz55_1, hfz55_2⟩ := bc3f w48 BK337.out; obtain ⟨hcz56_0, hcz56_1, hcz56_2, hfz56_0, hfz56_1, hfz56_2⟩ := bc3f w48 BK343.out) | ((with_reducible refine gate_callee (f := 37) rfl ?_); refine goesL_ (some 49) rfl rfl Tryd.func37 kr rfl #[.agg #[.int .i64 x338000_2, .int .i64 x338001_2, .slice Ao46 x338002_2.length co46], .int .i64 ((rd_T50 l1 x28_2).f0), .int .i64 ((rd_T50 l1 x28_2).f1)] rfl q3 ?_; (with_reducible refine (impl_look.calls k2 x338000_2 x338001_2 _ _ x338002_2 ((rd_T50 l1 x28_2).f0) ((rd_T50 l1 x28_2).f1) t351 t352 _ ?side1 ?side2 A37.out).mono ?_); (case side1 => exact (by refine (Kd.R_reads' (e := 54) (base := w.heap.size) (ok := fun k_ => (True ∧ some k_ ≠ (.slice Ao54 t346.length co54 : Value).ownBlock)) (n := x338002_2.length) (c := co46) ?_).2.2; exact u12_21)); (case side2 => exact (Kd.R_reads' HO_338002.out).2.1); rintro e w57 ⟨rfl, hb⟩; refine ⟨_, rfl, ?_⟩; replace HO_7 := am (Kd.R_below (by (with_reducible repeat (first | apply Kd.R_alloc | apply Kd.R_drewN | apply Kd.R_drew)); exact (Kd.R_mono (Kd.R_far (p := ⟨gb350, 2, none⟩) (Kd.R_far (p := ⟨gb350, 1, none⟩) (Kd.R_far (p := ⟨gb350, 0, none⟩) (Kd.R_types HO_7.out BK350.out (by decide)) (fun _ hk => hk.2) (.int .i64 t344)) (fun _ hk => hk.2) (.int .i64 t345)) (fun _ hk => hk.2) (.slice Ao54 t346.length co54)) (fun _ h_ => h_.1))) hb); replace HO_338002 := am (Kd.R_below u12_21 hb); replace HO348 := am (Kd.R_below (by (with_reducible repeat (first | apply Kd.R_alloc | apply Kd.R_drewN | apply Kd.R_drew)); exact (Kd.R_mono (Kd.R_far (p := ⟨gb350, 2, none⟩) (Kd.R_far (p := ⟨gb350, 1, none⟩) (Kd.R_far (p := ⟨gb350, 0, none⟩) (Kd.R_types HO348.out BK350.out (by decide)) (fun _ hk => hk.2) (.int .i64 t344)) (fun _ hk => hk.2) (.int .i64 t345)) (fun _ hk => hk.2) (.slice Ao54 t346.length co54)) (fun _ h_ => h_.1))) hb); replace BK330 := am (blk_below (g := gb330) (o := .cells #[.int .i64 a0_0, .int .i64 a0_1, .slice A0_2 l0_2.length c0_2] 30 (0, 0)) (by (with_reducible repeat (first | refine blk_drewN ?_ _ | refine blk_drew ?_ | refine blk_alloc ?_ _)); refine blk_far ?_ NB330_350.out _; (with_reducible repeat (first | refine blk_drewN ?_ _ | refine blk_drew ?_ | refine blk_alloc ?_ _)); refine blk_far ?_ NB330_350.out _; (with_reducible repeat (first | refine blk_drewN ?_ _ | refine blk_drew ?_ | refine blk_alloc ?_ _)); refine blk_far ?_ NB330_350.out _; (with_reducible repeat (first | refine blk_drewN ?_ _ | refine blk_drew ?_ | refine blk_alloc ?_ _)); exact BK330.out) hb); replace BK331 := am (blk_below (g := gb331) (o := .cells #[.int .i64 0, .int .i64 0, .slice none 0 0] 30 (0, 0)) (by (with_reducible repeat (first | refine blk_drewN ?_ _ | refine blk_drew ?_ | refine blk_alloc ?_ _)); refine blk_far ?_ NB331_350.out _; (with_reducible repeat (first | refine blk_drewN ?_ _ | refine blk_drew ?_ | refine blk_alloc ?_ _)); refine blk_far ?_ NB331_350.out _; (with_reducible repeat (first | refine blk_drewN ?_ _ | refine blk_drew ?_ | refine blk_alloc ?_ _)); refine blk_far ?_ NB331_350.out _; (with_reducible repeat (first | refine blk_drewN ?_ _ | refine blk_drew ?_ | refine blk_alloc ?_ _)); exact BK331.out) hb); replace BK337 := am (blk_below (g := gb337) (o := .cells #[.int .i64 x338000_2, .int .i64 x338001_2, .slice Ao46 x338002_2.length co46] 30 (0, 0)) (by (with_reducible repeat (first | refine blk_drewN ?_ _ | refine blk_drew ?_ | refine blk_alloc ?_ _)); refine blk_far ?_ NB337_350.out _; (with_reducible repeat (first | refine blk_drewN ?_ _ | refine blk_drew ?_ | refine blk_alloc ?_ _)); refine blk_far ?_ NB337_350.out _; (with_reducible repeat (first | refine blk_drewN ?_ _ | refine blk_drew ?_ | refine blk_alloc ?_ _)); refine blk_far ?_ NB337_350.out _; (with_reducible repeat (first | refine blk_drewN ?_ _ | refine blk_drew ?_ | refine blk_alloc ?_ _)); exact BK337.out) hb); replace BK343 := am (blk_below (g := gb343) (o := .cells #[.int .i64 ((rd_T50 l1 x28_2).f0), .int .i64 ((rd_T50 l1 x28_2).f1), .string ((rd_T50 l1 x28_2).f2)] 50 (0, 0)) (by (with_reducible repeat (first | refine blk_drewN ?_ _ | refine blk_drew ?_ | refine blk_alloc ?_ _)); refine blk_far ?_ NB343_350.out _; (with_reducible repeat (first | refine blk_drewN ?_ _ | refine blk_drew ?_ | refine blk_alloc ?_ _)); refine blk_far ?_ NB343_350.out _; (with_reducible repeat (first | refine blk_drewN ?_ _ | refine blk_drew ?_ | refine blk_alloc ?_ _)); refine blk_far ?_ NB343_350.out _; (with_reducible repeat (first | refine blk_drewN ?_ _ | refine blk_drew ?_ | refine blk_alloc ?_ _)); exact BK343.out) hb); replace BK350 := am (blk_below (g := gb350) (o := .cells #[.int .i64 t344, .int .i64 t345, .slice Ao54 t346.length co54] 30 (0, 0)) (by (with_reducible repeat (first | refine blk_drewN ?_ _ | refine blk_drew ?_ | refine blk_alloc ?_ _)); refine blk_put (cs := #[.int .i64 t344, .int .i64 t345, .slice none 0 0]) ?_ 2 _ rfl; (with_reducible repeat (first | refine blk_drewN ?_ _ | refine blk_drew ?_ | refine blk_alloc ?_ _)); refine blk_put (cs := #[.int .i64 t344, .int .i64 0, .slice none 0 0]) ?_ 1 _ rfl; (with_reducible repeat (first | refine blk_drewN ?_ _ | refine blk_drew ?_ | refine blk_alloc ?_ _)); refine blk_put (cs := #[.int .i64 0, .int .i64 0, .slice none 0 0]) ?_ 0 _ rfl; (with_reducible repeat (first | refine blk_drewN ?_ _ | refine blk_drew ?_ | refine blk_alloc ?_ _)); exact BK350.out) hb); replace HB := am (below_step q1 hb); (try clear hb); (try clear hb2); (try clear hk); (try clear hi)))
     have H := H9.out
     clear H9
     by_cases c58 : t349 = true
     · subst c58
       rw [if_pos rfl] at H
       by_cases c59 : x7_2.length < 8796093022208
       rotate_left
       · rw [if_neg c59] at H
         exact absurd H (by simp)
       rw [if_pos c59] at H
       have LMc59 := am c59
       clear c59
       obtain ⟨y353, hy353⟩ : ∃ y_ : List ByteArray, y_ = (x7_2 ++ [(rd_T50 l1 x28_2).f2]) := ⟨_, rfl⟩
       replace H : (impl_OnceEach.l0 k2 y353 l1 (l1.length : Int) (wrap64 (x28_2 + 1)) t344 t345 t346) = some (r1, r2, r3, r4) := by first | (rw [hy353]; with_reducible exact H) | (have H2_ := (Option.bind_some _ _).symm.trans H; rw [hy353]; with_reducible exact H2_) | (have H2_ := (Option.bind_some _ _).symm.trans H; with_reducible exact H2_) | with_reducible exact H | (rw [hy353]; exact H) | exact H
       have Ny353 := am hy353
       clear hy353
       have H' := am H
       clear H
       have hnb60 := NB343_330.out
       have hnc60 := NB330_343.out
       have hnb61 := NB343_331.out
       have hnc61 := NB331_343.out
       have hnb62 := NB343_337.out
       have hnc62 := NB337_343.out
       have hnb63 := NB343_350.out
       have hnc63 := NB350_343.out
       obtain ⟨hcz64_0, hcz64_1, hcz64_2, hfz64_0, hfz64_1, hfz64_2⟩ := bc3f w57 BK343.out
       have hnb65 := NB350_330.out
       have hnc65 := NB330_350.out
       have hnb66 := NB350_331.out
       have hnc66 := NB331_350.out
       have hnb67 := NB350_337.out
       have hnc67 := NB337_350.out
       obtain ⟨hcz68_0, hcz68_1, hcz68_2, hfz68_0, hfz68_1, hfz68_2⟩ := bc3f w57 BK350.out
       have hnb69 := NB337_330.out
       have hnc69 := NB330_337.out
       have hnb70 := NB337_331.out
       have hnc70 := NB331_337.out
       obtain ⟨hcz71_0, hcz71_1, hcz71_2, hfz71_0, hfz71_1, hfz71_2⟩ := bc3f w57 BK337.out
       go_wp2_with (first | ((with_reducible refine gate_builtin (b := .append) (xs := #[.tmp 63, .tmp 65]) rfl ?_); (try (refine gate_guard (by rfl) ?_; dsimp only)); at_builtin; refine Kd.R_append Kd.string (w0 := w) w.heap.size rfl (.tmp 63) (.tmp 65) 31 9 (.string ⟨#[]⟩) 16 rfl Tryd.underlying31 info9 rfl (by decide) (by omega) u7 x7_2 ((rd_T50 l1 x28_2).f2) [.string ((rd_T50 l1 x28_2).f2)] (fun _ => True) (fun _ => False) rfl u12_32 ?aP (fun _ hk => hk.elim) ?aF ?aO ?aB ?aS ?aL ?_; (case aP => exact rfl); (case aB => exact q1); (case aF => exact (fun _ _ => trivial)); (case aO => exact u12_14); (case aS => exact (below_size q1)); (case aL => have := LMc59.out; omega); intro v354 w72 ho hb hg hat; rw [← Ny353.out] at ho; replace HO_338002 := am (Kd.R_over' u12_13 (Kd.R_typed u12_5) (by decide) hg); replace BK330 := am (blk_grown (g := gb330) (o := .cells #[.int .i64 a0_0, .int .i64 a0_1, .slice A0_2 l0_2.length c0_2] 30 (0, 0)) u12_3 hg (Kd.R_ne HO_7.out BK330.out (by decide))); replace BK331 := am (blk_grown (g := gb331) (o := .cells #[.int .i64 0, .int .i64 0, .slice none 0 0] 30 (0, 0)) u12_4 hg (Kd.R_ne HO_7.out BK331.out (by decide))); replace BK343 := am (blk_grown (g := gb343) (o := .cells #[.int .i64 ((rd_T50 l1 x28_2).f0), .int .i64 ((rd_T50 l1 x28_2).f1), .string ((rd_T50 l1 x28_2).f2)] 50 (0, 0)) u12_9 hg (Kd.R_ne HO_7.out BK343.out (by decide))); replace HO348 := am (Kd.R_over' u12_15 (Kd.R_typed u12_5) (by decide) hg); replace BK337 := am (blk_grown (g := gb337) (o := .cells #[.int .i64 t344, .int .i64 t345, .slice Ao54 t346.length co54] 30 (0, 0)) u12_7 hg (Kd.R_ne HO_7.out BK337.out (by decide))); replace BK350 := am (blk_grown (g := gb350) (o := .cells #[.int .i64 t344, .int .i64 t345, .slice Ao54 t346.length co54] 30 (0, 0)) u12_10 hg (Kd.R_ne HO_7.out BK350.out (by decide))); replace HB := am (hb); have HO355 := am (ho); clear HO_7; clear ho hb hg hat))
       go_roundg k2
       case measure => have := HJ3.out; have := HK2.out; omega
       case rel => exact ⟨(y353), (wrap64 (x28_2 + 1)), (t344), (t345), (t346), (.slice Ao54 t346.length co54), q2, H', ⟨u12_33⟩, ⟨(by (with_reducible repeat (first | apply Kd.R_alloc | apply Kd.R_drewN | apply Kd.R_drew)); exact HO355.out)⟩, ⟨u12_26⟩, ⟨u12_2⟩, ⟨u12_6⟩, ⟨u12_8⟩, ⟨q1⟩⟩
     replace c58 := Bool.eq_false_iff.mpr c58
     subst c58
     rw [nf] at H
     by_cases c73 : t351 = 1
     · rw [if_pos c73] at H
       have c73b0 : (t351 == 1) = true := beq_iff_eq.mpr c73
       have c73b1 : (t351 != 1) = false := bne_eq_false_iff_eq.mpr c73
       clear c73
       (first | rw [c73b0] | (simp only [i64_w, i32_w]; rw [c73b0]) | skip)
       by_cases c74 : x7_2.length < 8796093022208
       rotate_left
       · rw [if_neg c74] at H
         exact absurd H (by simp)
       rw [if_pos c74] at H
       have LMc74 := am c74
       clear c74
       obtain ⟨y356, hy356⟩ : ∃ y_ : List ByteArray, y_ = (x7_2 ++ [t352]) := ⟨_, rfl⟩
       replace H : (impl_OnceEach.l0 k2 y356 l1 (l1.length : Int) (wrap64 (x28_2 + 1)) t344 t345 t346) = some (r1, r2, r3, r4) := by first | (rw [hy356]; with_reducible exact H) | (have H2_ := (Option.bind_some _ _).symm.trans H; rw [hy356]; with_reducible exact H2_) | (have H2_ := (Option.bind_some _ _).symm.trans H; with_reducible exact H2_) | with_reducible exact H | (rw [hy356]; exact H) | exact H
       have Ny356 := am hy356
       clear hy356
       have H' := am H
       clear H
       have hnb75 := NB350_330.out
       have hnc75 := NB330_350.out
       have hnb76 := NB350_331.out
       have hnc76 := NB331_350.out
       have hnb77 := NB350_337.out
       have hnc77 := NB337_350.out
       have hnb78 := NB350_343.out
       have hnc78 := NB343_350.out
       obtain ⟨hcz79_0, hcz79_1, hcz79_2, hfz79_0, hfz79_1, hfz79_2⟩ := bc3f w57 BK350.out
       have hnb80 := NB337_330.out
       have hnc80 := NB330_337.out
       have hnb81 := NB337_331.out
       have hnc81 := NB331_337.out
       have hnb82 := NB337_343.out
       have hnc82 := NB343_337.out
       obtain ⟨hcz83_0, hcz83_1, hcz83_2, hfz83_0, hfz83_1, hfz83_2⟩ := bc3f w57 BK337.out
       go_wp2_with (first | ((with_reducible refine gate_builtin (b := .append) (xs := #[.tmp 63, .tmp 65]) rfl ?_); (try (refine gate_guard (by rfl) ?_; dsimp only)); at_builtin; refine Kd.R_append Kd.string (w0 := w) w.heap.size rfl (.tmp 63) (.tmp 65) 31 9 (.string ⟨#[]⟩) 16 rfl Tryd.underlying31 info9 rfl (by decide) (by omega) u7 x7_2 t352 [.string t352] (fun _ => True) (fun _ => False) rfl u12_32 ?aP (fun _ hk => hk.elim) ?aF ?aO ?aB ?aS ?aL ?_; (case aP => exact rfl); (case aB => exact q1); (case aF => exact (fun _ _ => trivial)); (case aO => exact u12_14); (case aS => exact (below_size q1)); (case aL => have := LMc74.out; omega); intro v357 w84 ho hb hg hat; rw [← Ny356.out] at ho; replace HO_338002 := am (Kd.R_over' u12_13 (Kd.R_typed u12_5) (by decide) hg); replace BK330 := am (blk_grown (g := gb330) (o := .cells #[.int .i64 a0_0, .int .i64 a0_1, .slice A0_2 l0_2.length c0_2] 30 (0, 0)) u12_3 hg (Kd.R_ne HO_7.out BK330.out (by decide))); replace BK331 := am (blk_grown (g := gb331) (o := .cells #[.int .i64 0, .int .i64 0, .slice none 0 0] 30 (0, 0)) u12_4 hg (Kd.R_ne HO_7.out BK331.out (by decide))); replace BK343 := am (blk_grown (g := gb343) (o := .cells #[.int .i64 ((rd_T50 l1 x28_2).f0), .int .i64 ((rd_T50 l1 x28_2).f1), .string ((rd_T50 l1 x28_2).f2)] 50 (0, 0)) u12_9 hg (Kd.R_ne HO_7.out BK343.out (by decide))); replace HO348 := am (Kd.R_over' u12_15 (Kd.R_typed u12_5) (by decide) hg); replace BK337 := am (blk_grown (g := gb337) (o := .cells #[.int .i64 t344, .int .i64 t345, .slice Ao54 t346.length co54] 30 (0, 0)) u12_7 hg (Kd.R_ne HO_7.out BK337.out (by decide))); replace BK350 := am (blk_grown (g := gb350) (o := .cells #[.int .i64 t344, .int .i64 t345, .slice Ao54 t346.length co54] 30 (0, 0)) u12_10 hg (Kd.R_ne HO_7.out BK350.out (by decide))); replace HB := am (hb); have HO358 := am (ho); clear HO_7; clear ho hb hg hat))
       go_roundg k2
       case measure => have := HJ3.out; have := HK2.out; omega
       case rel => exact ⟨(y356), (wrap64 (x28_2 + 1)), (t344), (t345), (t346), (.slice Ao54 t346.length co54), q2, H', ⟨u12_33⟩, ⟨(by (with_reducible repeat (first | apply Kd.R_alloc | apply Kd.R_drewN | apply Kd.R_drew)); exact HO358.out)⟩, ⟨u12_26⟩, ⟨u12_2⟩, ⟨u12_6⟩, ⟨u12_8⟩, ⟨q1⟩⟩
     rw [if_neg c73] at H
     have c73b0 : (t351 == 1) = false := beq_eq_false_iff_ne.mpr c73
     have c73b1 : (t351 != 1) = true := bne_iff_ne.mpr c73
     (first | rw [c73b0] | (simp only [i64_w, i32_w]; rw [c73b0]) | skip)
     replace H := Option.bind_eq_some_iff.mp H
     obtain ⟨t359, A850, H⟩ := H
     have A85 := am A850
     clear A850
     by_cases c86 : 1 + t359.size ≤ 9223372036854775807
     rotate_left
     · rw [if_neg c86] at H
       exact absurd H (by simp)
     rw [if_pos c86] at H
     have c86b0 := eq_true c86
     have c86b1 : decide (1 + t359.size ≤ 9223372036854775807) = true := decide_eq_true c86
     try have c86b2 : (9223372036854775807 < 1 + t359.size) = False := eq_false (Nat.not_lt.2 c86)
     by_cases c87 : x7_2.length < 8796093022208
     rotate_left
     · rw [if_neg c87] at H
       exact absurd H (by simp)
     rw [if_pos c87] at H
     have LMc87 := am c87
     clear c87
     obtain ⟨y360, hy360⟩ : ∃ y_ : List ByteArray, y_ = (x7_2 ++ [(⟨#[33]⟩ : ByteArray) ++ t359]) := ⟨_, rfl⟩
     replace H : (impl_OnceEach.l0 k2 y360 l1 (l1.length : Int) (wrap64 (x28_2 + 1)) t344 t345 t346) = some (r1, r2, r3, r4) := by first | (rw [hy360]; with_reducible exact H) | (have H2_ := (Option.bind_some _ _).symm.trans H; rw [hy360]; with_reducible exact H2_) | (have H2_ := (Option.bind_some _ _).symm.trans H; with_reducible exact H2_) | with_reducible exact H | (rw [hy360]; exact H) | exact H
     have Ny360 := am hy360
     clear hy360
     have H' := am H
     clear H
     go_wp2_with (first | ((with_reducible refine gate_callee (f := 38) rfl ?_); refine goesL_ (some 60) rfl rfl Tryd.func38 kr rfl #[.int .i64 t351] rfl q3 ?_; (with_reducible refine (strconv_Itoa.calls t351 t359 _ A85.out).mono ?_); rintro e w' ⟨rfl, ⟨nd, rfl⟩⟩; refine ⟨_, rfl, ?_⟩; (first | (rw [drewN_self w57]; generalize hq_ : World.drewN w57 _ = w57; have n0_ := am (Kd.R_at hq_ HO_7.out); have n1_ := am (Kd.R_at hq_ HO_338002.out); have n2_ := am (Kd.R_at hq_ HO348.out); have n3_ := am (blk_at hq_ BK330.out); have n4_ := am (blk_at hq_ BK331.out); have n5_ := am (blk_at hq_ BK337.out); have n6_ := am (blk_at hq_ BK343.out); have n7_ := am (blk_at hq_ BK350.out); have n8_ := am (below_at hq_ HB.out); clear hq_ HO_7 HO_338002 HO348 BK330 BK331 BK337 BK343 BK350 HB; have HO_7 := n0_; have HO_338002 := n1_; have HO348 := n2_; have BK330 := n3_; have BK331 := n4_; have BK337 := n5_; have BK343 := n6_; have BK350 := n7_; have HB := n8_; clear n0_ n1_ n2_ n3_ n4_ n5_ n6_ n7_ n8_) | skip); have hnb88 := NB350_330.out; have hnc88 := NB330_350.out; have hnb89 := NB350_331.out; have hnc89 := NB331_350.out; have hnb90 := NB350_337.out; have hnc90 := NB337_350.out; have hnb91 := NB350_343.out; have hnc91 := NB343_350.out; obtain ⟨hcz92_0, hcz92_1, hcz92_2, hfz92_0, hfz92_1, hfz92_2⟩ := bc3f w57 BK350.out; have hnb93 := NB337_330.out; have hnc93 := NB330_337.out; have hnb94 := NB337_331.out; have hnc94 := NB331_337.out; have hnb95 := NB337_343.out; have hnc95 := NB343_337.out; obtain ⟨hcz96_0, hcz96_1, hcz96_2, hfz96_0, hfz96_1, hfz96_2⟩ := bc3f w57 BK337.out) | ((with_reducible refine gate_builtin (b := .append) (xs := #[.tmp 63, .tmp 65]) rfl ?_); (try (refine gate_guard (by rfl) ?_; dsimp only)); at_builtin; refine Kd.R_append Kd.string (w0 := w) w.heap.size rfl (.tmp 63) (.tmp 65) 31 9 (.string ⟨#[]⟩) 16 rfl Tryd.underlying31 info9 rfl (by decide) (by omega) u7 x7_2 ((⟨#[33]⟩ : ByteArray) ++ t359) [.string ((⟨#[33]⟩ : ByteArray) ++ t359)] (fun _ => True) (fun _ => False) rfl u12_32 ?aP (fun _ hk => hk.elim) ?aF ?aO ?aB ?aS ?aL ?_; (case aP => exact rfl); (case aB => exact q1); (case aF => exact (fun _ _ => trivial)); (case aO => exact u12_14); (case aS => exact (below_size q1)); (case aL => have := LMc87.out; omega); intro v361 w97 ho hb hg hat; rw [← Ny360.out] at ho; replace HO_338002 := am (Kd.R_over' u12_13 (Kd.R_typed u12_5) (by decide) hg); replace BK330 := am (blk_grown (g := gb330) (o := .cells #[.int .i64 a0_0, .int .i64 a0_1, .slice A0_2 l0_2.length c0_2] 30 (0, 0)) u12_3 hg (Kd.R_ne HO_7.out BK330.out (by decide))); replace BK331 := am (blk_grown (g := gb331) (o := .cells #[.int .i64 0, .int .i64 0, .slice none 0 0] 30 (0, 0)) u12_4 hg (Kd.R_ne HO_7.out BK331.out (by decide))); replace BK343 := am (blk_grown (g := gb343) (o := .cells #[.int .i64 ((rd_T50 l1 x28_2).f0), .int .i64 ((rd_T50 l1 x28_2).f1), .string ((rd_T50 l1 x28_2).f2)] 50 (0, 0)) u12_9 hg (Kd.R_ne HO_7.out BK343.out (by decide))); replace HO348 := am (Kd.R_over' u12_15 (Kd.R_typed u12_5) (by decide) hg); replace BK337 := am (blk_grown (g := gb337) (o := .cells #[.int .i64 t344, .int .i64 t345, .slice Ao54 t346.length co54] 30 (0, 0)) u12_7 hg (Kd.R_ne HO_7.out BK337.out (by decide))); replace BK350 := am (blk_grown (g := gb350) (o := .cells #[.int .i64 t344, .int .i64 t345, .slice Ao54 t346.length co54] 30 (0, 0)) u12_10 hg (Kd.R_ne HO_7.out BK350.out (by decide))); replace HB := am (hb); have HO362 := am (ho); clear HO_7; clear ho hb hg hat))
     go_roundg k2
     case measure => have := HJ3.out; have := HK2.out; omega
     case rel => exact ⟨(y360), (wrap64 (x28_2 + 1)), (t344), (t345), (t346), (.slice Ao54 t346.length co54), q2, H', ⟨u12_33⟩, ⟨(by (with_reducible repeat (first | apply Kd.R_alloc | apply Kd.R_drewN | apply Kd.R_drew)); exact HO362.out)⟩, ⟨u12_26⟩, ⟨u12_2⟩, ⟨u12_6⟩, ⟨u12_8⟩, ⟨q1⟩⟩

/-! ### laws_eqSession: function 58 -/
def laws_eqSession.f (a0_0 : Int) (a0_1 : Int) (a0_2 : Int) (a0_3 : ByteArray) (a1_0 : Int) (a1_1 : Int) (a1_2 : Int) (a1_3 : ByteArray) : Option (Bool) := if a0_0 = a1_0 then (if a0_1 = a1_1 then (if a0_2 = a1_2 then (if a0_3.toList = a1_3.toList then (some true) else (some false)) else (some false)) else (some false)) else (some false)
set_option maxHeartbeats 8000000 in
set_option maxRecDepth 100000 in
theorem laws_eqSession.calls (a0_0 : Int) (a0_1 : Int) (a0_2 : Int) (a0_3 : ByteArray) (a1_0 : Int) (a1_1 : Int) (a1_2 : Int) (a1_3 : ByteArray) (r : Bool) (w : World) (h : laws_eqSession.f a0_0 a0_1 a0_2 a0_3 a1_0 a1_1 a1_2 a1_3 = some r) :
   Calls Tryd.prog 58 #[.agg #[.int .i64 a0_0, .int .i64 a0_1, .int .i64 a0_2, .string a0_3], .agg #[.int .i64 a1_0, .int .i64 a1_1, .int .i64 a1_2, .string a1_3]] w fun e w' => e = .returned (.bool r) ∧ Below w.heap.size w w' := by
 have hu54 := Tryd.underlying54
 have HB := am (Below.refl w.heap.size w)
 have H : (if a0_0 = a1_0 then (if a0_1 = a1_1 then (if a0_2 = a1_2 then (if a0_3.toList = a1_3.toList then (some true) else (some false)) else (some false)) else (some false)) else (some false)) = some r := h
 clear h
 have H9 := am H
 clear H
 go_enter Tryd.func58, Tryd.ntmps58
 go_upto_if 9 with (first | ((with_reducible refine gate_dst (N := 2) rfl ?_); refine box_event ?hg (N := 2) ?hd (cs := #[.int .i64 a0_0, .int .i64 a0_1, .int .i64 a0_2, .string a0_3]) (t := 54) ?hr ?_; (case hd => rfl); (case hg => rfl); (case hr => first | (go_simp; done) | (go_simp; rfl)); intro gb363 hg w3 hbox hb; have BK363 := am (hbox); have GW363 := am ((by rw [hg]; exact (below_size q1) : w.heap.size ≤ gb363)); have GE363 := am ((by rw [hg]; exact (below_size q1) : w.heap.size ≤ gb363)); replace HB := am (below_step q1 hb); clear hb hbox hg) | ((with_reducible refine gate_dst (N := 3) rfl ?_); refine box_event ?hg (N := 3) ?hd (cs := #[.int .i64 a1_0, .int .i64 a1_1, .int .i64 a1_2, .string a1_3]) (t := 54) ?hr ?_; (case hd => rfl); (case hg => rfl); (case hr => first | (go_simp; done) | (go_simp; rfl)); intro gb364 hg w4 hbox hb; have BK364 := am (hbox); have GW364 := am ((by rw [hg]; exact (below_size q1) : w.heap.size ≤ gb364)); have GE364 := am ((by rw [hg]; exact (below_size q1) : w.heap.size ≤ gb364)); replace HB := am (below_step q1 hb); have NB363_364 := am ((by rw [hg]; exact Nat.ne_of_lt (blk_lt (g := gb363) (o := .cells #[.int .i64 a0_0, .int .i64 a0_1, .int .i64 a0_2, .string a0_3] 54 (0, 0)) u12_28) : gb363 ≠ gb364)); have NB364_363 := am ((by rw [hg]; exact Nat.ne_of_gt (blk_lt (g := gb363) (o := .cells #[.int .i64 a0_0, .int .i64 a0_1, .int .i64 a0_2, .string a0_3] 54 (0, 0)) u12_28) : gb364 ≠ gb363)); replace BK363 := am (blk_below (g := gb363) (o := .cells #[.int .i64 a0_0, .int .i64 a0_1, .int .i64 a0_2, .string a0_3] 54 (0, 0)) u12_28 hb); clear hb hbox hg; have hnb5 := NB363_364.out; have hnc5 := NB364_363.out; obtain ⟨hcz6_0, hcz6_1, hcz6_2, hcz6_3⟩ := bc4 w4 BK363.out; obtain ⟨hcz7_0, hcz7_1, hcz7_2, hcz7_3, hfz7_0, hfz7_1, hfz7_2, hfz7_3⟩ := bc4f w4 BK364.out))
 have H := H9.out
 clear H9
 by_cases c8 : a0_0 = a1_0
 rotate_left
 · rw [if_neg c8] at H
   have c8b0 : (a0_0 == a1_0) = false := beq_eq_false_iff_ne.mpr c8
   have c8b1 : (a0_0 != a1_0) = true := bne_iff_ne.mpr c8
   (first | rw [c8b0] | (simp only [i64_w, i32_w]; rw [c8b0]) | skip)
   obtain rfl := sj H
   go_wp2
   go_ret
   exact ⟨er, q1⟩
 rw [if_pos c8] at H
 have c8b0 : (a0_0 == a1_0) = true := beq_iff_eq.mpr c8
 have c8b1 : (a0_0 != a1_0) = false := bne_eq_false_iff_eq.mpr c8
 clear c8
 (first | rw [c8b0] | (simp only [i64_w, i32_w]; rw [c8b0]) | skip)
 by_cases c9 : a0_1 = a1_1
 rotate_left
 · rw [if_neg c9] at H
   have c9b0 : (a0_1 == a1_1) = false := beq_eq_false_iff_ne.mpr c9
   have c9b1 : (a0_1 != a1_1) = true := bne_iff_ne.mpr c9
   obtain rfl := sj H
   have hnb21 := NB363_364.out
   have hnc21 := NB364_363.out
   obtain ⟨hcz22_0, hcz22_1, hcz22_2, hcz22_3⟩ := bc4 w4 BK363.out
   obtain ⟨hcz23_0, hcz23_1, hcz23_2, hcz23_3, hfz23_0, hfz23_1, hfz23_2, hfz23_3⟩ := bc4f w4 BK364.out
   go_wp2
   go_ret
   exact ⟨er, q1⟩
 rw [if_pos c9] at H
 have c9b0 : (a0_1 == a1_1) = true := beq_iff_eq.mpr c9
 have c9b1 : (a0_1 != a1_1) = false := bne_eq_false_iff_eq.mpr c9
 clear c9
 by_cases c10 : a0_2 = a1_2
 rotate_left
 · rw [if_neg c10] at H
   have c10b0 : (a0_2 == a1_2) = false := beq_eq_false_iff_ne.mpr c10
   have c10b1 : (a0_2 != a1_2) = true := bne_iff_ne.mpr c10
   obtain rfl := sj H
   have hnb18 := NB363_364.out
   have hnc18 := NB364_363.out
   obtain ⟨hcz19_0, hcz19_1, hcz19_2, hcz19_3⟩ := bc4 w4 BK363.out
   obtain ⟨hcz20_0, hcz20_1, hcz20_2, hcz20_3, hfz20_0, hfz20_1, hfz20_2, hfz20_3⟩ := bc4f w4 BK364.out
   go_wp2
   go_ret
   exact ⟨er, q1⟩
 rw [if_pos c10] at H
 have c10b0 : (a0_2 == a1_2) = true := beq_iff_eq.mpr c10
 have c10b1 : (a0_2 != a1_2) = false := bne_eq_false_iff_eq.mpr c10
 clear c10
 by_cases c11 : a0_3.toList = a1_3.toList
 rotate_left
 · rw [if_neg c11] at H
   have c11b0 : (a0_3.toList == a1_3.toList) = false := beq_eq_false_iff_ne.mpr c11
   have c11b1 : (a0_3.toList != a1_3.toList) = true := bne_iff_ne.mpr c11
   obtain rfl := sj H
   have hnb15 := NB363_364.out
   have hnc15 := NB364_363.out
   obtain ⟨hcz16_0, hcz16_1, hcz16_2, hcz16_3⟩ := bc4 w4 BK363.out
   obtain ⟨hcz17_0, hcz17_1, hcz17_2, hcz17_3, hfz17_0, hfz17_1, hfz17_2, hfz17_3⟩ := bc4f w4 BK364.out
   go_wp2
   go_ret
   exact ⟨er, q1⟩
 rw [if_pos c11] at H
 have c11b0 : (a0_3.toList == a1_3.toList) = true := beq_iff_eq.mpr c11
 have c11b1 : (a0_3.toList != a1_3.toList) = false := bne_eq_false_iff_eq.mpr c11
 clear c11
 obtain rfl := sj H
 have hnb12 := NB363_364.out
 have hnc12 := NB364_363.out
 obtain ⟨hcz13_0, hcz13_1, hcz13_2, hcz13_3⟩ := bc4 w4 BK363.out
 obtain ⟨hcz14_0, hcz14_1, hcz14_2, hcz14_3, hfz14_0, hfz14_1, hfz14_2, hfz14_3⟩ := bc4f w4 BK364.out
 go_wp2
 go_ret
 exact ⟨er, q1⟩

end Go.Proofs.YtjdpifafijcpbaaDoor.QFnExactOnceEach
