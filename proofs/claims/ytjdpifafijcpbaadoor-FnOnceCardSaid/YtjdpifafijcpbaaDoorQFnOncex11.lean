-- Printed by the session's own program wip/prx.py.
import Derived.Test.YtjdpifafijcpbaaDoorShelf
import Derived.Test.YtjdpifafijcpbaaDoorSqFnOnce
import Derived.Test.YtjdpifafijcpbaaDoorQFnOncex0
import Derived.Test.YtjdpifafijcpbaaDoorQFnOncex6
import Derived.Test.YtjdpifafijcpbaaDoorQFnOncex7
import Derived.Test.YtjdpifafijcpbaaDoorQFnOncex8
import Derived.Test.YtjdpifafijcpbaaDoorQFnOncex10
namespace Go.Proofs.YtjdpifafijcpbaaDoor.QFnOnce
open Go.RowKit Go.Proofs.YtjdpifafijcpbaaDoorW.PrintWords Go.Proofs.YtjdpifafijcpbaaDoorW.PrintLast Go.Proofs.YtjdpifafijcpbaaDoorW.PrintMore Go.Proofs.YtjdpifafijcpbaaDoor.SqFnOnce
attribute [local go_sem] max2_int min2_int max_two min_two max_three min_three max_four min_four Go.Proofs.YtjdpifafijcpbaaDoor.Set.isSome_setCell
set_option linter.unusedVariables false
set_option linter.unusedSimpArgs false

-- squeezed
theorem u11_2 {P : Prop} (h : P := by (with_reducible repeat (first | refine blk_drewN ?_ _ | refine blk_drew ?_ | refine blk_alloc ?_ _)); exact BK293.out) : P := h
theorem u11_3 {P : Prop} (h : P := by (with_reducible repeat (first | refine blk_drewN ?_ _ | refine blk_drew ?_ | refine blk_alloc ?_ _)); refine blk_far ?_ NB293_300.out _; (with_reducible repeat (first | refine blk_drewN ?_ _ | refine blk_drew ?_ | refine blk_alloc ?_ _)); refine blk_far ?_ NB293_300.out _; (with_reducible repeat (first | refine blk_drewN ?_ _ | refine blk_drew ?_ | refine blk_alloc ?_ _)); refine blk_far ?_ NB293_300.out _; (with_reducible repeat (first | refine blk_drewN ?_ _ | refine blk_drew ?_ | refine blk_alloc ?_ _)); exact BK293.out) : P := h
theorem u11_4 {P : Prop} (h : P := by (with_reducible repeat (first | refine blk_drewN ?_ _ | refine blk_drew ?_ | refine blk_alloc ?_ _)); refine blk_far ?_ NB294_300.out _; (with_reducible repeat (first | refine blk_drewN ?_ _ | refine blk_drew ?_ | refine blk_alloc ?_ _)); refine blk_far ?_ NB294_300.out _; (with_reducible repeat (first | refine blk_drewN ?_ _ | refine blk_drew ?_ | refine blk_alloc ?_ _)); refine blk_far ?_ NB294_300.out _; (with_reducible repeat (first | refine blk_drewN ?_ _ | refine blk_drew ?_ | refine blk_alloc ?_ _)); exact BK294.out) : P := h
theorem u11_5 {P : Prop} (h : P := by (with_reducible repeat (first | apply Kd.R_alloc | apply Kd.R_drewN | apply Kd.R_drew)); exact (Kd.R_mono (Kd.R_far (p := ⟨gb300, 2, none⟩) (Kd.R_far (p := ⟨gb300, 1, none⟩) (Kd.R_far (p := ⟨gb300, 0, none⟩) (Kd.R_types HO_7.out BK300.out (by decide)) (fun _ hk => hk.2) (.int .i64 t307)) (fun _ hk => hk.2) (.int .i64 t308)) (fun _ hk => hk.2) (.slice Ao54 t309.length co54)) (fun _ h_ => h_.1))) : P := h
theorem u11_6 {P : Prop} (h : P := by (with_reducible repeat (first | refine blk_drewN ?_ _ | refine blk_drew ?_ | refine blk_alloc ?_ _)); exact BK294.out) : P := h
theorem u11_7 {P : Prop} (h : P := by (with_reducible repeat (first | refine blk_drewN ?_ _ | refine blk_drew ?_ | refine blk_alloc ?_ _)); refine blk_put (cs := #[.int .i64 t307, .int .i64 t308, .slice Ao46 x301002_2.length co46]) ?_ 2 _ rfl; (with_reducible repeat (first | refine blk_drewN ?_ _ | refine blk_drew ?_ | refine blk_alloc ?_ _)); refine blk_put (cs := #[.int .i64 t307, .int .i64 x301001_2, .slice Ao46 x301002_2.length co46]) ?_ 1 _ rfl; (with_reducible repeat (first | refine blk_drewN ?_ _ | refine blk_drew ?_ | refine blk_alloc ?_ _)); refine blk_put (cs := #[.int .i64 x301000_2, .int .i64 x301001_2, .slice Ao46 x301002_2.length co46]) ?_ 0 _ rfl; (with_reducible repeat (first | refine blk_drewN ?_ _ | refine blk_drew ?_ | refine blk_alloc ?_ _)); exact BK300.out) : P := h
theorem u11_8 {P : Prop} (h : P := by (with_reducible repeat (first | refine blk_drewN ?_ _ | refine blk_drew ?_ | refine blk_alloc ?_ _)); exact BK300.out) : P := h
theorem u11_13 {P : Prop} (h : P := by (with_reducible repeat (first | refine blk_drewN ?_ _ | refine blk_drew ?_ | refine blk_alloc ?_ _)); refine blk_far ?_ NB306_300.out _; (with_reducible repeat (first | refine blk_drewN ?_ _ | refine blk_drew ?_ | refine blk_alloc ?_ _)); refine blk_far ?_ NB306_300.out _; (with_reducible repeat (first | refine blk_drewN ?_ _ | refine blk_drew ?_ | refine blk_alloc ?_ _)); refine blk_far ?_ NB306_300.out _; (with_reducible repeat (first | refine blk_drewN ?_ _ | refine blk_drew ?_ | refine blk_alloc ?_ _)); exact BK306.out) : P := h
theorem u11_14 {P : Prop} (h : P := by (with_reducible repeat (first | refine blk_drewN ?_ _ | refine blk_drew ?_ | refine blk_alloc ?_ _)); refine blk_far ?_ NB313_300.out _; (with_reducible repeat (first | refine blk_drewN ?_ _ | refine blk_drew ?_ | refine blk_alloc ?_ _)); refine blk_far ?_ NB313_300.out _; (with_reducible repeat (first | refine blk_drewN ?_ _ | refine blk_drew ?_ | refine blk_alloc ?_ _)); refine blk_far ?_ NB313_300.out _; (with_reducible repeat (first | refine blk_drewN ?_ _ | refine blk_drew ?_ | refine blk_alloc ?_ _)); exact BK313.out) : P := h
theorem u11_16 {P : Prop} (h : P := by (with_reducible repeat (first | apply Kd.R_alloc | apply Kd.R_drewN | apply Kd.R_drew)); exact (Kd.R_mono (Kd.R_far (p := ⟨gb306, 2, none⟩) (Kd.R_far (p := ⟨gb306, 1, none⟩) (Kd.R_far (p := ⟨gb306, 0, none⟩) (Kd.R_types HO_301002.out BK306.out (by decide)) (fun _ hk => hk.2) (.int .i64 ((rd_T50 l1 x28_2).f0))) (fun _ hk => hk.2) (.int .i64 ((rd_T50 l1 x28_2).f1))) (fun _ hk => hk.2) (.string ((rd_T50 l1 x28_2).f2))) (fun _ h_ => h_.1))) : P := h
theorem u11_17 {P : Prop} (h : P := by (with_reducible repeat (first | apply Kd.R_alloc | apply Kd.R_drewN | apply Kd.R_drew)); exact (Kd.R_mono (Kd.R_far (p := ⟨gb300, 2, none⟩) (Kd.R_far (p := ⟨gb300, 1, none⟩) (Kd.R_far (p := ⟨gb300, 0, none⟩) (Kd.R_types HO_301002.out BK300.out (by decide)) (fun _ hk => hk.2) (.int .i64 t307)) (fun _ hk => hk.2) (.int .i64 t308)) (fun _ hk => hk.2) (.slice Ao54 t309.length co54)) (fun _ h_ => h_.1))) : P := h
theorem u11_18 {P : Prop} (h : P := by (with_reducible repeat (first | apply Kd.R_alloc | apply Kd.R_drewN | apply Kd.R_drew)); exact Kd.R_mono (Kd.R_far (p := ⟨gb300, 2, none⟩) (Kd.R_far (p := ⟨gb300, 1, none⟩) (Kd.R_far (p := ⟨gb300, 0, none⟩) (Kd.R_types HO_7.out BK300.out (by decide)) (fun _ hk => hk.2) (.int .i64 t307)) (fun _ hk => hk.2) (.int .i64 t308)) (fun _ hk => hk.2) (.slice Ao54 t309.length co54)) (fun _ hk => trivial)) : P := h
theorem u11_19 {P : Prop} (h : P := by (with_reducible repeat (first | apply Kd.R_alloc | apply Kd.R_drewN | apply Kd.R_drew)); exact (Kd.R_mono (Kd.R_far (p := ⟨gb300, 2, none⟩) (Kd.R_far (p := ⟨gb300, 1, none⟩) (Kd.R_far (p := ⟨gb300, 0, none⟩) (Kd.R_types HO311.out BK300.out (by decide)) (fun _ hk => hk.2) (.int .i64 t307)) (fun _ hk => hk.2) (.int .i64 t308)) (fun _ hk => hk.2) (.slice Ao54 t309.length co54)) (fun _ h_ => h_.1))) : P := h
theorem u11_22 {P : Prop} (h : P := by (with_reducible repeat (first | refine blk_drewN ?_ _ | refine blk_drew ?_ | refine blk_alloc ?_ _)); refine blk_put (cs := #[.int .i64 t295, .int .i64 t296, .slice none 0 0]) ?_ 2 _ rfl; (with_reducible repeat (first | refine blk_drewN ?_ _ | refine blk_drew ?_ | refine blk_alloc ?_ _)); refine blk_put (cs := #[.int .i64 t295, .int .i64 0, .slice none 0 0]) ?_ 1 _ rfl; (with_reducible repeat (first | refine blk_drewN ?_ _ | refine blk_drew ?_ | refine blk_alloc ?_ _)); refine blk_put (cs := #[.int .i64 0, .int .i64 0, .slice none 0 0]) ?_ 0 _ rfl; (with_reducible repeat (first | refine blk_drewN ?_ _ | refine blk_drew ?_ | refine blk_alloc ?_ _)); exact BK300.out) : P := h
theorem u11_23 {P : Prop} (h : P := by repeat (first | (with_reducible first | exact HBW.out | apply below_alloc | apply pw_below_drewN | apply below_drew1) | exact HBW.out)) : P := h
theorem u11_24 {P : Prop} (h : P := by (with_reducible repeat (first | apply Kd.R_alloc | apply Kd.R_drewN | apply Kd.R_drew)); exact (Kd.R_mono (Kd.R_far (p := ⟨gb313, 2, none⟩) (Kd.R_far (p := ⟨gb313, 1, none⟩) (Kd.R_far (p := ⟨gb313, 0, none⟩) (Kd.R_types HO_301002.out BK313.out (by decide)) (fun _ hk => hk.2) (.int .i64 t307)) (fun _ hk => hk.2) (.int .i64 t308)) (fun _ hk => hk.2) (.slice Ao54 t309.length co54)) (fun _ h_ => h_.1))) : P := h
theorem u11_25 {P : Prop} (h : P := by (with_reducible repeat (first | apply Kd.R_alloc | apply Kd.R_drewN | apply Kd.R_drew)); exact (Kd.R_mono (Kd.R_far (p := ⟨gb300, 2, none⟩) (Kd.R_far (p := ⟨gb300, 1, none⟩) (Kd.R_far (p := ⟨gb300, 0, none⟩) (Kd.R_types HO299.out BK300.out (by decide)) (fun _ hk => hk.2) (.int .i64 t295)) (fun _ hk => hk.2) (.int .i64 t296)) (fun _ hk => hk.2) (.slice Ao14 t297.length co14)) (fun _ h_ => h_.1))) : P := h
theorem u11_28 {P : Prop} (h : P := by (with_reducible repeat (first | apply Kd.R_alloc | apply Kd.R_drewN | apply Kd.R_drew)); exact HO_301002.out) : P := h
theorem u11_29 {P : Prop} (h : P := by (with_reducible repeat (first | apply Kd.R_alloc | apply Kd.R_drewN | apply Kd.R_drew)); exact Kd.R_mono HO311.out (fun _ hk => trivial)) : P := h
theorem u11_30 {P : Prop} (h : P := by (with_reducible repeat (first | refine blk_drewN ?_ _ | refine blk_drew ?_ | refine blk_alloc ?_ _)); exact BK306.out) : P := h
theorem u11_32 {P : Prop} (h : P := by (with_reducible repeat (first | apply Kd.R_alloc | apply Kd.R_drewN | apply Kd.R_drew)); exact HO299.out) : P := h
theorem u11_33 {P : Prop} (h : P := by repeat (first | exact Drawn0.refl _ | apply Drawn0.step)) : P := h
theorem u11_35 {P : Prop} (h : P := by first | (go_simp; done) | (go_simp; rfl)) : P := h
theorem u11_36 {P : Prop} (h : P := by have := HJ3.out; have := HK2.out; omega) : P := h
/-! ### strconv_Itoa: function 38 -/
def strconv_Itoa.f (a0 : Int) : Option ByteArray := if 0 ≤ a0 ∧ a0 < 100 then some ⟨(Lib.decDigits a0.toNat).toArray⟩ else none
theorem strconv_Itoa.calls (a0 : Int) (r : ByteArray) (w : World) (h : strconv_Itoa.f a0 = some r) :
   Calls Tryd.prog 38 #[.int .i64 a0] w fun e w' => e = .returned (.string r) ∧ ∃ nd, w' = w.drewN nd := by
 unfold strconv_Itoa.f at h
 by_cases c : 0 ≤ a0 ∧ a0 < 100
 rotate_left
 · rw [if_neg c] at h; cases h
 rw [if_pos c] at h
 obtain rfl := Option.some.inj h
 have e : a0 = (a0.toNat : Int) := (Int.toNat_of_nonneg c.1).symm
 have hc := Go.Proofs.YtjdpifafijcpbaaDoor.Shelf.Tryd.strconv_Itoa_small a0.toNat (by omega) w
 rw [← e] at hc
 exact hc.mono fun e w' ⟨h1, h2⟩ => ⟨h1, 0, h2⟩


/-! ### impl_OnceEach: function 11 -/
mutual
def impl_OnceEach.j0 : Nat → List (S50) → Bool → Int → Int → List (S54) → Option (Int × Int × (List (S54)) × List ByteArray)
 | 0, _, _, _, _, _ => none
 | k + 1, x1, x23, x301000, x301001, x301002 => if x23 = true then (some (x301000, x301001, x301002, ([] : List ByteArray))) else (impl_OnceEach.l0 k (([] : List ByteArray)) x1 (x1.length : Int) 0 x301000 x301001 x301002)
def impl_OnceEach.l0 : Nat → List ByteArray → List (S50) → Int → Int → Int → Int → List (S54) → Option (Int × Int × (List (S54)) × List ByteArray)
 | 0, _, _, _, _, _, _, _ => none
 | k + 1, x7, x26, x27, x28, x301000, x301001, x301002 => if x28 < x27 then (if 0 ≤ x28 then (if x28 < (x26.length : Int) then ((impl_keep.f k x301000 x301001 x301002 ((rd_T50 x26 x28).f0) ((rd_T50 x26 x28).f1) ((rd_T50 x26 x28).f2)).bind fun bt307 => ((impl_look.f k x301000 x301001 x301002 ((rd_T50 x26 x28).f0) ((rd_T50 x26 x28).f1)).bind fun bt314 => (if bt307.2.2.2 = true then (if x7.length < 8796093022208 then (impl_OnceEach.l0 k (x7 ++ [(rd_T50 x26 x28).f2]) x26 x27 (wrap64 (x28 + 1)) bt307.1 bt307.2.1 bt307.2.2.1) else (none)) else (if bt314.1 = 1 then (if x7.length < 8796093022208 then (impl_OnceEach.l0 k (x7 ++ [bt314.2]) x26 x27 (wrap64 (x28 + 1)) bt307.1 bt307.2.1 bt307.2.2.1) else (none)) else ((strconv_Itoa.f bt314.1).bind fun t322 => (if 1 + t322.size ≤ 9223372036854775807 then (if x7.length < 8796093022208 then (impl_OnceEach.l0 k (x7 ++ [(⟨#[33]⟩ : ByteArray) ++ t322]) x26 x27 (wrap64 (x28 + 1)) bt307.1 bt307.2.1 bt307.2.2.1) else (none)) else (none))))))) else (none)) else (none)) else (some (x301000, x301001, x301002, x7))
end
def impl_OnceEach.f (k : Nat) (a0_0 : Int) (a0_1 : Int) (l0_2 : List (S54)) (l1 : List (S50)) : Option (Int × Int × (List (S54)) × List ByteArray) := (impl_copySessions.f a0_0 a0_1 l0_2).bind fun bt295 => ((impl_areSessions.f k a0_0 a0_1 l0_2).bind fun t301 => (if t301 = true then (impl_OnceEach.j0 k l1 (decide ((l1.length : Int) > 200)) bt295.1 bt295.2.1 bt295.2.2) else (impl_OnceEach.j0 k l1 true bt295.1 bt295.2.1 bt295.2.2)))
theorem impl_OnceEach.mono_l : ∀ k, (∀ y0 y1 y2 y3 y4, LeO (impl_OnceEach.j0 k y0 y1 y2 y3 y4) (impl_OnceEach.j0 (k + 1) y0 y1 y2 y3 y4)) ∧ (∀ y0 y1 y2 y3 y4 y5 y6, LeO (impl_OnceEach.l0 k y0 y1 y2 y3 y4 y5 y6) (impl_OnceEach.l0 (k + 1) y0 y1 y2 y3 y4 y5 y6))
 | 0 => ⟨fun _ _ _ _ _ r h => by simp [impl_OnceEach.j0] at h, fun _ _ _ _ _ _ _ r h => by simp [impl_OnceEach.l0] at h⟩
 | k + 1 => by
   obtain ⟨ih0, ih1⟩ := impl_OnceEach.mono_l k
   refine ⟨?_, ?_⟩ <;> intros <;> (first | unfold impl_OnceEach.j0 | unfold impl_OnceEach.l0) <;> repeat' first
   | (with_reducible exact ih0 _ _ _ _ _)
   | (with_reducible exact ih1 _ _ _ _ _ _ _)
   | (with_reducible exact impl_areSessions.mono _ _ _ _)
   | (with_reducible exact impl_keep.mono _ _ _ _ _ _ _)
   | (with_reducible exact impl_look.mono _ _ _ _ _ _)
   | (with_reducible exact LeO.refl _)
   | (with_reducible exact LeO.none _)
   | (with_reducible refine LeO.ite ?_ ?_)
   | (with_reducible refine LeO.bind ?_ (fun _ => ?_))
   | exact ih0 _ _ _ _ _
   | exact ih1 _ _ _ _ _ _ _
   | exact impl_areSessions.mono _ _ _ _
   | exact impl_keep.mono _ _ _ _ _ _ _
   | exact impl_look.mono _ _ _ _ _ _
   | exact LeO.none _
   | refine LeO.ite ?_ ?_
   | refine LeO.bind ?_ (fun _ => ?_)
theorem impl_OnceEach.mono : ∀ a0 a1 a2 a3 k, LeO (impl_OnceEach.f k a0 a1 a2 a3) (impl_OnceEach.f (k + 1) a0 a1 a2 a3) := by
 intro a0 a1 a2 a3 k
 obtain ⟨ih0, ih1⟩ := impl_OnceEach.mono_l k
 unfold impl_OnceEach.f
 repeat' first
     | (with_reducible exact ih0 _ _ _ _ _)
     | (with_reducible exact ih1 _ _ _ _ _ _ _)
     | (with_reducible exact impl_areSessions.mono _ _ _ _)
     | (with_reducible exact impl_keep.mono _ _ _ _ _ _ _)
     | (with_reducible exact impl_look.mono _ _ _ _ _ _)
     | (with_reducible exact LeO.refl _)
     | (with_reducible exact LeO.none _)
     | (with_reducible refine LeO.ite ?_ ?_)
     | (with_reducible refine LeO.bind ?_ (fun _ => ?_))
     | exact ih0 _ _ _ _ _
     | exact ih1 _ _ _ _ _ _ _
     | exact impl_areSessions.mono _ _ _ _
     | exact impl_keep.mono _ _ _ _ _ _ _
     | exact impl_look.mono _ _ _ _ _ _
     | exact LeO.none _
     | refine LeO.ite ?_ ?_
     | refine LeO.bind ?_ (fun _ => ?_)
set_option maxHeartbeats 8000000 in
set_option maxRecDepth 100000 in
theorem impl_OnceEach.calls (k : Nat) (a0_0 : Int) (a0_1 : Int) (A0_2 : Option Addr) (c0_2 : Nat) (l0_2 : List (S54)) (A1 : Option Addr) (c1 : Nat) (l1 : List (S50)) (r1 : Int) (r2 : Int) (r3 : List (S54)) (r4 : List ByteArray) (w : World) (hr0_2 : Kd.C k54 w A0_2 l0_2.length l0_2) (hc0_2 : l0_2.length ≤ c0_2) (hr1 : Kd.C k50 w A1 l1.length l1) (hc1 : l1.length ≤ c1) (h : impl_OnceEach.f k a0_0 a0_1 l0_2 l1 = some (r1, r2, r3, r4)) :
   Calls Tryd.prog 11 #[.agg #[.int .i64 a0_0, .int .i64 a0_1, .slice A0_2 l0_2.length c0_2], .slice A1 l1.length c1] w fun e w' => ∃ v2_ v3_ : Value, e = .returned (.tuple #[.agg #[.int .i64 r1, .int .i64 r2, v2_], v3_]) ∧ Kd.R k54 54 w' w.heap.size (fun _ => True) v2_ r3 ∧ Kd.R Kd.string 9 w' w.heap.size (fun _ => True) v3_ r4 ∧ Below w.heap.size w w' := by
 have hu30 := Tryd.underlying30
 have hu50 := Tryd.underlying50
 have HR0_2 := am hr0_2
 have HC0_2 := am hc0_2
 clear hr0_2 hc0_2
 have HR1 := am hr1
 have HC1 := am hc1
 clear hr1 hc1
 have HB := am (Below.refl w.heap.size w)
 have H : ((impl_copySessions.f a0_0 a0_1 l0_2).bind fun bt295 => ((impl_areSessions.f k a0_0 a0_1 l0_2).bind fun t301 => (if t301 = true then (impl_OnceEach.j0 k l1 (decide ((l1.length : Int) > 200)) bt295.1 bt295.2.1 bt295.2.2) else (impl_OnceEach.j0 k l1 true bt295.1 bt295.2.1 bt295.2.2)))) = some (r1, r2, r3, r4) := h
 clear h
 replace H := Option.bind_eq_some_iff.mp H
 obtain ⟨⟨t295, t296, t297⟩, A30, H⟩ := H
 (try dsimp only at H)
 have A3 := am A30
 clear A30
 have HC4 := am H
 clear H
 go_enter Tryd.func11, Tryd.ntmps11
 go_upto_region 2 with (first | ((with_reducible refine gate_dst (N := 2) rfl ?_); (try (refine gate_guard (by rfl) ?_; dsimp only)); refine box_event ?hg (N := 2) ?hd (cs := #[.int .i64 a0_0, .int .i64 a0_1, .slice A0_2 l0_2.length c0_2]) (t := 30) ?hr ?_; (case hd => rfl); (case hg => rfl); (case hr => first | (go_simp; done) | (go_simp; rfl)); intro gb293 hg w5 hbox hb; have BK293 := am (hbox); have GW293 := am ((by rw [hg]; exact (below_size q0) : w.heap.size ≤ gb293)); have GE293 := am ((by rw [hg]; exact (below_size q0) : w.heap.size ≤ gb293)); replace HB := am (below_step q0 hb); clear hb hbox hg) | ((with_reducible refine gate_dst (N := 4) rfl ?_); (try (refine gate_guard (by rfl) ?_; dsimp only)); refine box_event ?hg (N := 4) ?hd (cs := #[.int .i64 0, .int .i64 0, .slice none 0 0]) (t := 30) ?hr ?_; (case hd => rfl); (case hg => rfl); (case hr => first | (go_simp; done) | (go_simp; rfl)); intro gb294 hg w6 hbox hb; have BK294 := am (hbox); have GW294 := am ((by rw [hg]; exact (below_size q0) : w.heap.size ≤ gb294)); have GE294 := am ((by rw [hg]; exact (below_size q0) : w.heap.size ≤ gb294)); replace HB := am (below_step q0 hb); have NB293_294 := am ((by rw [hg]; exact Nat.ne_of_lt (blk_lt (g := gb293) (o := .cells #[.int .i64 a0_0, .int .i64 a0_1, .slice A0_2 l0_2.length c0_2] 30 (0, 0)) u11_2) : gb293 ≠ gb294)); have NB294_293 := am ((by rw [hg]; exact Nat.ne_of_gt (blk_lt (g := gb293) (o := .cells #[.int .i64 a0_0, .int .i64 a0_1, .slice A0_2 l0_2.length c0_2] 30 (0, 0)) u11_2) : gb294 ≠ gb293)); replace BK293 := am (blk_below (g := gb293) (o := .cells #[.int .i64 a0_0, .int .i64 a0_1, .slice A0_2 l0_2.length c0_2] 30 (0, 0)) u11_2 hb); clear hb hbox hg; have hnb7 := NB293_294.out; have hnc7 := NB294_293.out; obtain ⟨hcz8_0, hcz8_1, hcz8_2, hfz8_0, hfz8_1, hfz8_2⟩ := bc3f w6 BK293.out) | ((with_reducible refine gate_callee (f := 34) rfl ?_); refine goesL_ (some 15) rfl rfl Tryd.func34 kr rfl #[.agg #[.int .i64 a0_0, .int .i64 a0_1, .slice A0_2 l0_2.length c0_2]] rfl q1 ?_; (with_reducible refine (impl_copySessions.calls a0_0 a0_1 _ _ l0_2 t295 t296 t297 _ ?side1 ?side2 A3.out).mono ?_); (case side1 => exact (by repeat (first | exact (Kd.C_below HR0_2.out HB.out) | (with_reducible refine Kd.C_alloc ?_ _) | (with_reducible refine Kd.C_drewN ?_ _) | (with_reducible refine Kd.C_drew ?_)))); (case side2 => exact HC0_2.out); rintro e w9 ⟨v298, rfl, ho0, hb⟩; refine ⟨_, rfl, ?_⟩; have HO299 := am (Kd.R_lower ho0 (below_size q0)); replace BK293 := am (blk_below (g := gb293) (o := .cells #[.int .i64 a0_0, .int .i64 a0_1, .slice A0_2 l0_2.length c0_2] 30 (0, 0)) u11_2 hb); replace BK294 := am (blk_below (g := gb294) (o := .cells #[.int .i64 0, .int .i64 0, .slice none 0 0] 30 (0, 0)) u11_6 hb); replace HB := am (below_step q0 hb); (try clear hb); (try clear hb2); (try clear hk); (try clear hi); (try clear ho0)) | ((with_reducible refine gate_dst (N := 6) rfl ?_); (try (refine gate_guard (by rfl) ?_; dsimp only)); refine box_event ?hg (N := 6) ?hd (cs := #[.int .i64 0, .int .i64 0, .slice none 0 0]) (t := 30) ?hr ?_; (case hd => rfl); (case hg => rfl); (case hr => first | (go_simp; done) | (go_simp; rfl)); intro gb300 hg w10 hbox hb; replace HO299 := am (Kd.R_below u11_32 hb); have BK300 := am (hbox); have GW300 := am ((by rw [hg]; exact (below_size q0) : w.heap.size ≤ gb300)); have GE300 := am ((by rw [hg]; exact (below_size q0) : w.heap.size ≤ gb300)); replace HB := am (below_step q0 hb); have NB293_300 := am ((by rw [hg]; exact Nat.ne_of_lt (blk_lt (g := gb293) (o := .cells #[.int .i64 a0_0, .int .i64 a0_1, .slice A0_2 l0_2.length c0_2] 30 (0, 0)) u11_2) : gb293 ≠ gb300)); have NB300_293 := am ((by rw [hg]; exact Nat.ne_of_gt (blk_lt (g := gb293) (o := .cells #[.int .i64 a0_0, .int .i64 a0_1, .slice A0_2 l0_2.length c0_2] 30 (0, 0)) u11_2) : gb300 ≠ gb293)); replace BK293 := am (blk_below (g := gb293) (o := .cells #[.int .i64 a0_0, .int .i64 a0_1, .slice A0_2 l0_2.length c0_2] 30 (0, 0)) u11_2 hb); have NB294_300 := am ((by rw [hg]; exact Nat.ne_of_lt (blk_lt (g := gb294) (o := .cells #[.int .i64 0, .int .i64 0, .slice none 0 0] 30 (0, 0)) u11_6) : gb294 ≠ gb300)); have NB300_294 := am ((by rw [hg]; exact Nat.ne_of_gt (blk_lt (g := gb294) (o := .cells #[.int .i64 0, .int .i64 0, .slice none 0 0] 30 (0, 0)) u11_6) : gb300 ≠ gb294)); replace BK294 := am (blk_below (g := gb294) (o := .cells #[.int .i64 0, .int .i64 0, .slice none 0 0] 30 (0, 0)) u11_6 hb); clear hb hbox hg; have hnb11 := NB300_293.out; have hnc11 := NB293_300.out; have hnb12 := NB300_294.out; have hnc12 := NB294_300.out; obtain ⟨hcz13_0, hcz13_1, hcz13_2, hfz13_0, hfz13_1, hfz13_2⟩ := bc3f w10 BK300.out; obtain ⟨Ao14, co14, eo14⟩ := Kd.R_slice HO299.out; subst eo14))
 (try simp only [Act.put, la, lb, lc])
 go_cut [23] (fun v23 wc => ∃ (kq : Nat) (x23_3 : Bool), v23 = .bool x23_3 ∧ Aside0 (impl_OnceEach.j0 kq l1 x23_3 t295 t296 t297 = some (r1, r2, r3, r4)) ∧ Aside0 (kq ≤ k) ∧ Aside0 (Kd.R k54 54 wc w.heap.size (fun _ => True) (.slice Ao14 t297.length co14) t297) ∧ Aside0 (wc.heap[gb293]? = some (.cells #[.int .i64 a0_0, .int .i64 a0_1, (.slice A0_2 l0_2.length c0_2)] 30 (0, 0))) ∧ Aside0 (wc.heap[gb294]? = some (.cells #[.int .i64 0, .int .i64 0, (.slice none 0 0)] 30 (0, 0))) ∧ Aside0 (wc.heap[gb300]? = some (.cells #[.int .i64 t295, .int .i64 t296, (.slice Ao14 t297.length co14)] 30 (0, 0))) ∧ Aside0 (Below w.heap.size w wc))
 case first =>
   have H := HC4.out
   clear HC4
   replace H := Option.bind_eq_some_iff.mp H
   obtain ⟨t301, A150, H⟩ := H
   have A15 := am A150
   clear A150
   by_cases c16 : t301 = true
   · subst c16
     rw [if_pos rfl] at H
     have H' := am H
     clear H
     have hnb17 := NB293_294.out
     have hnc17 := NB294_293.out
     have hnb18 := NB293_300.out
     have hnc18 := NB300_293.out
     obtain ⟨hcz19_0, hcz19_1, hcz19_2, hfz19_0, hfz19_1, hfz19_2⟩ := bc3f w10 BK293.out
     go_wp2_with (first | ((with_reducible refine gate_callee (f := 35) rfl ?_); refine goesL_ (some 17) rfl rfl Tryd.func35 kr rfl #[.agg #[.int .i64 a0_0, .int .i64 a0_1, .slice A0_2 l0_2.length c0_2]] rfl q1 ?_; (with_reducible refine (impl_areSessions.calls k a0_0 a0_1 _ _ l0_2 true _ ?side1 ?side2 A15.out).mono ?_); (case side1 => exact (by exact Kd.C_below HR0_2.out q0)); (case side2 => exact HC0_2.out); rintro e w20 ⟨rfl, hb⟩; refine ⟨_, rfl, ?_⟩; replace HO299 := am (Kd.R_below u11_25 hb); replace BK293 := am (blk_below (g := gb293) (o := .cells #[.int .i64 a0_0, .int .i64 a0_1, .slice A0_2 l0_2.length c0_2] 30 (0, 0)) u11_3 hb); replace BK294 := am (blk_below (g := gb294) (o := .cells #[.int .i64 0, .int .i64 0, .slice none 0 0] 30 (0, 0)) u11_4 hb); replace BK300 := am (blk_below (g := gb300) (o := .cells #[.int .i64 t295, .int .i64 t296, .slice Ao14 t297.length co14] 30 (0, 0)) u11_22 hb); replace HB := am (below_step q0 hb); (try clear hb); (try clear hb2); (try clear hk); (try clear hi)))
     go_meet
     case rel => exact ⟨_, (decide ((l1.length : Int) > 200)), q4, H', ⟨by first | omega | exact Nat.le_refl _⟩, ⟨u11_32⟩, ⟨u11_2⟩, ⟨u11_6⟩, ⟨u11_8⟩, ⟨q0⟩⟩
   replace c16 := Bool.eq_false_iff.mpr c16
   subst c16
   rw [nf] at H
   have H' := am H
   clear H
   have hnb21 := NB293_294.out
   have hnc21 := NB294_293.out
   have hnb22 := NB293_300.out
   have hnc22 := NB300_293.out
   obtain ⟨hcz23_0, hcz23_1, hcz23_2, hfz23_0, hfz23_1, hfz23_2⟩ := bc3f w10 BK293.out
   go_wp2_with (first | ((with_reducible refine gate_callee (f := 35) rfl ?_); refine goesL_ (some 17) rfl rfl Tryd.func35 kr rfl #[.agg #[.int .i64 a0_0, .int .i64 a0_1, .slice A0_2 l0_2.length c0_2]] rfl q1 ?_; (with_reducible refine (impl_areSessions.calls k a0_0 a0_1 _ _ l0_2 false _ ?side1 ?side2 A15.out).mono ?_); (case side1 => exact (by exact Kd.C_below HR0_2.out q0)); (case side2 => exact HC0_2.out); rintro e w24 ⟨rfl, hb⟩; refine ⟨_, rfl, ?_⟩; replace HO299 := am (Kd.R_below u11_25 hb); replace BK293 := am (blk_below (g := gb293) (o := .cells #[.int .i64 a0_0, .int .i64 a0_1, .slice A0_2 l0_2.length c0_2] 30 (0, 0)) u11_3 hb); replace BK294 := am (blk_below (g := gb294) (o := .cells #[.int .i64 0, .int .i64 0, .slice none 0 0] 30 (0, 0)) u11_4 hb); replace BK300 := am (blk_below (g := gb300) (o := .cells #[.int .i64 t295, .int .i64 t296, .slice Ao14 t297.length co14] 30 (0, 0)) u11_22 hb); replace HB := am (below_step q0 hb); (try clear hb); (try clear hb2); (try clear hk); (try clear hi)))
   go_meet
   case rel => exact ⟨_, (true), q4, H', ⟨by first | omega | exact Nat.le_refl _⟩, ⟨u11_32⟩, ⟨u11_2⟩, ⟨u11_6⟩, ⟨u11_8⟩, ⟨q0⟩⟩
 clear HC4
 try clear c1
 try clear hcz13_0
 try clear hcz13_1
 try clear hcz13_2
 try clear hcz8_0
 try clear hcz8_1
 try clear hcz8_2
 try clear hfz13_0
 try clear hfz13_1
 try clear hfz13_2
 try clear hfz8_0
 try clear hfz8_1
 try clear hfz8_2
 obtain ⟨kq, x23_3, rfl, HA, HJ3, HO_301002, BK293, BK294, BK300, HB⟩ := hcut
 cases kq with
 | zero => exact absurd HA.out (by simp [impl_OnceEach.j0])
 | succ kj3 =>
   have H := HA.out
   clear HA
   simp only [impl_OnceEach.j0] at H
   by_cases c25 : x23_3 = true
   · subst c25
     rw [if_pos rfl] at H
     simp only [Option.some.injEq, Prod.mk.injEq] at H
     obtain ⟨rfl, rfl, rfl, rfl⟩ := H
     have hnb26 := NB300_293.out
     have hnc26 := NB293_300.out
     have hnb27 := NB300_294.out
     have hnc27 := NB294_300.out
     obtain ⟨hcz28_0, hcz28_1, hcz28_2, hfz28_0, hfz28_1, hfz28_2⟩ := bc3f wc BK300.out
     have hnb29 := NB294_293.out
     have hnc29 := NB293_294.out
     obtain ⟨hcz30_0, hcz30_1, hcz30_2, hfz30_0, hfz30_1, hfz30_2⟩ := bc3f wc BK294.out
     go_wp2
     refine bodyPost_ret (results_ct rfl _ _ gb294 30 #[.int .i64 t295, .int .i64 t296, .slice Ao14 t297.length co14] (0, 0) _ rfl (by (with_reducible repeat (first | refine blk_drewN ?_ _ | refine blk_drew ?_ | refine blk_alloc ?_ _)); refine blk_put (cs := #[.int .i64 t295, .int .i64 t296, .slice none 0 0]) ?_ 2 _ rfl; (with_reducible repeat (first | refine blk_drewN ?_ _ | refine blk_drew ?_ | refine blk_alloc ?_ _)); refine blk_put (cs := #[.int .i64 t295, .int .i64 0, .slice none 0 0]) ?_ 1 _ rfl; (with_reducible repeat (first | refine blk_drewN ?_ _ | refine blk_drew ?_ | refine blk_alloc ?_ _)); refine blk_put (cs := #[.int .i64 0, .int .i64 0, .slice none 0 0]) ?_ 0 _ rfl; (with_reducible repeat (first | refine blk_drewN ?_ _ | refine blk_drew ?_ | refine blk_alloc ?_ _)); exact BK294.out) Tryd.underlying30 rfl kr) rfl ?_
     exact ⟨_, _, er, (by (with_reducible repeat (first | apply Kd.R_alloc | apply Kd.R_drewN | apply Kd.R_drew)); exact Kd.R_mono (Kd.R_far (p := ⟨gb294, 2, none⟩) (Kd.R_far (p := ⟨gb294, 1, none⟩) (Kd.R_far (p := ⟨gb294, 0, none⟩) (Kd.R_types HO_301002.out BK294.out (by decide)) (fun _ hk => hk.2) (.int .i64 t295)) (fun _ hk => hk.2) (.int .i64 t296)) (fun _ hk => hk.2) (.slice Ao14 t297.length co14)) (fun _ hk => trivial)), (by first | exact Kd.R_nil _ _ _ _ _ | exact Kd.N_nil _ _ _ _ _ | exact Kd.V_nil _ _ _ _ _ | exact Kd.Q_nil _ _ _ _ _ | exact Kd.S_nil _ _ _ _ _), q0⟩
   replace c25 := Bool.eq_false_iff.mpr c25
   subst c25
   rw [nf] at H
   obtain ⟨y302, hy302⟩ : ∃ y_ : List ByteArray, y_ = (([] : List ByteArray)) := ⟨_, rfl⟩
   replace H : (impl_OnceEach.l0 kj3 y302 l1 (l1.length : Int) 0 t295 t296 t297) = some (r1, r2, r3, r4) := by first | (rw [hy302]; with_reducible exact H) | (have H2_ := (Option.bind_some _ _).symm.trans H; rw [hy302]; with_reducible exact H2_) | (have H2_ := (Option.bind_some _ _).symm.trans H; with_reducible exact H2_) | with_reducible exact H | (rw [hy302]; exact H) | exact H
   have Ny302 := am hy302
   clear hy302
   have H' := am H
   clear H
   go_wp2_with (first | ((with_reducible refine gate_dst (N := 25) rfl ?_); (try (refine gate_guard (by rfl) ?_; dsimp only)); refine Kd.R_lit Kd.string _ 9 ?hg (N := 25) ?hd (xs := ([] : List ByteArray)) (inner := []) (ok := fun _ => True) (okp := fun _ => True) ?hr ?hp (fun _ hk => hk) trivial (Below.refl _ _) (Nat.le_refl _) (by simp) ?_; (case hd => rfl); (case hg => rfl); (case hr => first | (go_simp; done) | (go_simp; rfl)); (case hp => exact (Reps.none _ _)); intro v303 w31 ho32 hb hg_ hnew_; clear hg_ hnew_; (first | rw [← Ny302.out] at ho32 | (simp only [Int.reduceToNat] at ho32; rw [← Ny302.out] at ho32)); replace HO_301002 := am (Kd.R_below u11_28 hb); have HO304 := am (Kd.R_lower ho32 (below_size q0)); replace BK293 := am (blk_below (g := gb293) (o := .cells #[.int .i64 a0_0, .int .i64 a0_1, .slice A0_2 l0_2.length c0_2] 30 (0, 0)) u11_2 hb); replace BK294 := am (blk_below (g := gb294) (o := .cells #[.int .i64 0, .int .i64 0, .slice none 0 0] 30 (0, 0)) u11_6 hb); replace BK300 := am (blk_below (g := gb300) (o := .cells #[.int .i64 t295, .int .i64 t296, .slice Ao14 t297.length co14] 30 (0, 0)) u11_8 hb); replace HB := am (below_step q0 hb); clear hb ho32))
   go_loopg [7, 28] kj3 (fun kq v7 v28 w' => ∃ (x7_2 : List ByteArray) (x28_2 : Int) (x301000_2 : Int) (x301001_2 : Int) (x301002_2 : List (S54)) (u301002 : Value), v28 = .int .i64 x28_2 ∧ Aside0 (impl_OnceEach.l0 kq x7_2 l1 (l1.length : Int) x28_2 x301000_2 x301001_2 x301002_2 = some (r1, r2, r3, r4)) ∧ Aside0 (kq ≤ kj3) ∧ Aside0 (Kd.R Kd.string 9 w' w.heap.size (fun _ => True) v7 x7_2) ∧ Aside0 (Kd.R k54 54 w' w.heap.size (fun _ => True) u301002 x301002_2) ∧ Aside0 (w'.heap[gb293]? = some (.cells #[.int .i64 a0_0, .int .i64 a0_1, (.slice A0_2 l0_2.length c0_2)] 30 (0, 0))) ∧ Aside0 (w'.heap[gb294]? = some (.cells #[.int .i64 0, .int .i64 0, (.slice none 0 0)] 30 (0, 0))) ∧ Aside0 (w'.heap[gb300]? = some (.cells #[.int .i64 x301000_2, .int .i64 x301001_2, u301002] 30 (0, 0))) ∧ Aside0 (Below w.heap.size w w'))
   case atStart => exact ⟨(y302), (0), (t295), (t296), (t297), (.slice Ao14 t297.length co14), q4, H', ⟨Nat.le_refl _⟩, ⟨(by (with_reducible repeat (first | apply Kd.R_alloc | apply Kd.R_drewN | apply Kd.R_drew)); exact HO304.out)⟩, ⟨u11_28⟩, ⟨u11_2⟩, ⟨u11_6⟩, ⟨u11_8⟩, ⟨q0⟩⟩
   clear H'
   try clear c1
   try clear c25
   try clear hcz13_0
   try clear hcz13_1
   try clear hcz13_2
   try clear hcz8_0
   try clear hcz8_1
   try clear hcz8_2
   try clear hfz13_0
   try clear hfz13_1
   try clear hfz13_2
   try clear hfz8_0
   try clear hfz8_1
   try clear hfz8_2
   obtain ⟨x7_2, x28_2, x301000_2, x301001_2, x301002_2, u301002, rfl, HA, HK2, HO_7, HO_301002, BK293, BK294, BK300, HB⟩ := hrel
   cases gk with
   | zero => exact absurd HA.out (by simp [impl_OnceEach.l0])
   | succ k2 =>
     have H := HA.out
     clear HA
     simp only [impl_OnceEach.l0] at H
     by_cases c33 : x28_2 < (l1.length : Int)
     rotate_left
     · rw [if_neg c33] at H
       have c33b0 : decide (x28_2 < (l1.length : Int)) = false := decide_eq_false c33
       clear c33
       simp only [Option.some.injEq, Prod.mk.injEq] at H
       obtain ⟨rfl, rfl, rfl, rfl⟩ := H
       have hnb98 := NB300_293.out
       have hnc98 := NB293_300.out
       have hnb99 := NB300_294.out
       have hnc99 := NB294_300.out
       obtain ⟨hcz100_0, hcz100_1, hcz100_2, hfz100_0, hfz100_1, hfz100_2⟩ := bc3f wr BK300.out
       have hnb101 := NB294_293.out
       have hnc101 := NB293_294.out
       obtain ⟨hcz102_0, hcz102_1, hcz102_2, hfz102_0, hfz102_1, hfz102_2⟩ := bc3f wr BK294.out
       obtain ⟨Ao103, co103, eo103⟩ := Kd.R_slice HO_301002.out
       subst eo103
       go_wp2
       refine bodyPost_ret (results_ct rfl _ _ gb294 30 #[.int .i64 x301000_2, .int .i64 x301001_2, .slice Ao103 x301002_2.length co103] (0, 0) _ rfl (by (with_reducible repeat (first | refine blk_drewN ?_ _ | refine blk_drew ?_ | refine blk_alloc ?_ _)); refine blk_put (cs := #[.int .i64 x301000_2, .int .i64 x301001_2, .slice none 0 0]) ?_ 2 _ rfl; (with_reducible repeat (first | refine blk_drewN ?_ _ | refine blk_drew ?_ | refine blk_alloc ?_ _)); refine blk_put (cs := #[.int .i64 x301000_2, .int .i64 0, .slice none 0 0]) ?_ 1 _ rfl; (with_reducible repeat (first | refine blk_drewN ?_ _ | refine blk_drew ?_ | refine blk_alloc ?_ _)); refine blk_put (cs := #[.int .i64 0, .int .i64 0, .slice none 0 0]) ?_ 0 _ rfl; (with_reducible repeat (first | refine blk_drewN ?_ _ | refine blk_drew ?_ | refine blk_alloc ?_ _)); exact BK294.out) Tryd.underlying30 rfl kr) rfl ?_
       exact ⟨_, _, er, (by (with_reducible repeat (first | apply Kd.R_alloc | apply Kd.R_drewN | apply Kd.R_drew)); exact Kd.R_mono (Kd.R_far (p := ⟨gb294, 2, none⟩) (Kd.R_far (p := ⟨gb294, 1, none⟩) (Kd.R_far (p := ⟨gb294, 0, none⟩) (Kd.R_types HO_301002.out BK294.out (by decide)) (fun _ hk => hk.2) (.int .i64 x301000_2)) (fun _ hk => hk.2) (.int .i64 x301001_2)) (fun _ hk => hk.2) (.slice Ao103 x301002_2.length co103)) (fun _ hk => trivial)), (by (with_reducible repeat (first | apply Kd.R_alloc | apply Kd.R_drewN | apply Kd.R_drew)); exact Kd.R_mono (Kd.R_far (p := ⟨gb294, 2, none⟩) (Kd.R_far (p := ⟨gb294, 1, none⟩) (Kd.R_far (p := ⟨gb294, 0, none⟩) (Kd.R_types HO_7.out BK294.out (by decide)) (fun _ hk => hk.2) (.int .i64 x301000_2)) (fun _ hk => hk.2) (.int .i64 x301001_2)) (fun _ hk => hk.2) (.slice Ao103 x301002_2.length co103)) (fun _ hk => trivial)), q0⟩
     rw [if_pos c33] at H
     have c33b0 : decide (x28_2 < (l1.length : Int)) = true := decide_eq_true c33
     clear c33
     by_cases c34 : 0 ≤ x28_2
     rotate_left
     · rw [if_neg c34] at H
       exact absurd H (by simp)
     rw [if_pos c34] at H
     have c34b0 : decide (0 ≤ x28_2) = true := decide_eq_true c34
     clear c34
     by_cases c35 : x28_2 < (l1.length : Int)
     rotate_left
     · rw [if_neg c35] at H
       exact absurd H (by simp)
     rw [if_pos c35] at H
     have c35b0 : decide (x28_2 < (l1.length : Int)) = true := decide_eq_true c35
     clear c35
     replace H := Option.bind_eq_some_iff.mp H
     obtain ⟨⟨t307, t308, t309, t312⟩, A360, H⟩ := H
     (try dsimp only at H)
     have A36 := am A360
     clear A360
     replace H := Option.bind_eq_some_iff.mp H
     obtain ⟨⟨t314, t315⟩, A370, H⟩ := H
     (try dsimp only at H)
     have A37 := am A370
     clear A370
     have H9 := am H
     clear H
     have p305 : 0 ≤ (x28_2 : Int) := of_decide_eq_true q3
     have q305 : x28_2 < (l1.length : Int) := of_decide_eq_true q3
     obtain ⟨ad305, e305, hx305_0, hx305_1, hx305_2⟩ := at_T50 HR1.out x28_2 p305 q305
     cases e305
     replace hx305_0 := cm HB.out hx305_0
     replace hx305_1 := cm HB.out hx305_1
     replace hx305_2 := cm HB.out hx305_2
     replace p305 := eq_true p305
     replace q305 := eq_true q305
     go_upto_if 52 with (first | ((with_reducible refine gate_dst (N := 9) rfl ?_); (try (refine gate_guard (by rfl) ?_; dsimp only)); refine box_event ?hg (N := 9) ?hd (cs := #[.int .i64 0, .int .i64 0, .string (⟨#[]⟩ : ByteArray)]) (t := 50) ?hr ?_; (case hd => rfl); (case hg => rfl); (case hr => first | (go_simp; done) | (go_simp; rfl)); intro gb306 hg w38 hbox hb; replace HO_7 := am (Kd.R_below q6 hb); replace HO_301002 := am (Kd.R_below u11_28 hb); have BK306 := am (hbox); have GW306 := am ((by rw [hg]; exact (below_size q0) : w.heap.size ≤ gb306)); have GE306 := am ((by rw [hg]; exact (below_size q0) : w.heap.size ≤ gb306)); replace HB := am (below_step q0 hb); have NB293_306 := am ((by rw [hg]; exact Nat.ne_of_lt (blk_lt (g := gb293) (o := .cells #[.int .i64 a0_0, .int .i64 a0_1, .slice A0_2 l0_2.length c0_2] 30 (0, 0)) u11_2) : gb293 ≠ gb306)); have NB306_293 := am ((by rw [hg]; exact Nat.ne_of_gt (blk_lt (g := gb293) (o := .cells #[.int .i64 a0_0, .int .i64 a0_1, .slice A0_2 l0_2.length c0_2] 30 (0, 0)) u11_2) : gb306 ≠ gb293)); replace BK293 := am (blk_below (g := gb293) (o := .cells #[.int .i64 a0_0, .int .i64 a0_1, .slice A0_2 l0_2.length c0_2] 30 (0, 0)) u11_2 hb); have NB294_306 := am ((by rw [hg]; exact Nat.ne_of_lt (blk_lt (g := gb294) (o := .cells #[.int .i64 0, .int .i64 0, .slice none 0 0] 30 (0, 0)) u11_6) : gb294 ≠ gb306)); have NB306_294 := am ((by rw [hg]; exact Nat.ne_of_gt (blk_lt (g := gb294) (o := .cells #[.int .i64 0, .int .i64 0, .slice none 0 0] 30 (0, 0)) u11_6) : gb306 ≠ gb294)); replace BK294 := am (blk_below (g := gb294) (o := .cells #[.int .i64 0, .int .i64 0, .slice none 0 0] 30 (0, 0)) u11_6 hb); have NB300_306 := am ((by rw [hg]; exact Nat.ne_of_lt (blk_lt (g := gb300) (o := .cells #[.int .i64 x301000_2, .int .i64 x301001_2, u301002] 30 (0, 0)) u11_8) : gb300 ≠ gb306)); have NB306_300 := am ((by rw [hg]; exact Nat.ne_of_gt (blk_lt (g := gb300) (o := .cells #[.int .i64 x301000_2, .int .i64 x301001_2, u301002] 30 (0, 0)) u11_8) : gb306 ≠ gb300)); replace BK300 := am (blk_below (g := gb300) (o := .cells #[.int .i64 x301000_2, .int .i64 x301001_2, u301002] 30 (0, 0)) u11_8 hb); clear hb hbox hg; have hnb39 := NB306_293.out; have hnc39 := NB293_306.out; have hnb40 := NB306_294.out; have hnc40 := NB294_306.out; have hnb41 := NB306_300.out; have hnc41 := NB300_306.out; obtain ⟨hcz42_0, hcz42_1, hcz42_2, hfz42_0, hfz42_1, hfz42_2⟩ := bc3f w38 BK306.out; have hnb43 := NB300_293.out; have hnc43 := NB293_300.out; have hnb44 := NB300_294.out; have hnc44 := NB294_300.out; obtain ⟨hcz45_0, hcz45_1, hcz45_2, hfz45_0, hfz45_1, hfz45_2⟩ := bc3f w38 BK300.out; obtain ⟨Ao46, co46, eo46⟩ := Kd.R_slice HO_301002.out; subst eo46) | ((with_reducible refine gate_callee (f := 36) rfl ?_); refine goesL_ (some 40) rfl rfl Tryd.func36 kr rfl #[.agg #[.int .i64 x301000_2, .int .i64 x301001_2, .slice Ao46 x301002_2.length co46], .int .i64 ((rd_T50 l1 x28_2).f0), .int .i64 ((rd_T50 l1 x28_2).f1), .string ((rd_T50 l1 x28_2).f2)] rfl q1 ?_; (with_reducible refine (impl_keep.calls k2 x301000_2 x301001_2 _ _ x301002_2 ((rd_T50 l1 x28_2).f0) ((rd_T50 l1 x28_2).f1) ((rd_T50 l1 x28_2).f2) t307 t308 t309 t312 _ ?side1 ?side2 A36.out).mono ?_); (case side1 => exact (by refine (Kd.R_reads' (e := 54) (base := w.heap.size) (ok := fun k_ => True) (n := x301002_2.length) (c := co46) ?_).2.2; exact u11_16)); (case side2 => exact (Kd.R_reads' HO_301002.out).2.1); rintro e w47 ⟨v310, rfl, ho0, hb⟩; refine ⟨_, rfl, ?_⟩; replace HO_7 := am (Kd.R_below (by (with_reducible repeat (first | apply Kd.R_alloc | apply Kd.R_drewN | apply Kd.R_drew)); exact (Kd.R_mono (Kd.R_far (p := ⟨gb306, 2, none⟩) (Kd.R_far (p := ⟨gb306, 1, none⟩) (Kd.R_far (p := ⟨gb306, 0, none⟩) (Kd.R_types HO_7.out BK306.out (by decide)) (fun _ hk => hk.2) (.int .i64 ((rd_T50 l1 x28_2).f0))) (fun _ hk => hk.2) (.int .i64 ((rd_T50 l1 x28_2).f1))) (fun _ hk => hk.2) (.string ((rd_T50 l1 x28_2).f2))) (fun _ h_ => h_.1))) hb); have HO311 := am (Kd.R_lower (Kd.R_new' ho0 (Kd.R_lt u11_16)) (below_size q0)); replace HO_301002 := am (Kd.R_elder' u11_16 (Kd.R_base ho0) hb); replace BK293 := am (blk_below (g := gb293) (o := .cells #[.int .i64 a0_0, .int .i64 a0_1, .slice A0_2 l0_2.length c0_2] 30 (0, 0)) (by (with_reducible repeat (first | refine blk_drewN ?_ _ | refine blk_drew ?_ | refine blk_alloc ?_ _)); refine blk_far ?_ NB293_306.out _; (with_reducible repeat (first | refine blk_drewN ?_ _ | refine blk_drew ?_ | refine blk_alloc ?_ _)); refine blk_far ?_ NB293_306.out _; (with_reducible repeat (first | refine blk_drewN ?_ _ | refine blk_drew ?_ | refine blk_alloc ?_ _)); refine blk_far ?_ NB293_306.out _; (with_reducible repeat (first | refine blk_drewN ?_ _ | refine blk_drew ?_ | refine blk_alloc ?_ _)); exact BK293.out) hb); replace BK294 := am (blk_below (g := gb294) (o := .cells #[.int .i64 0, .int .i64 0, .slice none 0 0] 30 (0, 0)) (by (with_reducible repeat (first | refine blk_drewN ?_ _ | refine blk_drew ?_ | refine blk_alloc ?_ _)); refine blk_far ?_ NB294_306.out _; (with_reducible repeat (first | refine blk_drewN ?_ _ | refine blk_drew ?_ | refine blk_alloc ?_ _)); refine blk_far ?_ NB294_306.out _; (with_reducible repeat (first | refine blk_drewN ?_ _ | refine blk_drew ?_ | refine blk_alloc ?_ _)); refine blk_far ?_ NB294_306.out _; (with_reducible repeat (first | refine blk_drewN ?_ _ | refine blk_drew ?_ | refine blk_alloc ?_ _)); exact BK294.out) hb); replace BK300 := am (blk_below (g := gb300) (o := .cells #[.int .i64 x301000_2, .int .i64 x301001_2, .slice Ao46 x301002_2.length co46] 30 (0, 0)) (by (with_reducible repeat (first | refine blk_drewN ?_ _ | refine blk_drew ?_ | refine blk_alloc ?_ _)); refine blk_far ?_ NB300_306.out _; (with_reducible repeat (first | refine blk_drewN ?_ _ | refine blk_drew ?_ | refine blk_alloc ?_ _)); refine blk_far ?_ NB300_306.out _; (with_reducible repeat (first | refine blk_drewN ?_ _ | refine blk_drew ?_ | refine blk_alloc ?_ _)); refine blk_far ?_ NB300_306.out _; (with_reducible repeat (first | refine blk_drewN ?_ _ | refine blk_drew ?_ | refine blk_alloc ?_ _)); exact BK300.out) hb); replace BK306 := am (blk_below (g := gb306) (o := .cells #[.int .i64 ((rd_T50 l1 x28_2).f0), .int .i64 ((rd_T50 l1 x28_2).f1), .string ((rd_T50 l1 x28_2).f2)] 50 (0, 0)) (by (with_reducible repeat (first | refine blk_drewN ?_ _ | refine blk_drew ?_ | refine blk_alloc ?_ _)); refine blk_put (cs := #[.int .i64 ((rd_T50 l1 x28_2).f0), .int .i64 ((rd_T50 l1 x28_2).f1), .string (⟨#[]⟩ : ByteArray)]) ?_ 2 _ rfl; (with_reducible repeat (first | refine blk_drewN ?_ _ | refine blk_drew ?_ | refine blk_alloc ?_ _)); refine blk_put (cs := #[.int .i64 ((rd_T50 l1 x28_2).f0), .int .i64 0, .string (⟨#[]⟩ : ByteArray)]) ?_ 1 _ rfl; (with_reducible repeat (first | refine blk_drewN ?_ _ | refine blk_drew ?_ | refine blk_alloc ?_ _)); refine blk_put (cs := #[.int .i64 0, .int .i64 0, .string (⟨#[]⟩ : ByteArray)]) ?_ 0 _ rfl; (with_reducible repeat (first | refine blk_drewN ?_ _ | refine blk_drew ?_ | refine blk_alloc ?_ _)); exact BK306.out) hb); replace HB := am (below_step q0 hb); (try clear hb); (try clear hb2); (try clear hk); (try clear hi); (try clear ho0)) | ((with_reducible refine gate_dst (N := 10) rfl ?_); (try (refine gate_guard (by rfl) ?_; dsimp only)); refine box_event ?hg (N := 10) ?hd (cs := #[.int .i64 0, .int .i64 0, .slice none 0 0]) (t := 30) ?hr ?_; (case hd => rfl); (case hg => rfl); (case hr => first | (go_simp; done) | (go_simp; rfl)); intro gb313 hg w48 hbox hb; replace HO_7 := am (Kd.R_below q6 hb); replace HO_301002 := am (Kd.R_below u11_28 hb); replace HO311 := am (Kd.R_below (by (with_reducible repeat (first | apply Kd.R_alloc | apply Kd.R_drewN | apply Kd.R_drew)); exact HO311.out) hb); have BK313 := am (hbox); have GW313 := am ((by rw [hg]; exact (below_size q0) : w.heap.size ≤ gb313)); have GE313 := am ((by rw [hg]; exact (below_size q0) : w.heap.size ≤ gb313)); replace HB := am (below_step q0 hb); have NB293_313 := am ((by rw [hg]; exact Nat.ne_of_lt (blk_lt (g := gb293) (o := .cells #[.int .i64 a0_0, .int .i64 a0_1, .slice A0_2 l0_2.length c0_2] 30 (0, 0)) u11_2) : gb293 ≠ gb313)); have NB313_293 := am ((by rw [hg]; exact Nat.ne_of_gt (blk_lt (g := gb293) (o := .cells #[.int .i64 a0_0, .int .i64 a0_1, .slice A0_2 l0_2.length c0_2] 30 (0, 0)) u11_2) : gb313 ≠ gb293)); replace BK293 := am (blk_below (g := gb293) (o := .cells #[.int .i64 a0_0, .int .i64 a0_1, .slice A0_2 l0_2.length c0_2] 30 (0, 0)) u11_2 hb); have NB294_313 := am ((by rw [hg]; exact Nat.ne_of_lt (blk_lt (g := gb294) (o := .cells #[.int .i64 0, .int .i64 0, .slice none 0 0] 30 (0, 0)) u11_6) : gb294 ≠ gb313)); have NB313_294 := am ((by rw [hg]; exact Nat.ne_of_gt (blk_lt (g := gb294) (o := .cells #[.int .i64 0, .int .i64 0, .slice none 0 0] 30 (0, 0)) u11_6) : gb313 ≠ gb294)); replace BK294 := am (blk_below (g := gb294) (o := .cells #[.int .i64 0, .int .i64 0, .slice none 0 0] 30 (0, 0)) u11_6 hb); have NB300_313 := am ((by rw [hg]; exact Nat.ne_of_lt (blk_lt (g := gb300) (o := .cells #[.int .i64 x301000_2, .int .i64 x301001_2, .slice Ao46 x301002_2.length co46] 30 (0, 0)) u11_8) : gb300 ≠ gb313)); have NB313_300 := am ((by rw [hg]; exact Nat.ne_of_gt (blk_lt (g := gb300) (o := .cells #[.int .i64 x301000_2, .int .i64 x301001_2, .slice Ao46 x301002_2.length co46] 30 (0, 0)) u11_8) : gb313 ≠ gb300)); replace BK300 := am (blk_below (g := gb300) (o := .cells #[.int .i64 x301000_2, .int .i64 x301001_2, .slice Ao46 x301002_2.length co46] 30 (0, 0)) u11_8 hb); have NB306_313 := am ((by rw [hg]; exact Nat.ne_of_lt (blk_lt (g := gb306) (o := .cells #[.int .i64 ((rd_T50 l1 x28_2).f0), .int .i64 ((rd_T50 l1 x28_2).f1), .string ((rd_T50 l1 x28_2).f2)] 50 (0, 0)) u11_30) : gb306 ≠ gb313)); have NB313_306 := am ((by rw [hg]; exact Nat.ne_of_gt (blk_lt (g := gb306) (o := .cells #[.int .i64 ((rd_T50 l1 x28_2).f0), .int .i64 ((rd_T50 l1 x28_2).f1), .string ((rd_T50 l1 x28_2).f2)] 50 (0, 0)) u11_30) : gb313 ≠ gb306)); replace BK306 := am (blk_below (g := gb306) (o := .cells #[.int .i64 ((rd_T50 l1 x28_2).f0), .int .i64 ((rd_T50 l1 x28_2).f1), .string ((rd_T50 l1 x28_2).f2)] 50 (0, 0)) u11_30 hb); clear hb hbox hg; have hnb49 := NB313_293.out; have hnc49 := NB293_313.out; have hnb50 := NB313_294.out; have hnc50 := NB294_313.out; have hnb51 := NB313_300.out; have hnc51 := NB300_313.out; have hnb52 := NB313_306.out; have hnc52 := NB306_313.out; obtain ⟨hcz53_0, hcz53_1, hcz53_2, hfz53_0, hfz53_1, hfz53_2⟩ := bc3f w48 BK313.out; obtain ⟨Ao54, co54, eo54⟩ := Kd.R_slice HO311.out; subst eo54; obtain ⟨hcz55_0, hcz55_1, hcz55_2, hfz55_0, hfz55_1, hfz55_2⟩ := bc3f w48 BK300.out; obtain ⟨hcz56_0, hcz56_1, hcz56_2, hfz56_0, hfz56_1, hfz56_2⟩ := bc3f w48 BK306.out) | ((with_reducible refine gate_callee (f := 37) rfl ?_); refine goesL_ (some 49) rfl rfl Tryd.func37 kr rfl #[.agg #[.int .i64 x301000_2, .int .i64 x301001_2, .slice Ao46 x301002_2.length co46], .int .i64 ((rd_T50 l1 x28_2).f0), .int .i64 ((rd_T50 l1 x28_2).f1)] rfl q1 ?_; (with_reducible refine (impl_look.calls k2 x301000_2 x301001_2 _ _ x301002_2 ((rd_T50 l1 x28_2).f0) ((rd_T50 l1 x28_2).f1) t314 t315 _ ?side1 ?side2 A37.out).mono ?_); (case side1 => exact (by refine (Kd.R_reads' (e := 54) (base := w.heap.size) (ok := fun k_ => (True ∧ some k_ ≠ (.slice Ao54 t309.length co54 : Value).ownBlock)) (n := x301002_2.length) (c := co46) ?_).2.2; exact u11_24)); (case side2 => exact (Kd.R_reads' HO_301002.out).2.1); rintro e w57 ⟨rfl, hb⟩; refine ⟨_, rfl, ?_⟩; replace HO_7 := am (Kd.R_below (by (with_reducible repeat (first | apply Kd.R_alloc | apply Kd.R_drewN | apply Kd.R_drew)); exact (Kd.R_mono (Kd.R_far (p := ⟨gb313, 2, none⟩) (Kd.R_far (p := ⟨gb313, 1, none⟩) (Kd.R_far (p := ⟨gb313, 0, none⟩) (Kd.R_types HO_7.out BK313.out (by decide)) (fun _ hk => hk.2) (.int .i64 t307)) (fun _ hk => hk.2) (.int .i64 t308)) (fun _ hk => hk.2) (.slice Ao54 t309.length co54)) (fun _ h_ => h_.1))) hb); replace HO_301002 := am (Kd.R_below u11_24 hb); replace HO311 := am (Kd.R_below (by (with_reducible repeat (first | apply Kd.R_alloc | apply Kd.R_drewN | apply Kd.R_drew)); exact (Kd.R_mono (Kd.R_far (p := ⟨gb313, 2, none⟩) (Kd.R_far (p := ⟨gb313, 1, none⟩) (Kd.R_far (p := ⟨gb313, 0, none⟩) (Kd.R_types HO311.out BK313.out (by decide)) (fun _ hk => hk.2) (.int .i64 t307)) (fun _ hk => hk.2) (.int .i64 t308)) (fun _ hk => hk.2) (.slice Ao54 t309.length co54)) (fun _ h_ => h_.1))) hb); replace BK293 := am (blk_below (g := gb293) (o := .cells #[.int .i64 a0_0, .int .i64 a0_1, .slice A0_2 l0_2.length c0_2] 30 (0, 0)) (by (with_reducible repeat (first | refine blk_drewN ?_ _ | refine blk_drew ?_ | refine blk_alloc ?_ _)); refine blk_far ?_ NB293_313.out _; (with_reducible repeat (first | refine blk_drewN ?_ _ | refine blk_drew ?_ | refine blk_alloc ?_ _)); refine blk_far ?_ NB293_313.out _; (with_reducible repeat (first | refine blk_drewN ?_ _ | refine blk_drew ?_ | refine blk_alloc ?_ _)); refine blk_far ?_ NB293_313.out _; (with_reducible repeat (first | refine blk_drewN ?_ _ | refine blk_drew ?_ | refine blk_alloc ?_ _)); exact BK293.out) hb); replace BK294 := am (blk_below (g := gb294) (o := .cells #[.int .i64 0, .int .i64 0, .slice none 0 0] 30 (0, 0)) (by (with_reducible repeat (first | refine blk_drewN ?_ _ | refine blk_drew ?_ | refine blk_alloc ?_ _)); refine blk_far ?_ NB294_313.out _; (with_reducible repeat (first | refine blk_drewN ?_ _ | refine blk_drew ?_ | refine blk_alloc ?_ _)); refine blk_far ?_ NB294_313.out _; (with_reducible repeat (first | refine blk_drewN ?_ _ | refine blk_drew ?_ | refine blk_alloc ?_ _)); refine blk_far ?_ NB294_313.out _; (with_reducible repeat (first | refine blk_drewN ?_ _ | refine blk_drew ?_ | refine blk_alloc ?_ _)); exact BK294.out) hb); replace BK300 := am (blk_below (g := gb300) (o := .cells #[.int .i64 x301000_2, .int .i64 x301001_2, .slice Ao46 x301002_2.length co46] 30 (0, 0)) (by (with_reducible repeat (first | refine blk_drewN ?_ _ | refine blk_drew ?_ | refine blk_alloc ?_ _)); refine blk_far ?_ NB300_313.out _; (with_reducible repeat (first | refine blk_drewN ?_ _ | refine blk_drew ?_ | refine blk_alloc ?_ _)); refine blk_far ?_ NB300_313.out _; (with_reducible repeat (first | refine blk_drewN ?_ _ | refine blk_drew ?_ | refine blk_alloc ?_ _)); refine blk_far ?_ NB300_313.out _; (with_reducible repeat (first | refine blk_drewN ?_ _ | refine blk_drew ?_ | refine blk_alloc ?_ _)); exact BK300.out) hb); replace BK306 := am (blk_below (g := gb306) (o := .cells #[.int .i64 ((rd_T50 l1 x28_2).f0), .int .i64 ((rd_T50 l1 x28_2).f1), .string ((rd_T50 l1 x28_2).f2)] 50 (0, 0)) (by (with_reducible repeat (first | refine blk_drewN ?_ _ | refine blk_drew ?_ | refine blk_alloc ?_ _)); refine blk_far ?_ NB306_313.out _; (with_reducible repeat (first | refine blk_drewN ?_ _ | refine blk_drew ?_ | refine blk_alloc ?_ _)); refine blk_far ?_ NB306_313.out _; (with_reducible repeat (first | refine blk_drewN ?_ _ | refine blk_drew ?_ | refine blk_alloc ?_ _)); refine blk_far ?_ NB306_313.out _; (with_reducible repeat (first | refine blk_drewN ?_ _ | refine blk_drew ?_ | refine blk_alloc ?_ _)); exact BK306.out) hb); replace BK313 := am (blk_below (g := gb313) (o := .cells #[.int .i64 t307, .int .i64 t308, .slice Ao54 t309.length co54] 30 (0, 0)) (by (with_reducible repeat (first | refine blk_drewN ?_ _ | refine blk_drew ?_ | refine blk_alloc ?_ _)); refine blk_put (cs := #[.int .i64 t307, .int .i64 t308, .slice none 0 0]) ?_ 2 _ rfl; (with_reducible repeat (first | refine blk_drewN ?_ _ | refine blk_drew ?_ | refine blk_alloc ?_ _)); refine blk_put (cs := #[.int .i64 t307, .int .i64 0, .slice none 0 0]) ?_ 1 _ rfl; (with_reducible repeat (first | refine blk_drewN ?_ _ | refine blk_drew ?_ | refine blk_alloc ?_ _)); refine blk_put (cs := #[.int .i64 0, .int .i64 0, .slice none 0 0]) ?_ 0 _ rfl; (with_reducible repeat (first | refine blk_drewN ?_ _ | refine blk_drew ?_ | refine blk_alloc ?_ _)); exact BK313.out) hb); replace HB := am (below_step q0 hb); (try clear hb); (try clear hb2); (try clear hk); (try clear hi)))
     have H := H9.out
     clear H9
     by_cases c58 : t312 = true
     · subst c58
       rw [if_pos rfl] at H
       by_cases c59 : x7_2.length < 8796093022208
       rotate_left
       · rw [if_neg c59] at H
         exact absurd H (by simp)
       rw [if_pos c59] at H
       have LMc59 := am c59
       clear c59
       obtain ⟨y316, hy316⟩ : ∃ y_ : List ByteArray, y_ = (x7_2 ++ [(rd_T50 l1 x28_2).f2]) := ⟨_, rfl⟩
       replace H : (impl_OnceEach.l0 k2 y316 l1 (l1.length : Int) (wrap64 (x28_2 + 1)) t307 t308 t309) = some (r1, r2, r3, r4) := by first | (rw [hy316]; with_reducible exact H) | (have H2_ := (Option.bind_some _ _).symm.trans H; rw [hy316]; with_reducible exact H2_) | (have H2_ := (Option.bind_some _ _).symm.trans H; with_reducible exact H2_) | with_reducible exact H | (rw [hy316]; exact H) | exact H
       have Ny316 := am hy316
       clear hy316
       have H' := am H
       clear H
       have hnb60 := NB306_293.out
       have hnc60 := NB293_306.out
       have hnb61 := NB306_294.out
       have hnc61 := NB294_306.out
       have hnb62 := NB306_300.out
       have hnc62 := NB300_306.out
       have hnb63 := NB306_313.out
       have hnc63 := NB313_306.out
       obtain ⟨hcz64_0, hcz64_1, hcz64_2, hfz64_0, hfz64_1, hfz64_2⟩ := bc3f w57 BK306.out
       have hnb65 := NB313_293.out
       have hnc65 := NB293_313.out
       have hnb66 := NB313_294.out
       have hnc66 := NB294_313.out
       have hnb67 := NB313_300.out
       have hnc67 := NB300_313.out
       obtain ⟨hcz68_0, hcz68_1, hcz68_2, hfz68_0, hfz68_1, hfz68_2⟩ := bc3f w57 BK313.out
       have hnb69 := NB300_293.out
       have hnc69 := NB293_300.out
       have hnb70 := NB300_294.out
       have hnc70 := NB294_300.out
       obtain ⟨hcz71_0, hcz71_1, hcz71_2, hfz71_0, hfz71_1, hfz71_2⟩ := bc3f w57 BK300.out
       go_wp2_with (first | ((with_reducible refine gate_builtin (b := .append) (xs := #[.tmp 63, .tmp 65]) rfl ?_); (try (refine gate_guard (by rfl) ?_; dsimp only)); at_builtin; refine Kd.R_append Kd.string (w0 := w) w.heap.size rfl (.tmp 63) (.tmp 65) 31 9 (.string ⟨#[]⟩) 16 rfl Tryd.underlying31 info9 rfl (by decide) (by omega) u7 x7_2 ((rd_T50 l1 x28_2).f2) [.string ((rd_T50 l1 x28_2).f2)] (fun _ => True) (fun _ => False) rfl u11_35 ?aP (fun _ hk => hk.elim) ?aF ?aO ?aB ?aS ?aL ?_; (case aP => exact rfl); (case aB => exact q0); (case aF => exact (fun _ _ => trivial)); (case aO => exact u11_18); (case aS => exact (below_size q0)); (case aL => have := LMc59.out; omega); intro v317 w72 ho hb hg hat; rw [← Ny316.out] at ho; replace HO_301002 := am (Kd.R_over' u11_17 (Kd.R_typed u11_5) (by decide) hg); replace BK293 := am (blk_grown (g := gb293) (o := .cells #[.int .i64 a0_0, .int .i64 a0_1, .slice A0_2 l0_2.length c0_2] 30 (0, 0)) u11_3 hg (Kd.R_ne HO_7.out BK293.out (by decide))); replace BK294 := am (blk_grown (g := gb294) (o := .cells #[.int .i64 0, .int .i64 0, .slice none 0 0] 30 (0, 0)) u11_4 hg (Kd.R_ne HO_7.out BK294.out (by decide))); replace BK306 := am (blk_grown (g := gb306) (o := .cells #[.int .i64 ((rd_T50 l1 x28_2).f0), .int .i64 ((rd_T50 l1 x28_2).f1), .string ((rd_T50 l1 x28_2).f2)] 50 (0, 0)) u11_13 hg (Kd.R_ne HO_7.out BK306.out (by decide))); replace HO311 := am (Kd.R_over' u11_19 (Kd.R_typed u11_5) (by decide) hg); replace BK300 := am (blk_grown (g := gb300) (o := .cells #[.int .i64 t307, .int .i64 t308, .slice Ao54 t309.length co54] 30 (0, 0)) u11_7 hg (Kd.R_ne HO_7.out BK300.out (by decide))); replace BK313 := am (blk_grown (g := gb313) (o := .cells #[.int .i64 t307, .int .i64 t308, .slice Ao54 t309.length co54] 30 (0, 0)) u11_14 hg (Kd.R_ne HO_7.out BK313.out (by decide))); replace HB := am (hb); have HO318 := am (ho); clear HO_7; clear ho hb hg hat))
       go_roundg k2
       case measure => have := HJ3.out; have := HK2.out; omega
       case rel => exact ⟨(y316), (wrap64 (x28_2 + 1)), (t307), (t308), (t309), (.slice Ao54 t309.length co54), q4, H', ⟨u11_36⟩, ⟨(by (with_reducible repeat (first | apply Kd.R_alloc | apply Kd.R_drewN | apply Kd.R_drew)); exact HO318.out)⟩, ⟨u11_29⟩, ⟨u11_2⟩, ⟨u11_6⟩, ⟨u11_8⟩, ⟨q0⟩⟩
     replace c58 := Bool.eq_false_iff.mpr c58
     subst c58
     rw [nf] at H
     by_cases c73 : t314 = 1
     · rw [if_pos c73] at H
       have c73b0 : (t314 == 1) = true := beq_iff_eq.mpr c73
       have c73b1 : (t314 != 1) = false := bne_eq_false_iff_eq.mpr c73
       clear c73
       (first | rw [c73b0] | (simp only [i64_w, i32_w]; rw [c73b0]) | skip)
       by_cases c74 : x7_2.length < 8796093022208
       rotate_left
       · rw [if_neg c74] at H
         exact absurd H (by simp)
       rw [if_pos c74] at H
       have LMc74 := am c74
       clear c74
       obtain ⟨y319, hy319⟩ : ∃ y_ : List ByteArray, y_ = (x7_2 ++ [t315]) := ⟨_, rfl⟩
       replace H : (impl_OnceEach.l0 k2 y319 l1 (l1.length : Int) (wrap64 (x28_2 + 1)) t307 t308 t309) = some (r1, r2, r3, r4) := by first | (rw [hy319]; with_reducible exact H) | (have H2_ := (Option.bind_some _ _).symm.trans H; rw [hy319]; with_reducible exact H2_) | (have H2_ := (Option.bind_some _ _).symm.trans H; with_reducible exact H2_) | with_reducible exact H | (rw [hy319]; exact H) | exact H
       have Ny319 := am hy319
       clear hy319
       have H' := am H
       clear H
       have hnb75 := NB313_293.out
       have hnc75 := NB293_313.out
       have hnb76 := NB313_294.out
       have hnc76 := NB294_313.out
       have hnb77 := NB313_300.out
       have hnc77 := NB300_313.out
       have hnb78 := NB313_306.out
       have hnc78 := NB306_313.out
       obtain ⟨hcz79_0, hcz79_1, hcz79_2, hfz79_0, hfz79_1, hfz79_2⟩ := bc3f w57 BK313.out
       have hnb80 := NB300_293.out
       have hnc80 := NB293_300.out
       have hnb81 := NB300_294.out
       have hnc81 := NB294_300.out
       have hnb82 := NB300_306.out
       have hnc82 := NB306_300.out
       obtain ⟨hcz83_0, hcz83_1, hcz83_2, hfz83_0, hfz83_1, hfz83_2⟩ := bc3f w57 BK300.out
       go_wp2_with (first | ((with_reducible refine gate_builtin (b := .append) (xs := #[.tmp 63, .tmp 65]) rfl ?_); (try (refine gate_guard (by rfl) ?_; dsimp only)); at_builtin; refine Kd.R_append Kd.string (w0 := w) w.heap.size rfl (.tmp 63) (.tmp 65) 31 9 (.string ⟨#[]⟩) 16 rfl Tryd.underlying31 info9 rfl (by decide) (by omega) u7 x7_2 t315 [.string t315] (fun _ => True) (fun _ => False) rfl u11_35 ?aP (fun _ hk => hk.elim) ?aF ?aO ?aB ?aS ?aL ?_; (case aP => exact rfl); (case aB => exact q0); (case aF => exact (fun _ _ => trivial)); (case aO => exact u11_18); (case aS => exact (below_size q0)); (case aL => have := LMc74.out; omega); intro v320 w84 ho hb hg hat; rw [← Ny319.out] at ho; replace HO_301002 := am (Kd.R_over' u11_17 (Kd.R_typed u11_5) (by decide) hg); replace BK293 := am (blk_grown (g := gb293) (o := .cells #[.int .i64 a0_0, .int .i64 a0_1, .slice A0_2 l0_2.length c0_2] 30 (0, 0)) u11_3 hg (Kd.R_ne HO_7.out BK293.out (by decide))); replace BK294 := am (blk_grown (g := gb294) (o := .cells #[.int .i64 0, .int .i64 0, .slice none 0 0] 30 (0, 0)) u11_4 hg (Kd.R_ne HO_7.out BK294.out (by decide))); replace BK306 := am (blk_grown (g := gb306) (o := .cells #[.int .i64 ((rd_T50 l1 x28_2).f0), .int .i64 ((rd_T50 l1 x28_2).f1), .string ((rd_T50 l1 x28_2).f2)] 50 (0, 0)) u11_13 hg (Kd.R_ne HO_7.out BK306.out (by decide))); replace HO311 := am (Kd.R_over' u11_19 (Kd.R_typed u11_5) (by decide) hg); replace BK300 := am (blk_grown (g := gb300) (o := .cells #[.int .i64 t307, .int .i64 t308, .slice Ao54 t309.length co54] 30 (0, 0)) u11_7 hg (Kd.R_ne HO_7.out BK300.out (by decide))); replace BK313 := am (blk_grown (g := gb313) (o := .cells #[.int .i64 t307, .int .i64 t308, .slice Ao54 t309.length co54] 30 (0, 0)) u11_14 hg (Kd.R_ne HO_7.out BK313.out (by decide))); replace HB := am (hb); have HO321 := am (ho); clear HO_7; clear ho hb hg hat))
       go_roundg k2
       case measure => have := HJ3.out; have := HK2.out; omega
       case rel => exact ⟨(y319), (wrap64 (x28_2 + 1)), (t307), (t308), (t309), (.slice Ao54 t309.length co54), q4, H', ⟨u11_36⟩, ⟨(by (with_reducible repeat (first | apply Kd.R_alloc | apply Kd.R_drewN | apply Kd.R_drew)); exact HO321.out)⟩, ⟨u11_29⟩, ⟨u11_2⟩, ⟨u11_6⟩, ⟨u11_8⟩, ⟨q0⟩⟩
     rw [if_neg c73] at H
     have c73b0 : (t314 == 1) = false := beq_eq_false_iff_ne.mpr c73
     have c73b1 : (t314 != 1) = true := bne_iff_ne.mpr c73
     (first | rw [c73b0] | (simp only [i64_w, i32_w]; rw [c73b0]) | skip)
     replace H := Option.bind_eq_some_iff.mp H
     obtain ⟨t322, A850, H⟩ := H
     have A85 := am A850
     clear A850
     by_cases c86 : 1 + t322.size ≤ 9223372036854775807
     rotate_left
     · rw [if_neg c86] at H
       exact absurd H (by simp)
     rw [if_pos c86] at H
     have c86b0 := eq_true c86
     have c86b1 : decide (1 + t322.size ≤ 9223372036854775807) = true := decide_eq_true c86
     try have c86b2 : (9223372036854775807 < 1 + t322.size) = False := eq_false (Nat.not_lt.2 c86)
     by_cases c87 : x7_2.length < 8796093022208
     rotate_left
     · rw [if_neg c87] at H
       exact absurd H (by simp)
     rw [if_pos c87] at H
     have LMc87 := am c87
     clear c87
     obtain ⟨y323, hy323⟩ : ∃ y_ : List ByteArray, y_ = (x7_2 ++ [(⟨#[33]⟩ : ByteArray) ++ t322]) := ⟨_, rfl⟩
     replace H : (impl_OnceEach.l0 k2 y323 l1 (l1.length : Int) (wrap64 (x28_2 + 1)) t307 t308 t309) = some (r1, r2, r3, r4) := by first | (rw [hy323]; with_reducible exact H) | (have H2_ := (Option.bind_some _ _).symm.trans H; rw [hy323]; with_reducible exact H2_) | (have H2_ := (Option.bind_some _ _).symm.trans H; with_reducible exact H2_) | with_reducible exact H | (rw [hy323]; exact H) | exact H
     have Ny323 := am hy323
     clear hy323
     have H' := am H
     clear H
     go_wp2_with (first | ((with_reducible refine gate_callee (f := 38) rfl ?_); refine goesL_ (some 60) rfl rfl Tryd.func38 kr rfl #[.int .i64 t314] rfl q1 ?_; (with_reducible refine (strconv_Itoa.calls t314 t322 _ A85.out).mono ?_); rintro e w' ⟨rfl, ⟨nd, rfl⟩⟩; refine ⟨_, rfl, ?_⟩; (first | (rw [drewN_self w57]; generalize hq_ : World.drewN w57 _ = w57; have n0_ := am (Kd.R_at hq_ HO_7.out); have n1_ := am (Kd.R_at hq_ HO_301002.out); have n2_ := am (Kd.R_at hq_ HO311.out); have n3_ := am (blk_at hq_ BK293.out); have n4_ := am (blk_at hq_ BK294.out); have n5_ := am (blk_at hq_ BK300.out); have n6_ := am (blk_at hq_ BK306.out); have n7_ := am (blk_at hq_ BK313.out); have n8_ := am (below_at hq_ HB.out); clear hq_ HO_7 HO_301002 HO311 BK293 BK294 BK300 BK306 BK313 HB; have HO_7 := n0_; have HO_301002 := n1_; have HO311 := n2_; have BK293 := n3_; have BK294 := n4_; have BK300 := n5_; have BK306 := n6_; have BK313 := n7_; have HB := n8_; clear n0_ n1_ n2_ n3_ n4_ n5_ n6_ n7_ n8_) | skip); have hnb88 := NB313_293.out; have hnc88 := NB293_313.out; have hnb89 := NB313_294.out; have hnc89 := NB294_313.out; have hnb90 := NB313_300.out; have hnc90 := NB300_313.out; have hnb91 := NB313_306.out; have hnc91 := NB306_313.out; obtain ⟨hcz92_0, hcz92_1, hcz92_2, hfz92_0, hfz92_1, hfz92_2⟩ := bc3f w57 BK313.out; have hnb93 := NB300_293.out; have hnc93 := NB293_300.out; have hnb94 := NB300_294.out; have hnc94 := NB294_300.out; have hnb95 := NB300_306.out; have hnc95 := NB306_300.out; obtain ⟨hcz96_0, hcz96_1, hcz96_2, hfz96_0, hfz96_1, hfz96_2⟩ := bc3f w57 BK300.out) | ((with_reducible refine gate_builtin (b := .append) (xs := #[.tmp 63, .tmp 65]) rfl ?_); (try (refine gate_guard (by rfl) ?_; dsimp only)); at_builtin; refine Kd.R_append Kd.string (w0 := w) w.heap.size rfl (.tmp 63) (.tmp 65) 31 9 (.string ⟨#[]⟩) 16 rfl Tryd.underlying31 info9 rfl (by decide) (by omega) u7 x7_2 ((⟨#[33]⟩ : ByteArray) ++ t322) [.string ((⟨#[33]⟩ : ByteArray) ++ t322)] (fun _ => True) (fun _ => False) rfl u11_35 ?aP (fun _ hk => hk.elim) ?aF ?aO ?aB ?aS ?aL ?_; (case aP => exact rfl); (case aB => exact q0); (case aF => exact (fun _ _ => trivial)); (case aO => exact u11_18); (case aS => exact (below_size q0)); (case aL => have := LMc87.out; omega); intro v324 w97 ho hb hg hat; rw [← Ny323.out] at ho; replace HO_301002 := am (Kd.R_over' u11_17 (Kd.R_typed u11_5) (by decide) hg); replace BK293 := am (blk_grown (g := gb293) (o := .cells #[.int .i64 a0_0, .int .i64 a0_1, .slice A0_2 l0_2.length c0_2] 30 (0, 0)) u11_3 hg (Kd.R_ne HO_7.out BK293.out (by decide))); replace BK294 := am (blk_grown (g := gb294) (o := .cells #[.int .i64 0, .int .i64 0, .slice none 0 0] 30 (0, 0)) u11_4 hg (Kd.R_ne HO_7.out BK294.out (by decide))); replace BK306 := am (blk_grown (g := gb306) (o := .cells #[.int .i64 ((rd_T50 l1 x28_2).f0), .int .i64 ((rd_T50 l1 x28_2).f1), .string ((rd_T50 l1 x28_2).f2)] 50 (0, 0)) u11_13 hg (Kd.R_ne HO_7.out BK306.out (by decide))); replace HO311 := am (Kd.R_over' u11_19 (Kd.R_typed u11_5) (by decide) hg); replace BK300 := am (blk_grown (g := gb300) (o := .cells #[.int .i64 t307, .int .i64 t308, .slice Ao54 t309.length co54] 30 (0, 0)) u11_7 hg (Kd.R_ne HO_7.out BK300.out (by decide))); replace BK313 := am (blk_grown (g := gb313) (o := .cells #[.int .i64 t307, .int .i64 t308, .slice Ao54 t309.length co54] 30 (0, 0)) u11_14 hg (Kd.R_ne HO_7.out BK313.out (by decide))); replace HB := am (hb); have HO325 := am (ho); clear HO_7; clear ho hb hg hat))
     go_roundg k2
     case measure => have := HJ3.out; have := HK2.out; omega
     case rel => exact ⟨(y323), (wrap64 (x28_2 + 1)), (t307), (t308), (t309), (.slice Ao54 t309.length co54), q4, H', ⟨u11_36⟩, ⟨(by (with_reducible repeat (first | apply Kd.R_alloc | apply Kd.R_drewN | apply Kd.R_drew)); exact HO325.out)⟩, ⟨u11_29⟩, ⟨u11_2⟩, ⟨u11_6⟩, ⟨u11_8⟩, ⟨q0⟩⟩

/-! ### laws_big: function 20 -/
def laws_big.f (l0 : List Int) : Option (Bool) := some (decide ((l0.length : Int) > 1048576))
set_option maxHeartbeats 8000000 in
set_option maxRecDepth 100000 in
theorem laws_big.calls (A0 : Option Addr) (c0 : Nat) (l0 : List Int) (r : Bool) (w : World) (hr0 : Kd.C (Kd.int .u8) w A0 l0.length l0) (hc0 : l0.length ≤ c0) (h : laws_big.f l0 = some r) :
   Calls Tryd.prog 20 #[.slice A0 l0.length c0] w fun e w' => e = .returned (.bool r) ∧ Drawn0 w w' := by
 have HR0 := am hr0
 have HC0 := am hc0
 clear hr0 hc0
 have H : (some (decide ((l0.length : Int) > 1048576))) = some r := h
 clear h
 obtain rfl := sj H
 go_enter Tryd.func20, Tryd.ntmps20
 go_wp2
 go_ret
 exact ⟨by first | rfl | (simp; done) | (simp [*]; done), u11_33⟩

/-- A state of type 84 at block g of W; what its slices lead to came in by w0. -/
def IsS84 (w0 W : World) (g : Nat) (f0 : List Int) (f1 : Int) (f2 : Int) : Prop := ∃ A0 c0, W.heap[g]? = some (.cells #[.slice A0 f0.length c0, .int .i64 f1, .int .i64 f2] 84 (0, 0)) ∧ w0.heap.size ≤ g ∧ Kd.C (Kd.int .u8) w0 A0 f0.length f0
theorem IsS84.grown {w0 W : World} {g : Nat} {f0 : List Int} {f1 : Int} {f2 : Int} {W1 : World} {row : Option Nat} (h : IsS84 w0 W g f0 f1 f2) (hw : W.grownBy W1 row) (hne : some g ≠ row) : IsS84 w0 W1 g f0 f1 f2 := by
 obtain ⟨A0, c0, hb, hg, hr0⟩ := h
 exact ⟨A0, c0, blk_grown hb hw hne, hg, hr0⟩
theorem IsS84.own_neN {w0 W : World} {g : Nat} {f0 : List Int} {f1 : Int} {f2 : Int} {α : Type} {d : Kd α} {e : Nat} {base : Nat} {ok : Nat → Prop} {v : Value} {xs : List α} (h : IsS84 w0 W g f0 f1 f2) (ho : Kd.N d e W base ok v xs) (ht : e ≠ 84) : some g ≠ v.ownBlock := by
 obtain ⟨A0, c0, hb, hg, hr0⟩ := h
 exact Kd.N_ne ho hb ht
theorem IsS84.fresh {w0 W : World} {g : Nat} {f0 : List Int} {f1 : Int} {f2 : Int} (h : IsS84 w0 W g f0 f1 f2) : ∀ k, W.heap.size ≤ k → k ≠ g := by
 obtain ⟨A0, c0, hb, hg, hr0⟩ := h
 exact Kd.freshB hb
theorem IsS84.kept {w0 W : World} {g : Nat} {f0 : List Int} {f1 : Int} {f2 : Int} {W1 : World} {S : Nat → Prop} (h : IsS84 w0 W g f0 f1 f2) (hk : Kept W W1 S) (hne : ¬ S g) : IsS84 w0 W1 g f0 f1 f2 := by
 obtain ⟨A0, c0, hb, hg, hr0⟩ := h
 exact ⟨A0, c0, blk_kept hb hk hne, hg, hr0⟩
theorem IsS84.below {w0 W : World} {g : Nat} {f0 : List Int} {f1 : Int} {f2 : Int} {W1 : World} (h : IsS84 w0 W g f0 f1 f2) (hw : Below W.heap.size W W1) : IsS84 w0 W1 g f0 f1 f2 := h.grown (grown_of_below hw none) (by simp)
theorem IsS84.alloc {w0 W : World} {g : Nat} {f0 : List Int} {f1 : Int} {f2 : Int} (h : IsS84 w0 W g f0 f1 f2) (o : Obj) : IsS84 w0 (W.alloc o) g f0 f1 f2 := h.below (below_alloc (Below.refl _ _) o)
theorem IsS84.drewN {w0 W : World} {g : Nat} {f0 : List Int} {f1 : Int} {f2 : Int} (h : IsS84 w0 W g f0 f1 f2) (m : Nat) : IsS84 w0 (W.drewN m) g f0 f1 f2 := h
theorem IsS84.drew {w0 W : World} {g : Nat} {f0 : List Int} {f1 : Int} {f2 : Int} (h : IsS84 w0 W g f0 f1 f2) : IsS84 w0 W.drew g f0 f1 f2 := h
theorem IsS84.at_ {w0 W : World} {g : Nat} {f0 : List Int} {f1 : Int} {f2 : Int} {w' : World} {m : Nat} (hq : W.drewN m = w') (h : IsS84 w0 W g f0 f1 f2) : IsS84 w0 w' g f0 f1 f2 := by subst hq; exact IsS84.drewN h m
theorem IsS84.apart {w0 W : World} {g : Nat} {f0 : List Int} {f1 : Int} {f2 : Int} {α : Type} {d : Kd α} {e : Nat} {base : Nat} {ok : Nat → Prop} {v : Value} {xs : List α} (h : IsS84 w0 W g f0 f1 f2) (ho : d.R e W base ok v xs) (ht : ∀ q, q ∈ e :: d.E → q ≠ 84) : d.R e W base (fun k => ok k ∧ k ≠ g) v xs := by
 obtain ⟨A0, c0, hb, hg, hr0⟩ := h
 exact Kd.R_types ho hb ht
theorem IsS84.own_ne {w0 W : World} {g : Nat} {f0 : List Int} {f1 : Int} {f2 : Int} {α : Type} {d : Kd α} {e : Nat} {base : Nat} {ok : Nat → Prop} {v : Value} {xs : List α} (h : IsS84 w0 W g f0 f1 f2) (ho : d.R e W base ok v xs) (ht : e ≠ 84) : some g ≠ v.ownBlock := by
 obtain ⟨A0, c0, hb, hg, hr0⟩ := h
 exact Kd.R_ne ho hb ht
theorem IsS84.apartQ {w0 W : World} {g : Nat} {f0 : List Int} {f1 : Int} {f2 : Int} {α : Type} {d : Kd α} {e : Nat} {base : Nat} {ok : Nat → Prop} {v : Value} {xs : List α} (h : IsS84 w0 W g f0 f1 f2) (ho : d.Q e W base ok v xs) (ht : ∀ q, q ∈ e :: d.E → q ≠ 84) : d.Q e W base (fun k => ok k ∧ k ≠ g) v xs := by
 obtain ⟨A0, c0, hb, hg, hr0⟩ := h
 exact Kd.Q_types ho hb ht
theorem IsS84.own_neQ {w0 W : World} {g : Nat} {f0 : List Int} {f1 : Int} {f2 : Int} {α : Type} {d : Kd α} {e : Nat} {base : Nat} {ok : Nat → Prop} {v : Value} {xs : List α} (h : IsS84 w0 W g f0 f1 f2) (ho : d.Q e W base ok v xs) (ht : e ≠ 84) : some g ≠ v.ownBlock := by
 obtain ⟨A0, c0, hb, hg, hr0⟩ := h
 exact Kd.Q_ne ho hb ht
theorem IsS84.apartS {w0 W : World} {g : Nat} {f0 : List Int} {f1 : Int} {f2 : Int} {α : Type} {d : Kd α} {e : Nat} {base : Nat} {ok : Nat → Prop} {v : Value} {xs : List α} (h : IsS84 w0 W g f0 f1 f2) (ho : d.S e W base ok v xs) (ht : ∀ q, q ∈ e :: d.E → q ≠ 84) : d.S e W base (fun k => ok k ∧ k ≠ g) v xs := by
 obtain ⟨A0, c0, hb, hg, hr0⟩ := h
 exact Kd.S_types ho hb ht
theorem IsS84.own_neS {w0 W : World} {g : Nat} {f0 : List Int} {f1 : Int} {f2 : Int} {α : Type} {d : Kd α} {e : Nat} {base : Nat} {ok : Nat → Prop} {v : Value} {xs : List α} (h : IsS84 w0 W g f0 f1 f2) (ho : d.S e W base ok v xs) (ht : e ≠ 84) : some g ≠ v.ownBlock := by
 obtain ⟨A0, c0, hb, hg, hr0⟩ := h
 exact Kd.S_ne ho hb ht
theorem IsS84.lt {w0 W : World} {g : Nat} {f0 : List Int} {f1 : Int} {f2 : Int} (h : IsS84 w0 W g f0 f1 f2) : g < W.heap.size := by
 obtain ⟨A0, c0, hb, hg, hr0⟩ := h
 exact blk_lt hb
theorem IsS84.ge {w0 W : World} {g : Nat} {f0 : List Int} {f1 : Int} {f2 : Int} (h : IsS84 w0 W g f0 f1 f2) : w0.heap.size ≤ g := by
 obtain ⟨A0, c0, hb, hg, hr0⟩ := h
 exact hg
theorem IsS84.ne_blk {w0 W : World} {g : Nat} {f0 : List Int} {f1 : Int} {f2 : Int} {a : Nat} {cs : Array Value} {t : TypeId} {fr : Nat × Nat} (h : IsS84 w0 W g f0 f1 f2) (hb2 : W.heap[a]? = some (.cells cs t fr)) (ht : t ≠ 84) : g ≠ a := by
 obtain ⟨A0, c0, hb, hg, hr0⟩ := h
 rintro rfl
 rw [hb] at hb2
 injection hb2 with hb2
 injection hb2 with _ ht2
 exact ht ht2.symm
theorem IsS84.far {w0 W : World} {g : Nat} {f0 : List Int} {f1 : Int} {f2 : Int} {p : Addr} (h : IsS84 w0 W g f0 f1 f2) (hne : g ≠ p.block) (u : Value) : IsS84 w0 (W.setCell p u) g f0 f1 f2 := by
 obtain ⟨A0, c0, hb, hg, hr0⟩ := h
 exact ⟨A0, c0, blk_far hb hne u, hg, hr0⟩
theorem cellS84_0 {W : World} {g : Nat} {A0 : Option Addr} {c0 : Nat} {f0 : List Int} {f1 : Int} {f2 : Int} (h : W.heap[g]? = some (.cells #[.slice A0 f0.length c0, .int .i64 f1, .int .i64 f2] 84 (0, 0))) : W.cell? ⟨g, 0, none⟩ = some (.slice A0 f0.length c0) := (blk_cell h 0).trans rfl
theorem cellS84_1 {W : World} {g : Nat} {A0 : Option Addr} {c0 : Nat} {f0 : List Int} {f1 : Int} {f2 : Int} (h : W.heap[g]? = some (.cells #[.slice A0 f0.length c0, .int .i64 f1, .int .i64 f2] 84 (0, 0))) : W.cell? ⟨g, 1, none⟩ = some (.int .i64 f1) := (blk_cell h 1).trans rfl
theorem IsS84.set_1 {w0 W : World} {g : Nat} {f0 : List Int} {f1 : Int} {f2 : Int} (h : IsS84 w0 W g f0 f1 f2) (x : Int) : IsS84 w0 (W.setCell ⟨g, 1, none⟩ (.int .i64 x)) g f0 x f2 := by
 obtain ⟨A0, c0, hb, hg, hr0⟩ := h
 exact ⟨A0, c0, (by simpa using blk_set hb 1 (.int .i64 x)), hg, hr0⟩
theorem cellS84_2 {W : World} {g : Nat} {A0 : Option Addr} {c0 : Nat} {f0 : List Int} {f1 : Int} {f2 : Int} (h : W.heap[g]? = some (.cells #[.slice A0 f0.length c0, .int .i64 f1, .int .i64 f2] 84 (0, 0))) : W.cell? ⟨g, 2, none⟩ = some (.int .i64 f2) := (blk_cell h 2).trans rfl
theorem IsS84.set_2 {w0 W : World} {g : Nat} {f0 : List Int} {f1 : Int} {f2 : Int} (h : IsS84 w0 W g f0 f1 f2) (x : Int) : IsS84 w0 (W.setCell ⟨g, 2, none⟩ (.int .i64 x)) g f0 f1 x := by
 obtain ⟨A0, c0, hb, hg, hr0⟩ := h
 exact ⟨A0, c0, (by simpa using blk_set hb 2 (.int .i64 x)), hg, hr0⟩
theorem IsS84.new (w0 W : World) (A0 : Option Addr) (c0 : Nat) (f0 : List Int) (f1 : Int) (f2 : Int) (hB : Below w0.heap.size w0 W) (hr0 : Kd.C (Kd.int .u8) w0 A0 f0.length f0) : IsS84 w0 (W.alloc (.cells #[.slice A0 f0.length c0, .int .i64 f1, .int .i64 f2] 84)) W.heap.size f0 f1 f2 := ⟨A0, c0, by simpa using heap_alloc_new W _, hB.size, hr0⟩

/-! ### spec_l01New: function 44 -/
def spec_l01New.l0 : Nat → List Int → Int → Int → Option (List Int × Int × Int)
 | 0, _, _, _ => none
 | k + 1, x0, x3, x4 => if x4 < (x0.length : Int) then (if x4 < 4000 then (if 0 ≤ x4 then (spec_l01New.l0 k x0 (Go.bits .and .i64 (wrap64 ((wrap64 ((wrap64 (x3 * 149)) + (wrap64 (rd x0 x4)))) + 11)) 1073741823) (wrap64 (x4 + 1))) else (none)) else (some (x0, 0, x3))) else (some (x0, 0, x3))
def spec_l01New.f (k : Nat) (l0 : List Int) : Option (List Int × Int × Int) := spec_l01New.l0 k l0 (wrap64 (138138 + (l0.length : Int))) 0
theorem spec_l01New.mono_l : ∀ k, (∀ y0 y1 y2, LeO (spec_l01New.l0 k y0 y1 y2) (spec_l01New.l0 (k + 1) y0 y1 y2))
 | 0 => fun _ _ _ r h => by simp [spec_l01New.l0] at h
 | k + 1 => by
   have ih0 := spec_l01New.mono_l k
   · intro y0 y1 y2
     unfold spec_l01New.l0
     repeat' first
     | (with_reducible exact ih0 _ _ _)
     | (with_reducible exact LeO.refl _)
     | (with_reducible exact LeO.none _)
     | (with_reducible refine LeO.ite ?_ ?_)
     | (with_reducible refine LeO.bind ?_ (fun _ => ?_))
     | exact ih0 _ _ _
     | exact LeO.none _
     | refine LeO.ite ?_ ?_
     | refine LeO.bind ?_ (fun _ => ?_)
theorem spec_l01New.mono : ∀ a0 k, LeO (spec_l01New.f k a0) (spec_l01New.f (k + 1) a0) := by
 intro a0 k
 have ih0 := spec_l01New.mono_l k
 unfold spec_l01New.f
 repeat' first
     | (with_reducible exact ih0 _ _ _)
     | (with_reducible exact LeO.refl _)
     | (with_reducible exact LeO.none _)
     | (with_reducible refine LeO.ite ?_ ?_)
     | (with_reducible refine LeO.bind ?_ (fun _ => ?_))
     | exact ih0 _ _ _
     | exact LeO.none _
     | refine LeO.ite ?_ ?_
     | refine LeO.bind ?_ (fun _ => ?_)
set_option maxHeartbeats 8000000 in
set_option maxRecDepth 100000 in
theorem spec_l01New.calls (k : Nat) (A0 : Option Addr) (c0 : Nat) (l0 : List Int) (r1 : List Int) (r2 : Int) (r3 : Int) (w0 w : World) (hB : Below w0.heap.size w0 w) (hr0 : Kd.C (Kd.int .u8) w0 A0 l0.length l0) (hc0 : l0.length ≤ c0) (h : spec_l01New.f k l0 = some (r1, r2, r3)) :
   Calls Tryd.prog 44 #[.slice A0 l0.length c0] w fun e w' => ∃ g_ : Nat, e = .returned (.pointer (some ⟨g_, 0, none⟩)) ∧ IsS84 w0 w' g_ r1 r2 r3 ∧ Below w0.heap.size w0 w' ∧ Below w.heap.size w w' := by
 have hu84 := Tryd.underlying84
 have HR0 := am hr0
 have HC0 := am hc0
 clear hr0 hc0
 have HBW := am (Below.refl w.heap.size w)
 have HW0 := am hB.size
 have HB := am hB
 clear hB
 have H : (spec_l01New.l0 k l0 (wrap64 (138138 + (l0.length : Int))) 0) = some (r1, r2, r3) := h
 clear h
 have H' := am H
 clear H
 go_enter Tryd.func44, Tryd.ntmps44
 go_wp2
 go_loopg [3, 4] k (fun kq v3 v4 w' => ∃ (x3_1 : Int) (x4_1 : Int), v3 = .int .i64 x3_1 ∧ v4 = .int .i64 x4_1 ∧ Aside0 (spec_l01New.l0 kq l0 x3_1 x4_1 = some (r1, r2, r3)) ∧ Aside0 (kq ≤ k) ∧ Aside0 (Below w0.heap.size w0 w') ∧ Aside0 (Below w.heap.size w w'))
 case atStart => exact ⟨(wrap64 (138138 + (l0.length : Int))), (0), q4, q4, H', ⟨Nat.le_refl _⟩, ⟨q0⟩, ⟨u11_23⟩⟩
 clear H'
 obtain ⟨x3_1, x4_1, rfl, rfl, HA, HK1, HB, HBW⟩ := hrel
 cases gk with
 | zero => exact absurd HA.out (by simp [spec_l01New.l0])
 | succ k1 =>
   have H := HA.out
   clear HA
   simp only [spec_l01New.l0] at H
   by_cases c2 : x4_1 < (l0.length : Int)
   rotate_left
   · rw [if_neg c2] at H
     have c2b0 : decide (x4_1 < (l0.length : Int)) = false := decide_eq_false c2
     clear c2
     simp only [Option.some.injEq, Prod.mk.injEq] at H
     obtain ⟨rfl, rfl, rfl⟩ := H
     go_wp2_with (first | ((with_reducible refine gate_dst (N := 31) rfl ?_); refine box_event ?hg (N := 31) ?hd (cs := #[.slice A0 l0.length c0, .int .i64 0, .int .i64 x3_1]) (t := 84) ?hr ?_; (case hd => rfl); (case hg => rfl); (case hr => first | (go_simp; done) | (go_simp; rfl)); intro gb328 hg w6 hbox hb; replace HB := am (below_step q0 hb); have BK328 := am (hbox); have GW328 := am ((by rw [hg]; exact (below_size u11_23) : w.heap.size ≤ gb328)); have GE328 := am ((Nat.le_trans HW0.out (by rw [hg]; exact (below_size u11_23) : w.heap.size ≤ gb328) : w0.heap.size ≤ gb328)); replace HBW := am (below_step HBW.out hb); clear hb hbox hg))
     go_ret
     exact ⟨_, rfl, (show IsS84 w0 _ gb328 l0 0 x3_1 from ⟨_, _, (by (with_reducible repeat (first | refine blk_drewN ?_ _ | refine blk_drew ?_ | refine blk_alloc ?_ _)); exact BK328.out), GE328.out, HR0.out⟩), (by repeat (first | (with_reducible first | exact HB.out | apply below_alloc | apply pw_below_drewN | apply below_drew1 | refine below_set ?_ GE328.out) | exact HB.out)), (by repeat (first | (with_reducible first | exact HBW.out | apply below_alloc | apply pw_below_drewN | apply below_drew1 | refine below_set ?_ GW328.out) | exact HBW.out))⟩
   rw [if_pos c2] at H
   have c2b0 : decide (x4_1 < (l0.length : Int)) = true := decide_eq_true c2
   clear c2
   by_cases c3 : x4_1 < 4000
   · rw [if_pos c3] at H
     have c3b0 : decide (x4_1 < 4000) = true := decide_eq_true c3
     clear c3
     by_cases c4 : 0 ≤ x4_1
     rotate_left
     · rw [if_neg c4] at H
       exact absurd H (by simp)
     rw [if_pos c4] at H
     have c4b0 : decide (0 ≤ x4_1) = true := decide_eq_true c4
     clear c4
     have H' := am H
     clear H
     have p326 : 0 ≤ (x4_1 : Int) := of_decide_eq_true q3
     have q326 : x4_1 < (l0.length : Int) := of_decide_eq_true q3
     obtain ⟨ad326, e326, hx326_0⟩ := Kd.at_int HR0.out x4_1 p326 q326
     cases e326
     replace hx326_0 := pw_cell_below HB.out hx326_0
     replace p326 := eq_true p326
     replace q326 := eq_true q326
     go_wp2
     go_roundg k1
     case measure => have := HK1.out; omega
     case rel => exact ⟨(Go.bits .and .i64 (wrap64 ((wrap64 ((wrap64 (x3_1 * 149)) + (wrap64 (rd l0 x4_1)))) + 11)) 1073741823), (wrap64 (x4_1 + 1)), q4, q4, H', ⟨by have := HK1.out; omega⟩, ⟨q0⟩, ⟨u11_23⟩⟩
   rw [if_neg c3] at H
   have c3b0 : decide (x4_1 < 4000) = false := decide_eq_false c3
   clear c3
   simp only [Option.some.injEq, Prod.mk.injEq] at H
   obtain ⟨rfl, rfl, rfl⟩ := H
   go_wp2_with (first | ((with_reducible refine gate_dst (N := 31) rfl ?_); refine box_event ?hg (N := 31) ?hd (cs := #[.slice A0 l0.length c0, .int .i64 0, .int .i64 x3_1]) (t := 84) ?hr ?_; (case hd => rfl); (case hg => rfl); (case hr => first | (go_simp; done) | (go_simp; rfl)); intro gb327 hg w5 hbox hb; replace HB := am (below_step q0 hb); have BK327 := am (hbox); have GW327 := am ((by rw [hg]; exact (below_size u11_23) : w.heap.size ≤ gb327)); have GE327 := am ((Nat.le_trans HW0.out (by rw [hg]; exact (below_size u11_23) : w.heap.size ≤ gb327) : w0.heap.size ≤ gb327)); replace HBW := am (below_step HBW.out hb); clear hb hbox hg))
   go_ret
   exact ⟨_, rfl, (show IsS84 w0 _ gb327 l0 0 x3_1 from ⟨_, _, (by (with_reducible repeat (first | refine blk_drewN ?_ _ | refine blk_drew ?_ | refine blk_alloc ?_ _)); exact BK327.out), GE327.out, HR0.out⟩), (by repeat (first | (with_reducible first | exact HB.out | apply below_alloc | apply pw_below_drewN | apply below_drew1 | refine below_set ?_ GE327.out) | exact HB.out)), (by repeat (first | (with_reducible first | exact HBW.out | apply below_alloc | apply pw_below_drewN | apply below_drew1 | refine below_set ?_ GW327.out) | exact HBW.out))⟩

/-! ### spec_l01Byte: function 67 -/
def spec_l01Byte.f (s0_0 : List Int) (s0_1 : Int) (s0_2 : Int) : Option (Int × Int × Int) := if s0_1 < (s0_0.length : Int) then (if 0 ≤ s0_1 then (some (Go.bits .and .i64 (wrap64 ((Go.bits .and .i64 (Go.bits .xor .i64 ((wrap64 ((wrap64 (s0_2 * 6364136223846793005)) + 1442695040888963407)) / 8589934592) ((wrap64 ((wrap64 (s0_2 * 6364136223846793005)) + 1442695040888963407)) / 35184372088832)) 255) + (wrap64 (rd s0_0 s0_1)))) 255, wrap64 (s0_1 + 1), wrap64 ((wrap64 (s0_2 * 6364136223846793005)) + 1442695040888963407))) else (none)) else (some (Go.bits .and .i64 (Go.bits .xor .i64 ((wrap64 ((wrap64 (s0_2 * 6364136223846793005)) + 1442695040888963407)) / 8589934592) ((wrap64 ((wrap64 (s0_2 * 6364136223846793005)) + 1442695040888963407)) / 35184372088832)) 255, s0_1, wrap64 ((wrap64 (s0_2 * 6364136223846793005)) + 1442695040888963407)))
set_option maxHeartbeats 8000000 in
set_option maxRecDepth 100000 in
theorem spec_l01Byte.calls (g : Nat) (s0_0 : List Int) (s0_1 : Int) (s0_2 : Int) (r1 : Int) (r2 : Int) (r3 : Int) (w0 w : World) (hI : IsS84 w0 w g s0_0 s0_1 s0_2) (hB : Below w0.heap.size w0 w) (h : spec_l01Byte.f s0_0 s0_1 s0_2 = some (r1, r2, r3)) :
   Calls Tryd.prog 67 #[.pointer (some ⟨g, 0, none⟩)] w fun e w' => e = .returned (.int .i64 r1) ∧ IsS84 w0 w' g s0_0 r2 r3 ∧ Below w0.heap.size w0 w' ∧ KeepBut w w' g none := by
 have HI0 := am hI
 have HK := am (KeepBut.refl w g none)
 have HL := am hB.size
 clear hI
 have HW0 := am hB.size
 have HB := am hB
 clear hB
 have H : (if s0_1 < (s0_0.length : Int) then (if 0 ≤ s0_1 then (some (Go.bits .and .i64 (wrap64 ((Go.bits .and .i64 (Go.bits .xor .i64 ((wrap64 ((wrap64 (s0_2 * 6364136223846793005)) + 1442695040888963407)) / 8589934592) ((wrap64 ((wrap64 (s0_2 * 6364136223846793005)) + 1442695040888963407)) / 35184372088832)) 255) + (wrap64 (rd s0_0 s0_1)))) 255, wrap64 (s0_1 + 1), wrap64 ((wrap64 (s0_2 * 6364136223846793005)) + 1442695040888963407))) else (none)) else (some (Go.bits .and .i64 (Go.bits .xor .i64 ((wrap64 ((wrap64 (s0_2 * 6364136223846793005)) + 1442695040888963407)) / 8589934592) ((wrap64 ((wrap64 (s0_2 * 6364136223846793005)) + 1442695040888963407)) / 35184372088832)) 255, s0_1, wrap64 ((wrap64 (s0_2 * 6364136223846793005)) + 1442695040888963407)))) = some (r1, r2, r3) := h
 clear h
 by_cases c2 : s0_1 < (s0_0.length : Int)
 rotate_left
 · rw [if_neg c2] at H
   have c2b0 : decide (s0_1 < (s0_0.length : Int)) = false := decide_eq_false c2
   clear c2
   simp only [Option.some.injEq, Prod.mk.injEq] at H
   obtain ⟨rfl, rfl, rfl⟩ := H
   obtain ⟨ASz5_0, cSz5_0, HGz5, hgz5, HSz5_0⟩ := HI0.out
   have hcz5_0 := cellS84_0 HGz5
   have hcz5_1 := cellS84_1 HGz5
   have hcz5_2 := cellS84_2 HGz5
   have hfz5_1 := blk_frozen HGz5 1
   have hfz5_2 := blk_frozen HGz5 2
   clear HGz5 hgz5
   go_enter Tryd.func67, Tryd.ntmps67
   go_wp2
   repeat (go_quiet (fail); try go_wp2)
   go_ret
   exact ⟨er, q9, q7, q8⟩
 rw [if_pos c2] at H
 have c2b0 : decide (s0_1 < (s0_0.length : Int)) = true := decide_eq_true c2
 clear c2
 by_cases c3 : 0 ≤ s0_1
 rotate_left
 · rw [if_neg c3] at H
   exact absurd H (by simp)
 rw [if_pos c3] at H
 have c3b0 : decide (0 ≤ s0_1) = true := decide_eq_true c3
 clear c3
 simp only [Option.some.injEq, Prod.mk.injEq] at H
 obtain ⟨rfl, rfl, rfl⟩ := H
 obtain ⟨ASz4_0, cSz4_0, HGz4, hgz4, HSz4_0⟩ := HI0.out
 have hcz4_0 := cellS84_0 HGz4
 have hcz4_1 := cellS84_1 HGz4
 have hcz4_2 := cellS84_2 HGz4
 have hfz4_1 := blk_frozen HGz4 1
 have hfz4_2 := blk_frozen HGz4 2
 clear HGz4 hgz4
 have p329 : 0 ≤ (s0_1 : Int) := of_decide_eq_true q3
 have q329 : s0_1 < (s0_0.length : Int) := of_decide_eq_true q3
 obtain ⟨ad329, e329, hx329_0⟩ := Kd.at_int HSz4_0 s0_1 p329 q329
 cases e329
 have hn329_0 : ad329.block ≠ g := Nat.ne_of_lt (Nat.lt_of_lt_of_le (by have := World.block_lt_of_cell? _ _ hx329_0; first | rwa [add_block] at this | exact this) (IsS84.ge HI0.out))
 replace hx329_0 := pw_cell_below HB.out hx329_0
 replace hx329_0 := (cell_far (p := ⟨g, 2, none⟩) (by first | (rw [add_block]; exact hn329_0) | (show (Addr.add _ _).block ≠ _; rw [add_block]; exact hn329_0) | exact hn329_0) (.int .i64 (wrap64 ((wrap64 (s0_2 * 6364136223846793005)) + 1442695040888963407)))).trans hx329_0
 (try have hch_ := fun (n_ : Nat) => (show (((w.drewN n_).setCell ⟨g, 2, none⟩ (.int .i64 (wrap64 ((wrap64 (s0_2 * 6364136223846793005)) + 1442695040888963407))))) = World.drewN ((w.setCell ⟨g, 2, none⟩ (.int .i64 (wrap64 ((wrap64 (s0_2 * 6364136223846793005)) + 1442695040888963407))))) n_ from by simp only [Go.Proofs.YtjdpifafijcpbaaDoor.Slc.setCell_drewN])); (try have hy329_0 := fun (n_ : Nat) => Go.Proofs.YtjdpifafijcpbaaDoor.Slc.cell_of (hch_ n_) hx329_0)
 clear hn329_0
 replace p329 := eq_true p329
 replace q329 := eq_true q329
 go_enter Tryd.func67, Tryd.ntmps67
 go_wp2
 repeat (go_quiet (fail); try go_wp2)
 go_ret
 exact ⟨er, q9, q7, q8⟩

/-! ### spec_l01Below: function 59 -/
def spec_l01Below.f (s0_0 : List Int) (s0_1 : Int) (s0_2 : Int) (a1 : Int) : Option (Int × Int × Int) := if a1 ≤ 0 then (some (0, s0_1, s0_2)) else (if a1 ≤ 256 then ((spec_l01Byte.f s0_0 s0_1 s0_2).bind fun bt330 => (if a1 = 0 then (none) else (some (Int.tmod bt330.1 a1, bt330.2.1, bt330.2.2)))) else ((spec_l01Byte.f s0_0 s0_1 s0_2).bind fun bt333 => ((spec_l01Byte.f s0_0 bt333.2.1 bt333.2.2).bind fun bt336 => ((spec_l01Byte.f s0_0 bt336.2.1 bt336.2.2).bind fun bt339 => (if a1 = 0 then (none) else (some (Int.tmod (wrap64 ((wrap64 ((wrap64 (bt333.1 * 65536)) + (wrap64 (bt336.1 * 256)))) + bt339.1)) a1, bt339.2.1, bt339.2.2)))))))
set_option maxHeartbeats 8000000 in
set_option maxRecDepth 100000 in
theorem spec_l01Below.calls (g : Nat) (s0_0 : List Int) (s0_1 : Int) (s0_2 : Int) (a1 : Int) (r1 : Int) (r2 : Int) (r3 : Int) (w0 w : World) (hI : IsS84 w0 w g s0_0 s0_1 s0_2) (hB : Below w0.heap.size w0 w) (h : spec_l01Below.f s0_0 s0_1 s0_2 a1 = some (r1, r2, r3)) :
   Calls Tryd.prog 59 #[.pointer (some ⟨g, 0, none⟩), .int .i64 a1] w fun e w' => e = .returned (.int .i64 r1) ∧ IsS84 w0 w' g s0_0 r2 r3 ∧ Below w0.heap.size w0 w' ∧ KeepBut w w' g none := by
 have HI0 := am hI
 have HK := am (KeepBut.refl w g none)
 have HL := am hB.size
 clear hI
 have HW0 := am hB.size
 have HB := am hB
 clear hB
 have H : (if a1 ≤ 0 then (some (0, s0_1, s0_2)) else (if a1 ≤ 256 then ((spec_l01Byte.f s0_0 s0_1 s0_2).bind fun bt330 => (if a1 = 0 then (none) else (some (Int.tmod bt330.1 a1, bt330.2.1, bt330.2.2)))) else ((spec_l01Byte.f s0_0 s0_1 s0_2).bind fun bt333 => ((spec_l01Byte.f s0_0 bt333.2.1 bt333.2.2).bind fun bt336 => ((spec_l01Byte.f s0_0 bt336.2.1 bt336.2.2).bind fun bt339 => (if a1 = 0 then (none) else (some (Int.tmod (wrap64 ((wrap64 ((wrap64 (bt333.1 * 65536)) + (wrap64 (bt336.1 * 256)))) + bt339.1)) a1, bt339.2.1, bt339.2.2)))))))) = some (r1, r2, r3) := h
 clear h
 by_cases c3 : a1 ≤ 0
 · rw [if_pos c3] at H
   have c3b0 : decide (a1 ≤ 0) = true := decide_eq_true c3
   clear c3
   simp only [Option.some.injEq, Prod.mk.injEq] at H
   obtain ⟨rfl, rfl, rfl⟩ := H
   go_enter Tryd.func59, Tryd.ntmps59
   go_wp2
   go_ret
   exact ⟨er, q9, q7, q8⟩
 rw [if_neg c3] at H
 have c3b0 : decide (a1 ≤ 0) = false := decide_eq_false c3
 clear c3
 by_cases c4 : a1 ≤ 256
 · rw [if_pos c4] at H
   have c4b0 : decide (a1 ≤ 256) = true := decide_eq_true c4
   clear c4
   replace H := Option.bind_eq_some_iff.mp H
   obtain ⟨⟨t330, t331, t332⟩, A50, H⟩ := H
   replace H : (if a1 = 0 then (none) else (some (Int.tmod t330 a1, t331, t332))) = some (r1, r2, r3) := H
   have A5 := am A50
   clear A50
   by_cases c6 : a1 = 0
   · rw [if_pos c6] at H
     exact absurd H (by simp)
   rw [if_neg c6] at H
   have c6b0 : (a1 == 0) = false := beq_eq_false_iff_ne.mpr c6
   have c6b1 : (a1 != 0) = true := bne_iff_ne.mpr c6
   simp only [Option.some.injEq, Prod.mk.injEq] at H
   obtain ⟨rfl, rfl, rfl⟩ := H
   go_enter Tryd.func59, Tryd.ntmps59
   go_wp2_with (first | ((with_reducible refine gate_callee (f := 67) rfl ?_); refine goesL_ (some 13) rfl rfl Tryd.func67 kr rfl #[.pointer (some ⟨g, 0, none⟩)] rfl q1 ?_; (with_reducible refine (spec_l01Byte.calls g s0_0 s0_1 s0_2 t330 t331 t332 w0 _ ?side1 ?side2 A5.out).mono ?_); (case side1 => exact q9); (case side2 => exact q7); rintro e w7 ⟨rfl, hi, hb, hk⟩; refine ⟨_, rfl, ?_⟩; replace HK := am (KeepBut.trans q8 hk (.inl rfl)); replace HB := am (hb); replace HI0 := am (hi); (try clear hb); (try clear hb2); (try clear hk); (try clear hi)))
   go_ret
   exact ⟨er, q9, q7, q8⟩
 rw [if_neg c4] at H
 have c4b0 : decide (a1 ≤ 256) = false := decide_eq_false c4
 clear c4
 replace H := Option.bind_eq_some_iff.mp H
 obtain ⟨⟨t333, t334, t335⟩, A80, H⟩ := H
 (try dsimp only at H)
 have A8 := am A80
 clear A80
 replace H := Option.bind_eq_some_iff.mp H
 obtain ⟨⟨t336, t337, t338⟩, A90, H⟩ := H
 (try dsimp only at H)
 have A9 := am A90
 clear A90
 replace H := Option.bind_eq_some_iff.mp H
 obtain ⟨⟨t339, t340, t341⟩, A100, H⟩ := H
 (try dsimp only at H)
 have A10 := am A100
 clear A100
 by_cases c11 : a1 = 0
 · rw [if_pos c11] at H
   exact absurd H (by simp)
 rw [if_neg c11] at H
 have c11b0 : (a1 == 0) = false := beq_eq_false_iff_ne.mpr c11
 have c11b1 : (a1 != 0) = true := bne_iff_ne.mpr c11
 simp only [Option.some.injEq, Prod.mk.injEq] at H
 obtain ⟨rfl, rfl, rfl⟩ := H
 go_enter Tryd.func59, Tryd.ntmps59
 go_wp2_with (first | ((with_reducible refine gate_callee (f := 67) rfl ?_); refine goesL_ (some 17) rfl rfl Tryd.func67 kr rfl #[.pointer (some ⟨g, 0, none⟩)] rfl q1 ?_; (with_reducible refine (spec_l01Byte.calls g s0_0 s0_1 s0_2 t333 t334 t335 w0 _ ?side1 ?side2 A8.out).mono ?_); (case side1 => exact q9); (case side2 => exact q7); rintro e w12 ⟨rfl, hi, hb, hk⟩; refine ⟨_, rfl, ?_⟩; replace HK := am (KeepBut.trans q8 hk (.inl rfl)); replace HB := am (hb); replace HI0 := am (hi); (try clear hb); (try clear hb2); (try clear hk); (try clear hi)) | ((with_reducible refine gate_callee (f := 67) rfl ?_); refine goesL_ (some 19) rfl rfl Tryd.func67 kr rfl #[.pointer (some ⟨g, 0, none⟩)] rfl q1 ?_; (with_reducible refine (spec_l01Byte.calls g s0_0 t334 t335 t336 t337 t338 w0 _ ?side1 ?side2 A9.out).mono ?_); (case side1 => exact q9); (case side2 => exact q7); rintro e w13 ⟨rfl, hi, hb, hk⟩; refine ⟨_, rfl, ?_⟩; replace HK := am (KeepBut.trans q8 hk (.inl rfl)); replace HB := am (hb); replace HI0 := am (hi); (try clear hb); (try clear hb2); (try clear hk); (try clear hi)) | ((with_reducible refine gate_callee (f := 67) rfl ?_); refine goesL_ (some 21) rfl rfl Tryd.func67 kr rfl #[.pointer (some ⟨g, 0, none⟩)] rfl q1 ?_; (with_reducible refine (spec_l01Byte.calls g s0_0 t337 t338 t339 t340 t341 w0 _ ?side1 ?side2 A10.out).mono ?_); (case side1 => exact q9); (case side2 => exact q7); rintro e w14 ⟨rfl, hi, hb, hk⟩; refine ⟨_, rfl, ?_⟩; replace HK := am (KeepBut.trans q8 hk (.inl rfl)); replace HB := am (hb); replace HI0 := am (hi); (try clear hb); (try clear hb2); (try clear hk); (try clear hi)))
 go_ret
 exact ⟨er, q9, q7, q8⟩

/-! ### spec_l01Size: function 60 -/
def spec_l01Size.f (l0 : List Int) (a1 : Int) : Option (Int) := if (wrap64 (2 + (wrap64 ((l0.length : Int) / 16)))) > a1 then (some a1) else (some (wrap64 (2 + (wrap64 ((l0.length : Int) / 16)))))
set_option maxHeartbeats 8000000 in
set_option maxRecDepth 100000 in
theorem spec_l01Size.calls (A0 : Option Addr) (c0 : Nat) (l0 : List Int) (a1 : Int) (r : Int) (w : World) (hr0 : Kd.C (Kd.int .u8) w A0 l0.length l0) (hc0 : l0.length ≤ c0) (h : spec_l01Size.f l0 a1 = some r) :
   Calls Tryd.prog 60 #[.slice A0 l0.length c0, .int .i64 a1] w fun e w' => e = .returned (.int .i64 r) ∧ Drawn0 w w' := by
 have HR0 := am hr0
 have HC0 := am hc0
 clear hr0 hc0
 have H : (if (wrap64 (2 + (wrap64 ((l0.length : Int) / 16)))) > a1 then (some a1) else (some (wrap64 (2 + (wrap64 ((l0.length : Int) / 16)))))) = some r := h
 clear h
 by_cases c3 : (wrap64 (2 + (wrap64 ((l0.length : Int) / 16)))) > a1
 · rw [if_pos c3] at H
   have c3b0 : decide (a1 < (wrap64 (2 + (wrap64 ((l0.length : Int) / 16))))) = true := decide_eq_true c3
   clear c3
   obtain rfl := sj H
   go_enter Tryd.func60, Tryd.ntmps60
   go_wp2
   go_ret
   exact ⟨by first | rfl | (simp; done) | (simp [*]; done), u11_33⟩
 rw [if_neg c3] at H
 have c3b0 : decide (a1 < (wrap64 (2 + (wrap64 ((l0.length : Int) / 16))))) = false := decide_eq_false c3
 clear c3
 obtain rfl := sj H
 go_enter Tryd.func60, Tryd.ntmps60
 go_wp2
 go_ret
 exact ⟨by first | rfl | (simp; done) | (simp [*]; done), u11_33⟩

end Go.Proofs.YtjdpifafijcpbaaDoor.QFnOnce
