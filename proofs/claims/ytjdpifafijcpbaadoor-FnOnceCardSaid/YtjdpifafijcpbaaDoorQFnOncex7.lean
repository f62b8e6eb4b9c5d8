-- Printed by the session's own program wip/prx.py.
import Derived.Test.YtjdpifafijcpbaaDoorSqFnOnce
import Derived.Test.YtjdpifafijcpbaaDoorQFnOncex0
import Derived.Test.YtjdpifafijcpbaaDoorQFnOncex6
namespace Go.Proofs.YtjdpifafijcpbaaDoor.QFnOnce
open Go.RowKit Go.Proofs.YtjdpifafijcpbaaDoorW.PrintWords Go.Proofs.YtjdpifafijcpbaaDoorW.PrintLast Go.Proofs.YtjdpifafijcpbaaDoorW.PrintMore Go.Proofs.YtjdpifafijcpbaaDoor.SqFnOnce
attribute [local go_sem] max2_int min2_int max_two min_two max_three min_three max_four min_four Go.Proofs.YtjdpifafijcpbaaDoor.Set.isSome_setCell
set_option linter.unusedVariables false
set_option linter.unusedSimpArgs false

-- squeezed
theorem u7_0 {P : Prop} (h : P := by (with_reducible repeat (first | refine blk_drewN ?_ _ | refine blk_drew ?_ | refine blk_alloc ?_ _)); refine blk_put (cs := #[.int .i64 ((rd_T54 l0_2 x34_2).f0), .int .i64 ((rd_T54 l0_2 x34_2).f1), .int .i64 ((rd_T54 l0_2 x34_2).f2), .string (⟨#[]⟩ : ByteArray)]) ?_ 3 _ rfl; (with_reducible repeat (first | refine blk_drewN ?_ _ | refine blk_drew ?_ | refine blk_alloc ?_ _)); refine blk_put (cs := #[.int .i64 ((rd_T54 l0_2 x34_2).f0), .int .i64 ((rd_T54 l0_2 x34_2).f1), .int .i64 0, .string (⟨#[]⟩ : ByteArray)]) ?_ 2 _ rfl; (with_reducible repeat (first | refine blk_drewN ?_ _ | refine blk_drew ?_ | refine blk_alloc ?_ _)); refine blk_put (cs := #[.int .i64 ((rd_T54 l0_2 x34_2).f0), .int .i64 0, .int .i64 0, .string (⟨#[]⟩ : ByteArray)]) ?_ 1 _ rfl; (with_reducible repeat (first | refine blk_drewN ?_ _ | refine blk_drew ?_ | refine blk_alloc ?_ _)); refine blk_put (cs := #[.int .i64 0, .int .i64 0, .int .i64 0, .string (⟨#[]⟩ : ByteArray)]) ?_ 0 _ rfl; (with_reducible repeat (first | refine blk_drewN ?_ _ | refine blk_drew ?_ | refine blk_alloc ?_ _)); exact BK244.out) : P := h
theorem u7_1 {P : Prop} (h : P := by (with_reducible repeat (first | refine blk_drewN ?_ _ | refine blk_drew ?_ | refine blk_alloc ?_ _)); refine blk_far ?_ NB242_244.out _; (with_reducible repeat (first | refine blk_drewN ?_ _ | refine blk_drew ?_ | refine blk_alloc ?_ _)); refine blk_far ?_ NB242_244.out _; (with_reducible repeat (first | refine blk_drewN ?_ _ | refine blk_drew ?_ | refine blk_alloc ?_ _)); refine blk_far ?_ NB242_244.out _; (with_reducible repeat (first | refine blk_drewN ?_ _ | refine blk_drew ?_ | refine blk_alloc ?_ _)); refine blk_far ?_ NB242_244.out _; (with_reducible repeat (first | refine blk_drewN ?_ _ | refine blk_drew ?_ | refine blk_alloc ?_ _)); exact BK242.out) : P := h
theorem u7_4 {P : Prop} (h : P := by (with_reducible repeat (first | refine blk_drewN ?_ _ | refine blk_drew ?_ | refine blk_alloc ?_ _)); exact BK242.out) : P := h
theorem u7_8 {P : Prop} (h : P := by (with_reducible repeat (first | refine blk_drewN ?_ _ | refine blk_drew ?_ | refine blk_alloc ?_ _)); exact BK244.out) : P := h
/-! ### impl_areSessions: function 35 -/
mutual
def impl_areSessions.j0 : Nat → Bool → Int → Int → List (S54) → Option (Bool)
 | 0, _, _, _, _ => none
 | k + 1, x30, x243000, x243001, x243002 => if x30 = true then (some false) else (impl_areSessions.l0 k x243002 (x243002.length : Int) 0 x243000 x243001 x243002)
def impl_areSessions.l0 : Nat → List (S54) → Int → Int → Int → Int → List (S54) → Option (Bool)
 | 0, _, _, _, _, _, _ => none
 | k + 1, x32, x33, x34, x243000, x243001, x243002 => if x34 < x33 then (if 0 ≤ x34 then (if x34 < (x32.length : Int) then (if ((rd_T54 x32 x34).f0) < 1 then (impl_areSessions.j2 k x34 x32 x33 x34 true x243000 x243001 x243002 ((rd_T54 x32 x34).f0) ((rd_T54 x32 x34).f1) ((rd_T54 x32 x34).f2) ((rd_T54 x32 x34).f3)) else (if ((rd_T54 x32 x34).f0) > 999 then (impl_areSessions.j2 k x34 x32 x33 x34 true x243000 x243001 x243002 ((rd_T54 x32 x34).f0) ((rd_T54 x32 x34).f1) ((rd_T54 x32 x34).f2) ((rd_T54 x32 x34).f3)) else (if ((rd_T54 x32 x34).f1) < 1 then (impl_areSessions.j2 k x34 x32 x33 x34 true x243000 x243001 x243002 ((rd_T54 x32 x34).f0) ((rd_T54 x32 x34).f1) ((rd_T54 x32 x34).f2) ((rd_T54 x32 x34).f3)) else (if ((rd_T54 x32 x34).f1) > 1000000 then (impl_areSessions.j2 k x34 x32 x33 x34 true x243000 x243001 x243002 ((rd_T54 x32 x34).f0) ((rd_T54 x32 x34).f1) ((rd_T54 x32 x34).f2) ((rd_T54 x32 x34).f3)) else (if ((rd_T54 x32 x34).f2) < 1 then (impl_areSessions.j2 k x34 x32 x33 x34 true x243000 x243001 x243002 ((rd_T54 x32 x34).f0) ((rd_T54 x32 x34).f1) ((rd_T54 x32 x34).f2) ((rd_T54 x32 x34).f3)) else (if ((rd_T54 x32 x34).f2) > x243001 then (impl_areSessions.j2 k x34 x32 x33 x34 true x243000 x243001 x243002 ((rd_T54 x32 x34).f0) ((rd_T54 x32 x34).f1) ((rd_T54 x32 x34).f2) ((rd_T54 x32 x34).f3)) else (impl_areSessions.j2 k x34 x32 x33 x34 (decide ((((rd_T54 x32 x34).f3).size : Int) > 40)) x243000 x243001 x243002 ((rd_T54 x32 x34).f0) ((rd_T54 x32 x34).f1) ((rd_T54 x32 x34).f2) ((rd_T54 x32 x34).f3)))))))) else (none)) else (none)) else (some true)
def impl_areSessions.j2 : Nat → Int → List (S54) → Int → Int → Bool → Int → Int → List (S54) → Int → Int → Int → ByteArray → Option (Bool)
 | 0, _, _, _, _, _, _, _, _, _, _, _, _ => none
 | k + 1, x3, x32, x33, x34, x74, x243000, x243001, x243002, x245000, x245001, x245002, x245003 => if x74 = true then (some false) else (if x3 > 0 then (if 0 ≤ (wrap64 (x3 - 1)) then (if (wrap64 (x3 - 1)) < (x243002.length : Int) then (if ((rd_T54 x243002 (wrap64 (x3 - 1))).f0) ≥ x245000 then (some false) else (if 0 ≤ x3 then (if x3 ≤ (x243002.length : Int) then ((impl_Session_54.f (x243002.take (x3 : Int).toNat) x245000 x245001 x245002 x245003).bind fun t250 => (if t250 = true then (some false) else (impl_areSessions.l0 k x32 x33 (wrap64 (x34 + 1)) x243000 x243001 x243002))) else (none)) else (none))) else (none)) else (none)) else (if 0 ≤ x3 then (if x3 ≤ (x243002.length : Int) then ((impl_Session_54.f (x243002.take (x3 : Int).toNat) x245000 x245001 x245002 x245003).bind fun t255 => (if t255 = true then (some false) else (impl_areSessions.l0 k x32 x33 (wrap64 (x34 + 1)) x243000 x243001 x243002))) else (none)) else (none)))
end
def impl_areSessions.f (k : Nat) (a0_0 : Int) (a0_1 : Int) (l0_2 : List (S54)) : Option (Bool) := if a0_0 < 1 then (impl_areSessions.j0 k true a0_0 a0_1 l0_2) else (if a0_0 > 12 then (impl_areSessions.j0 k true a0_0 a0_1 l0_2) else (if a0_1 < 0 then (impl_areSessions.j0 k true a0_0 a0_1 l0_2) else (if a0_1 > 1000000 then (impl_areSessions.j0 k true a0_0 a0_1 l0_2) else (impl_areSessions.j0 k (decide ((l0_2.length : Int) > a0_0)) a0_0 a0_1 l0_2))))
theorem impl_areSessions.mono_l : ∀ k, (∀ y0 y1 y2 y3, LeO (impl_areSessions.j0 k y0 y1 y2 y3) (impl_areSessions.j0 (k + 1) y0 y1 y2 y3)) ∧ (∀ y0 y1 y2 y3 y4 y5, LeO (impl_areSessions.l0 k y0 y1 y2 y3 y4 y5) (impl_areSessions.l0 (k + 1) y0 y1 y2 y3 y4 y5)) ∧ (∀ y0 y1 y2 y3 y4 y5 y6 y7 y8 y9 y10 y11, LeO (impl_areSessions.j2 k y0 y1 y2 y3 y4 y5 y6 y7 y8 y9 y10 y11) (impl_areSessions.j2 (k + 1) y0 y1 y2 y3 y4 y5 y6 y7 y8 y9 y10 y11))
 | 0 => ⟨fun _ _ _ _ r h => by simp [impl_areSessions.j0] at h, fun _ _ _ _ _ _ r h => by simp [impl_areSessions.l0] at h, fun _ _ _ _ _ _ _ _ _ _ _ _ r h => by simp [impl_areSessions.j2] at h⟩
 | k + 1 => by
   obtain ⟨ih0, ih1, ih2⟩ := impl_areSessions.mono_l k
   refine ⟨?_, ?_, ?_⟩ <;> intros <;> (first | unfold impl_areSessions.j0 | unfold impl_areSessions.l0 | unfold impl_areSessions.j2) <;> repeat' first
   | (with_reducible exact ih0 _ _ _ _)
   | (with_reducible exact ih1 _ _ _ _ _ _)
   | (with_reducible exact ih2 _ _ _ _ _ _ _ _ _ _ _ _)
   | (with_reducible exact LeO.refl _)
   | (with_reducible exact LeO.none _)
   | (with_reducible refine LeO.ite ?_ ?_)
   | (with_reducible refine LeO.bind ?_ (fun _ => ?_))
   | exact ih0 _ _ _ _
   | exact ih1 _ _ _ _ _ _
   | exact ih2 _ _ _ _ _ _ _ _ _ _ _ _
   | exact LeO.none _
   | refine LeO.ite ?_ ?_
   | refine LeO.bind ?_ (fun _ => ?_)
theorem impl_areSessions.mono : ∀ a0 a1 a2 k, LeO (impl_areSessions.f k a0 a1 a2) (impl_areSessions.f (k + 1) a0 a1 a2) := by
 intro a0 a1 a2 k
 obtain ⟨ih0, ih1, ih2⟩ := impl_areSessions.mono_l k
 unfold impl_areSessions.f
 repeat' first
     | (with_reducible exact ih0 _ _ _ _)
     | (with_reducible exact ih1 _ _ _ _ _ _)
     | (with_reducible exact ih2 _ _ _ _ _ _ _ _ _ _ _ _)
     | (with_reducible exact LeO.refl _)
     | (with_reducible exact LeO.none _)
     | (with_reducible refine LeO.ite ?_ ?_)
     | (with_reducible refine LeO.bind ?_ (fun _ => ?_))
     | exact ih0 _ _ _ _
     | exact ih1 _ _ _ _ _ _
     | exact ih2 _ _ _ _ _ _ _ _ _ _ _ _
     | exact LeO.none _
     | refine LeO.ite ?_ ?_
     | refine LeO.bind ?_ (fun _ => ?_)
def impl_areSessions.T8 : Bool × List (List Nat × List Nat) := (true, [([], []), ([0], [0]), ([1], [1]), ([2], [2]), ([3, 2], [2, 3]), ([2], [2]), ([5, 2], [2, 5]), ([4, 6, 2], [2, 4, 6]), ([7, 2], [2, 7]), ([8, 2], [2, 8]), ([2], [2]), ([10, 2], [2, 10]), ([9, 11, 2], [2, 9, 11]), ([2, 12], [2, 12]), ([13, 2], [13]), ([14], [14]), ([15, 14], [14, 15]), ([14], [14]), ([16, 17, 14], [14, 16, 17]), ([14], [14]), ([18, 19, 14, 14], [14, 18, 19]), ([14, 20], [14, 20])])
def impl_areSessions.B8 : List Nat := [0, 1, 3, 7, 15, 7, 39, 127, 255, 511, 7, 1031, 4095, 8191, 16383, 32767, 65535, 32767, 262143, 32767, 1048575, 2097151]
theorem impl_areSessions.tab8 : rtab .any (opsOf Tryd.f35 8) = impl_areSessions.T8 := by kernel_rfl
theorem impl_areSessions.bits8 : waitsOk impl_areSessions.T8.2 impl_areSessions.B8 = true := by kernel_rfl
set_option maxHeartbeats 8000000 in
set_option maxRecDepth 100000 in
theorem impl_areSessions.calls (k : Nat) (a0_0 : Int) (a0_1 : Int) (A0_2 : Option Addr) (c0_2 : Nat) (l0_2 : List (S54)) (r : Bool) (w : World) (hr0_2 : Kd.C k54 w A0_2 l0_2.length l0_2) (hc0_2 : l0_2.length ≤ c0_2) (h : impl_areSessions.f k a0_0 a0_1 l0_2 = some r) :
   Calls Tryd.prog 35 #[.agg #[.int .i64 a0_0, .int .i64 a0_1, .slice A0_2 l0_2.length c0_2]] w fun e w' => e = .returned (.bool r) ∧ Below w.heap.size w w' := by
 have hu30 := Tryd.underlying30
 have hu54 := Tryd.underlying54
 have HR0_2 := am hr0_2
 have HC0_2 := am hc0_2
 clear hr0_2 hc0_2
 have HB := am (Below.refl w.heap.size w)
 have H : (if a0_0 < 1 then (impl_areSessions.j0 k true a0_0 a0_1 l0_2) else (if a0_0 > 12 then (impl_areSessions.j0 k true a0_0 a0_1 l0_2) else (if a0_1 < 0 then (impl_areSessions.j0 k true a0_0 a0_1 l0_2) else (if a0_1 > 1000000 then (impl_areSessions.j0 k true a0_0 a0_1 l0_2) else (impl_areSessions.j0 k (decide ((l0_2.length : Int) > a0_0)) a0_0 a0_1 l0_2))))) = some r := h
 clear h
 have HC2 := am H
 clear H
 go_enter Tryd.func35, Tryd.ntmps35
 go_upto_region 1 with (first | ((with_reducible refine gate_dst (N := 1) rfl ?_); (try (refine gate_guard (by rfl) ?_; dsimp only)); refine box_event ?hg (N := 1) ?hd (cs := #[.int .i64 a0_0, .int .i64 a0_1, .slice A0_2 l0_2.length c0_2]) (t := 30) ?hr ?_; (case hd => rfl); (case hg => rfl); (case hr => first | (go_simp; done) | (go_simp; rfl)); intro gb242 hg w3 hbox hb; have BK242 := am (hbox); have GW242 := am ((by rw [hg]; exact (below_size q0) : w.heap.size ≤ gb242)); have GE242 := am ((by rw [hg]; exact (below_size q0) : w.heap.size ≤ gb242)); replace HB := am (below_step q0 hb); clear hb hbox hg))
 (try simp only [Act.put, la, lb, lc])
 go_cut [30] (fun v30 wc => ∃ (kq : Nat) (x30_1 : Bool), v30 = .bool x30_1 ∧ Aside0 (impl_areSessions.j0 kq x30_1 a0_0 a0_1 l0_2 = some r) ∧ Aside0 (kq ≤ k) ∧ Aside0 (wc.heap[gb242]? = some (.cells #[.int .i64 a0_0, .int .i64 a0_1, (.slice A0_2 l0_2.length c0_2)] 30 (0, 0))) ∧ Aside0 (Below w.heap.size w wc))
 case first =>
   have H := HC2.out
   clear HC2
   by_cases c4 : a0_0 < 1
   · rw [if_pos c4] at H
     have c4b0 : decide (a0_0 < 1) = true := decide_eq_true c4
     clear c4
     (first | rw [c4b0] | (simp only [i64_w, i32_w]; rw [c4b0]) | skip)
     have H' := am H
     clear H
     obtain ⟨hcz5_0, hcz5_1, hcz5_2⟩ := bc3 w3 BK242.out
     go_wp2
     go_meet
     case rel => exact ⟨_, (true), q4, H', ⟨by first | omega | exact Nat.le_refl _⟩, ⟨u7_4⟩, ⟨q0⟩⟩
   rw [if_neg c4] at H
   have c4b0 : decide (a0_0 < 1) = false := decide_eq_false c4
   clear c4
   (first | rw [c4b0] | (simp only [i64_w, i32_w]; rw [c4b0]) | skip)
   by_cases c6 : a0_0 > 12
   · rw [if_pos c6] at H
     have c6b0 : decide (12 < a0_0) = true := decide_eq_true c6
     clear c6
     have H' := am H
     clear H
     obtain ⟨hcz7_0, hcz7_1, hcz7_2⟩ := bc3 w3 BK242.out
     go_wp2
     go_meet
     case rel => exact ⟨_, (true), q4, H', ⟨by first | omega | exact Nat.le_refl _⟩, ⟨u7_4⟩, ⟨q0⟩⟩
   rw [if_neg c6] at H
   have c6b0 : decide (12 < a0_0) = false := decide_eq_false c6
   clear c6
   by_cases c8 : a0_1 < 0
   · rw [if_pos c8] at H
     have c8b0 : decide (a0_1 < 0) = true := decide_eq_true c8
     clear c8
     have H' := am H
     clear H
     obtain ⟨hcz9_0, hcz9_1, hcz9_2⟩ := bc3 w3 BK242.out
     go_wp2
     go_meet
     case rel => exact ⟨_, (true), q4, H', ⟨by first | omega | exact Nat.le_refl _⟩, ⟨u7_4⟩, ⟨q0⟩⟩
   rw [if_neg c8] at H
   have c8b0 : decide (a0_1 < 0) = false := decide_eq_false c8
   clear c8
   by_cases c10 : a0_1 > 1000000
   · rw [if_pos c10] at H
     have c10b0 : decide (1000000 < a0_1) = true := decide_eq_true c10
     clear c10
     have H' := am H
     clear H
     obtain ⟨hcz11_0, hcz11_1, hcz11_2⟩ := bc3 w3 BK242.out
     go_wp2
     go_meet
     case rel => exact ⟨_, (true), q4, H', ⟨by first | omega | exact Nat.le_refl _⟩, ⟨u7_4⟩, ⟨q0⟩⟩
   rw [if_neg c10] at H
   have c10b0 : decide (1000000 < a0_1) = false := decide_eq_false c10
   clear c10
   have H' := am H
   clear H
   obtain ⟨hcz12_0, hcz12_1, hcz12_2⟩ := bc3 w3 BK242.out
   go_wp2
   go_meet
   case rel => exact ⟨_, (decide ((l0_2.length : Int) > a0_0)), q4, H', ⟨by first | omega | exact Nat.le_refl _⟩, ⟨u7_4⟩, ⟨q0⟩⟩
 clear HC2
 obtain ⟨kq, x30_1, rfl, HA, HJ1, BK242, HB⟩ := hcut
 cases kq with
 | zero => exact absurd HA.out (by simp [impl_areSessions.j0])
 | succ kj1 =>
   have H := HA.out
   clear HA
   simp only [impl_areSessions.j0] at H
   by_cases c13 : x30_1 = true
   · subst c13
     rw [if_pos rfl] at H
     obtain rfl := sj H
     go_wp2
     go_ret
     exact ⟨er, q0⟩
   replace c13 := Bool.eq_false_iff.mpr c13
   subst c13
   rw [nf] at H
   have H' := am H
   clear H
   obtain ⟨hcz14_0, hcz14_1, hcz14_2⟩ := bc3 wc BK242.out
   go_wp2
   go_loopg [34] kj1 (fun kq v34 w' => ∃ (x34_2 : Int), v34 = .int .i64 x34_2 ∧ Aside0 (impl_areSessions.l0 kq l0_2 (l0_2.length : Int) x34_2 a0_0 a0_1 l0_2 = some r) ∧ Aside0 (kq ≤ kj1) ∧ Aside0 (w'.heap[gb242]? = some (.cells #[.int .i64 a0_0, .int .i64 a0_1, (.slice A0_2 l0_2.length c0_2)] 30 (0, 0))) ∧ Aside0 (Below w.heap.size w w'))
   case atStart => exact ⟨(0), q4, H', ⟨Nat.le_refl _⟩, ⟨u7_4⟩, ⟨q0⟩⟩
   clear H'
   try clear c13
   try clear hcz14_0
   try clear hcz14_1
   try clear hcz14_2
   obtain ⟨x34_2, rfl, HA, HK2, BK242, HB⟩ := hrel
   cases gk with
   | zero => exact absurd HA.out (by simp [impl_areSessions.l0])
   | succ k2 =>
     have H := HA.out
     clear HA
     simp only [impl_areSessions.l0] at H
     by_cases c15 : x34_2 < (l0_2.length : Int)
     rotate_left
     · rw [if_neg c15] at H
       have c15b0 : decide (x34_2 < (l0_2.length : Int)) = false := decide_eq_false c15
       clear c15
       obtain rfl := sj H
       go_wp2
       go_ret
       exact ⟨er, q0⟩
     rw [if_pos c15] at H
     have c15b0 : decide (x34_2 < (l0_2.length : Int)) = true := decide_eq_true c15
     clear c15
     by_cases c16 : 0 ≤ x34_2
     rotate_left
     · rw [if_neg c16] at H
       exact absurd H (by simp)
     rw [if_pos c16] at H
     have c16b0 : decide (0 ≤ x34_2) = true := decide_eq_true c16
     clear c16
     by_cases c17 : x34_2 < (l0_2.length : Int)
     rotate_left
     · rw [if_neg c17] at H
       exact absurd H (by simp)
     rw [if_pos c17] at H
     have c17b0 : decide (x34_2 < (l0_2.length : Int)) = true := decide_eq_true c17
     clear c17
     have HC18 := am H
     clear H
     have p243 : 0 ≤ (x34_2 : Int) := of_decide_eq_true q3
     have q243 : x34_2 < (l0_2.length : Int) := of_decide_eq_true q3
     obtain ⟨ad243, e243, hx243_0, hx243_1, hx243_2, hx243_3⟩ := at_T54 HR0_2.out x34_2 p243 q243
     cases e243
     replace hx243_0 := cm HB.out hx243_0
     replace hx243_1 := cm HB.out hx243_1
     replace hx243_2 := cm HB.out hx243_2
     replace hx243_3 := cm HB.out hx243_3
     replace p243 := eq_true p243
     replace q243 := eq_true q243
     go_upto_region 6 with (first | ((with_reducible refine gate_dst (N := 4) rfl ?_); (try (refine gate_guard (by rfl) ?_; dsimp only)); refine box_event ?hg (N := 4) ?hd (cs := #[.int .i64 0, .int .i64 0, .int .i64 0, .string (⟨#[]⟩ : ByteArray)]) (t := 54) ?hr ?_; (case hd => rfl); (case hg => rfl); (case hr => first | (go_simp; done) | (go_simp; rfl)); intro gb244 hg w19 hbox hb; have BK244 := am (hbox); have GW244 := am ((by rw [hg]; exact (below_size q0) : w.heap.size ≤ gb244)); have GE244 := am ((by rw [hg]; exact (below_size q0) : w.heap.size ≤ gb244)); replace HB := am (below_step q0 hb); have NB242_244 := am ((by rw [hg]; exact Nat.ne_of_lt (blk_lt (g := gb242) (o := .cells #[.int .i64 a0_0, .int .i64 a0_1, .slice (some ad243) l0_2.length c0_2] 30 (0, 0)) u7_4) : gb242 ≠ gb244)); have NB244_242 := am ((by rw [hg]; exact Nat.ne_of_gt (blk_lt (g := gb242) (o := .cells #[.int .i64 a0_0, .int .i64 a0_1, .slice (some ad243) l0_2.length c0_2] 30 (0, 0)) u7_4) : gb244 ≠ gb242)); replace BK242 := am (blk_below (g := gb242) (o := .cells #[.int .i64 a0_0, .int .i64 a0_1, .slice (some ad243) l0_2.length c0_2] 30 (0, 0)) u7_4 hb); clear hb hbox hg; have hnb20 := NB244_242.out; have hnc20 := NB242_244.out; obtain ⟨hcz21_0, hcz21_1, hcz21_2, hcz21_3, hfz21_0, hfz21_1, hfz21_2, hfz21_3⟩ := bc4f w19 BK244.out))
     (try simp only [Act.put, la, lb, lc])
     go_cut [74] (fun v74 wc => ∃ (kq : Nat) (x74_17 : Bool), v74 = .bool x74_17 ∧ Aside0 (impl_areSessions.j2 kq x34_2 l0_2 (l0_2.length : Int) x34_2 x74_17 a0_0 a0_1 l0_2 ((rd_T54 l0_2 x34_2).f0) ((rd_T54 l0_2 x34_2).f1) ((rd_T54 l0_2 x34_2).f2) ((rd_T54 l0_2 x34_2).f3) = some r) ∧ Aside0 (kq ≤ k2) ∧ Aside0 (wc.heap[gb242]? = some (.cells #[.int .i64 a0_0, .int .i64 a0_1, (.slice (some ad243) l0_2.length c0_2)] 30 (0, 0))) ∧ Aside0 (wc.heap[gb244]? = some (.cells #[.int .i64 ((rd_T54 l0_2 x34_2).f0), .int .i64 ((rd_T54 l0_2 x34_2).f1), .int .i64 ((rd_T54 l0_2 x34_2).f2), .string ((rd_T54 l0_2 x34_2).f3)] 54 (0, 0))) ∧ Aside0 (Below w.heap.size w wc))
     case first =>
       have H := HC18.out
       clear HC18
       by_cases c22 : ((rd_T54 l0_2 x34_2).f0) < 1
       · rw [if_pos c22] at H
         have c22b0 : decide (((rd_T54 l0_2 x34_2).f0) < 1) = true := decide_eq_true c22
         clear c22
         (first | rw [c22b0] | (simp only [i64_w, i32_w]; rw [c22b0]) | skip)
         have H' := am H
         clear H
         have hnb23 := NB244_242.out
         have hnc23 := NB242_244.out
         obtain ⟨hcz24_0, hcz24_1, hcz24_2, hcz24_3, hfz24_0, hfz24_1, hfz24_2, hfz24_3⟩ := bc4f w19 BK244.out
         go_wp2
         go_meet
         case rel => exact ⟨_, (true), q4, H', ⟨q2⟩, ⟨u7_1⟩, ⟨u7_0⟩, ⟨q0⟩⟩
       rw [if_neg c22] at H
       have c22b0 : decide (((rd_T54 l0_2 x34_2).f0) < 1) = false := decide_eq_false c22
       clear c22
       (first | rw [c22b0] | (simp only [i64_w, i32_w]; rw [c22b0]) | skip)
       by_cases c25 : ((rd_T54 l0_2 x34_2).f0) > 999
       · rw [if_pos c25] at H
         have c25b0 : decide (999 < ((rd_T54 l0_2 x34_2).f0)) = true := decide_eq_true c25
         clear c25
         have H' := am H
         clear H
         have hnb26 := NB244_242.out
         have hnc26 := NB242_244.out
         obtain ⟨hcz27_0, hcz27_1, hcz27_2, hcz27_3, hfz27_0, hfz27_1, hfz27_2, hfz27_3⟩ := bc4f w19 BK244.out
         go_wp2
         go_meet
         case rel => exact ⟨_, (true), q4, H', ⟨q2⟩, ⟨u7_1⟩, ⟨u7_0⟩, ⟨q0⟩⟩
       rw [if_neg c25] at H
       have c25b0 : decide (999 < ((rd_T54 l0_2 x34_2).f0)) = false := decide_eq_false c25
       clear c25
       by_cases c28 : ((rd_T54 l0_2 x34_2).f1) < 1
       · rw [if_pos c28] at H
         have c28b0 : decide (((rd_T54 l0_2 x34_2).f1) < 1) = true := decide_eq_true c28
         clear c28
         have H' := am H
         clear H
         have hnb29 := NB244_242.out
         have hnc29 := NB242_244.out
         obtain ⟨hcz30_0, hcz30_1, hcz30_2, hcz30_3, hfz30_0, hfz30_1, hfz30_2, hfz30_3⟩ := bc4f w19 BK244.out
         go_wp2
         go_meet
         case rel => exact ⟨_, (true), q4, H', ⟨q2⟩, ⟨u7_1⟩, ⟨u7_0⟩, ⟨q0⟩⟩
       rw [if_neg c28] at H
       have c28b0 : decide (((rd_T54 l0_2 x34_2).f1) < 1) = false := decide_eq_false c28
       clear c28
       by_cases c31 : ((rd_T54 l0_2 x34_2).f1) > 1000000
       · rw [if_pos c31] at H
         have c31b0 : decide (1000000 < ((rd_T54 l0_2 x34_2).f1)) = true := decide_eq_true c31
         clear c31
         have H' := am H
         clear H
         have hnb32 := NB244_242.out
         have hnc32 := NB242_244.out
         obtain ⟨hcz33_0, hcz33_1, hcz33_2, hcz33_3, hfz33_0, hfz33_1, hfz33_2, hfz33_3⟩ := bc4f w19 BK244.out
         go_wp2
         go_meet
         case rel => exact ⟨_, (true), q4, H', ⟨q2⟩, ⟨u7_1⟩, ⟨u7_0⟩, ⟨q0⟩⟩
       rw [if_neg c31] at H
       have c31b0 : decide (1000000 < ((rd_T54 l0_2 x34_2).f1)) = false := decide_eq_false c31
       clear c31
       by_cases c34 : ((rd_T54 l0_2 x34_2).f2) < 1
       · rw [if_pos c34] at H
         have c34b0 : decide (((rd_T54 l0_2 x34_2).f2) < 1) = true := decide_eq_true c34
         clear c34
         have H' := am H
         clear H
         have hnb35 := NB244_242.out
         have hnc35 := NB242_244.out
         obtain ⟨hcz36_0, hcz36_1, hcz36_2, hcz36_3, hfz36_0, hfz36_1, hfz36_2, hfz36_3⟩ := bc4f w19 BK244.out
         go_wp2
         go_meet
         case rel => exact ⟨_, (true), q4, H', ⟨q2⟩, ⟨u7_1⟩, ⟨u7_0⟩, ⟨q0⟩⟩
       rw [if_neg c34] at H
       have c34b0 : decide (((rd_T54 l0_2 x34_2).f2) < 1) = false := decide_eq_false c34
       clear c34
       by_cases c37 : ((rd_T54 l0_2 x34_2).f2) > a0_1
       · rw [if_pos c37] at H
         have c37b0 : decide (a0_1 < ((rd_T54 l0_2 x34_2).f2)) = true := decide_eq_true c37
         clear c37
         have H' := am H
         clear H
         have hnb38 := NB244_242.out
         have hnc38 := NB242_244.out
         obtain ⟨hcz39_0, hcz39_1, hcz39_2, hcz39_3, hfz39_0, hfz39_1, hfz39_2, hfz39_3⟩ := bc4f w19 BK244.out
         obtain ⟨hcz40_0, hcz40_1, hcz40_2⟩ := bc3 w19 BK242.out
         go_wp2
         go_meet
         case rel => exact ⟨_, (true), q4, H', ⟨q2⟩, ⟨u7_1⟩, ⟨u7_0⟩, ⟨q0⟩⟩
       rw [if_neg c37] at H
       have c37b0 : decide (a0_1 < ((rd_T54 l0_2 x34_2).f2)) = false := decide_eq_false c37
       clear c37
       have H' := am H
       clear H
       have hnb41 := NB244_242.out
       have hnc41 := NB242_244.out
       obtain ⟨hcz42_0, hcz42_1, hcz42_2, hcz42_3, hfz42_0, hfz42_1, hfz42_2, hfz42_3⟩ := bc4f w19 BK244.out
       obtain ⟨hcz43_0, hcz43_1, hcz43_2⟩ := bc3 w19 BK242.out
       go_wp2
       go_meet
       case rel => exact ⟨_, (decide ((((rd_T54 l0_2 x34_2).f3).size : Int) > 40)), q4, H', ⟨q2⟩, ⟨u7_1⟩, ⟨u7_0⟩, ⟨q0⟩⟩
     clear HC18
     try clear c13
     try clear c15
     try clear c15b0
     try clear c16
     try clear c16b0
     try clear c17
     try clear c17b0
     try clear hcz14_0
     try clear hcz14_1
     try clear hcz14_2
     try clear hcz21_0
     try clear hcz21_1
     try clear hcz21_2
     try clear hcz21_3
     try clear hfz21_0
     try clear hfz21_1
     try clear hfz21_2
     try clear hfz21_3
     try clear hx243_0
     try clear hx243_1
     try clear hx243_2
     try clear hx243_3
     try clear p243
     try clear q243
     obtain ⟨kq, x74_17, rfl, HA, HJ17, BK242, BK244, HB⟩ := hcut
     cases kq with
     | zero => exact absurd HA.out (by simp [impl_areSessions.j2])
     | succ kj17 =>
       have H := HA.out
       clear HA
       simp only [impl_areSessions.j2] at H
       by_cases c44 : x74_17 = true
       · subst c44
         rw [if_pos rfl] at H
         obtain rfl := sj H
         go_wp2
         go_ret
         exact ⟨er, q0⟩
       replace c44 := Bool.eq_false_iff.mpr c44
       subst c44
       rw [nf] at H
       by_cases c45 : x34_2 > 0
       rotate_left
       · rw [if_neg c45] at H
         have c45b0 : decide (0 < x34_2) = false := decide_eq_false c45
         clear c45
         by_cases c58 : 0 ≤ x34_2
         rotate_left
         · rw [if_neg c58] at H
           exact absurd H (by simp)
         rw [if_pos c58] at H
         have c58b0 := eq_true c58
         have c58b1 : decide (0 ≤ x34_2) = true := decide_eq_true c58
         clear c58
         by_cases c59 : x34_2 ≤ (l0_2.length : Int)
         rotate_left
         · rw [if_neg c59] at H
           exact absurd H (by simp)
         rw [if_pos c59] at H
         have c59b0 := eq_true c59
         have c59b1 : decide (x34_2 ≤ (l0_2.length : Int)) = true := decide_eq_true c59
         clear c59
         obtain ⟨y251, hy251⟩ : ∃ y_ : List (S54), y_ = (l0_2.take (x34_2 : Int).toNat) := ⟨_, rfl⟩
         replace H : ((impl_Session_54.f y251 ((rd_T54 l0_2 x34_2).f0) ((rd_T54 l0_2 x34_2).f1) ((rd_T54 l0_2 x34_2).f2) ((rd_T54 l0_2 x34_2).f3)).bind fun t255 => (if t255 = true then (some false) else (impl_areSessions.l0 kj17 l0_2 (l0_2.length : Int) (wrap64 (x34_2 + 1)) a0_0 a0_1 l0_2))) = some r := by first | (rw [hy251]; with_reducible exact H) | (have H2_ := (Option.bind_some _ _).symm.trans H; rw [hy251]; with_reducible exact H2_) | (have H2_ := (Option.bind_some _ _).symm.trans H; with_reducible exact H2_) | with_reducible exact H | (rw [hy251]; exact H) | exact H
         have Ny251 := am hy251
         clear hy251
         replace H := Option.bind_eq_some_iff.mp H
         obtain ⟨t255, A600, H⟩ := H
         have A60 := am A600
         clear A600
         have H9 := am H
         clear H
         try go_wp2
         replace BK242 := am (blk_drew BK242.out)
         replace BK244 := am (blk_drew BK244.out)
         replace HB := am (below_drew1 HB.out)
         have q62 : (x34_2 : Int) ≤ ((l0_2.length : Int) : Int) := of_decide_eq_true q3
         obtain ⟨i062, hi062, _, hsz62, _⟩ := info_parts info54
         have hroom62 : l0_2.length ≤ c0_2 := HC0_2.out
         have hC62 : Kd.C k54 _ (some ad243) l0_2.length l0_2 := HR0_2.out
         have hcut62 := cut_to (P := Tryd.prog) 28 54 .i64 Tryd.underlying28 hi062 (some ad243) l0_2.length c0_2 x34_2 (of_decide_eq_true q3) q62 hroom62
         have hr62 := Kd.C_take (m := (x34_2 : Int).toNat) hC62 (by omega)
         have hy62 : y251.length = (x34_2 : Int).toNat := (by rw [Ny251.out, List.length_take]; omega)
         rw [← Ny251.out] at hr62
         rw [← hy62] at hcut62
         have HR254 := am hr62
         have HC254 := am (show y251.length ≤ c0_2 from by omega)
         clear hr62 hC62 hroom62 hi062 hsz62
         have KY62 := am hy62
         clear hy62
         replace q62 := eq_true q62
         refine start_ (n := 22) (S := fun w' => w'.cell? ⟨gb242, 0, none⟩ = some (.int .i64 a0_0) ∧ w'.cell? ⟨gb242, 1, none⟩ = some (.int .i64 a0_1) ∧ w'.cell? ⟨gb242, 2, none⟩ = some (.slice (some ad243) l0_2.length c0_2)) (ds := []) b0_22 kr rfl rfl ⟨(blk_cell BK242.out 0).trans rfl, (blk_cell BK242.out 1).trans rfl, (blk_cell BK242.out 2).trans rfl⟩ (fun hHeld => ?_); refine with_tabW impl_areSessions.tab8 impl_areSessions.bits8 (fun HT_ HW_ => ?_)
         generalize wc.drew = w61 at BK242 BK244 HB HR254 hHeld ⊢
         refine pV 0 75 (bt 1 22) ?_
         refine pV 1 76 (bt 2 22) ?_
         refine pV 2 77 (bt 3 22) ?_
         refine pU 3 78 (bt 4 22) ?_
         refine pU 4 79 (bt 5 22) ?_
         refine pU 5 80 (bt 6 22) ?_
         refine pU 6 81 (bt 7 22) ?_
         refine pU 7 82 (bt 8 22) ?_
         refine pU 8 83 (bt 9 22) ?_
         refine pU 9 84 (bt 10 22) ?_
         refine pU 10 85 (bt 11 22) ?_
         refine pU 11 86 (bt 12 22) ?_
         refine pU 12 87 (bt 13 22) ?_
         refine pV 13 88 (bt 14 22) ?_
         refine pV 14 89 (bt 15 22) ?_
         refine pV 15 90 (bt 16 22) ?_
         refine pV 17 92 #[true, true, true, true, true, true, true, true, true, true, true, true, true, true, true, true, false, true, false, false, false, false] ?_
         refine pV 19 94 #[true, true, true, true, true, true, true, true, true, true, true, true, true, true, true, true, false, true, false, true, false, false] ?_
         refine tV 16 91 #[true, true, true, true, true, true, true, true, true, true, true, true, true, true, true, true, true, true, false, true, false, false] ?_
         refine pV 18 93 (bt 20 22) ?_
         refine one_ (i := 20) (N := some 95) b21_22 rfl rfl (one_of HT_.out kr) (by decide) (fun K hK => ?_)
         refine goes_ Tryd.func54 kr rfl #[.slice (some ad243) y251.length c0_2, .func (.func 55) #[] #[.pointer (some ⟨gb244, 0, none⟩)]] (by rfl) rfl rfl q1 ?_
         with_reducible refine (impl_Session_54.calls _ _ y251 ((rd_T54 l0_2 x34_2).f0) ((rd_T54 l0_2 x34_2).f1) ((rd_T54 l0_2 x34_2).f2) ((rd_T54 l0_2 x34_2).f3) t255 _ ?side1 ?side2 ?side3 A60.out).mono ?_
         (case side1 => exact (by repeat (first | exact (Kd.C_below HR254.out HB.out) | (with_reducible refine Kd.C_alloc ?_ _) | (with_reducible refine Kd.C_drewN ?_ _) | (with_reducible refine Kd.C_drew ?_))))
         (case side2 => exact HC254.out)
         (case side3 => exact (by exact u7_8))
         rintro e w63 ⟨rfl, hb⟩
         refine ⟨_, rfl, ?_⟩
         replace BK242 := am (blk_below (g := gb242) (o := .cells #[.int .i64 a0_0, .int .i64 a0_1, .slice (some ad243) l0_2.length c0_2] 30 (0, 0)) u7_4 hb)
         replace BK244 := am (blk_below (g := gb244) (o := .cells #[.int .i64 ((rd_T54 l0_2 x34_2).f0), .int .i64 ((rd_T54 l0_2 x34_2).f1), .int .i64 ((rd_T54 l0_2 x34_2).f2), .string ((rd_T54 l0_2 x34_2).f3)] 54 (0, 0)) u7_8 hb)
         replace HB := am (below_step q0 hb)
         (try clear hb)
         (try clear hb2)
         (try clear hk)
         (try clear hi)
         refine hK.out _ _ ⟨(blk_cell BK242.out 0).trans rfl, (blk_cell BK242.out 1).trans rfl, (blk_cell BK242.out 2).trans rfl⟩ (fun hHeld => ?_)
         clear hK K
         refine norm_ (a' := ?_) ?_ ?_
         rotate_left
         · show Act.put _ (some 95) _ = _
           simp only [Act.put, la, lb, lc, i64_w, i32_w]
           rfl
         refine pV 21 96 (bt 22 22) ?_
         refine done_ (done_of HT_.out kr) ?_
         go_upto_if 96 with (fail)
         have H := H9.out
         clear H9
         by_cases c64 : t255 = true
         · subst c64
           rw [if_pos rfl] at H
           obtain rfl := sj H
           go_wp2
           go_ret
           exact ⟨er, q0⟩
         replace c64 := Bool.eq_false_iff.mpr c64
         subst c64
         rw [nf] at H
         have H' := am H
         clear H
         go_wp2
         go_roundg kj17
         case measure => have := HJ1.out; have := HK2.out; have := HJ17.out; omega
         case rel => exact ⟨(wrap64 (x34_2 + 1)), q4, H', ⟨(by have := HJ1.out; have := HK2.out; have := HJ17.out; omega)⟩, ⟨u7_4⟩, ⟨q0⟩⟩
       rw [if_pos c45] at H
       have c45b0 : decide (0 < x34_2) = true := decide_eq_true c45
       clear c45
       obtain ⟨ji46, hji46⟩ : ∃ j_ : Int, (wrap64 (x34_2 - 1)) = j_ := ⟨_, rfl⟩
       replace H : (if 0 ≤ (ji46) then (if (ji46) < (l0_2.length : Int) then (if ((rd_T54 l0_2 (ji46)).f0) ≥ ((rd_T54 l0_2 x34_2).f0) then (some false) else (if 0 ≤ x34_2 then (if x34_2 ≤ (l0_2.length : Int) then ((impl_Session_54.f (l0_2.take (x34_2 : Int).toNat) ((rd_T54 l0_2 x34_2).f0) ((rd_T54 l0_2 x34_2).f1) ((rd_T54 l0_2 x34_2).f2) ((rd_T54 l0_2 x34_2).f3)).bind fun t250 => (if t250 = true then (some false) else (impl_areSessions.l0 kj17 l0_2 (l0_2.length : Int) (wrap64 (x34_2 + 1)) a0_0 a0_1 l0_2))) else (none)) else (none))) else (none)) else (none)) = some r := by first | (rw [hji46] at H; exact H) | (simp only [hji46] at H ⊢; exact H)
       have hji46w : (IntKind.i64.wrap (x34_2 - 1)) = ji46 := (i64_w _).trans hji46
       by_cases c47 : 0 ≤ (ji46)
       rotate_left
       · rw [if_neg c47] at H
         exact absurd H (by simp)
       rw [if_pos c47] at H
       have c47b0 : decide (0 ≤ (ji46)) = true := decide_eq_true c47
       clear c47
       by_cases c48 : (ji46) < (l0_2.length : Int)
       rotate_left
       · rw [if_neg c48] at H
         exact absurd H (by simp)
       rw [if_pos c48] at H
       have c48b0 : decide ((ji46) < (l0_2.length : Int)) = true := decide_eq_true c48
       clear c48
       by_cases c49 : ((rd_T54 l0_2 (ji46)).f0) ≥ ((rd_T54 l0_2 x34_2).f0)
       · rw [if_pos c49] at H
         have c49b0 : decide (((rd_T54 l0_2 x34_2).f0) ≤ ((rd_T54 l0_2 (ji46)).f0)) = true := decide_eq_true c49
         clear c49
         obtain rfl := sj H
         try go_wp2
         replace BK242 := am (blk_drew BK242.out)
         replace BK244 := am (blk_drew BK244.out)
         replace HB := am (below_drew1 HB.out)
         have p245 : 0 ≤ ((ji46) : Int) := of_decide_eq_true q3
         have q245 : (ji46) < (l0_2.length : Int) := of_decide_eq_true q3
         obtain ⟨ad245, e245, hx245_0, hx245_1, hx245_2, hx245_3⟩ := at_T54 HR0_2.out (ji46) p245 q245
         have hw245_3 := hx245_3
         have hw245_2 := hx245_2
         have hw245_1 := hx245_1
         have hw245_0 := hx245_0
         obtain rfl : ad243 = ad245 := (by injection e245)
         replace hx245_0 := cm HB.out hx245_0
         replace hx245_1 := cm HB.out hx245_1
         replace hx245_2 := cm HB.out hx245_2
         replace hx245_3 := cm HB.out hx245_3
         replace p245 := eq_true p245
         replace q245 := eq_true q245
         refine start_ (n := 22) (S := fun w' => w'.cell? ⟨gb242, 0, none⟩ = some (.int .i64 a0_0) ∧ w'.cell? ⟨gb242, 1, none⟩ = some (.int .i64 a0_1) ∧ w'.cell? ⟨gb242, 2, none⟩ = some (.slice (some ad243) l0_2.length c0_2) ∧ w'.cell? ⟨gb244, 0, none⟩ = some (.int .i64 ((rd_T54 l0_2 x34_2).f0)) ∧ w'.cell? ⟨gb244, 1, none⟩ = some (.int .i64 ((rd_T54 l0_2 x34_2).f1)) ∧ w'.cell? ⟨gb244, 2, none⟩ = some (.int .i64 ((rd_T54 l0_2 x34_2).f2)) ∧ w'.cell? ⟨gb244, 3, none⟩ = some (.string ((rd_T54 l0_2 x34_2).f3)) ∧ w'.cell? (ad243.add (((ji46)).toNat * 4)) = some (.int .i64 ((rd_T54 l0_2 (ji46)).f0)) ∧ w'.cell? ⟨(ad243.add (((ji46)).toNat * 4)).block, (ad243.add (((ji46)).toNat * 4)).off + 1, none⟩ = some (.int .i64 ((rd_T54 l0_2 (ji46)).f1)) ∧ w'.cell? ⟨(ad243.add (((ji46)).toNat * 4)).block, (ad243.add (((ji46)).toNat * 4)).off + 2, none⟩ = some (.int .i64 ((rd_T54 l0_2 (ji46)).f2)) ∧ w'.cell? ⟨(ad243.add (((ji46)).toNat * 4)).block, (ad243.add (((ji46)).toNat * 4)).off + 3, none⟩ = some (.string ((rd_T54 l0_2 (ji46)).f3))) (ds := []) b0_22 kr rfl rfl ⟨(blk_cell BK242.out 0).trans rfl, (blk_cell BK242.out 1).trans rfl, (blk_cell BK242.out 2).trans rfl, (blk_cell BK244.out 0).trans rfl, (blk_cell BK244.out 1).trans rfl, (blk_cell BK244.out 2).trans rfl, (blk_cell BK244.out 3).trans rfl, (cm HB.out hw245_0), (cm HB.out hw245_1), (cm HB.out hw245_2), (cm HB.out hw245_3)⟩ (fun hHeld => ?_); refine with_tabW impl_areSessions.tab8 impl_areSessions.bits8 (fun HT_ HW_ => ?_)
         generalize wc.drew = w50 at BK242 BK244 HB hx245_0 hx245_1 hx245_2 hx245_3 hHeld ⊢
         refine pV 0 75 (bt 1 22) ?_
         refine pV 1 76 (bt 2 22) ?_
         refine pV 2 77 (bt 3 22) ?_
         refine pV 3 78 (bt 4 22) ?_
         refine pV 5 80 #[true, true, true, true, false, true, false, false, false, false, false, false, false, false, false, false, false, false, false, false, false, false] ?_
         refine pV 6 81 #[true, true, true, true, false, true, true, false, false, false, false, false, false, false, false, false, false, false, false, false, false, false] ?_
         refine pV 10 85 #[true, true, true, true, false, true, true, false, false, false, true, false, false, false, false, false, false, false, false, false, false, false] ?_
         refine tV 4 79 #[true, true, true, true, true, true, true, false, false, false, true, false, false, false, false, false, false, false, false, false, false, false] ?_
         refine pV 7 82 #[true, true, true, true, true, true, true, true, false, false, true, false, false, false, false, false, false, false, false, false, false, false] ?_
         refine pV 8 83 #[true, true, true, true, true, true, true, true, true, false, true, false, false, false, false, false, false, false, false, false, false, false] ?_
         refine tV 9 84 (bt 11 22) ?_
         refine tV 11 86 (bt 12 22) ?_
         refine pV 12 87 (bt 13 22) ?_
         refine pV 13 88 (bt 14 22) ?_
         refine pV 14 89 (bt 15 22) ?_
         refine pU 15 90 (bt 16 22) ?_
         refine pU 16 91 (bt 17 22) ?_
         refine pU 17 92 (bt 18 22) ?_
         refine pU 18 93 (bt 19 22) ?_
         refine pU 19 94 (bt 20 22) ?_
         refine pU 20 95 (bt 21 22) ?_
         refine pV 21 96 (bt 22 22) ?_
         refine done_ (done_of HT_.out kr) ?_
         try go_wp2
         go_ret
         exact ⟨by first | rfl | (simp [errW_none, errW_some] <;> rfl) | (simp only [← hji46]; first | rfl | (simp [errW_none, errW_some] <;> rfl)) | (simp [*, errW_none, errW_some] <;> rfl), q0⟩
       rw [if_neg c49] at H
       have c49b0 : decide (((rd_T54 l0_2 x34_2).f0) ≤ ((rd_T54 l0_2 (ji46)).f0)) = false := decide_eq_false c49
       clear c49
       by_cases c51 : 0 ≤ x34_2
       rotate_left
       · rw [if_neg c51] at H
         exact absurd H (by simp)
       rw [if_pos c51] at H
       have c51b0 := eq_true c51
       have c51b1 : decide (0 ≤ x34_2) = true := decide_eq_true c51
       clear c51
       by_cases c52 : x34_2 ≤ (l0_2.length : Int)
       rotate_left
       · rw [if_neg c52] at H
         exact absurd H (by simp)
       rw [if_pos c52] at H
       have c52b0 := eq_true c52
       have c52b1 : decide (x34_2 ≤ (l0_2.length : Int)) = true := decide_eq_true c52
       clear c52
       obtain ⟨y246, hy246⟩ : ∃ y_ : List (S54), y_ = (l0_2.take (x34_2 : Int).toNat) := ⟨_, rfl⟩
       replace H : ((impl_Session_54.f y246 ((rd_T54 l0_2 x34_2).f0) ((rd_T54 l0_2 x34_2).f1) ((rd_T54 l0_2 x34_2).f2) ((rd_T54 l0_2 x34_2).f3)).bind fun t250 => (if t250 = true then (some false) else (impl_areSessions.l0 kj17 l0_2 (l0_2.length : Int) (wrap64 (x34_2 + 1)) a0_0 a0_1 l0_2))) = some r := by first | (rw [hy246]; with_reducible exact H) | (have H2_ := (Option.bind_some _ _).symm.trans H; rw [hy246]; with_reducible exact H2_) | (have H2_ := (Option.bind_some _ _).symm.trans H; with_reducible exact H2_) | with_reducible exact H | (rw [hy246]; exact H) | exact H
       have Ny246 := am hy246
       clear hy246
       replace H := Option.bind_eq_some_iff.mp H
       obtain ⟨t250, A530, H⟩ := H
       have A53 := am A530
       clear A530
       have H9 := am H
       clear H
       try go_wp2
       replace BK242 := am (blk_drew BK242.out)
       replace BK244 := am (blk_drew BK244.out)
       replace HB := am (below_drew1 HB.out)
       have p245 : 0 ≤ ((ji46) : Int) := of_decide_eq_true q3
       have q245 : (ji46) < (l0_2.length : Int) := of_decide_eq_true q3
       obtain ⟨ad245, e245, hx245_0, hx245_1, hx245_2, hx245_3⟩ := at_T54 HR0_2.out (ji46) p245 q245
       have hw245_3 := hx245_3
       have hw245_2 := hx245_2
       have hw245_1 := hx245_1
       have hw245_0 := hx245_0
       obtain rfl : ad243 = ad245 := (by injection e245)
       replace hx245_0 := cm HB.out hx245_0
       replace hx245_1 := cm HB.out hx245_1
       replace hx245_2 := cm HB.out hx245_2
       replace hx245_3 := cm HB.out hx245_3
       replace p245 := eq_true p245
       replace q245 := eq_true q245
       have q55 : (x34_2 : Int) ≤ ((l0_2.length : Int) : Int) := of_decide_eq_true q3
       obtain ⟨i055, hi055, _, hsz55, _⟩ := info_parts info54
       have hroom55 : l0_2.length ≤ c0_2 := HC0_2.out
       have hC55 : Kd.C k54 _ (some ad243) l0_2.length l0_2 := HR0_2.out
       have hcut55 := cut_to (P := Tryd.prog) 28 54 .i64 Tryd.underlying28 hi055 (some ad243) l0_2.length c0_2 x34_2 (of_decide_eq_true q3) q55 hroom55
       have hr55 := Kd.C_take (m := (x34_2 : Int).toNat) hC55 (by omega)
       have hy55 : y246.length = (x34_2 : Int).toNat := (by rw [Ny246.out, List.length_take]; omega)
       rw [← Ny246.out] at hr55
       rw [← hy55] at hcut55
       have HR249 := am hr55
       have HC249 := am (show y246.length ≤ c0_2 from by omega)
       clear hr55 hC55 hroom55 hi055 hsz55
       have KY55 := am hy55
       clear hy55
       replace q55 := eq_true q55
       refine start_ (n := 22) (S := fun w' => w'.cell? ⟨gb242, 0, none⟩ = some (.int .i64 a0_0) ∧ w'.cell? ⟨gb242, 1, none⟩ = some (.int .i64 a0_1) ∧ w'.cell? ⟨gb242, 2, none⟩ = some (.slice (some ad243) l0_2.length c0_2) ∧ w'.cell? ⟨gb244, 0, none⟩ = some (.int .i64 ((rd_T54 l0_2 x34_2).f0)) ∧ w'.cell? ⟨gb244, 1, none⟩ = some (.int .i64 ((rd_T54 l0_2 x34_2).f1)) ∧ w'.cell? ⟨gb244, 2, none⟩ = some (.int .i64 ((rd_T54 l0_2 x34_2).f2)) ∧ w'.cell? ⟨gb244, 3, none⟩ = some (.string ((rd_T54 l0_2 x34_2).f3)) ∧ w'.cell? (ad243.add (((ji46)).toNat * 4)) = some (.int .i64 ((rd_T54 l0_2 (ji46)).f0)) ∧ w'.cell? ⟨(ad243.add (((ji46)).toNat * 4)).block, (ad243.add (((ji46)).toNat * 4)).off + 1, none⟩ = some (.int .i64 ((rd_T54 l0_2 (ji46)).f1)) ∧ w'.cell? ⟨(ad243.add (((ji46)).toNat * 4)).block, (ad243.add (((ji46)).toNat * 4)).off + 2, none⟩ = some (.int .i64 ((rd_T54 l0_2 (ji46)).f2)) ∧ w'.cell? ⟨(ad243.add (((ji46)).toNat * 4)).block, (ad243.add (((ji46)).toNat * 4)).off + 3, none⟩ = some (.string ((rd_T54 l0_2 (ji46)).f3))) (ds := []) b0_22 kr rfl rfl ⟨(blk_cell BK242.out 0).trans rfl, (blk_cell BK242.out 1).trans rfl, (blk_cell BK242.out 2).trans rfl, (blk_cell BK244.out 0).trans rfl, (blk_cell BK244.out 1).trans rfl, (blk_cell BK244.out 2).trans rfl, (blk_cell BK244.out 3).trans rfl, (cm HB.out hw245_0), (cm HB.out hw245_1), (cm HB.out hw245_2), (cm HB.out hw245_3)⟩ (fun hHeld => ?_); refine with_tabW impl_areSessions.tab8 impl_areSessions.bits8 (fun HT_ HW_ => ?_)
       generalize wc.drew = w54 at BK242 BK244 HB HR249 hx245_0 hx245_1 hx245_2 hx245_3 hHeld ⊢
       refine pV 0 75 (bt 1 22) ?_
       refine pV 1 76 (bt 2 22) ?_
       refine pV 2 77 (bt 3 22) ?_
       refine pV 3 78 (bt 4 22) ?_
       refine pV 5 80 #[true, true, true, true, false, true, false, false, false, false, false, false, false, false, false, false, false, false, false, false, false, false] ?_
       refine pV 6 81 #[true, true, true, true, false, true, true, false, false, false, false, false, false, false, false, false, false, false, false, false, false, false] ?_
       refine pV 10 85 #[true, true, true, true, false, true, true, false, false, false, true, false, false, false, false, false, false, false, false, false, false, false] ?_
       refine tV 4 79 #[true, true, true, true, true, true, true, false, false, false, true, false, false, false, false, false, false, false, false, false, false, false] ?_
       refine pV 7 82 #[true, true, true, true, true, true, true, true, false, false, true, false, false, false, false, false, false, false, false, false, false, false] ?_
       refine pV 8 83 #[true, true, true, true, true, true, true, true, true, false, true, false, false, false, false, false, false, false, false, false, false, false] ?_
       refine tV 9 84 (bt 11 22) ?_
       refine tV 11 86 (bt 12 22) ?_
       refine pV 12 87 (bt 13 22) ?_
       refine pV 13 88 (bt 14 22) ?_
       refine pV 14 89 (bt 15 22) ?_
       refine pV 15 90 (bt 16 22) ?_
       refine pV 17 92 #[true, true, true, true, true, true, true, true, true, true, true, true, true, true, true, true, false, true, false, false, false, false] ?_
       refine pV 19 94 #[true, true, true, true, true, true, true, true, true, true, true, true, true, true, true, true, false, true, false, true, false, false] ?_
       refine tV 16 91 #[true, true, true, true, true, true, true, true, true, true, true, true, true, true, true, true, true, true, false, true, false, false] ?_
       refine pV 18 93 (bt 20 22) ?_
       refine one_ (i := 20) (N := some 95) b21_22 rfl rfl (one_of HT_.out kr) (by decide) (fun K hK => ?_)
       refine goes_ Tryd.func54 kr rfl #[.slice (some ad243) y246.length c0_2, .func (.func 55) #[] #[.pointer (some ⟨gb244, 0, none⟩)]] (by rfl) rfl rfl q1 ?_
       with_reducible refine (impl_Session_54.calls _ _ y246 ((rd_T54 l0_2 x34_2).f0) ((rd_T54 l0_2 x34_2).f1) ((rd_T54 l0_2 x34_2).f2) ((rd_T54 l0_2 x34_2).f3) t250 _ ?side1 ?side2 ?side3 A53.out).mono ?_
       (case side1 => exact (by repeat (first | exact (Kd.C_below HR249.out HB.out) | (with_reducible refine Kd.C_alloc ?_ _) | (with_reducible refine Kd.C_drewN ?_ _) | (with_reducible refine Kd.C_drew ?_))))
       (case side2 => exact HC249.out)
       (case side3 => exact (by exact u7_8))
       rintro e w56 ⟨rfl, hb⟩
       refine ⟨_, rfl, ?_⟩
       replace BK242 := am (blk_below (g := gb242) (o := .cells #[.int .i64 a0_0, .int .i64 a0_1, .slice (some ad243) l0_2.length c0_2] 30 (0, 0)) u7_4 hb)
       replace BK244 := am (blk_below (g := gb244) (o := .cells #[.int .i64 ((rd_T54 l0_2 x34_2).f0), .int .i64 ((rd_T54 l0_2 x34_2).f1), .int .i64 ((rd_T54 l0_2 x34_2).f2), .string ((rd_T54 l0_2 x34_2).f3)] 54 (0, 0)) u7_8 hb)
       replace HB := am (below_step q0 hb)
       (try clear hb)
       (try clear hb2)
       (try clear hk)
       (try clear hi)
       refine hK.out _ _ ⟨(blk_cell BK242.out 0).trans rfl, (blk_cell BK242.out 1).trans rfl, (blk_cell BK242.out 2).trans rfl, (blk_cell BK244.out 0).trans rfl, (blk_cell BK244.out 1).trans rfl, (blk_cell BK244.out 2).trans rfl, (blk_cell BK244.out 3).trans rfl, (cm HB.out hw245_0), (cm HB.out hw245_1), (cm HB.out hw245_2), (cm HB.out hw245_3)⟩ (fun hHeld => ?_)
       clear hK K
       refine norm_ (a' := ?_) ?_ ?_
       rotate_left
       · show Act.put _ (some 95) _ = _
         simp only [Act.put, la, lb, lc, i64_w, i32_w]
         rfl
       refine pV 21 96 (bt 22 22) ?_
       refine done_ (done_of HT_.out kr) ?_
       go_upto_if 96 with (fail)
       have H := H9.out
       clear H9
       by_cases c57 : t250 = true
       · subst c57
         rw [if_pos rfl] at H
         obtain rfl := sj H
         go_wp2
         go_ret
         exact ⟨by first | rfl | (simp [errW_none, errW_some] <;> rfl) | (simp only [← hji46]; first | rfl | (simp [errW_none, errW_some] <;> rfl)) | (simp [*, errW_none, errW_some] <;> rfl), q0⟩
       replace c57 := Bool.eq_false_iff.mpr c57
       subst c57
       rw [nf] at H
       have H' := am H
       clear H
       go_wp2
       go_roundg kj17
       case measure => have := HJ1.out; have := HK2.out; have := HJ17.out; omega
       case rel => exact ⟨(wrap64 (x34_2 + 1)), q4, H', ⟨(by have := HJ1.out; have := HK2.out; have := HJ17.out; omega)⟩, ⟨u7_4⟩, ⟨q0⟩⟩

end Go.Proofs.YtjdpifafijcpbaaDoor.QFnOnce
