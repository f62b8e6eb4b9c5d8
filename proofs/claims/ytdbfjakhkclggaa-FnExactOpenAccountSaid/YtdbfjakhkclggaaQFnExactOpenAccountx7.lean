-- Printed by the session's own program wip/prx.py.
import Derived.Test.YtdbfjakhkclggaaQFnExactOpenAccountx0
import Derived.Test.YtdbfjakhkclggaaQFnExactOpenAccountx1
import Derived.Test.YtdbfjakhkclggaaQFnExactOpenAccountx2
import Derived.Test.YtdbfjakhkclggaaQFnExactOpenAccountx5
import Derived.Test.YtdbfjakhkclggaaQFnExactOpenAccountx6
namespace Go.Proofs.Ytdbfjakhkclggaa.QFnExactOpenAccount
open Go.RowKit Go.Proofs.YtdbfjakhkclggaaW.PrintWords Go.Proofs.YtdbfjakhkclggaaW.PrintLast Go.Proofs.YtdbfjakhkclggaaW.PrintMore
attribute [local go_sem] max2_int min2_int max_two min_two max_three min_three max_four min_four Go.Proofs.Ytdbfjakhkclggaa.Set.isSome_setCell Go.Proofs.Ytdbfjakhkclggaa.Add.add64   -- for this text's walks alone
set_option linter.unusedVariables false
set_option linter.unusedSimpArgs false

-- squeezed
theorem u7_0 {P : Prop} (h : P := by repeat (first | (with_reducible first | exact HB.out | apply below_alloc | apply pw_below_drewN | apply below_drew1 | refine below_set ?_ GE222.out | refine below_set ?_ GE231.out | refine below_set ?_ GE235.out | refine below_set ?_ GE240.out) | exact HB.out)) : P := h
theorem u7_1 {P : Prop} (h : P := by (with_reducible repeat (first | refine blk_drewN ?_ _ | refine blk_drew ?_ | refine blk_alloc ?_ _)); exact BK222.out) : P := h
theorem u7_2 {P : Prop} (h : P := by (try simp only [List.map_toArray, List.map_cons, List.map_nil]); first | done | rfl | (simp only [List.length_drop, List.length_take]; rfl)) : P := h
theorem u7_3 {P : Prop} (h : P := by repeat (first | (with_reducible first | exact HB.out | apply below_alloc | apply pw_below_drewN | apply below_drew1 | refine below_set ?_ GE207.out | refine below_set ?_ GE208.out | refine below_set ?_ GE212.out) | exact HB.out)) : P := h
theorem u7_4 {P : Prop} (h : P := by (with_reducible repeat (first | refine blk_drewN ?_ _ | refine blk_drew ?_ | refine blk_alloc ?_ _)); exact BK231.out) : P := h
theorem u7_5 {P : Prop} (h : P := by (with_reducible repeat (first | refine blk_drewN ?_ _ | refine blk_drew ?_ | refine blk_alloc ?_ _)); exact BK235.out) : P := h
theorem u7_6 {P : Prop} (h : P := by (with_reducible repeat (first | apply Kd.R_alloc | apply Kd.R_drewN | apply Kd.R_drew)); exact HO226.out) : P := h
theorem u7_7 {P : Prop} (h : P := by (with_reducible repeat (first | apply Kd.R_alloc | apply Kd.R_drewN | apply Kd.R_drew)); exact HO229.out) : P := h
theorem u7_8 {P : Prop} (h : P := by repeat (first | (with_reducible first | exact HB.out | apply below_alloc | apply pw_below_drewN | apply below_drew1 | refine below_set ?_ GE222.out) | exact HB.out)) : P := h
theorem u7_9 {P : Prop} (h : P := by (with_reducible repeat (first | refine blk_drewN ?_ _ | refine blk_drew ?_ | refine blk_alloc ?_ _)); exact BK240.out) : P := h
theorem u7_10 {P : Prop} (h : P := by (with_reducible repeat (first | apply Kd.R_alloc | apply Kd.R_drewN | apply Kd.R_drew)); exact HO234.out) : P := h
theorem u7_11 {P : Prop} (h : P := by (with_reducible repeat (first | apply Kd.R_alloc | apply Kd.R_drewN | apply Kd.R_drew)); exact HO238.out) : P := h
theorem u7_12 {P : Prop} (h : P := by (with_reducible repeat (first | refine blk_drewN ?_ _ | refine blk_drew ?_ | refine blk_alloc ?_ _)); exact BK207.out) : P := h
theorem u7_13 {P : Prop} (h : P := by repeat (first | (with_reducible first | exact HB.out | apply below_alloc | apply pw_below_drewN | apply below_drew1 | refine below_set ?_ GE222.out | refine below_set ?_ GE231.out) | exact HB.out)) : P := h
theorem u7_14 {P : Prop} (h : P := by repeat (first | (with_reducible first | exact HB.out | apply below_alloc | apply pw_below_drewN | apply below_drew1 | refine below_set ?_ GE222.out | refine below_set ?_ GE231.out | refine below_set ?_ GE235.out) | exact HB.out)) : P := h
theorem u7_15 {P : Prop} (h : P := by repeat (first | exact (Kd.C_below HR0_0.out HB.out) | (with_reducible refine Kd.C_alloc ?_ _) | (with_reducible refine Kd.C_drewN ?_ _) | (with_reducible refine Kd.C_drew ?_))) : P := h
theorem u7_16 {P : Prop} (h : P := by (with_reducible repeat (first | apply Kd.R_alloc | apply Kd.R_drewN | apply Kd.R_drew)); exact HO244.out) : P := h
theorem u7_17 {P : Prop} (h : P := by repeat (first | (with_reducible first | exact HB.out | apply below_alloc | apply pw_below_drewN | apply below_drew1 | refine below_set ?_ GE207.out | refine below_set ?_ GE208.out) | exact HB.out)) : P := h
theorem u7_18 {P : Prop} (h : P := by (with_reducible repeat (first | refine blk_drewN ?_ _ | refine blk_drew ?_ | refine blk_alloc ?_ _)); exact BK208.out) : P := h
theorem u7_19 {P : Prop} (h : P := by repeat (first | (with_reducible first | exact HB.out | apply below_alloc | apply pw_below_drewN | apply below_drew1) | exact HB.out)) : P := h
theorem u7_20 {P : Prop} (h : P := by repeat (first | (with_reducible first | exact HB.out | apply below_alloc | apply pw_below_drewN | apply below_drew1 | refine below_set ?_ GE222.out | refine below_set ?_ GE231.out | refine below_set ?_ GE235.out | refine below_set ?_ GE240.out | refine below_set ?_ GE259.out) | exact HB.out)) : P := h
theorem u7_21 {P : Prop} (h : P := by (with_reducible repeat (first | refine blk_drewN ?_ _ | refine blk_drew ?_ | refine blk_alloc ?_ _)); refine blk_put (cs := #[.slice none 0 0]) ?_ 0 _ rfl; (with_reducible repeat (first | refine blk_drewN ?_ _ | refine blk_drew ?_ | refine blk_alloc ?_ _)); exact BK208.out) : P := h
theorem u7_22 {P : Prop} (h : P := by (with_reducible repeat (first | apply Kd.R_alloc | apply Kd.R_drewN | apply Kd.R_drew)); exact Kd.R_mono (Kd.R_far (p := ⟨gb208, 0, none⟩) (Kd.R_types HO211.out BK208.out (by decide)) (fun _ hk => hk.2) (.slice Ao12 t209.length co12)) (fun _ hk => trivial)) : P := h
theorem u7_23 {P : Prop} (h : P := by (with_reducible repeat (first | apply Kd.R_alloc | apply Kd.R_drewN | apply Kd.R_drew)); exact (Kd.R_mono (Kd.R_far (p := ⟨gb235, 0, none⟩) (Kd.R_types HO234.out BK235.out (by decide)) (fun _ hk => hk.2) (.slice Ao45 t232.length co45)) (fun _ h_ => h_.1))) : P := h
theorem u7_24 {P : Prop} (h : P := by repeat (first | exact (Kd.R_reads' HO238.out).2.2 | (with_reducible refine Kd.C_alloc ?_ _) | (with_reducible refine Kd.C_drewN ?_ _) | (with_reducible refine Kd.C_drew ?_))) : P := h
theorem u7_25 {P : Prop} (h : P := by repeat (first | (with_reducible first | exact HB.out | apply below_alloc | apply pw_below_drewN | apply below_drew1 | refine below_set ?_ GE207.out) | exact HB.out)) : P := h
theorem u7_26 {P : Prop} (h : P := by (with_reducible repeat (first | apply Kd.R_alloc | apply Kd.R_drewN | apply Kd.R_drew)); exact HO211.out) : P := h
theorem u7_27 {P : Prop} (h : P := by (with_reducible repeat (first | apply Kd.R_alloc | apply Kd.R_drewN | apply Kd.R_drew)); exact HO254.out) : P := h
theorem u7_28 {P : Prop} (h : P := by (with_reducible repeat (first | apply Kd.R_alloc | apply Kd.R_drewN | apply Kd.R_drew)); exact (Kd.R_mono (Kd.R_far (p := ⟨gb231, 0, none⟩) (Kd.R_types HO226.out BK231.out (by decide)) (fun _ hk => hk.2) (.slice Ao39 t227.length co39)) (fun _ h_ => h_.1))) : P := h
theorem u7_29 {P : Prop} (h : P := by (with_reducible repeat (first | apply Kd.R_alloc | apply Kd.R_drewN | apply Kd.R_drew)); exact (Kd.R_mono (Kd.R_far (p := ⟨gb231, 0, none⟩) (Kd.R_types HO229.out BK231.out (by decide)) (fun _ hk => hk.2) (.slice Ao39 t227.length co39)) (fun _ h_ => h_.1))) : P := h
theorem u7_30 {P : Prop} (h : P := by (with_reducible repeat (first | apply Kd.R_alloc | apply Kd.R_drewN | apply Kd.R_drew)); exact (Kd.R_mono (Kd.R_far (p := ⟨gb235, 0, none⟩) (Kd.R_types HO226.out BK235.out (by decide)) (fun _ hk => hk.2) (.slice Ao45 t232.length co45)) (fun _ h_ => h_.1))) : P := h
theorem u7_31 {P : Prop} (h : P := by (with_reducible repeat (first | apply Kd.R_alloc | apply Kd.R_drewN | apply Kd.R_drew)); exact (Kd.R_mono (Kd.R_far (p := ⟨gb235, 0, none⟩) (Kd.R_types HO229.out BK235.out (by decide)) (fun _ hk => hk.2) (.slice Ao45 t232.length co45)) (fun _ h_ => h_.1))) : P := h
theorem u7_32 {P : Prop} (h : P := by (with_reducible repeat (first | apply Kd.R_alloc | apply Kd.R_drewN | apply Kd.R_drew)); exact (Kd.R_mono (Kd.R_far (p := ⟨gb240, 0, none⟩) (Kd.R_types HO238.out BK240.out (by decide)) (fun _ hk => hk.2) (.slice Ao51 t236.length co51)) (fun _ h_ => h_.1))) : P := h
theorem u7_33 {P : Prop} (h : P := by (with_reducible repeat (first | apply Kd.R_alloc | apply Kd.R_drewN | apply Kd.R_drew)); exact (Kd.R_mono (Kd.R_far (p := ⟨gb240, 0, none⟩) (Kd.R_types HO229.out BK240.out (by decide)) (fun _ hk => hk.2) (.slice Ao51 t236.length co51)) (fun _ h_ => h_.1))) : P := h
theorem u7_34 {P : Prop} (h : P := by (with_reducible repeat (first | apply Kd.R_alloc | apply Kd.R_drewN | apply Kd.R_drew)); exact (Kd.R_mono (Kd.R_far (p := ⟨gb259, 0, none⟩) (Kd.R_types HO257.out BK259.out (by decide)) (fun _ hk => hk.2) (.slice Ao76 t255.length co76)) (fun _ h_ => h_.1))) : P := h
theorem u7_35 {P : Prop} (h : P := by (with_reducible repeat (first | apply Kd.R_alloc | apply Kd.R_drewN | apply Kd.R_drew)); exact (Kd.R_mono (Kd.R_far (p := ⟨gb259, 0, none⟩) (Kd.R_types HO229.out BK259.out (by decide)) (fun _ hk => hk.2) (.slice Ao76 t255.length co76)) (fun _ h_ => h_.1))) : P := h
theorem u7_36 {P : Prop} (h : P := by (with_reducible repeat (first | refine blk_drewN ?_ _ | refine blk_drew ?_ | refine blk_alloc ?_ _)); exact BK212.out) : P := h
theorem u7_37 {P : Prop} (h : P := by (try simp only [List.map_toArray, List.map_cons, List.map_nil]); first | done | (rw [show t250.length = t236.length from (Kd.R_reads' HO238.out).1.symm] <;> rfl) | rfl | (simp only [List.length_drop, List.length_take]; rfl)) : P := h
theorem u7_38 {P : Prop} (h : P := by rw [show t250.length = t236.length from (Kd.R_reads' HO238.out).1.symm]; exact (Kd.R_reads' HO238.out).2.1) : P := h
theorem u7_39 {P : Prop} (h : P := by (with_reducible repeat (first | apply Kd.R_alloc | apply Kd.R_drewN | apply Kd.R_drew)); exact HO257.out) : P := h
/-! ### impl_OpenAccount: function 43 -/
def impl_OpenAccount.f (k : Nat) (l0_0 : List (S53)) (a1 : Int) : Option ((List (S53)) × Int) := (impl_copyBook.f l0_0).bind fun t209 => ((impl_accountOf.f k l0_0 a1).bind fun bt213 => ((impl_isBook.f k l0_0).bind fun t215 => (if t215 = true then (if bt213.2 = true then (some (t209, 3)) else (if (l0_0.length : Int) = 40 then (some (t209, 1)) else ((impl_Account.f t209 bt213.1 (([(⟨a1, 0, 0, 0, 0⟩ : S53)] : List (S53)))).bind fun t219 => (some (t219, 0))))) else (some (t209, 1)))))
theorem impl_OpenAccount.mono : ∀ a0 a1 k, LeO (impl_OpenAccount.f k a0 a1) (impl_OpenAccount.f (k + 1) a0 a1) := by
  intro a0 a1 k
  unfold impl_OpenAccount.f
  repeat' first
      | (with_reducible exact impl_accountOf.mono _ _ _)
      | (with_reducible exact impl_isBook.mono _ _)
      | (with_reducible exact LeO.refl _)
      | (with_reducible exact LeO.none _)
      | (with_reducible refine LeO.ite ?_ ?_)
      | (with_reducible refine LeO.bind ?_ (fun _ => ?_))
      | exact impl_accountOf.mono _ _ _
      | exact impl_isBook.mono _ _
      | exact LeO.none _
      | refine LeO.ite ?_ ?_
      | refine LeO.bind ?_ (fun _ => ?_)
set_option maxHeartbeats 8000000 in
set_option maxRecDepth 100000 in
theorem impl_OpenAccount.calls (k : Nat) (A0_0 : Option Addr) (c0_0 : Nat) (l0_0 : List (S53)) (a1 : Int) (r1 : List (S53)) (r2 : Int) (w : World) (hr0_0 : Kd.C k53 w A0_0 l0_0.length l0_0) (hc0_0 : l0_0.length ≤ c0_0) (h : impl_OpenAccount.f k l0_0 a1 = some (r1, r2)) :
    Calls Try.prog 43 #[.agg #[.slice A0_0 l0_0.length c0_0], .int .u64 a1] w fun e w' => ∃ v0_ : Value, e = .returned (.tuple #[.agg #[v0_], .int .i64 r2]) ∧ Kd.R k53 53 w' w.heap.size (fun _ => True) v0_ r1 ∧ Below w.heap.size w w' := by
  have hu29 := Try.underlying29
  have hu53 := Try.underlying53
  have HR0_0 := Aside0.mk hr0_0
  have HC0_0 := Aside0.mk hc0_0
  clear hr0_0 hc0_0
  have HB := Aside0.mk (Below.refl w.heap.size w)
  have H : ((impl_copyBook.f l0_0).bind fun t209 => ((impl_accountOf.f k l0_0 a1).bind fun bt213 => ((impl_isBook.f k l0_0).bind fun t215 => (if t215 = true then (if bt213.2 = true then (some (t209, 3)) else (if (l0_0.length : Int) = 40 then (some (t209, 1)) else ((impl_Account.f t209 bt213.1 (([(⟨a1, 0, 0, 0, 0⟩ : S53)] : List (S53)))).bind fun t219 => (some (t219, 0))))) else (some (t209, 1)))))) = some (r1, r2) := h
  clear h
  replace H := Option.bind_eq_some_iff.mp H
  obtain ⟨t209, A30, H⟩ := H
  replace H : ((impl_accountOf.f k l0_0 a1).bind fun bt213 => ((impl_isBook.f k l0_0).bind fun t215 => (if t215 = true then (if bt213.2 = true then (some (t209, 3)) else (if (l0_0.length : Int) = 40 then (some (t209, 1)) else ((impl_Account.f t209 bt213.1 (([(⟨a1, 0, 0, 0, 0⟩ : S53)] : List (S53)))).bind fun t219 => (some (t219, 0))))) else (some (t209, 1))))) = some (r1, r2) := H
  have A3 := Aside0.mk A30
  clear A30
  replace H := Option.bind_eq_some_iff.mp H
  obtain ⟨⟨t213, t214⟩, A40, H⟩ := H
  replace H : ((impl_isBook.f k l0_0).bind fun t215 => (if t215 = true then (if t214 = true then (some (t209, 3)) else (if (l0_0.length : Int) = 40 then (some (t209, 1)) else ((impl_Account.f t209 t213 (([(⟨a1, 0, 0, 0, 0⟩ : S53)] : List (S53)))).bind fun t219 => (some (t219, 0))))) else (some (t209, 1)))) = some (r1, r2) := H
  have A4 := Aside0.mk A40
  clear A40
  replace H := Option.bind_eq_some_iff.mp H
  obtain ⟨t215, A50, H⟩ := H
  replace H : (if t215 = true then (if t214 = true then (some (t209, 3)) else (if (l0_0.length : Int) = 40 then (some (t209, 1)) else ((impl_Account.f t209 t213 (([(⟨a1, 0, 0, 0, 0⟩ : S53)] : List (S53)))).bind fun t219 => (some (t219, 0))))) else (some (t209, 1))) = some (r1, r2) := H
  have A5 := Aside0.mk A50
  clear A50
  have H9 := Aside0.mk H
  clear H
  go_enter Try.func43, Try.ntmps43
  go_upto_if 17 with (first | ((with_reducible refine gate_dst (N := 2) rfl ?_); refine box_event ?hg (N := 2) ?hd (cs := #[.slice A0_0 l0_0.length c0_0]) (t := 29) ?hr ?_; (case hd => rfl); (case hg => rfl); (case hr => first | (go_simp; done) | (go_simp; rfl)); intro gb207 hg w6 hbox hb; have n0_ := Aside0.mk (below_step u7_19 hb); have n1_ := Aside0.mk (hbox); have n2_ := Aside0.mk ((by rw [hg]; exact (below_size u7_19) : w.heap.size ≤ gb207)); have n3_ := Aside0.mk ((by rw [hg]; exact (below_size u7_19) : w.heap.size ≤ gb207)); clear HB; have HB := n0_; have BK207 := n1_; have GW207 := n2_; have GE207 := n3_; clear n0_ n1_ n2_ n3_; clear hb hbox hg) | ((with_reducible refine gate_dst (N := 4) rfl ?_); refine box_event ?hg (N := 4) ?hd (cs := #[.slice none 0 0]) (t := 29) ?hr ?_; (case hd => rfl); (case hg => rfl); (case hr => first | (go_simp; done) | (go_simp; rfl)); intro gb208 hg w7 hbox hb; have n0_ := Aside0.mk (blk_below (g := gb207) (o := .cells #[.slice A0_0 l0_0.length c0_0] 29 (0, 0)) u7_12 hb); have n1_ := Aside0.mk (below_step u7_25 hb); have n2_ := Aside0.mk (hbox); have n3_ := Aside0.mk ((by rw [hg]; exact (below_size u7_25) : w.heap.size ≤ gb208)); have n4_ := Aside0.mk ((by rw [hg]; exact (below_size u7_25) : w.heap.size ≤ gb208)); have n5_ := Aside0.mk ((by rw [hg]; exact Nat.ne_of_lt (blk_lt (g := gb207) (o := .cells #[.slice A0_0 l0_0.length c0_0] 29 (0, 0)) u7_12) : gb207 ≠ gb208)); have n6_ := Aside0.mk ((by rw [hg]; exact Nat.ne_of_gt (blk_lt (g := gb207) (o := .cells #[.slice A0_0 l0_0.length c0_0] 29 (0, 0)) u7_12) : gb208 ≠ gb207)); clear BK207; clear HB; have BK207 := n0_; have HB := n1_; have BK208 := n2_; have GW208 := n3_; have GE208 := n4_; have NB207_208 := n5_; have NB208_207 := n6_; clear n0_ n1_ n2_ n3_ n4_ n5_ n6_; clear hb hbox hg; have hnb8 := NB207_208.out; have hnc8 := NB208_207.out; have hcz9_0 : w7.cell? ⟨gb207, 0, none⟩ = some (.slice A0_0 l0_0.length c0_0) := (blk_cell BK207.out 0).trans rfl; have hfz9_0 := blk_frozen BK207.out 0) | ((with_reducible refine gate_callee (f := 56) rfl ?_); refine goesL_ (some 10) rfl rfl Try.func56 (by kernel_rfl) rfl #[.agg #[.slice A0_0 l0_0.length c0_0]] rfl u7_2 ?_; (with_reducible refine (impl_copyBook.calls _ _ l0_0 t209 _ ?side1 ?side2 A3.out).mono ?_); (case side1 => exact u7_15); (case side2 => exact HC0_0.out); rintro e w10 ⟨v210, rfl, ho0, hb⟩; refine ⟨_, rfl, ?_⟩; have n0_ := Aside0.mk (Kd.R_lower ho0 (below_size u7_17)); have n1_ := Aside0.mk (blk_below (g := gb207) (o := .cells #[.slice A0_0 l0_0.length c0_0] 29 (0, 0)) u7_12 hb); have n2_ := Aside0.mk (blk_below (g := gb208) (o := .cells #[.slice none 0 0] 29 (0, 0)) u7_18 hb); have n3_ := Aside0.mk (below_step u7_17 hb); clear BK207; clear BK208; clear HB; have HO211 := n0_; have BK207 := n1_; have BK208 := n2_; have HB := n3_; clear n0_ n1_ n2_ n3_; (try clear hb); (try clear hb2); (try clear hk); (try clear hi); (try clear ho0)) | ((with_reducible refine gate_dst (N := 6) rfl ?_); refine box_event ?hg (N := 6) ?hd (cs := #[.slice none 0 0]) (t := 29) ?hr ?_; (case hd => rfl); (case hg => rfl); (case hr => first | (go_simp; done) | (go_simp; rfl)); intro gb212 hg w11 hbox hb; have n0_ := Aside0.mk (Kd.R_below u7_26 hb); have n1_ := Aside0.mk (blk_below (g := gb207) (o := .cells #[.slice A0_0 l0_0.length c0_0] 29 (0, 0)) u7_12 hb); have n2_ := Aside0.mk (blk_below (g := gb208) (o := .cells #[.slice none 0 0] 29 (0, 0)) u7_18 hb); have n3_ := Aside0.mk (below_step u7_17 hb); have n4_ := Aside0.mk (hbox); have n5_ := Aside0.mk ((by rw [hg]; exact (below_size u7_17) : w.heap.size ≤ gb212)); have n6_ := Aside0.mk ((by rw [hg]; exact (below_size u7_17) : w.heap.size ≤ gb212)); have n7_ := Aside0.mk ((by rw [hg]; exact Nat.ne_of_lt (blk_lt (g := gb207) (o := .cells #[.slice A0_0 l0_0.length c0_0] 29 (0, 0)) u7_12) : gb207 ≠ gb212)); have n8_ := Aside0.mk ((by rw [hg]; exact Nat.ne_of_gt (blk_lt (g := gb207) (o := .cells #[.slice A0_0 l0_0.length c0_0] 29 (0, 0)) u7_12) : gb212 ≠ gb207)); have n9_ := Aside0.mk ((by rw [hg]; exact Nat.ne_of_lt (blk_lt (g := gb208) (o := .cells #[.slice none 0 0] 29 (0, 0)) u7_18) : gb208 ≠ gb212)); have n10_ := Aside0.mk ((by rw [hg]; exact Nat.ne_of_gt (blk_lt (g := gb208) (o := .cells #[.slice none 0 0] 29 (0, 0)) u7_18) : gb212 ≠ gb208)); clear HO211; clear BK207; clear BK208; clear HB; have HO211 := n0_; have BK207 := n1_; have BK208 := n2_; have HB := n3_; have BK212 := n4_; have GW212 := n5_; have GE212 := n6_; have NB207_212 := n7_; have NB212_207 := n8_; have NB208_212 := n9_; have NB212_208 := n10_; clear n0_ n1_ n2_ n3_ n4_ n5_ n6_ n7_ n8_ n9_ n10_; clear hb hbox hg; obtain ⟨Ao12, co12, eo12⟩ := Kd.R_slice HO211.out; subst eo12; have hnb13 := NB212_207.out; have hnc13 := NB207_212.out; have hnb14 := NB212_208.out; have hnc14 := NB208_212.out; have hcz15_0 : w11.cell? ⟨gb212, 0, none⟩ = some (.slice none 0 0) := (blk_cell BK212.out 0).trans rfl; have hfz15_0 := blk_frozen BK212.out 0; have hcz16_0 : w11.cell? ⟨gb207, 0, none⟩ = some (.slice A0_0 l0_0.length c0_0) := (blk_cell BK207.out 0).trans rfl; have hfz16_0 := blk_frozen BK207.out 0) | ((with_reducible refine gate_callee (f := 57) rfl ?_); refine goesL_ (some 14) rfl rfl Try.func57 (by kernel_rfl) rfl #[.agg #[.slice A0_0 l0_0.length c0_0], .int .u64 a1] rfl u7_2 ?_; (with_reducible refine (impl_accountOf.calls k _ _ l0_0 a1 t213 t214 _ ?side1 ?side2 A4.out).mono ?_); (case side1 => exact (by exact Kd.C_below HR0_0.out u7_3)); (case side2 => exact HC0_0.out); rintro e w17 ⟨rfl, hb⟩; refine ⟨_, rfl, ?_⟩; have n0_ := Aside0.mk (Kd.R_below (by (with_reducible repeat (first | apply Kd.R_alloc | apply Kd.R_drewN | apply Kd.R_drew)); exact (Kd.R_mono (Kd.R_far (p := ⟨gb212, 0, none⟩) (Kd.R_types HO211.out BK212.out (by decide)) (fun _ hk => hk.2) (.slice Ao12 t209.length co12)) (fun _ h_ => h_.1))) hb); have n1_ := Aside0.mk (blk_below (g := gb207) (o := .cells #[.slice A0_0 l0_0.length c0_0] 29 (0, 0)) (by (with_reducible repeat (first | refine blk_drewN ?_ _ | refine blk_drew ?_ | refine blk_alloc ?_ _)); refine blk_far ?_ NB207_212.out _; (with_reducible repeat (first | refine blk_drewN ?_ _ | refine blk_drew ?_ | refine blk_alloc ?_ _)); exact BK207.out) hb); have n2_ := Aside0.mk (blk_below (g := gb208) (o := .cells #[.slice none 0 0] 29 (0, 0)) (by (with_reducible repeat (first | refine blk_drewN ?_ _ | refine blk_drew ?_ | refine blk_alloc ?_ _)); refine blk_far ?_ NB208_212.out _; (with_reducible repeat (first | refine blk_drewN ?_ _ | refine blk_drew ?_ | refine blk_alloc ?_ _)); exact BK208.out) hb); have n3_ := Aside0.mk (blk_below (g := gb212) (o := .cells #[.slice Ao12 t209.length co12] 29 (0, 0)) (by (with_reducible repeat (first | refine blk_drewN ?_ _ | refine blk_drew ?_ | refine blk_alloc ?_ _)); refine blk_put (cs := #[.slice none 0 0]) ?_ 0 _ rfl; (with_reducible repeat (first | refine blk_drewN ?_ _ | refine blk_drew ?_ | refine blk_alloc ?_ _)); exact BK212.out) hb); have n4_ := Aside0.mk (below_step u7_3 hb); clear HO211; clear BK207; clear BK208; clear BK212; clear HB; have HO211 := n0_; have BK207 := n1_; have BK208 := n2_; have BK212 := n3_; have HB := n4_; clear n0_ n1_ n2_ n3_ n4_; (try clear hb); (try clear hb2); (try clear hk); (try clear hi); have hcz18_0 : w17.cell? ⟨gb207, 0, none⟩ = some (.slice A0_0 l0_0.length c0_0) := (blk_cell BK207.out 0).trans rfl; have hfz18_0 := blk_frozen BK207.out 0) | ((with_reducible refine gate_callee (f := 50) rfl ?_); refine goesL_ (some 19) rfl rfl Try.func50 (by kernel_rfl) rfl #[.agg #[.slice A0_0 l0_0.length c0_0]] rfl u7_2 ?_; (with_reducible refine (impl_isBook.calls k _ _ l0_0 t215 _ ?side1 ?side2 A5.out).mono ?_); (case side1 => exact u7_15); (case side2 => exact HC0_0.out); rintro e w19 ⟨rfl, hb⟩; refine ⟨_, rfl, ?_⟩; have n0_ := Aside0.mk (Kd.R_below u7_26 hb); have n1_ := Aside0.mk (blk_below (g := gb207) (o := .cells #[.slice A0_0 l0_0.length c0_0] 29 (0, 0)) u7_12 hb); have n2_ := Aside0.mk (blk_below (g := gb208) (o := .cells #[.slice none 0 0] 29 (0, 0)) u7_18 hb); have n3_ := Aside0.mk (blk_below (g := gb212) (o := .cells #[.slice Ao12 t209.length co12] 29 (0, 0)) u7_36 hb); have n4_ := Aside0.mk (below_step u7_3 hb); clear HO211; clear BK207; clear BK208; clear BK212; clear HB; have HO211 := n0_; have BK207 := n1_; have BK208 := n2_; have BK212 := n3_; have HB := n4_; clear n0_ n1_ n2_ n3_ n4_; (try clear hb); (try clear hb2); (try clear hk); (try clear hi)))
  have H := H9.out
  clear H9
  by_cases c20 : t215 = true
  rotate_left
  · replace c20 := Bool.eq_false_iff.mpr c20
    subst c20
    have H1 : (some (t209, 1)) = some (r1, r2) := by rw [if_neg (show ¬ (false = true) by decide)] at H; exact H
    clear H
    have H := H1
    clear H1
    simp only [Option.some.injEq, Prod.mk.injEq] at H
    obtain ⟨rfl, rfl⟩ := H
    have hnb47 := NB212_207.out
    have hnc47 := NB207_212.out
    have hnb48 := NB212_208.out
    have hnc48 := NB208_212.out
    have hcz49_0 : w19.cell? ⟨gb212, 0, none⟩ = some (.slice Ao12 t209.length co12) := (blk_cell BK212.out 0).trans rfl
    have hfz49_0 := blk_frozen BK212.out 0
    have hnb50 := NB208_207.out
    have hnc50 := NB207_208.out
    have hcz51_0 : w19.cell? ⟨gb208, 0, none⟩ = some (.slice none 0 0) := (blk_cell BK208.out 0).trans rfl
    have hfz51_0 := blk_frozen BK208.out 0
    go_wp2
    refine bodyPost_ret (results_ct rfl _ _ gb208 29 #[.slice Ao12 t209.length co12] (0, 0) _ rfl u7_21 Try.underlying29 rfl (by kernel_rfl)) rfl ?_
    exact ⟨_, by first | rfl | (simp [errW_none, errW_some] <;> rfl) | (simp [*, errW_none, errW_some] <;> rfl), u7_22, u7_3⟩
  subst c20
  have H1 : (if t214 = true then (some (t209, 3)) else (if (l0_0.length : Int) = 40 then (some (t209, 1)) else ((impl_Account.f t209 t213 (([(⟨a1, 0, 0, 0, 0⟩ : S53)] : List (S53)))).bind fun t219 => (some (t219, 0))))) = some (r1, r2) := by rw [if_pos rfl] at H; exact H
  clear H
  have H := H1
  clear H1
  by_cases c21 : t214 = true
  · subst c21
    have H1 : (some (t209, 3)) = some (r1, r2) := by rw [if_pos rfl] at H; exact H
    clear H
    have H := H1
    clear H1
    simp only [Option.some.injEq, Prod.mk.injEq] at H
    obtain ⟨rfl, rfl⟩ := H
    have hnb22 := NB212_207.out
    have hnc22 := NB207_212.out
    have hnb23 := NB212_208.out
    have hnc23 := NB208_212.out
    have hcz24_0 : w19.cell? ⟨gb212, 0, none⟩ = some (.slice Ao12 t209.length co12) := (blk_cell BK212.out 0).trans rfl
    have hfz24_0 := blk_frozen BK212.out 0
    have hnb25 := NB208_207.out
    have hnc25 := NB207_208.out
    have hcz26_0 : w19.cell? ⟨gb208, 0, none⟩ = some (.slice none 0 0) := (blk_cell BK208.out 0).trans rfl
    have hfz26_0 := blk_frozen BK208.out 0
    go_wp2
    refine bodyPost_ret (results_ct rfl _ _ gb208 29 #[.slice Ao12 t209.length co12] (0, 0) _ rfl u7_21 Try.underlying29 rfl (by kernel_rfl)) rfl ?_
    exact ⟨_, by first | rfl | (simp [errW_none, errW_some] <;> rfl) | (simp [*, errW_none, errW_some] <;> rfl), u7_22, u7_3⟩
  replace c21 := Bool.eq_false_iff.mpr c21
  subst c21
  have H1 : (if (l0_0.length : Int) = 40 then (some (t209, 1)) else ((impl_Account.f t209 t213 (([(⟨a1, 0, 0, 0, 0⟩ : S53)] : List (S53)))).bind fun t219 => (some (t219, 0)))) = some (r1, r2) := by rw [if_neg (show ¬ (false = true) by decide)] at H; exact H
  clear H
  have H := H1
  clear H1
  by_cases c27 : (l0_0.length : Int) = 40
  · rw [if_pos c27] at H
    have c27b0 : ((l0_0.length : Int) == 40) = true := beq_iff_eq.mpr c27
    have c27b1 : ((l0_0.length : Int) != 40) = false := bne_eq_false_iff_eq.mpr c27
    clear c27
    (first | rw [c27b0] | (simp only [i64_w, i32_w]; rw [c27b0]) | skip)
    simp only [Option.some.injEq, Prod.mk.injEq] at H
    obtain ⟨rfl, rfl⟩ := H
    have hnb28 := NB207_208.out
    have hnc28 := NB208_207.out
    have hnb29 := NB207_212.out
    have hnc29 := NB212_207.out
    have hcz30_0 : w19.cell? ⟨gb207, 0, none⟩ = some (.slice A0_0 l0_0.length c0_0) := (blk_cell BK207.out 0).trans rfl
    have hfz30_0 := blk_frozen BK207.out 0
    have hnb31 := NB212_208.out
    have hnc31 := NB208_212.out
    have hcz32_0 : w19.cell? ⟨gb212, 0, none⟩ = some (.slice Ao12 t209.length co12) := (blk_cell BK212.out 0).trans rfl
    have hfz32_0 := blk_frozen BK212.out 0
    have hcz33_0 : w19.cell? ⟨gb208, 0, none⟩ = some (.slice none 0 0) := (blk_cell BK208.out 0).trans rfl
    have hfz33_0 := blk_frozen BK208.out 0
    go_wp2
    refine bodyPost_ret (results_ct rfl _ _ gb208 29 #[.slice Ao12 t209.length co12] (0, 0) _ rfl u7_21 Try.underlying29 rfl (by kernel_rfl)) rfl ?_
    exact ⟨_, by first | rfl | (simp [errW_none, errW_some] <;> rfl) | (simp [*, errW_none, errW_some] <;> rfl), u7_22, u7_3⟩
  rw [if_neg c27] at H
  have c27b0 : ((l0_0.length : Int) == 40) = false := beq_eq_false_iff_ne.mpr c27
  have c27b1 : ((l0_0.length : Int) != 40) = true := bne_iff_ne.mpr c27
  (first | rw [c27b0] | (simp only [i64_w, i32_w]; rw [c27b0]) | skip)
  obtain ⟨y216, hy216⟩ : ∃ y_ : List (S53), y_ = (([(⟨a1, 0, 0, 0, 0⟩ : S53)] : List (S53))) := ⟨_, rfl⟩
  replace H : ((impl_Account.f t209 t213 y216).bind fun t219 => (some (t219, 0))) = some (r1, r2) := by first | (rw [hy216]; with_reducible exact H) | (have H2_ := (Option.bind_some _ _).symm.trans H; rw [hy216]; with_reducible exact H2_) | (have H2_ := (Option.bind_some _ _).symm.trans H; with_reducible exact H2_) | with_reducible exact H | (rw [hy216]; exact H) | exact H
  have Ny216 := Aside0.mk hy216
  clear hy216
  replace H := Option.bind_eq_some_iff.mp H
  obtain ⟨t219, A340, H⟩ := H
  replace H : (some (t219, 0)) = some (r1, r2) := H
  have A34 := Aside0.mk A340
  clear A340
  simp only [Option.some.injEq, Prod.mk.injEq] at H
  obtain ⟨rfl, rfl⟩ := H
  have hnb35 := NB207_208.out
  have hnc35 := NB208_207.out
  have hnb36 := NB207_212.out
  have hnc36 := NB212_207.out
  have hcz37_0 : w19.cell? ⟨gb207, 0, none⟩ = some (.slice A0_0 l0_0.length c0_0) := (blk_cell BK207.out 0).trans rfl
  have hfz37_0 := blk_frozen BK207.out 0
  have hnb38 := NB212_208.out
  have hnc38 := NB208_212.out
  have hcz39_0 : w19.cell? ⟨gb212, 0, none⟩ = some (.slice Ao12 t209.length co12) := (blk_cell BK212.out 0).trans rfl
  have hfz39_0 := blk_frozen BK212.out 0
  go_wp2_with (first | ((with_reducible refine gate_dst (N := 36) rfl ?_); refine Kd.R_lit k53 _ 53 ?hg (N := 36) ?hd (xs := ([(⟨a1, 0, 0, 0, 0⟩ : S53)] : List (S53))) (inner := [.int .u64 a1, .int .u64 0, .int .u64 0, .int .u64 0, .int .i64 0]) (ok := fun _ => True) (okp := fun _ => True) ?hr ?hp (fun _ hk => hk) trivial (Below.refl _ _) (Nat.le_refl _) (by simp) ?_; (case hd => rfl); (case hg => rfl); (case hr => first | (go_simp; done) | (go_simp; rfl)); (case hp => exact (Reps.c5 (show Kd.M k53 _ _ _ (⟨a1, 0, 0, 0, 0⟩ : S53) [.int .u64 a1, .int .u64 0, .int .u64 0, .int .u64 0, .int .i64 0] from (k53_mkM _ _ _ (⟨a1, 0, 0, 0, 0⟩ : S53) )) (Reps.none _ _))); intro v217 w40 ho41 hb hg_ hnew_; clear hg_ hnew_; (first | rw [← Ny216.out] at ho41 | (simp only [Int.reduceToNat] at ho41; rw [← Ny216.out] at ho41)); have n0_ := Aside0.mk (Kd.R_elder' u7_26 (Kd.R_base ho41) hb); have n1_ := Aside0.mk (Kd.R_lower (Kd.R_new' ho41 (Kd.R_lt u7_26)) (below_size u7_3)); have n2_ := Aside0.mk (blk_below (g := gb207) (o := .cells #[.slice A0_0 l0_0.length c0_0] 29 (0, 0)) u7_12 hb); have n3_ := Aside0.mk (blk_below (g := gb208) (o := .cells #[.slice none 0 0] 29 (0, 0)) u7_18 hb); have n4_ := Aside0.mk (blk_below (g := gb212) (o := .cells #[.slice Ao12 t209.length co12] 29 (0, 0)) u7_36 hb); have n5_ := Aside0.mk (below_step u7_3 hb); clear HO211; clear BK207; clear BK208; clear BK212; clear HB; have HO211 := n0_; have HO218 := n1_; have BK207 := n2_; have BK208 := n3_; have BK212 := n4_; have HB := n5_; clear n0_ n1_ n2_ n3_ n4_ n5_; clear hb ho41; obtain ⟨Ao42, co42, eo42⟩ := Kd.R_slice HO218.out; subst eo42) | ((with_reducible refine gate_callee (f := 69) rfl ?_); refine goesL_ (some 37) rfl rfl Try.func69 (by kernel_rfl) rfl #[.slice Ao12 t209.length co12, .int .i64 t213, .slice Ao42 y216.length co42] rfl u7_2 ?_; (with_reducible refine (impl_Account.calls (fun k_ => some k_ = (.slice Ao12 t209.length co12 : Value).ownBlock) (.slice Ao12 t209.length co12) t209 t213 (fun k_ => some k_ = (.slice Ao42 y216.length co42 : Value).ownBlock) (.slice Ao42 y216.length co42) y216 t219 w _ ?side1 ?side2 ?side3 ?side4 ?side5 A34.out).mono ?_); (case side1 => exact u7_3); (case side2 => exact Kd.R_tight rfl HO211.out); (case side3 => exact fun k_ e_ => (HO211.out.1 k_ e_.symm).2); (case side4 => exact Kd.R_tight rfl HO218.out); (case side5 => exact fun k_ e_ => (HO218.out.1 k_ e_.symm).2); rintro e w43 ⟨v220, rfl, ho0, hb, hkp⟩; refine ⟨_, rfl, ?_⟩; have n0_ := Aside0.mk (blk_kept u7_12 hkp (fun hs_ => Or.elim hs_ (fun e_ => (fun e_ => (Kd.R_ne HO211.out BK207.out (by decide)) e_) e_) (fun e_ => (fun e_ => (Kd.R_ne HO218.out BK207.out (by decide)) e_) e_))); have n1_ := Aside0.mk (blk_kept u7_18 hkp (fun hs_ => Or.elim hs_ (fun e_ => (fun e_ => (Kd.R_ne HO211.out BK208.out (by decide)) e_) e_) (fun e_ => (fun e_ => (Kd.R_ne HO218.out BK208.out (by decide)) e_) e_))); have n2_ := Aside0.mk (blk_kept u7_36 hkp (fun hs_ => Or.elim hs_ (fun e_ => (fun e_ => (Kd.R_ne HO211.out BK212.out (by decide)) e_) e_) (fun e_ => (fun e_ => (Kd.R_ne HO218.out BK212.out (by decide)) e_) e_))); have n3_ := Aside0.mk (Kd.R_mono (ok' := fun k_ => True) ho0 (fun k_ hk_ => trivial)); have n4_ := Aside0.mk (hb); clear BK207; clear BK208; clear BK212; clear HB; clear HO211; clear HO218; have BK207 := n0_; have BK208 := n1_; have BK212 := n2_; have HO221 := n3_; have HB := n4_; clear n0_ n1_ n2_ n3_ n4_; (try clear hb); (try clear hkp); (try clear ho0); obtain ⟨Ao44, co44, eo44⟩ := Kd.R_slice HO221.out; subst eo44; have hcz45_0 : w43.cell? ⟨gb212, 0, none⟩ = some (.slice Ao12 t209.length co12) := (blk_cell BK212.out 0).trans rfl; have hfz45_0 := blk_frozen BK212.out 0; have hcz46_0 : w43.cell? ⟨gb208, 0, none⟩ = some (.slice none 0 0) := (blk_cell BK208.out 0).trans rfl; have hfz46_0 := blk_frozen BK208.out 0))
  refine bodyPost_ret (results_ct rfl _ _ gb208 29 #[.slice Ao44 t219.length co44] (0, 0) _ rfl (by (with_reducible repeat (first | refine blk_drewN ?_ _ | refine blk_drew ?_ | refine blk_alloc ?_ _)); refine blk_put (cs := #[.slice none 0 0]) ?_ 0 _ rfl; (with_reducible repeat (first | refine blk_drewN ?_ _ | refine blk_drew ?_ | refine blk_alloc ?_ _)); refine blk_far ?_ NB208_212.out _; (with_reducible repeat (first | refine blk_drewN ?_ _ | refine blk_drew ?_ | refine blk_alloc ?_ _)); exact BK208.out) Try.underlying29 rfl (by kernel_rfl)) rfl ?_
  exact ⟨_, by first | rfl | (simp [errW_none, errW_some] <;> rfl) | (simp [*, errW_none, errW_some] <;> rfl), (by (with_reducible repeat (first | apply Kd.R_alloc | apply Kd.R_drewN | apply Kd.R_drew)); exact Kd.R_mono (Kd.R_far (p := ⟨gb208, 0, none⟩) (Kd.R_far (p := ⟨gb212, 0, none⟩) (Kd.R_types (Kd.R_types HO221.out BK212.out (by decide)) BK208.out (by decide)) (fun _ hk => hk.1.2) (.slice Ao44 t219.length co44)) (fun _ hk => hk.2) (.slice Ao44 t219.length co44)) (fun _ hk => trivial)), u7_3⟩

/-! ### laws_FnExactOpenAccount: function 13 -/
def laws_FnExactOpenAccount.f (k : Nat) (l0_0 : List (S77)) (a1 : Int) : Option (Bool) := (laws_szBook.f l0_0 1048576).bind fun t223 => (if t223 < 0 then (some true) else ((laws_toBook.f k l0_0).bind fun t224 => ((spec_OpenAccount.f k t224 a1).bind fun bt227 => ((laws_toBook.f k l0_0).bind fun t232 => ((impl_OpenAccount.f k t232 a1).bind fun bt236 => ((laws_eqBook.f k bt236.1 bt227.1).bind fun t241 => (if t241 = true then (if bt236.2 = bt227.2 then ((laws_toBook.f k l0_0).bind fun t242 => ((laws_eqBook.f k t232 t242).bind fun t245 => (if t245 = true then ((laws_markBook.f k t232 1).bind fun bt246 => (if bt246.1 < 0 then (some false) else ((laws_eqBook.f k bt236.1 bt227.1).bind fun t248 => (if t248 = true then ((laws_markBook.f k bt236.1 1).bind fun bt249 => ((laws_heldBook.f k bt249.2 1).bind fun t251 => (if t251 < 0 then (some false) else (if t251 = bt249.1 then ((laws_toBook.f k l0_0).bind fun t252 => ((impl_OpenAccount.f k t252 a1).bind fun bt255 => ((laws_eqBook.f k bt255.1 bt227.1).bind fun t260 => (if t260 = true then (if bt255.2 = bt227.2 then ((laws_heldBook.f k bt249.2 1).bind fun t261 => (if t261 < 0 then (some false) else (if t261 = bt249.1 then (some true) else (some false)))) else (some false)) else (some false))))) else (some false))))) else (some false))))) else (some false)))) else (some false)) else (some false))))))))
theorem laws_FnExactOpenAccount.mono : ∀ a0 a1 k, LeO (laws_FnExactOpenAccount.f k a0 a1) (laws_FnExactOpenAccount.f (k + 1) a0 a1) := by
  intro a0 a1 k
  unfold laws_FnExactOpenAccount.f
  repeat' first
      | (with_reducible exact impl_OpenAccount.mono _ _ _)
      | (with_reducible exact laws_eqBook.mono _ _ _)
      | (with_reducible exact laws_heldBook.mono _ _ _)
      | (with_reducible exact laws_markBook.mono _ _ _)
      | (with_reducible exact laws_toBook.mono _ _)
      | (with_reducible exact spec_OpenAccount.mono _ _ _)
      | (with_reducible exact LeO.refl _)
      | (with_reducible exact LeO.none _)
      | (with_reducible refine LeO.ite ?_ ?_)
      | (with_reducible refine LeO.bind ?_ (fun _ => ?_))
      | exact impl_OpenAccount.mono _ _ _
      | exact laws_eqBook.mono _ _ _
      | exact laws_heldBook.mono _ _ _
      | exact laws_markBook.mono _ _ _
      | exact laws_toBook.mono _ _
      | exact spec_OpenAccount.mono _ _ _
      | exact LeO.none _
      | refine LeO.ite ?_ ?_
      | refine LeO.bind ?_ (fun _ => ?_)
set_option maxHeartbeats 8000000 in
set_option maxRecDepth 100000 in
theorem laws_FnExactOpenAccount.calls (k : Nat) (A0_0 : Option Addr) (c0_0 : Nat) (l0_0 : List (S77)) (a1 : Int) (r : Bool) (w : World) (hr0_0 : Kd.C k77 w A0_0 l0_0.length l0_0) (hc0_0 : l0_0.length ≤ c0_0) (h : laws_FnExactOpenAccount.f k l0_0 a1 = some r) (hr_ : Aside0 (r = true)) :
    Calls Try.prog 13 #[.agg #[.slice A0_0 l0_0.length c0_0], .int .u64 a1] w fun e w' => e = .returned (.bool r) ∧ Below w.heap.size w w' := by
  have hu24 := Try.underlying24
  have hu29 := Try.underlying29
  have HR0_0 := Aside0.mk hr0_0
  have HC0_0 := Aside0.mk hc0_0
  clear hr0_0 hc0_0
  have HB := Aside0.mk (Below.refl w.heap.size w)
  have H : ((laws_szBook.f l0_0 1048576).bind fun t223 => (if t223 < 0 then (some true) else ((laws_toBook.f k l0_0).bind fun t224 => ((spec_OpenAccount.f k t224 a1).bind fun bt227 => ((laws_toBook.f k l0_0).bind fun t232 => ((impl_OpenAccount.f k t232 a1).bind fun bt236 => ((laws_eqBook.f k bt236.1 bt227.1).bind fun t241 => (if t241 = true then (if bt236.2 = bt227.2 then ((laws_toBook.f k l0_0).bind fun t242 => ((laws_eqBook.f k t232 t242).bind fun t245 => (if t245 = true then ((laws_markBook.f k t232 1).bind fun bt246 => (if bt246.1 < 0 then (some false) else ((laws_eqBook.f k bt236.1 bt227.1).bind fun t248 => (if t248 = true then ((laws_markBook.f k bt236.1 1).bind fun bt249 => ((laws_heldBook.f k bt249.2 1).bind fun t251 => (if t251 < 0 then (some false) else (if t251 = bt249.1 then ((laws_toBook.f k l0_0).bind fun t252 => ((impl_OpenAccount.f k t252 a1).bind fun bt255 => ((laws_eqBook.f k bt255.1 bt227.1).bind fun t260 => (if t260 = true then (if bt255.2 = bt227.2 then ((laws_heldBook.f k bt249.2 1).bind fun t261 => (if t261 < 0 then (some false) else (if t261 = bt249.1 then (some true) else (some false)))) else (some false)) else (some false))))) else (some false))))) else (some false))))) else (some false)))) else (some false)) else (some false))))))))) = some r := h
  clear h
  replace H := Option.bind_eq_some_iff.mp H
  obtain ⟨t223, A30, H⟩ := H
  replace H : (if t223 < 0 then (some true) else ((laws_toBook.f k l0_0).bind fun t224 => ((spec_OpenAccount.f k t224 a1).bind fun bt227 => ((laws_toBook.f k l0_0).bind fun t232 => ((impl_OpenAccount.f k t232 a1).bind fun bt236 => ((laws_eqBook.f k bt236.1 bt227.1).bind fun t241 => (if t241 = true then (if bt236.2 = bt227.2 then ((laws_toBook.f k l0_0).bind fun t242 => ((laws_eqBook.f k t232 t242).bind fun t245 => (if t245 = true then ((laws_markBook.f k t232 1).bind fun bt246 => (if bt246.1 < 0 then (some false) else ((laws_eqBook.f k bt236.1 bt227.1).bind fun t248 => (if t248 = true then ((laws_markBook.f k bt236.1 1).bind fun bt249 => ((laws_heldBook.f k bt249.2 1).bind fun t251 => (if t251 < 0 then (some false) else (if t251 = bt249.1 then ((laws_toBook.f k l0_0).bind fun t252 => ((impl_OpenAccount.f k t252 a1).bind fun bt255 => ((laws_eqBook.f k bt255.1 bt227.1).bind fun t260 => (if t260 = true then (if bt255.2 = bt227.2 then ((laws_heldBook.f k bt249.2 1).bind fun t261 => (if t261 < 0 then (some false) else (if t261 = bt249.1 then (some true) else (some false)))) else (some false)) else (some false))))) else (some false))))) else (some false))))) else (some false)))) else (some false)) else (some false)))))))) = some r := H
  have A3 := Aside0.mk A30
  clear A30
  have H9 := Aside0.mk H
  clear H
  go_enter Try.func13, Try.ntmps13
  go_upto_if 20 with (first | ((with_reducible refine gate_dst (N := 2) rfl ?_); refine box_event ?hg (N := 2) ?hd (cs := #[.slice A0_0 l0_0.length c0_0]) (t := 24) ?hr ?_; (case hd => rfl); (case hg => rfl); (case hr => first | (go_simp; done) | (go_simp; rfl)); intro gb222 hg w4 hbox hb; have n0_ := Aside0.mk (below_step u7_19 hb); have n1_ := Aside0.mk (hbox); have n2_ := Aside0.mk ((by rw [hg]; exact (below_size u7_19) : w.heap.size ≤ gb222)); have n3_ := Aside0.mk ((by rw [hg]; exact (below_size u7_19) : w.heap.size ≤ gb222)); clear HB; have HB := n0_; have BK222 := n1_; have GW222 := n2_; have GE222 := n3_; clear n0_ n1_ n2_ n3_; clear hb hbox hg; have hcz5_0 : w4.cell? ⟨gb222, 0, none⟩ = some (.slice A0_0 l0_0.length c0_0) := (blk_cell BK222.out 0).trans rfl; have hfz5_0 := blk_frozen BK222.out 0) | ((with_reducible refine gate_callee (f := 17) rfl ?_); refine goesL_ (some 18) rfl rfl Try.func17 (by kernel_rfl) rfl #[.agg #[.slice A0_0 l0_0.length c0_0], .int .i64 1048576] rfl u7_2 ?_; (with_reducible refine (laws_szBook.calls _ _ l0_0 1048576 t223 _ ?side1 ?side2 A3.out).mono ?_); (case side1 => exact u7_15); (case side2 => exact HC0_0.out); rintro e w6 ⟨rfl, hb⟩; refine ⟨_, rfl, ?_⟩; have n0_ := Aside0.mk (blk_below (g := gb222) (o := .cells #[.slice A0_0 l0_0.length c0_0] 24 (0, 0)) u7_1 hb); have n1_ := Aside0.mk (below_step u7_8 hb); clear BK222; clear HB; have BK222 := n0_; have HB := n1_; clear n0_ n1_; (try clear hb); (try clear hb2); (try clear hk); (try clear hi)))
  have H := H9.out
  clear H9
  by_cases c7 : t223 < 0
  · rw [if_pos c7] at H
    have c7b0 : decide (t223 < 0) = true := decide_eq_true c7
    clear c7
    (first | rw [c7b0] | (simp only [i64_w, i32_w]; rw [c7b0]) | skip)
    obtain rfl := Option.some.inj H
    go_wp2
    go_ret
    exact ⟨by first | rfl | (simp [errW_none, errW_some] <;> rfl) | (simp [*, errW_none, errW_some] <;> rfl), u7_8⟩
  rw [if_neg c7] at H
  have c7b0 : decide (t223 < 0) = false := decide_eq_false c7
  clear c7
  (first | rw [c7b0] | (simp only [i64_w, i32_w]; rw [c7b0]) | skip)
  replace H := Option.bind_eq_some_iff.mp H
  obtain ⟨t224, A80, H⟩ := H
  replace H : ((spec_OpenAccount.f k t224 a1).bind fun bt227 => ((laws_toBook.f k l0_0).bind fun t232 => ((impl_OpenAccount.f k t232 a1).bind fun bt236 => ((laws_eqBook.f k bt236.1 bt227.1).bind fun t241 => (if t241 = true then (if bt236.2 = bt227.2 then ((laws_toBook.f k l0_0).bind fun t242 => ((laws_eqBook.f k t232 t242).bind fun t245 => (if t245 = true then ((laws_markBook.f k t232 1).bind fun bt246 => (if bt246.1 < 0 then (some false) else ((laws_eqBook.f k bt236.1 bt227.1).bind fun t248 => (if t248 = true then ((laws_markBook.f k bt236.1 1).bind fun bt249 => ((laws_heldBook.f k bt249.2 1).bind fun t251 => (if t251 < 0 then (some false) else (if t251 = bt249.1 then ((laws_toBook.f k l0_0).bind fun t252 => ((impl_OpenAccount.f k t252 a1).bind fun bt255 => ((laws_eqBook.f k bt255.1 bt227.1).bind fun t260 => (if t260 = true then (if bt255.2 = bt227.2 then ((laws_heldBook.f k bt249.2 1).bind fun t261 => (if t261 < 0 then (some false) else (if t261 = bt249.1 then (some true) else (some false)))) else (some false)) else (some false))))) else (some false))))) else (some false))))) else (some false)))) else (some false)) else (some false)))))) = some r := H
  have A8 := Aside0.mk A80
  clear A80
  replace H := Option.bind_eq_some_iff.mp H
  obtain ⟨⟨t227, t230⟩, A90, H⟩ := H
  replace H : ((laws_toBook.f k l0_0).bind fun t232 => ((impl_OpenAccount.f k t232 a1).bind fun bt236 => ((laws_eqBook.f k bt236.1 t227).bind fun t241 => (if t241 = true then (if bt236.2 = t230 then ((laws_toBook.f k l0_0).bind fun t242 => ((laws_eqBook.f k t232 t242).bind fun t245 => (if t245 = true then ((laws_markBook.f k t232 1).bind fun bt246 => (if bt246.1 < 0 then (some false) else ((laws_eqBook.f k bt236.1 t227).bind fun t248 => (if t248 = true then ((laws_markBook.f k bt236.1 1).bind fun bt249 => ((laws_heldBook.f k bt249.2 1).bind fun t251 => (if t251 < 0 then (some false) else (if t251 = bt249.1 then ((laws_toBook.f k l0_0).bind fun t252 => ((impl_OpenAccount.f k t252 a1).bind fun bt255 => ((laws_eqBook.f k bt255.1 t227).bind fun t260 => (if t260 = true then (if bt255.2 = t230 then ((laws_heldBook.f k bt249.2 1).bind fun t261 => (if t261 < 0 then (some false) else (if t261 = bt249.1 then (some true) else (some false)))) else (some false)) else (some false))))) else (some false))))) else (some false))))) else (some false)))) else (some false)) else (some false))))) = some r := H
  have A9 := Aside0.mk A90
  clear A90
  replace H := Option.bind_eq_some_iff.mp H
  obtain ⟨t232, A100, H⟩ := H
  replace H : ((impl_OpenAccount.f k t232 a1).bind fun bt236 => ((laws_eqBook.f k bt236.1 t227).bind fun t241 => (if t241 = true then (if bt236.2 = t230 then ((laws_toBook.f k l0_0).bind fun t242 => ((laws_eqBook.f k t232 t242).bind fun t245 => (if t245 = true then ((laws_markBook.f k t232 1).bind fun bt246 => (if bt246.1 < 0 then (some false) else ((laws_eqBook.f k bt236.1 t227).bind fun t248 => (if t248 = true then ((laws_markBook.f k bt236.1 1).bind fun bt249 => ((laws_heldBook.f k bt249.2 1).bind fun t251 => (if t251 < 0 then (some false) else (if t251 = bt249.1 then ((laws_toBook.f k l0_0).bind fun t252 => ((impl_OpenAccount.f k t252 a1).bind fun bt255 => ((laws_eqBook.f k bt255.1 t227).bind fun t260 => (if t260 = true then (if bt255.2 = t230 then ((laws_heldBook.f k bt249.2 1).bind fun t261 => (if t261 < 0 then (some false) else (if t261 = bt249.1 then (some true) else (some false)))) else (some false)) else (some false))))) else (some false))))) else (some false))))) else (some false)))) else (some false)) else (some false)))) = some r := H
  have A10 := Aside0.mk A100
  clear A100
  replace H := Option.bind_eq_some_iff.mp H
  obtain ⟨⟨t236, t239⟩, A110, H⟩ := H
  replace H : ((laws_eqBook.f k t236 t227).bind fun t241 => (if t241 = true then (if t239 = t230 then ((laws_toBook.f k l0_0).bind fun t242 => ((laws_eqBook.f k t232 t242).bind fun t245 => (if t245 = true then ((laws_markBook.f k t232 1).bind fun bt246 => (if bt246.1 < 0 then (some false) else ((laws_eqBook.f k t236 t227).bind fun t248 => (if t248 = true then ((laws_markBook.f k t236 1).bind fun bt249 => ((laws_heldBook.f k bt249.2 1).bind fun t251 => (if t251 < 0 then (some false) else (if t251 = bt249.1 then ((laws_toBook.f k l0_0).bind fun t252 => ((impl_OpenAccount.f k t252 a1).bind fun bt255 => ((laws_eqBook.f k bt255.1 t227).bind fun t260 => (if t260 = true then (if bt255.2 = t230 then ((laws_heldBook.f k bt249.2 1).bind fun t261 => (if t261 < 0 then (some false) else (if t261 = bt249.1 then (some true) else (some false)))) else (some false)) else (some false))))) else (some false))))) else (some false))))) else (some false)))) else (some false)) else (some false))) = some r := H
  have A11 := Aside0.mk A110
  clear A110
  replace H := Option.bind_eq_some_iff.mp H
  obtain ⟨t241, A120, H⟩ := H
  replace H : (if t241 = true then (if t239 = t230 then ((laws_toBook.f k l0_0).bind fun t242 => ((laws_eqBook.f k t232 t242).bind fun t245 => (if t245 = true then ((laws_markBook.f k t232 1).bind fun bt246 => (if bt246.1 < 0 then (some false) else ((laws_eqBook.f k t236 t227).bind fun t248 => (if t248 = true then ((laws_markBook.f k t236 1).bind fun bt249 => ((laws_heldBook.f k bt249.2 1).bind fun t251 => (if t251 < 0 then (some false) else (if t251 = bt249.1 then ((laws_toBook.f k l0_0).bind fun t252 => ((impl_OpenAccount.f k t252 a1).bind fun bt255 => ((laws_eqBook.f k bt255.1 t227).bind fun t260 => (if t260 = true then (if bt255.2 = t230 then ((laws_heldBook.f k bt249.2 1).bind fun t261 => (if t261 < 0 then (some false) else (if t261 = bt249.1 then (some true) else (some false)))) else (some false)) else (some false))))) else (some false))))) else (some false))))) else (some false)))) else (some false)) else (some false)) = some r := H
  have A12 := Aside0.mk A120
  clear A120
  by_cases c13 : t241 = true
  rotate_left
  · replace c13 := Bool.eq_false_iff.mpr c13
    subst c13
    have H1 : (some false) = some r := by rw [if_neg (show ¬ (false = true) by decide)] at H; exact H
    clear H
    have H := H1
    clear H1
    exact absurd ((Option.some.inj H).trans hr_.out) (by decide)
  subst c13
  have H1 : (if t239 = t230 then ((laws_toBook.f k l0_0).bind fun t242 => ((laws_eqBook.f k t232 t242).bind fun t245 => (if t245 = true then ((laws_markBook.f k t232 1).bind fun bt246 => (if bt246.1 < 0 then (some false) else ((laws_eqBook.f k t236 t227).bind fun t248 => (if t248 = true then ((laws_markBook.f k t236 1).bind fun bt249 => ((laws_heldBook.f k bt249.2 1).bind fun t251 => (if t251 < 0 then (some false) else (if t251 = bt249.1 then ((laws_toBook.f k l0_0).bind fun t252 => ((impl_OpenAccount.f k t252 a1).bind fun bt255 => ((laws_eqBook.f k bt255.1 t227).bind fun t260 => (if t260 = true then (if bt255.2 = t230 then ((laws_heldBook.f k bt249.2 1).bind fun t261 => (if t261 < 0 then (some false) else (if t261 = bt249.1 then (some true) else (some false)))) else (some false)) else (some false))))) else (some false))))) else (some false))))) else (some false)))) else (some false)) = some r := by rw [if_pos rfl] at H; exact H
  clear H
  have H := H1
  clear H1
  by_cases c14 : t239 = t230
  rotate_left
  · rw [if_neg c14] at H
    have c14b0 : (t239 == t230) = false := beq_eq_false_iff_ne.mpr c14
    have c14b1 : (t239 != t230) = true := bne_iff_ne.mpr c14
    exact absurd ((Option.some.inj H).trans hr_.out) (by decide)
  rw [if_pos c14] at H
  have c14b0 : (t239 == t230) = true := beq_iff_eq.mpr c14
  have c14b1 : (t239 != t230) = false := bne_eq_false_iff_eq.mpr c14
  clear c14
  replace H := Option.bind_eq_some_iff.mp H
  obtain ⟨t242, A150, H⟩ := H
  replace H : ((laws_eqBook.f k t232 t242).bind fun t245 => (if t245 = true then ((laws_markBook.f k t232 1).bind fun bt246 => (if bt246.1 < 0 then (some false) else ((laws_eqBook.f k t236 t227).bind fun t248 => (if t248 = true then ((laws_markBook.f k t236 1).bind fun bt249 => ((laws_heldBook.f k bt249.2 1).bind fun t251 => (if t251 < 0 then (some false) else (if t251 = bt249.1 then ((laws_toBook.f k l0_0).bind fun t252 => ((impl_OpenAccount.f k t252 a1).bind fun bt255 => ((laws_eqBook.f k bt255.1 t227).bind fun t260 => (if t260 = true then (if bt255.2 = t230 then ((laws_heldBook.f k bt249.2 1).bind fun t261 => (if t261 < 0 then (some false) else (if t261 = bt249.1 then (some true) else (some false)))) else (some false)) else (some false))))) else (some false))))) else (some false))))) else (some false))) = some r := H
  have A15 := Aside0.mk A150
  clear A150
  replace H := Option.bind_eq_some_iff.mp H
  obtain ⟨t245, A160, H⟩ := H
  replace H : (if t245 = true then ((laws_markBook.f k t232 1).bind fun bt246 => (if bt246.1 < 0 then (some false) else ((laws_eqBook.f k t236 t227).bind fun t248 => (if t248 = true then ((laws_markBook.f k t236 1).bind fun bt249 => ((laws_heldBook.f k bt249.2 1).bind fun t251 => (if t251 < 0 then (some false) else (if t251 = bt249.1 then ((laws_toBook.f k l0_0).bind fun t252 => ((impl_OpenAccount.f k t252 a1).bind fun bt255 => ((laws_eqBook.f k bt255.1 t227).bind fun t260 => (if t260 = true then (if bt255.2 = t230 then ((laws_heldBook.f k bt249.2 1).bind fun t261 => (if t261 < 0 then (some false) else (if t261 = bt249.1 then (some true) else (some false)))) else (some false)) else (some false))))) else (some false))))) else (some false))))) else (some false)) = some r := H
  have A16 := Aside0.mk A160
  clear A160
  by_cases c17 : t245 = true
  rotate_left
  · replace c17 := Bool.eq_false_iff.mpr c17
    subst c17
    have H1 : (some false) = some r := by rw [if_neg (show ¬ (false = true) by decide)] at H; exact H
    clear H
    have H := H1
    clear H1
    exact absurd ((Option.some.inj H).trans hr_.out) (by decide)
  subst c17
  have H1 : ((laws_markBook.f k t232 1).bind fun bt246 => (if bt246.1 < 0 then (some false) else ((laws_eqBook.f k t236 t227).bind fun t248 => (if t248 = true then ((laws_markBook.f k t236 1).bind fun bt249 => ((laws_heldBook.f k bt249.2 1).bind fun t251 => (if t251 < 0 then (some false) else (if t251 = bt249.1 then ((laws_toBook.f k l0_0).bind fun t252 => ((impl_OpenAccount.f k t252 a1).bind fun bt255 => ((laws_eqBook.f k bt255.1 t227).bind fun t260 => (if t260 = true then (if bt255.2 = t230 then ((laws_heldBook.f k bt249.2 1).bind fun t261 => (if t261 < 0 then (some false) else (if t261 = bt249.1 then (some true) else (some false)))) else (some false)) else (some false))))) else (some false))))) else (some false))))) = some r := by rw [if_pos rfl] at H; exact H
  clear H
  have H := H1
  clear H1
  replace H := Option.bind_eq_some_iff.mp H
  obtain ⟨⟨t246, t247⟩, A180, H⟩ := H
  replace H : (if t246 < 0 then (some false) else ((laws_eqBook.f k t236 t227).bind fun t248 => (if t248 = true then ((laws_markBook.f k t236 1).bind fun bt249 => ((laws_heldBook.f k bt249.2 1).bind fun t251 => (if t251 < 0 then (some false) else (if t251 = bt249.1 then ((laws_toBook.f k l0_0).bind fun t252 => ((impl_OpenAccount.f k t252 a1).bind fun bt255 => ((laws_eqBook.f k bt255.1 t227).bind fun t260 => (if t260 = true then (if bt255.2 = t230 then ((laws_heldBook.f k bt249.2 1).bind fun t261 => (if t261 < 0 then (some false) else (if t261 = bt249.1 then (some true) else (some false)))) else (some false)) else (some false))))) else (some false))))) else (some false)))) = some r := H
  have A18 := Aside0.mk A180
  clear A180
  by_cases c19 : t246 < 0
  · rw [if_pos c19] at H
    have c19b0 : decide (t246 < 0) = true := decide_eq_true c19
    clear c19
    exact absurd ((Option.some.inj H).trans hr_.out) (by decide)
  rw [if_neg c19] at H
  have c19b0 : decide (t246 < 0) = false := decide_eq_false c19
  clear c19
  replace H := Option.bind_eq_some_iff.mp H
  obtain ⟨t248, A200, H⟩ := H
  replace H : (if t248 = true then ((laws_markBook.f k t236 1).bind fun bt249 => ((laws_heldBook.f k bt249.2 1).bind fun t251 => (if t251 < 0 then (some false) else (if t251 = bt249.1 then ((laws_toBook.f k l0_0).bind fun t252 => ((impl_OpenAccount.f k t252 a1).bind fun bt255 => ((laws_eqBook.f k bt255.1 t227).bind fun t260 => (if t260 = true then (if bt255.2 = t230 then ((laws_heldBook.f k bt249.2 1).bind fun t261 => (if t261 < 0 then (some false) else (if t261 = bt249.1 then (some true) else (some false)))) else (some false)) else (some false))))) else (some false))))) else (some false)) = some r := H
  have A20 := Aside0.mk A200
  clear A200
  by_cases c21 : t248 = true
  rotate_left
  · replace c21 := Bool.eq_false_iff.mpr c21
    subst c21
    have H1 : (some false) = some r := by rw [if_neg (show ¬ (false = true) by decide)] at H; exact H
    clear H
    have H := H1
    clear H1
    exact absurd ((Option.some.inj H).trans hr_.out) (by decide)
  subst c21
  have H1 : ((laws_markBook.f k t236 1).bind fun bt249 => ((laws_heldBook.f k bt249.2 1).bind fun t251 => (if t251 < 0 then (some false) else (if t251 = bt249.1 then ((laws_toBook.f k l0_0).bind fun t252 => ((impl_OpenAccount.f k t252 a1).bind fun bt255 => ((laws_eqBook.f k bt255.1 t227).bind fun t260 => (if t260 = true then (if bt255.2 = t230 then ((laws_heldBook.f k bt249.2 1).bind fun t261 => (if t261 < 0 then (some false) else (if t261 = bt249.1 then (some true) else (some false)))) else (some false)) else (some false))))) else (some false))))) = some r := by rw [if_pos rfl] at H; exact H
  clear H
  have H := H1
  clear H1
  replace H := Option.bind_eq_some_iff.mp H
  obtain ⟨⟨t249, t250⟩, A220, H⟩ := H
  replace H : ((laws_heldBook.f k t250 1).bind fun t251 => (if t251 < 0 then (some false) else (if t251 = t249 then ((laws_toBook.f k l0_0).bind fun t252 => ((impl_OpenAccount.f k t252 a1).bind fun bt255 => ((laws_eqBook.f k bt255.1 t227).bind fun t260 => (if t260 = true then (if bt255.2 = t230 then ((laws_heldBook.f k t250 1).bind fun t261 => (if t261 < 0 then (some false) else (if t261 = t249 then (some true) else (some false)))) else (some false)) else (some false))))) else (some false)))) = some r := H
  have A22 := Aside0.mk A220
  clear A220
  replace H := Option.bind_eq_some_iff.mp H
  obtain ⟨t251, A230, H⟩ := H
  replace H : (if t251 < 0 then (some false) else (if t251 = t249 then ((laws_toBook.f k l0_0).bind fun t252 => ((impl_OpenAccount.f k t252 a1).bind fun bt255 => ((laws_eqBook.f k bt255.1 t227).bind fun t260 => (if t260 = true then (if bt255.2 = t230 then ((laws_heldBook.f k t250 1).bind fun t261 => (if t261 < 0 then (some false) else (if t261 = t249 then (some true) else (some false)))) else (some false)) else (some false))))) else (some false))) = some r := H
  have A23 := Aside0.mk A230
  clear A230
  by_cases c24 : t251 < 0
  · rw [if_pos c24] at H
    have c24b0 : decide (t251 < 0) = true := decide_eq_true c24
    clear c24
    exact absurd ((Option.some.inj H).trans hr_.out) (by decide)
  rw [if_neg c24] at H
  have c24b0 : decide (t251 < 0) = false := decide_eq_false c24
  clear c24
  by_cases c25 : t251 = t249
  rotate_left
  · rw [if_neg c25] at H
    have c25b0 : (t251 == t249) = false := beq_eq_false_iff_ne.mpr c25
    have c25b1 : (t251 != t249) = true := bne_iff_ne.mpr c25
    exact absurd ((Option.some.inj H).trans hr_.out) (by decide)
  rw [if_pos c25] at H
  have c25b0 : (t251 == t249) = true := beq_iff_eq.mpr c25
  have c25b1 : (t251 != t249) = false := bne_eq_false_iff_eq.mpr c25
  clear c25
  replace H := Option.bind_eq_some_iff.mp H
  obtain ⟨t252, A260, H⟩ := H
  replace H : ((impl_OpenAccount.f k t252 a1).bind fun bt255 => ((laws_eqBook.f k bt255.1 t227).bind fun t260 => (if t260 = true then (if bt255.2 = t230 then ((laws_heldBook.f k t250 1).bind fun t261 => (if t261 < 0 then (some false) else (if t261 = t249 then (some true) else (some false)))) else (some false)) else (some false)))) = some r := H
  have A26 := Aside0.mk A260
  clear A260
  replace H := Option.bind_eq_some_iff.mp H
  obtain ⟨⟨t255, t258⟩, A270, H⟩ := H
  replace H : ((laws_eqBook.f k t255 t227).bind fun t260 => (if t260 = true then (if t258 = t230 then ((laws_heldBook.f k t250 1).bind fun t261 => (if t261 < 0 then (some false) else (if t261 = t249 then (some true) else (some false)))) else (some false)) else (some false))) = some r := H
  have A27 := Aside0.mk A270
  clear A270
  replace H := Option.bind_eq_some_iff.mp H
  obtain ⟨t260, A280, H⟩ := H
  replace H : (if t260 = true then (if t258 = t230 then ((laws_heldBook.f k t250 1).bind fun t261 => (if t261 < 0 then (some false) else (if t261 = t249 then (some true) else (some false)))) else (some false)) else (some false)) = some r := H
  have A28 := Aside0.mk A280
  clear A280
  by_cases c29 : t260 = true
  rotate_left
  · replace c29 := Bool.eq_false_iff.mpr c29
    subst c29
    have H1 : (some false) = some r := by rw [if_neg (show ¬ (false = true) by decide)] at H; exact H
    clear H
    have H := H1
    clear H1
    exact absurd ((Option.some.inj H).trans hr_.out) (by decide)
  subst c29
  have H1 : (if t258 = t230 then ((laws_heldBook.f k t250 1).bind fun t261 => (if t261 < 0 then (some false) else (if t261 = t249 then (some true) else (some false)))) else (some false)) = some r := by rw [if_pos rfl] at H; exact H
  clear H
  have H := H1
  clear H1
  by_cases c30 : t258 = t230
  rotate_left
  · rw [if_neg c30] at H
    have c30b0 : (t258 == t230) = false := beq_eq_false_iff_ne.mpr c30
    have c30b1 : (t258 != t230) = true := bne_iff_ne.mpr c30
    exact absurd ((Option.some.inj H).trans hr_.out) (by decide)
  rw [if_pos c30] at H
  have c30b0 : (t258 == t230) = true := beq_iff_eq.mpr c30
  have c30b1 : (t258 != t230) = false := bne_eq_false_iff_eq.mpr c30
  clear c30
  replace H := Option.bind_eq_some_iff.mp H
  obtain ⟨t261, A310, H⟩ := H
  replace H : (if t261 < 0 then (some false) else (if t261 = t249 then (some true) else (some false))) = some r := H
  have A31 := Aside0.mk A310
  clear A310
  by_cases c32 : t261 < 0
  · rw [if_pos c32] at H
    have c32b0 : decide (t261 < 0) = true := decide_eq_true c32
    clear c32
    exact absurd ((Option.some.inj H).trans hr_.out) (by decide)
  rw [if_neg c32] at H
  have c32b0 : decide (t261 < 0) = false := decide_eq_false c32
  clear c32
  by_cases c33 : t261 = t249
  rotate_left
  · rw [if_neg c33] at H
    have c33b0 : (t261 == t249) = false := beq_eq_false_iff_ne.mpr c33
    have c33b1 : (t261 != t249) = true := bne_iff_ne.mpr c33
    exact absurd ((Option.some.inj H).trans hr_.out) (by decide)
  rw [if_pos c33] at H
  have c33b0 : (t261 == t249) = true := beq_iff_eq.mpr c33
  have c33b1 : (t261 != t249) = false := bne_eq_false_iff_eq.mpr c33
  clear c33
  obtain rfl := Option.some.inj H
  have hcz34_0 : w6.cell? ⟨gb222, 0, none⟩ = some (.slice A0_0 l0_0.length c0_0) := (blk_cell BK222.out 0).trans rfl
  have hfz34_0 := blk_frozen BK222.out 0
  try go_wp2_with (first | ((with_reducible refine gate_callee (f := 19) rfl ?_); refine goesL_ (some 23) rfl rfl Try.func19 (by kernel_rfl) rfl #[.agg #[.slice A0_0 l0_0.length c0_0]] rfl u7_2 ?_; (with_reducible refine (laws_toBook.calls k _ _ l0_0 t224 _ ?side1 ?side2 A8.out).mono ?_); (case side1 => exact u7_15); (case side2 => exact HC0_0.out); rintro e w35 ⟨v225, rfl, ho0, hb⟩; refine ⟨_, rfl, ?_⟩; have n0_ := Aside0.mk (Kd.R_lower ho0 (below_size u7_8)); have n1_ := Aside0.mk (blk_below (g := gb222) (o := .cells #[.slice A0_0 l0_0.length c0_0] 24 (0, 0)) u7_1 hb); have n2_ := Aside0.mk (below_step u7_8 hb); clear BK222; clear HB; have HO226 := n0_; have BK222 := n1_; have HB := n2_; clear n0_ n1_ n2_; (try clear hb); (try clear hb2); (try clear hk); (try clear hi); (try clear ho0); obtain ⟨Ao36, co36, eo36⟩ := Kd.R_slice HO226.out; subst eo36) | ((with_reducible refine gate_callee (f := 42) rfl ?_); refine goesL_ (some 25) rfl rfl Try.func42 (by kernel_rfl) rfl #[.agg #[.slice Ao36 t224.length co36], .int .u64 a1] rfl u7_2 ?_; (with_reducible refine (spec_OpenAccount.calls k _ _ t224 a1 t227 t230 _ ?side1 ?side2 A9.out).mono ?_); (case side1 => exact (by repeat (first | exact (Kd.R_reads' HO226.out).2.2 | (with_reducible refine Kd.C_alloc ?_ _) | (with_reducible refine Kd.C_drewN ?_ _) | (with_reducible refine Kd.C_drew ?_)))); (case side2 => exact (Kd.R_reads' HO226.out).2.1); rintro e w37 ⟨v228, rfl, ho0, hb⟩; refine ⟨_, rfl, ?_⟩; have n0_ := Aside0.mk (Kd.R_elder' u7_6 (Kd.R_base ho0) hb); have n1_ := Aside0.mk (Kd.R_lower (Kd.R_new' ho0 (Kd.R_lt u7_6)) (below_size u7_8)); have n2_ := Aside0.mk (blk_below (g := gb222) (o := .cells #[.slice A0_0 l0_0.length c0_0] 24 (0, 0)) u7_1 hb); have n3_ := Aside0.mk (below_step u7_8 hb); clear HO226; clear BK222; clear HB; have HO226 := n0_; have HO229 := n1_; have BK222 := n2_; have HB := n3_; clear n0_ n1_ n2_ n3_; (try clear hb); (try clear hb2); (try clear hk); (try clear hi); (try clear ho0)) | ((with_reducible refine gate_dst (N := 6) rfl ?_); refine box_event ?hg (N := 6) ?hd (cs := #[.slice none 0 0]) (t := 29) ?hr ?_; (case hd => rfl); (case hg => rfl); (case hr => first | (go_simp; done) | (go_simp; rfl)); intro gb231 hg w38 hbox hb; have n0_ := Aside0.mk (Kd.R_below u7_6 hb); have n1_ := Aside0.mk (Kd.R_below u7_7 hb); have n2_ := Aside0.mk (blk_below (g := gb222) (o := .cells #[.slice A0_0 l0_0.length c0_0] 24 (0, 0)) u7_1 hb); have n3_ := Aside0.mk (below_step u7_8 hb); have n4_ := Aside0.mk (hbox); have n5_ := Aside0.mk ((by rw [hg]; exact (below_size u7_8) : w.heap.size ≤ gb231)); have n6_ := Aside0.mk ((by rw [hg]; exact (below_size u7_8) : w.heap.size ≤ gb231)); have n7_ := Aside0.mk ((by rw [hg]; exact Nat.ne_of_lt (blk_lt (g := gb222) (o := .cells #[.slice A0_0 l0_0.length c0_0] 24 (0, 0)) u7_1) : gb222 ≠ gb231)); have n8_ := Aside0.mk ((by rw [hg]; exact Nat.ne_of_gt (blk_lt (g := gb222) (o := .cells #[.slice A0_0 l0_0.length c0_0] 24 (0, 0)) u7_1) : gb231 ≠ gb222)); clear HO226; clear HO229; clear BK222; clear HB; have HO226 := n0_; have HO229 := n1_; have BK222 := n2_; have HB := n3_; have BK231 := n4_; have GW231 := n5_; have GE231 := n6_; have NB222_231 := n7_; have NB231_222 := n8_; clear n0_ n1_ n2_ n3_ n4_ n5_ n6_ n7_ n8_; clear hb hbox hg; obtain ⟨Ao39, co39, eo39⟩ := Kd.R_slice HO229.out; subst eo39; have hnb40 := NB231_222.out; have hnc40 := NB222_231.out; have hcz41_0 : w38.cell? ⟨gb231, 0, none⟩ = some (.slice none 0 0) := (blk_cell BK231.out 0).trans rfl; have hfz41_0 := blk_frozen BK231.out 0; have hcz42_0 : w38.cell? ⟨gb222, 0, none⟩ = some (.slice A0_0 l0_0.length c0_0) := (blk_cell BK222.out 0).trans rfl; have hfz42_0 := blk_frozen BK222.out 0) | ((with_reducible refine gate_callee (f := 19) rfl ?_); refine goesL_ (some 29) rfl rfl Try.func19 (by kernel_rfl) rfl #[.agg #[.slice A0_0 l0_0.length c0_0]] rfl u7_2 ?_; (with_reducible refine (laws_toBook.calls k _ _ l0_0 t232 _ ?side1 ?side2 A10.out).mono ?_); (case side1 => exact (by exact Kd.C_below HR0_0.out u7_13)); (case side2 => exact HC0_0.out); rintro e w43 ⟨v233, rfl, ho0, hb⟩; refine ⟨_, rfl, ?_⟩; have n0_ := Aside0.mk (Kd.R_elder' u7_28 (Kd.R_base ho0) hb); have n1_ := Aside0.mk (Kd.R_elder' u7_29 (Kd.R_base ho0) hb); have n2_ := Aside0.mk (Kd.R_lower (Kd.R_new' (Kd.R_new' ho0 (Kd.R_lt u7_28)) (Kd.R_lt u7_29)) (below_size u7_13)); have n3_ := Aside0.mk (blk_below (g := gb222) (o := .cells #[.slice A0_0 l0_0.length c0_0] 24 (0, 0)) (by (with_reducible repeat (first | refine blk_drewN ?_ _ | refine blk_drew ?_ | refine blk_alloc ?_ _)); refine blk_far ?_ NB222_231.out _; (with_reducible repeat (first | refine blk_drewN ?_ _ | refine blk_drew ?_ | refine blk_alloc ?_ _)); exact BK222.out) hb); have n4_ := Aside0.mk (blk_below (g := gb231) (o := .cells #[.slice Ao39 t227.length co39] 29 (0, 0)) (by (with_reducible repeat (first | refine blk_drewN ?_ _ | refine blk_drew ?_ | refine blk_alloc ?_ _)); refine blk_put (cs := #[.slice none 0 0]) ?_ 0 _ rfl; (with_reducible repeat (first | refine blk_drewN ?_ _ | refine blk_drew ?_ | refine blk_alloc ?_ _)); exact BK231.out) hb); have n5_ := Aside0.mk (below_step u7_13 hb); clear HO226; clear HO229; clear BK222; clear BK231; clear HB; have HO226 := n0_; have HO229 := n1_; have HO234 := n2_; have BK222 := n3_; have BK231 := n4_; have HB := n5_; clear n0_ n1_ n2_ n3_ n4_ n5_; (try clear hb); (try clear hb2); (try clear hk); (try clear hi); (try clear ho0)) | ((with_reducible refine gate_dst (N := 8) rfl ?_); refine box_event ?hg (N := 8) ?hd (cs := #[.slice none 0 0]) (t := 29) ?hr ?_; (case hd => rfl); (case hg => rfl); (case hr => first | (go_simp; done) | (go_simp; rfl)); intro gb235 hg w44 hbox hb; have n0_ := Aside0.mk (Kd.R_below u7_6 hb); have n1_ := Aside0.mk (Kd.R_below u7_7 hb); have n2_ := Aside0.mk (Kd.R_below u7_10 hb); have n3_ := Aside0.mk (blk_below (g := gb222) (o := .cells #[.slice A0_0 l0_0.length c0_0] 24 (0, 0)) u7_1 hb); have n4_ := Aside0.mk (blk_below (g := gb231) (o := .cells #[.slice Ao39 t227.length co39] 29 (0, 0)) u7_4 hb); have n5_ := Aside0.mk (below_step u7_13 hb); have n6_ := Aside0.mk (hbox); have n7_ := Aside0.mk ((by rw [hg]; exact (below_size u7_13) : w.heap.size ≤ gb235)); have n8_ := Aside0.mk ((by rw [hg]; exact (below_size u7_13) : w.heap.size ≤ gb235)); have n9_ := Aside0.mk ((by rw [hg]; exact Nat.ne_of_lt (blk_lt (g := gb222) (o := .cells #[.slice A0_0 l0_0.length c0_0] 24 (0, 0)) u7_1) : gb222 ≠ gb235)); have n10_ := Aside0.mk ((by rw [hg]; exact Nat.ne_of_gt (blk_lt (g := gb222) (o := .cells #[.slice A0_0 l0_0.length c0_0] 24 (0, 0)) u7_1) : gb235 ≠ gb222)); have n11_ := Aside0.mk ((by rw [hg]; exact Nat.ne_of_lt (blk_lt (g := gb231) (o := .cells #[.slice Ao39 t227.length co39] 29 (0, 0)) u7_4) : gb231 ≠ gb235)); have n12_ := Aside0.mk ((by rw [hg]; exact Nat.ne_of_gt (blk_lt (g := gb231) (o := .cells #[.slice Ao39 t227.length co39] 29 (0, 0)) u7_4) : gb235 ≠ gb231)); clear HO226; clear HO229; clear HO234; clear BK222; clear BK231; clear HB; have HO226 := n0_; have HO229 := n1_; have HO234 := n2_; have BK222 := n3_; have BK231 := n4_; have HB := n5_; have BK235 := n6_; have GW235 := n7_; have GE235 := n8_; have NB222_235 := n9_; have NB235_222 := n10_; have NB231_235 := n11_; have NB235_231 := n12_; clear n0_ n1_ n2_ n3_ n4_ n5_ n6_ n7_ n8_ n9_ n10_ n11_ n12_; clear hb hbox hg; obtain ⟨Ao45, co45, eo45⟩ := Kd.R_slice HO234.out; subst eo45; have hnb46 := NB235_222.out; have hnc46 := NB222_235.out; have hnb47 := NB235_231.out; have hnc47 := NB231_235.out; have hcz48_0 : w44.cell? ⟨gb235, 0, none⟩ = some (.slice none 0 0) := (blk_cell BK235.out 0).trans rfl; have hfz48_0 := blk_frozen BK235.out 0) | ((with_reducible refine gate_callee (f := 43) rfl ?_); refine goesL_ (some 33) rfl rfl Try.func43 (by kernel_rfl) rfl #[.agg #[.slice Ao45 t232.length co45], .int .u64 a1] rfl u7_2 ?_; (with_reducible refine (impl_OpenAccount.calls k _ _ t232 a1 t236 t239 _ ?side1 ?side2 A11.out).mono ?_); (case side1 => exact (by refine (Kd.R_reads' (e := 53) (base := w.heap.size) (ok := fun k_ => ((True ∧ some k_ ≠ (.slice Ao36 t224.length co36 : Value).ownBlock) ∧ some k_ ≠ (.slice Ao39 t227.length co39 : Value).ownBlock)) (n := t232.length) (c := co45) ?_).2.2; exact u7_23)); (case side2 => exact (Kd.R_reads' HO234.out).2.1); rintro e w49 ⟨v237, rfl, ho0, hb⟩; refine ⟨_, rfl, ?_⟩; have n0_ := Aside0.mk (Kd.R_elder' u7_30 (Kd.R_base ho0) hb); have n1_ := Aside0.mk (Kd.R_elder' u7_31 (Kd.R_base ho0) hb); have n2_ := Aside0.mk (Kd.R_elder' u7_23 (Kd.R_base ho0) hb); have n3_ := Aside0.mk (Kd.R_lower (Kd.R_new' (Kd.R_new' (Kd.R_new' ho0 (Kd.R_lt u7_30)) (Kd.R_lt u7_31)) (Kd.R_lt u7_23)) (below_size u7_14)); have n4_ := Aside0.mk (blk_below (g := gb222) (o := .cells #[.slice A0_0 l0_0.length c0_0] 24 (0, 0)) (by (with_reducible repeat (first | refine blk_drewN ?_ _ | refine blk_drew ?_ | refine blk_alloc ?_ _)); refine blk_far ?_ NB222_235.out _; (with_reducible repeat (first | refine blk_drewN ?_ _ | refine blk_drew ?_ | refine blk_alloc ?_ _)); exact BK222.out) hb); have n5_ := Aside0.mk (blk_below (g := gb231) (o := .cells #[.slice Ao39 t227.length co39] 29 (0, 0)) (by (with_reducible repeat (first | refine blk_drewN ?_ _ | refine blk_drew ?_ | refine blk_alloc ?_ _)); refine blk_far ?_ NB231_235.out _; (with_reducible repeat (first | refine blk_drewN ?_ _ | refine blk_drew ?_ | refine blk_alloc ?_ _)); exact BK231.out) hb); have n6_ := Aside0.mk (blk_below (g := gb235) (o := .cells #[.slice Ao45 t232.length co45] 29 (0, 0)) (by (with_reducible repeat (first | refine blk_drewN ?_ _ | refine blk_drew ?_ | refine blk_alloc ?_ _)); refine blk_put (cs := #[.slice none 0 0]) ?_ 0 _ rfl; (with_reducible repeat (first | refine blk_drewN ?_ _ | refine blk_drew ?_ | refine blk_alloc ?_ _)); exact BK235.out) hb); have n7_ := Aside0.mk (below_step u7_14 hb); clear HO226; clear HO229; clear HO234; clear BK222; clear BK231; clear BK235; clear HB; have HO226 := n0_; have HO229 := n1_; have HO234 := n2_; have HO238 := n3_; have BK222 := n4_; have BK231 := n5_; have BK235 := n6_; have HB := n7_; clear n0_ n1_ n2_ n3_ n4_ n5_ n6_ n7_; (try clear hb); (try clear hb2); (try clear hk); (try clear hi); (try clear ho0)) | ((with_reducible refine gate_dst (N := 9) rfl ?_); refine box_event ?hg (N := 9) ?hd (cs := #[.slice none 0 0]) (t := 29) ?hr ?_; (case hd => rfl); (case hg => rfl); (case hr => first | (go_simp; done) | (go_simp; rfl)); intro gb240 hg w50 hbox hb; have n0_ := Aside0.mk (Kd.R_below u7_6 hb); have n1_ := Aside0.mk (Kd.R_below u7_7 hb); have n2_ := Aside0.mk (Kd.R_below u7_10 hb); have n3_ := Aside0.mk (Kd.R_below u7_11 hb); have n4_ := Aside0.mk (blk_below (g := gb222) (o := .cells #[.slice A0_0 l0_0.length c0_0] 24 (0, 0)) u7_1 hb); have n5_ := Aside0.mk (blk_below (g := gb231) (o := .cells #[.slice Ao39 t227.length co39] 29 (0, 0)) u7_4 hb); have n6_ := Aside0.mk (blk_below (g := gb235) (o := .cells #[.slice Ao45 t232.length co45] 29 (0, 0)) u7_5 hb); have n7_ := Aside0.mk (below_step u7_14 hb); have n8_ := Aside0.mk (hbox); have n9_ := Aside0.mk ((by rw [hg]; exact (below_size u7_14) : w.heap.size ≤ gb240)); have n10_ := Aside0.mk ((by rw [hg]; exact (below_size u7_14) : w.heap.size ≤ gb240)); have n11_ := Aside0.mk ((by rw [hg]; exact Nat.ne_of_lt (blk_lt (g := gb222) (o := .cells #[.slice A0_0 l0_0.length c0_0] 24 (0, 0)) u7_1) : gb222 ≠ gb240)); have n12_ := Aside0.mk ((by rw [hg]; exact Nat.ne_of_gt (blk_lt (g := gb222) (o := .cells #[.slice A0_0 l0_0.length c0_0] 24 (0, 0)) u7_1) : gb240 ≠ gb222)); have n13_ := Aside0.mk ((by rw [hg]; exact Nat.ne_of_lt (blk_lt (g := gb231) (o := .cells #[.slice Ao39 t227.length co39] 29 (0, 0)) u7_4) : gb231 ≠ gb240)); have n14_ := Aside0.mk ((by rw [hg]; exact Nat.ne_of_gt (blk_lt (g := gb231) (o := .cells #[.slice Ao39 t227.length co39] 29 (0, 0)) u7_4) : gb240 ≠ gb231)); have n15_ := Aside0.mk ((by rw [hg]; exact Nat.ne_of_lt (blk_lt (g := gb235) (o := .cells #[.slice Ao45 t232.length co45] 29 (0, 0)) u7_5) : gb235 ≠ gb240)); have n16_ := Aside0.mk ((by rw [hg]; exact Nat.ne_of_gt (blk_lt (g := gb235) (o := .cells #[.slice Ao45 t232.length co45] 29 (0, 0)) u7_5) : gb240 ≠ gb235)); clear HO226; clear HO229; clear HO234; clear HO238; clear BK222; clear BK231; clear BK235; clear HB; have HO226 := n0_; have HO229 := n1_; have HO234 := n2_; have HO238 := n3_; have BK222 := n4_; have BK231 := n5_; have BK235 := n6_; have HB := n7_; have BK240 := n8_; have GW240 := n9_; have GE240 := n10_; have NB222_240 := n11_; have NB240_222 := n12_; have NB231_240 := n13_; have NB240_231 := n14_; have NB235_240 := n15_; have NB240_235 := n16_; clear n0_ n1_ n2_ n3_ n4_ n5_ n6_ n7_ n8_ n9_ n10_ n11_ n12_ n13_ n14_ n15_ n16_; clear hb hbox hg; obtain ⟨Ao51, co51, eo51⟩ := Kd.R_slice HO238.out; subst eo51; have hnb52 := NB240_222.out; have hnc52 := NB222_240.out; have hnb53 := NB240_231.out; have hnc53 := NB231_240.out; have hnb54 := NB240_235.out; have hnc54 := NB235_240.out; have hcz55_0 : w50.cell? ⟨gb240, 0, none⟩ = some (.slice none 0 0) := (blk_cell BK240.out 0).trans rfl; have hfz55_0 := blk_frozen BK240.out 0; have hcz56_0 : w50.cell? ⟨gb231, 0, none⟩ = some (.slice Ao39 t227.length co39) := (blk_cell BK231.out 0).trans rfl; have hfz56_0 := blk_frozen BK231.out 0) | ((with_reducible refine gate_callee (f := 21) rfl ?_); refine goesL_ (some 38) rfl rfl Try.func21 (by kernel_rfl) rfl #[.agg #[.slice Ao51 t236.length co51], .agg #[.slice Ao39 t227.length co39]] rfl u7_2 ?_; (with_reducible refine (laws_eqBook.calls k _ _ t236 _ _ t227 true _ ?side1 ?side2 ?side3 ?side4 A12.out).mono ?_); (case side1 => exact (by refine (Kd.R_reads' (e := 53) (base := w.heap.size) (ok := fun k_ => (((True ∧ some k_ ≠ (.slice Ao36 t224.length co36 : Value).ownBlock) ∧ some k_ ≠ (.slice Ao39 t227.length co39 : Value).ownBlock) ∧ some k_ ≠ (.slice Ao45 t232.length co45 : Value).ownBlock)) (n := t236.length) (c := co51) ?_).2.2; exact u7_32)); (case side2 => exact (Kd.R_reads' HO238.out).2.1); (case side3 => exact (by refine (Kd.R_reads' (e := 53) (base := w.heap.size) (ok := fun k_ => (((True ∧ some k_ ≠ (.slice Ao36 t224.length co36 : Value).ownBlock) ∧ some k_ ≠ (.slice Ao45 t232.length co45 : Value).ownBlock) ∧ some k_ ≠ (.slice Ao51 t236.length co51 : Value).ownBlock)) (n := t227.length) (c := co39) ?_).2.2; exact u7_33)); (case side4 => exact (Kd.R_reads' HO229.out).2.1); rintro e w57 ⟨rfl, hb⟩; refine ⟨_, rfl, ?_⟩; have n0_ := Aside0.mk (Kd.R_below (by (with_reducible repeat (first | apply Kd.R_alloc | apply Kd.R_drewN | apply Kd.R_drew)); exact (Kd.R_mono (Kd.R_far (p := ⟨gb240, 0, none⟩) (Kd.R_types HO226.out BK240.out (by decide)) (fun _ hk => hk.2) (.slice Ao51 t236.length co51)) (fun _ h_ => h_.1))) hb); have n1_ := Aside0.mk (Kd.R_below u7_33 hb); have n2_ := Aside0.mk (Kd.R_below (by (with_reducible repeat (first | apply Kd.R_alloc | apply Kd.R_drewN | apply Kd.R_drew)); exact (Kd.R_mono (Kd.R_far (p := ⟨gb240, 0, none⟩) (Kd.R_types HO234.out BK240.out (by decide)) (fun _ hk => hk.2) (.slice Ao51 t236.length co51)) (fun _ h_ => h_.1))) hb); have n3_ := Aside0.mk (Kd.R_below u7_32 hb); have n4_ := Aside0.mk (blk_below (g := gb222) (o := .cells #[.slice A0_0 l0_0.length c0_0] 24 (0, 0)) (by (with_reducible repeat (first | refine blk_drewN ?_ _ | refine blk_drew ?_ | refine blk_alloc ?_ _)); refine blk_far ?_ NB222_240.out _; (with_reducible repeat (first | refine blk_drewN ?_ _ | refine blk_drew ?_ | refine blk_alloc ?_ _)); exact BK222.out) hb); have n5_ := Aside0.mk (blk_below (g := gb231) (o := .cells #[.slice Ao39 t227.length co39] 29 (0, 0)) (by (with_reducible repeat (first | refine blk_drewN ?_ _ | refine blk_drew ?_ | refine blk_alloc ?_ _)); refine blk_far ?_ NB231_240.out _; (with_reducible repeat (first | refine blk_drewN ?_ _ | refine blk_drew ?_ | refine blk_alloc ?_ _)); exact BK231.out) hb); have n6_ := Aside0.mk (blk_below (g := gb235) (o := .cells #[.slice Ao45 t232.length co45] 29 (0, 0)) (by (with_reducible repeat (first | refine blk_drewN ?_ _ | refine blk_drew ?_ | refine blk_alloc ?_ _)); refine blk_far ?_ NB235_240.out _; (with_reducible repeat (first | refine blk_drewN ?_ _ | refine blk_drew ?_ | refine blk_alloc ?_ _)); exact BK235.out) hb); have n7_ := Aside0.mk (blk_below (g := gb240) (o := .cells #[.slice Ao51 t236.length co51] 29 (0, 0)) (by (with_reducible repeat (first | refine blk_drewN ?_ _ | refine blk_drew ?_ | refine blk_alloc ?_ _)); refine blk_put (cs := #[.slice none 0 0]) ?_ 0 _ rfl; (with_reducible repeat (first | refine blk_drewN ?_ _ | refine blk_drew ?_ | refine blk_alloc ?_ _)); exact BK240.out) hb); have n8_ := Aside0.mk (below_step u7_0 hb); clear HO226; clear HO229; clear HO234; clear HO238; clear BK222; clear BK231; clear BK235; clear BK240; clear HB; have HO226 := n0_; have HO229 := n1_; have HO234 := n2_; have HO238 := n3_; have BK222 := n4_; have BK231 := n5_; have BK235 := n6_; have BK240 := n7_; have HB := n8_; clear n0_ n1_ n2_ n3_ n4_ n5_ n6_ n7_ n8_; (try clear hb); (try clear hb2); (try clear hk); (try clear hi)))
  have n0_ := Aside0.mk (Kd.R_drew HO226.out)
  have n1_ := Aside0.mk (Kd.R_drew HO229.out)
  have n2_ := Aside0.mk (Kd.R_drew HO234.out)
  have n3_ := Aside0.mk (Kd.R_drew HO238.out)
  have n4_ := Aside0.mk (blk_drew BK222.out)
  have n5_ := Aside0.mk (blk_drew BK231.out)
  have n6_ := Aside0.mk (blk_drew BK235.out)
  have n7_ := Aside0.mk (blk_drew BK240.out)
  have n8_ := Aside0.mk (below_drew1 HB.out)
  clear HO226
  clear HO229
  clear HO234
  clear HO238
  clear BK222
  clear BK231
  clear BK235
  clear BK240
  clear HB
  have HO226 := n0_
  have HO229 := n1_
  have HO234 := n2_
  have HO238 := n3_
  have BK222 := n4_
  have BK231 := n5_
  have BK235 := n6_
  have BK240 := n7_
  have HB := n8_
  clear n0_ n1_ n2_ n3_ n4_ n5_ n6_ n7_ n8_
  refine start_ (n := 5) (S := fun w' => w'.cell? ⟨gb235, 0, none⟩ = some (.slice Ao45 t232.length co45) ∧ w'.cell? ⟨gb222, 0, none⟩ = some (.slice A0_0 l0_0.length c0_0)) (ds := []) #[false, false, false, false, false] (by kernel_rfl) rfl rfl ⟨(blk_cell BK235.out 0).trans rfl, (blk_cell BK222.out 0).trans rfl⟩ (fun hHeld => ?_)
  generalize w57.drew = w58 at HO226 HO229 HO234 HO238 BK222 BK231 BK235 BK240 HB hHeld ⊢
  refine take_ (i := 0) (N := some 45) (v := ?_) (a' := ?_) #[true, false, false, false, false] rfl rfl (by kernel_rfl) (fun _ _ _ h => h) (Or.inl ⟨by rfl, ?_⟩) hHeld ?_ ?_
  rotate_left
  · rintro w' ⟨s0, s1⟩
    go_simp
    with_reducible rfl
  rotate_left
  · simp only [Act.put, List.setIfInBounds_toArray, List.set_cons_zero, List.set_cons_succ, i64_w, i32_w]
    rfl
  refine take_ (i := 1) (N := some 46) (v := ?_) (a' := ?_) #[true, true, false, false, false] rfl rfl (by kernel_rfl) (fun _ _ _ h => h) (Or.inl ⟨by rfl, ?_⟩) hHeld ?_ ?_
  rotate_left
  · rintro w' ⟨s0, s1⟩
    go_simp
    with_reducible rfl
  rotate_left
  · simp only [Act.put, List.setIfInBounds_toArray, List.set_cons_zero, List.set_cons_succ, i64_w, i32_w]
    rfl
  refine one_ (i := 2) (N := some 47) #[true, true, true, false, false] rfl rfl (by kernel_rfl) (by decide) (fun K hK => ?_)
  refine goes_ Try.func19 (by kernel_rfl) rfl #[.agg #[.slice A0_0 l0_0.length c0_0]] (by rfl) rfl rfl u7_2 ?_
  with_reducible refine (laws_toBook.calls k _ _ l0_0 t242 _ ?side1 ?side2 A15.out).mono ?_
  (case side1 => exact u7_15)
  (case side2 => exact HC0_0.out)
  rintro e w59 ⟨v243, rfl, ho0, hb⟩
  refine ⟨_, rfl, ?_⟩
  have n0_ := Aside0.mk (Kd.R_elder' u7_6 (Kd.R_base ho0) hb)
  have n1_ := Aside0.mk (Kd.R_elder' u7_7 (Kd.R_base ho0) hb)
  have n2_ := Aside0.mk (Kd.R_elder' u7_10 (Kd.R_base ho0) hb)
  have n3_ := Aside0.mk (Kd.R_elder' u7_11 (Kd.R_base ho0) hb)
  have n4_ := Aside0.mk (Kd.R_lower (Kd.R_new' (Kd.R_new' (Kd.R_new' (Kd.R_new' ho0 (Kd.R_lt u7_6)) (Kd.R_lt u7_7)) (Kd.R_lt u7_10)) (Kd.R_lt u7_11)) (below_size u7_0))
  have n5_ := Aside0.mk (blk_below (g := gb222) (o := .cells #[.slice A0_0 l0_0.length c0_0] 24 (0, 0)) u7_1 hb)
  have n6_ := Aside0.mk (blk_below (g := gb231) (o := .cells #[.slice Ao39 t227.length co39] 29 (0, 0)) u7_4 hb)
  have n7_ := Aside0.mk (blk_below (g := gb235) (o := .cells #[.slice Ao45 t232.length co45] 29 (0, 0)) u7_5 hb)
  have n8_ := Aside0.mk (blk_below (g := gb240) (o := .cells #[.slice Ao51 t236.length co51] 29 (0, 0)) u7_9 hb)
  have n9_ := Aside0.mk (below_step u7_0 hb)
  clear HO226
  clear HO229
  clear HO234
  clear HO238
  clear BK222
  clear BK231
  clear BK235
  clear BK240
  clear HB
  have HO226 := n0_
  have HO229 := n1_
  have HO234 := n2_
  have HO238 := n3_
  have HO244 := n4_
  have BK222 := n5_
  have BK231 := n6_
  have BK235 := n7_
  have BK240 := n8_
  have HB := n9_
  clear n0_ n1_ n2_ n3_ n4_ n5_ n6_ n7_ n8_ n9_
  (try clear hb)
  (try clear hb2)
  (try clear hk)
  (try clear hi)
  (try clear ho0)
  obtain ⟨Ao60, co60, eo60⟩ := Kd.R_slice HO244.out
  (first | subst eo60 | (injection eo60 with f1_ f2_ f3_; have f4_ := f1_.symm; have f5_ := f3_.symm; clear f1_ f2_ f3_; subst f4_; subst f5_))
  refine hK.out _ _ ⟨(blk_cell BK235.out 0).trans rfl, (blk_cell BK222.out 0).trans rfl⟩ (fun hHeld => ?_)
  clear hK K
  refine norm_ (a' := ?_) ?_ ?_
  rotate_left
  · show Act.put _ (some 47) _ = _
    simp only [Act.put, List.setIfInBounds_toArray, List.set_cons_zero, List.set_cons_succ, i64_w, i32_w]
    rfl
  refine one_ (i := 3) (N := some 48) #[true, true, true, true, false] rfl rfl (by kernel_rfl) (by decide) (fun K hK => ?_)
  refine goes_ Try.func21 (by kernel_rfl) rfl #[.agg #[.slice Ao45 t232.length co45], .agg #[.slice Ao60 t242.length co60]] (by rfl) rfl rfl u7_2 ?_
  with_reducible refine (laws_eqBook.calls k _ _ t232 _ _ t242 true _ ?side1 ?side2 ?side3 ?side4 A16.out).mono ?_
  (case side1 => exact (by repeat (first | exact (Kd.R_reads' HO234.out).2.2 | (with_reducible refine Kd.C_alloc ?_ _) | (with_reducible refine Kd.C_drewN ?_ _) | (with_reducible refine Kd.C_drew ?_))))
  (case side2 => exact (Kd.R_reads' HO234.out).2.1)
  (case side3 => exact (by repeat (first | exact (Kd.R_reads' HO244.out).2.2 | (with_reducible refine Kd.C_alloc ?_ _) | (with_reducible refine Kd.C_drewN ?_ _) | (with_reducible refine Kd.C_drew ?_))))
  (case side4 => exact (Kd.R_reads' HO244.out).2.1)
  rintro e w61 ⟨rfl, hb⟩
  refine ⟨_, rfl, ?_⟩
  have n0_ := Aside0.mk (Kd.R_below u7_6 hb)
  have n1_ := Aside0.mk (Kd.R_below u7_7 hb)
  have n2_ := Aside0.mk (Kd.R_below u7_10 hb)
  have n3_ := Aside0.mk (Kd.R_below u7_11 hb)
  have n4_ := Aside0.mk (Kd.R_below u7_16 hb)
  have n5_ := Aside0.mk (blk_below (g := gb222) (o := .cells #[.slice A0_0 l0_0.length c0_0] 24 (0, 0)) u7_1 hb)
  have n6_ := Aside0.mk (blk_below (g := gb231) (o := .cells #[.slice Ao39 t227.length co39] 29 (0, 0)) u7_4 hb)
  have n7_ := Aside0.mk (blk_below (g := gb235) (o := .cells #[.slice Ao45 t232.length co45] 29 (0, 0)) u7_5 hb)
  have n8_ := Aside0.mk (blk_below (g := gb240) (o := .cells #[.slice Ao51 t236.length co51] 29 (0, 0)) u7_9 hb)
  have n9_ := Aside0.mk (below_step u7_0 hb)
  clear HO226
  clear HO229
  clear HO234
  clear HO238
  clear HO244
  clear BK222
  clear BK231
  clear BK235
  clear BK240
  clear HB
  have HO226 := n0_
  have HO229 := n1_
  have HO234 := n2_
  have HO238 := n3_
  have HO244 := n4_
  have BK222 := n5_
  have BK231 := n6_
  have BK235 := n7_
  have BK240 := n8_
  have HB := n9_
  clear n0_ n1_ n2_ n3_ n4_ n5_ n6_ n7_ n8_ n9_
  (try clear hb)
  (try clear hb2)
  (try clear hk)
  (try clear hi)
  refine hK.out _ _ ⟨(blk_cell BK235.out 0).trans rfl, (blk_cell BK222.out 0).trans rfl⟩ (fun hHeld => ?_)
  clear hK K
  refine norm_ (a' := ?_) ?_ ?_
  rotate_left
  · show Act.put _ (some 48) _ = _
    simp only [Act.put, List.setIfInBounds_toArray, List.set_cons_zero, List.set_cons_succ, i64_w, i32_w]
    rfl
  refine pure_ (i := 4) (N := some 49) (v := ?_) (a' := ?_) #[true, true, true, true, true] rfl rfl (by kernel_rfl) (fun _ _ _ h => h) (Or.inl ⟨by rfl, ?_⟩) ?_ ?_
  rotate_left
  · intro w'
    go_simp
    with_reducible rfl
  rotate_left
  · simp only [Act.put, List.setIfInBounds_toArray, List.set_cons_zero, List.set_cons_succ, i64_w, i32_w]
    rfl
  refine done_ (by kernel_rfl) ?_
  have hcz62_0 : w61.cell? ⟨gb235, 0, none⟩ = some (.slice Ao45 t232.length co45) := (blk_cell BK235.out 0).trans rfl
  have hfz62_0 := blk_frozen BK235.out 0
  try go_wp2_with (first | ((with_reducible refine gate_callee (f := 26) rfl ?_); refine goesL_ (some 52) rfl rfl Try.func26 (by kernel_rfl) rfl #[.agg #[.slice Ao45 t232.length co45], .int .i64 1] rfl u7_2 ?_; (with_reducible refine (laws_markBook.calls k (fun k_ => some k_ = (.slice Ao45 t232.length co45 : Value).ownBlock) (.slice Ao45 t232.length co45) t232 1 t246 t247 w _ ?side1 ?side2 A18.out).mono ?_); (case side1 => exact u7_0); (case side2 => exact Kd.R_tight rfl HO234.out); rintro e w63 ⟨rfl, hy0, hb, hkp⟩; refine ⟨_, rfl, ?_⟩; have n0_ := Aside0.mk (blk_kept u7_1 hkp (fun hs_ => (fun e_ => (Kd.R_ne HO234.out BK222.out (by decide)) e_) hs_)); have n1_ := Aside0.mk (Kd.R_mono (ok' := fun k_ => some k_ ≠ (.slice Ao39 t227.length co39 : Value).ownBlock ∧ some k_ ≠ (.slice Ao45 t232.length co45 : Value).ownBlock ∧ some k_ ≠ (.slice Ao51 t236.length co51 : Value).ownBlock ∧ some k_ ≠ (.slice Ao60 t242.length co60 : Value).ownBlock) (Kd.R_keptB (HO226.out) hkp (fun k_ hk_ hs_ => (hk_.1.1.2) hs_)) (fun k_ hk_ => ⟨hk_.1.1.1.1.2, hk_.1.1.1.2, hk_.1.1.2, hk_.1.2⟩)); have n2_ := Aside0.mk (Kd.R_mono (ok' := fun k_ => some k_ ≠ (.slice Ao36 t224.length co36 : Value).ownBlock ∧ some k_ ≠ (.slice Ao45 t232.length co45 : Value).ownBlock ∧ some k_ ≠ (.slice Ao51 t236.length co51 : Value).ownBlock ∧ some k_ ≠ (.slice Ao60 t242.length co60 : Value).ownBlock) (Kd.R_keptB (HO229.out) hkp (fun k_ hk_ hs_ => (hk_.1.1.2) hs_)) (fun k_ hk_ => ⟨hk_.1.1.1.1.2, hk_.1.1.1.2, hk_.1.1.2, hk_.1.2⟩)); have n3_ := Aside0.mk (blk_kept u7_4 hkp (fun hs_ => (fun e_ => (Kd.R_ne HO234.out BK231.out (by decide)) e_) hs_)); have n4_ := Aside0.mk (Kd.R_reok rfl hy0 (fun k_ e_ => HO234.out.1 k_ e_)); have n5_ := Aside0.mk (blk_kept u7_5 hkp (fun hs_ => (fun e_ => (Kd.R_ne HO234.out BK235.out (by decide)) e_) hs_)); have n6_ := Aside0.mk (Kd.R_mono (ok' := fun k_ => some k_ ≠ (.slice Ao36 t224.length co36 : Value).ownBlock ∧ some k_ ≠ (.slice Ao39 t227.length co39 : Value).ownBlock ∧ some k_ ≠ (.slice Ao45 t232.length co45 : Value).ownBlock ∧ some k_ ≠ (.slice Ao60 t242.length co60 : Value).ownBlock) (Kd.R_keptB (HO238.out) hkp (fun k_ hk_ hs_ => (hk_.1.2) hs_)) (fun k_ hk_ => ⟨hk_.1.1.1.1.2, hk_.1.1.1.2, hk_.1.1.2, hk_.1.2⟩)); have n7_ := Aside0.mk (blk_kept u7_9 hkp (fun hs_ => (fun e_ => (Kd.R_ne HO234.out BK240.out (by decide)) e_) hs_)); have n8_ := Aside0.mk (Kd.R_mono (ok' := fun k_ => some k_ ≠ (.slice Ao36 t224.length co36 : Value).ownBlock ∧ some k_ ≠ (.slice Ao39 t227.length co39 : Value).ownBlock ∧ some k_ ≠ (.slice Ao45 t232.length co45 : Value).ownBlock ∧ some k_ ≠ (.slice Ao51 t236.length co51 : Value).ownBlock) (Kd.R_keptB (HO244.out) hkp (fun k_ hk_ hs_ => (hk_.1.2) hs_)) (fun k_ hk_ => ⟨hk_.1.1.1.1.2, hk_.1.1.1.2, hk_.1.1.2, hk_.1.2⟩)); have n9_ := Aside0.mk (hb); clear BK222; clear HO226; clear HO229; clear BK231; clear HO234; clear BK235; clear HO238; clear BK240; clear HO244; clear HB; have BK222 := n0_; have HO226 := n1_; have HO229 := n2_; have BK231 := n3_; have HO234 := n4_; have BK235 := n5_; have HO238 := n6_; have BK240 := n7_; have HO244 := n8_; have HB := n9_; clear n0_ n1_ n2_ n3_ n4_ n5_ n6_ n7_ n8_ n9_; (try clear hb); (try clear hkp); (try clear hy0); have hcz64_0 : w63.cell? ⟨gb240, 0, none⟩ = some (.slice Ao51 t236.length co51) := (blk_cell BK240.out 0).trans rfl; have hfz64_0 := blk_frozen BK240.out 0; have hcz65_0 : w63.cell? ⟨gb231, 0, none⟩ = some (.slice Ao39 t227.length co39) := (blk_cell BK231.out 0).trans rfl; have hfz65_0 := blk_frozen BK231.out 0) | (go_at_call 21; (with_reducible refine (laws_eqBook.calls k _ _ t236 _ _ t227 true _ ?side1 ?side2 ?side3 ?side4 A20.out).mono ?_); (case side1 => exact u7_24); (case side2 => exact (Kd.R_reads' HO238.out).2.1); (case side3 => exact (by repeat (first | exact (Kd.R_reads' HO229.out).2.2 | (with_reducible refine Kd.C_alloc ?_ _) | (with_reducible refine Kd.C_drewN ?_ _) | (with_reducible refine Kd.C_drew ?_)))); (case side4 => exact (Kd.R_reads' HO229.out).2.1); rintro e w66 ⟨rfl, hb⟩; have n0_ := Aside0.mk (Kd.R_below u7_6 hb); have n1_ := Aside0.mk (Kd.R_below u7_7 hb); have n2_ := Aside0.mk (Kd.R_below u7_10 hb); have n3_ := Aside0.mk (Kd.R_below u7_11 hb); have n4_ := Aside0.mk (Kd.R_below u7_16 hb); have n5_ := Aside0.mk (blk_below (g := gb222) (o := .cells #[.slice A0_0 l0_0.length c0_0] 24 (0, 0)) u7_1 hb); have n6_ := Aside0.mk (blk_below (g := gb231) (o := .cells #[.slice Ao39 t227.length co39] 29 (0, 0)) u7_4 hb); have n7_ := Aside0.mk (blk_below (g := gb235) (o := .cells #[.slice Ao45 t232.length co45] 29 (0, 0)) u7_5 hb); have n8_ := Aside0.mk (blk_below (g := gb240) (o := .cells #[.slice Ao51 t236.length co51] 29 (0, 0)) u7_9 hb); have n9_ := Aside0.mk (below_step u7_0 hb); clear HO226; clear HO229; clear HO234; clear HO238; clear HO244; clear BK222; clear BK231; clear BK235; clear BK240; clear HB; have HO226 := n0_; have HO229 := n1_; have HO234 := n2_; have HO238 := n3_; have HO244 := n4_; have BK222 := n5_; have BK231 := n6_; have BK235 := n7_; have BK240 := n8_; have HB := n9_; clear n0_ n1_ n2_ n3_ n4_ n5_ n6_ n7_ n8_ n9_; (try clear hb); (try clear hb2); (try clear hk); (try clear hi); have hcz67_0 : w66.cell? ⟨gb240, 0, none⟩ = some (.slice Ao51 t236.length co51) := (blk_cell BK240.out 0).trans rfl; have hfz67_0 := blk_frozen BK240.out 0) | ((with_reducible refine gate_callee (f := 26) rfl ?_); refine goesL_ (some 68) rfl rfl Try.func26 (by kernel_rfl) rfl #[.agg #[.slice Ao51 t236.length co51], .int .i64 1] rfl u7_2 ?_; (with_reducible refine (laws_markBook.calls k (fun k_ => some k_ = (.slice Ao51 t236.length co51 : Value).ownBlock) (.slice Ao51 t236.length co51) t236 1 t249 t250 w _ ?side1 ?side2 A22.out).mono ?_); (case side1 => exact u7_0); (case side2 => exact Kd.R_tight rfl HO238.out); rintro e w68 ⟨rfl, hy0, hb, hkp⟩; refine ⟨_, rfl, ?_⟩; have n0_ := Aside0.mk (blk_kept u7_1 hkp (fun hs_ => (fun e_ => (Kd.R_ne HO238.out BK222.out (by decide)) e_) hs_)); have n1_ := Aside0.mk (Kd.R_mono (ok' := fun k_ => some k_ ≠ (.slice Ao39 t227.length co39 : Value).ownBlock ∧ some k_ ≠ (.slice Ao45 t232.length co45 : Value).ownBlock ∧ some k_ ≠ (.slice Ao51 t236.length co51 : Value).ownBlock ∧ some k_ ≠ (.slice Ao60 t242.length co60 : Value).ownBlock) (Kd.R_keptB (HO226.out) hkp (fun k_ hk_ hs_ => (hk_.2.2.1) hs_)) (fun k_ hk_ => ⟨hk_.1.1, hk_.1.2.1, hk_.1.2.2.1, hk_.1.2.2.2⟩)); have n2_ := Aside0.mk (Kd.R_mono (ok' := fun k_ => some k_ ≠ (.slice Ao36 t224.length co36 : Value).ownBlock ∧ some k_ ≠ (.slice Ao45 t232.length co45 : Value).ownBlock ∧ some k_ ≠ (.slice Ao51 t236.length co51 : Value).ownBlock ∧ some k_ ≠ (.slice Ao60 t242.length co60 : Value).ownBlock) (Kd.R_keptB (HO229.out) hkp (fun k_ hk_ hs_ => (hk_.2.2.1) hs_)) (fun k_ hk_ => ⟨hk_.1.1, hk_.1.2.1, hk_.1.2.2.1, hk_.1.2.2.2⟩)); have n3_ := Aside0.mk (blk_kept u7_4 hkp (fun hs_ => (fun e_ => (Kd.R_ne HO238.out BK231.out (by decide)) e_) hs_)); have n4_ := Aside0.mk (Kd.R_mono (ok' := fun k_ => some k_ ≠ (.slice Ao36 t224.length co36 : Value).ownBlock ∧ some k_ ≠ (.slice Ao39 t227.length co39 : Value).ownBlock ∧ some k_ ≠ (.slice Ao51 t236.length co51 : Value).ownBlock ∧ some k_ ≠ (.slice Ao60 t242.length co60 : Value).ownBlock) (Kd.R_keptB (HO234.out) hkp (fun k_ hk_ hs_ => (hk_.1.2) hs_)) (fun k_ hk_ => ⟨hk_.1.1.1.1.2, hk_.1.1.1.2, hk_.1.1.2, hk_.1.2⟩)); have n5_ := Aside0.mk (blk_kept u7_5 hkp (fun hs_ => (fun e_ => (Kd.R_ne HO238.out BK235.out (by decide)) e_) hs_)); have n6_ := Aside0.mk (Kd.R_reok rfl hy0 (fun k_ e_ => HO238.out.1 k_ e_)); have n7_ := Aside0.mk (blk_kept u7_9 hkp (fun hs_ => (fun e_ => (Kd.R_ne HO238.out BK240.out (by decide)) e_) hs_)); have n8_ := Aside0.mk (Kd.R_mono (ok' := fun k_ => some k_ ≠ (.slice Ao36 t224.length co36 : Value).ownBlock ∧ some k_ ≠ (.slice Ao39 t227.length co39 : Value).ownBlock ∧ some k_ ≠ (.slice Ao45 t232.length co45 : Value).ownBlock ∧ some k_ ≠ (.slice Ao51 t236.length co51 : Value).ownBlock) (Kd.R_keptB (HO244.out) hkp (fun k_ hk_ hs_ => (hk_.2.2.2) hs_)) (fun k_ hk_ => ⟨hk_.1.1, hk_.1.2.1, hk_.1.2.2.1, hk_.1.2.2.2⟩)); have n9_ := Aside0.mk (hb); clear BK222; clear HO226; clear HO229; clear BK231; clear HO234; clear BK235; clear HO238; clear BK240; clear HO244; clear HB; have BK222 := n0_; have HO226 := n1_; have HO229 := n2_; have BK231 := n3_; have HO234 := n4_; have BK235 := n5_; have HO238 := n6_; have BK240 := n7_; have HO244 := n8_; have HB := n9_; clear n0_ n1_ n2_ n3_ n4_ n5_ n6_ n7_ n8_ n9_; (try clear hb); (try clear hkp); (try clear hy0); have hcz69_0 : w68.cell? ⟨gb240, 0, none⟩ = some (.slice Ao51 t236.length co51) := (blk_cell BK240.out 0).trans rfl; have hfz69_0 := blk_frozen BK240.out 0) | ((with_reducible refine gate_callee (f := 27) rfl ?_); refine goesL_ (some 71) rfl rfl Try.func27 (by kernel_rfl) rfl #[.agg #[.slice Ao51 t250.length co51], .int .i64 1] rfl u7_37 ?_; (with_reducible refine (laws_heldBook.calls k _ _ t250 1 t251 _ ?side1 ?side2 A23.out).mono ?_); (case side1 => exact u7_24); (case side2 => exact u7_38); rintro e w70 ⟨rfl, hb⟩; refine ⟨_, rfl, ?_⟩; have n0_ := Aside0.mk (Kd.R_below u7_6 hb); have n1_ := Aside0.mk (Kd.R_below u7_7 hb); have n2_ := Aside0.mk (Kd.R_below u7_10 hb); have n3_ := Aside0.mk (Kd.R_below u7_11 hb); have n4_ := Aside0.mk (Kd.R_below u7_16 hb); have n5_ := Aside0.mk (blk_below (g := gb222) (o := .cells #[.slice A0_0 l0_0.length c0_0] 24 (0, 0)) u7_1 hb); have n6_ := Aside0.mk (blk_below (g := gb231) (o := .cells #[.slice Ao39 t227.length co39] 29 (0, 0)) u7_4 hb); have n7_ := Aside0.mk (blk_below (g := gb235) (o := .cells #[.slice Ao45 t232.length co45] 29 (0, 0)) u7_5 hb); have n8_ := Aside0.mk (blk_below (g := gb240) (o := .cells #[.slice Ao51 t236.length co51] 29 (0, 0)) u7_9 hb); have n9_ := Aside0.mk (below_step u7_0 hb); clear HO226; clear HO229; clear HO234; clear HO238; clear HO244; clear BK222; clear BK231; clear BK235; clear BK240; clear HB; have HO226 := n0_; have HO229 := n1_; have HO234 := n2_; have HO238 := n3_; have HO244 := n4_; have BK222 := n5_; have BK231 := n6_; have BK235 := n7_; have BK240 := n8_; have HB := n9_; clear n0_ n1_ n2_ n3_ n4_ n5_ n6_ n7_ n8_ n9_; (try clear hb); (try clear hb2); (try clear hk); (try clear hi); have hcz71_0 : w70.cell? ⟨gb222, 0, none⟩ = some (.slice A0_0 l0_0.length c0_0) := (blk_cell BK222.out 0).trans rfl; have hfz71_0 := blk_frozen BK222.out 0) | ((with_reducible refine gate_callee (f := 19) rfl ?_); refine goesL_ (some 79) rfl rfl Try.func19 (by kernel_rfl) rfl #[.agg #[.slice A0_0 l0_0.length c0_0]] rfl u7_2 ?_; (with_reducible refine (laws_toBook.calls k _ _ l0_0 t252 _ ?side1 ?side2 A26.out).mono ?_); (case side1 => exact u7_15); (case side2 => exact HC0_0.out); rintro e w72 ⟨v253, rfl, ho0, hb⟩; refine ⟨_, rfl, ?_⟩; have n0_ := Aside0.mk (Kd.R_elder' u7_6 (Kd.R_base ho0) hb); have n1_ := Aside0.mk (Kd.R_elder' u7_7 (Kd.R_base ho0) hb); have n2_ := Aside0.mk (Kd.R_elder' u7_10 (Kd.R_base ho0) hb); have n3_ := Aside0.mk (Kd.R_elder' u7_11 (Kd.R_base ho0) hb); have n4_ := Aside0.mk (Kd.R_elder' u7_16 (Kd.R_base ho0) hb); have n5_ := Aside0.mk (Kd.R_lower (Kd.R_new' (Kd.R_new' (Kd.R_new' (Kd.R_new' (Kd.R_new' ho0 (Kd.R_lt u7_6)) (Kd.R_lt u7_7)) (Kd.R_lt u7_10)) (Kd.R_lt u7_11)) (Kd.R_lt u7_16)) (below_size u7_0)); have n6_ := Aside0.mk (blk_below (g := gb222) (o := .cells #[.slice A0_0 l0_0.length c0_0] 24 (0, 0)) u7_1 hb); have n7_ := Aside0.mk (blk_below (g := gb231) (o := .cells #[.slice Ao39 t227.length co39] 29 (0, 0)) u7_4 hb); have n8_ := Aside0.mk (blk_below (g := gb235) (o := .cells #[.slice Ao45 t232.length co45] 29 (0, 0)) u7_5 hb); have n9_ := Aside0.mk (blk_below (g := gb240) (o := .cells #[.slice Ao51 t236.length co51] 29 (0, 0)) u7_9 hb); have n10_ := Aside0.mk (below_step u7_0 hb); clear HO226; clear HO229; clear HO234; clear HO238; clear HO244; clear BK222; clear BK231; clear BK235; clear BK240; clear HB; have HO226 := n0_; have HO229 := n1_; have HO234 := n2_; have HO238 := n3_; have HO244 := n4_; have HO254 := n5_; have BK222 := n6_; have BK231 := n7_; have BK235 := n8_; have BK240 := n9_; have HB := n10_; clear n0_ n1_ n2_ n3_ n4_ n5_ n6_ n7_ n8_ n9_ n10_; (try clear hb); (try clear hb2); (try clear hk); (try clear hi); (try clear ho0); obtain ⟨Ao73, co73, eo73⟩ := Kd.R_slice HO254.out; subst eo73) | ((with_reducible refine gate_callee (f := 43) rfl ?_); refine goesL_ (some 81) rfl rfl Try.func43 (by kernel_rfl) rfl #[.agg #[.slice Ao73 t252.length co73], .int .u64 a1] rfl u7_2 ?_; (with_reducible refine (impl_OpenAccount.calls k _ _ t252 a1 t255 t258 _ ?side1 ?side2 A27.out).mono ?_); (case side1 => exact (by repeat (first | exact (Kd.R_reads' HO254.out).2.2 | (with_reducible refine Kd.C_alloc ?_ _) | (with_reducible refine Kd.C_drewN ?_ _) | (with_reducible refine Kd.C_drew ?_)))); (case side2 => exact (Kd.R_reads' HO254.out).2.1); rintro e w74 ⟨v256, rfl, ho0, hb⟩; refine ⟨_, rfl, ?_⟩; have n0_ := Aside0.mk (Kd.R_elder' u7_6 (Kd.R_base ho0) hb); have n1_ := Aside0.mk (Kd.R_elder' u7_7 (Kd.R_base ho0) hb); have n2_ := Aside0.mk (Kd.R_elder' u7_10 (Kd.R_base ho0) hb); have n3_ := Aside0.mk (Kd.R_elder' u7_11 (Kd.R_base ho0) hb); have n4_ := Aside0.mk (Kd.R_elder' u7_16 (Kd.R_base ho0) hb); have n5_ := Aside0.mk (Kd.R_elder' u7_27 (Kd.R_base ho0) hb); have n6_ := Aside0.mk (Kd.R_lower (Kd.R_new' (Kd.R_new' (Kd.R_new' (Kd.R_new' (Kd.R_new' (Kd.R_new' ho0 (Kd.R_lt u7_6)) (Kd.R_lt u7_7)) (Kd.R_lt u7_10)) (Kd.R_lt u7_11)) (Kd.R_lt u7_16)) (Kd.R_lt u7_27)) (below_size u7_0)); have n7_ := Aside0.mk (blk_below (g := gb222) (o := .cells #[.slice A0_0 l0_0.length c0_0] 24 (0, 0)) u7_1 hb); have n8_ := Aside0.mk (blk_below (g := gb231) (o := .cells #[.slice Ao39 t227.length co39] 29 (0, 0)) u7_4 hb); have n9_ := Aside0.mk (blk_below (g := gb235) (o := .cells #[.slice Ao45 t232.length co45] 29 (0, 0)) u7_5 hb); have n10_ := Aside0.mk (blk_below (g := gb240) (o := .cells #[.slice Ao51 t236.length co51] 29 (0, 0)) u7_9 hb); have n11_ := Aside0.mk (below_step u7_0 hb); clear HO226; clear HO229; clear HO234; clear HO238; clear HO244; clear HO254; clear BK222; clear BK231; clear BK235; clear BK240; clear HB; have HO226 := n0_; have HO229 := n1_; have HO234 := n2_; have HO238 := n3_; have HO244 := n4_; have HO254 := n5_; have HO257 := n6_; have BK222 := n7_; have BK231 := n8_; have BK235 := n9_; have BK240 := n10_; have HB := n11_; clear n0_ n1_ n2_ n3_ n4_ n5_ n6_ n7_ n8_ n9_ n10_ n11_; (try clear hb); (try clear hb2); (try clear hk); (try clear hi); (try clear ho0)) | ((with_reducible refine gate_dst (N := 14) rfl ?_); refine box_event ?hg (N := 14) ?hd (cs := #[.slice none 0 0]) (t := 29) ?hr ?_; (case hd => rfl); (case hg => rfl); (case hr => first | (go_simp; done) | (go_simp; rfl)); intro gb259 hg w75 hbox hb; have n0_ := Aside0.mk (Kd.R_below u7_6 hb); have n1_ := Aside0.mk (Kd.R_below u7_7 hb); have n2_ := Aside0.mk (Kd.R_below u7_10 hb); have n3_ := Aside0.mk (Kd.R_below u7_11 hb); have n4_ := Aside0.mk (Kd.R_below u7_16 hb); have n5_ := Aside0.mk (Kd.R_below u7_27 hb); have n6_ := Aside0.mk (Kd.R_below u7_39 hb); have n7_ := Aside0.mk (blk_below (g := gb222) (o := .cells #[.slice A0_0 l0_0.length c0_0] 24 (0, 0)) u7_1 hb); have n8_ := Aside0.mk (blk_below (g := gb231) (o := .cells #[.slice Ao39 t227.length co39] 29 (0, 0)) u7_4 hb); have n9_ := Aside0.mk (blk_below (g := gb235) (o := .cells #[.slice Ao45 t232.length co45] 29 (0, 0)) u7_5 hb); have n10_ := Aside0.mk (blk_below (g := gb240) (o := .cells #[.slice Ao51 t236.length co51] 29 (0, 0)) u7_9 hb); have n11_ := Aside0.mk (below_step u7_0 hb); have n12_ := Aside0.mk (hbox); have n13_ := Aside0.mk ((by rw [hg]; exact (below_size u7_0) : w.heap.size ≤ gb259)); have n14_ := Aside0.mk ((by rw [hg]; exact (below_size u7_0) : w.heap.size ≤ gb259)); have n15_ := Aside0.mk ((by rw [hg]; exact Nat.ne_of_lt (blk_lt (g := gb222) (o := .cells #[.slice A0_0 l0_0.length c0_0] 24 (0, 0)) u7_1) : gb222 ≠ gb259)); have n16_ := Aside0.mk ((by rw [hg]; exact Nat.ne_of_gt (blk_lt (g := gb222) (o := .cells #[.slice A0_0 l0_0.length c0_0] 24 (0, 0)) u7_1) : gb259 ≠ gb222)); have n17_ := Aside0.mk ((by rw [hg]; exact Nat.ne_of_lt (blk_lt (g := gb231) (o := .cells #[.slice Ao39 t227.length co39] 29 (0, 0)) u7_4) : gb231 ≠ gb259)); have n18_ := Aside0.mk ((by rw [hg]; exact Nat.ne_of_gt (blk_lt (g := gb231) (o := .cells #[.slice Ao39 t227.length co39] 29 (0, 0)) u7_4) : gb259 ≠ gb231)); have n19_ := Aside0.mk ((by rw [hg]; exact Nat.ne_of_lt (blk_lt (g := gb235) (o := .cells #[.slice Ao45 t232.length co45] 29 (0, 0)) u7_5) : gb235 ≠ gb259)); have n20_ := Aside0.mk ((by rw [hg]; exact Nat.ne_of_gt (blk_lt (g := gb235) (o := .cells #[.slice Ao45 t232.length co45] 29 (0, 0)) u7_5) : gb259 ≠ gb235)); have n21_ := Aside0.mk ((by rw [hg]; exact Nat.ne_of_lt (blk_lt (g := gb240) (o := .cells #[.slice Ao51 t236.length co51] 29 (0, 0)) u7_9) : gb240 ≠ gb259)); have n22_ := Aside0.mk ((by rw [hg]; exact Nat.ne_of_gt (blk_lt (g := gb240) (o := .cells #[.slice Ao51 t236.length co51] 29 (0, 0)) u7_9) : gb259 ≠ gb240)); clear HO226; clear HO229; clear HO234; clear HO238; clear HO244; clear HO254; clear HO257; clear BK222; clear BK231; clear BK235; clear BK240; clear HB; have HO226 := n0_; have HO229 := n1_; have HO234 := n2_; have HO238 := n3_; have HO244 := n4_; have HO254 := n5_; have HO257 := n6_; have BK222 := n7_; have BK231 := n8_; have BK235 := n9_; have BK240 := n10_; have HB := n11_; have BK259 := n12_; have GW259 := n13_; have GE259 := n14_; have NB222_259 := n15_; have NB259_222 := n16_; have NB231_259 := n17_; have NB259_231 := n18_; have NB235_259 := n19_; have NB259_235 := n20_; have NB240_259 := n21_; have NB259_240 := n22_; clear n0_ n1_ n2_ n3_ n4_ n5_ n6_ n7_ n8_ n9_ n10_ n11_ n12_ n13_ n14_ n15_ n16_ n17_ n18_ n19_ n20_ n21_ n22_; clear hb hbox hg; obtain ⟨Ao76, co76, eo76⟩ := Kd.R_slice HO257.out; subst eo76; have hnb77 := NB259_222.out; have hnc77 := NB222_259.out; have hnb78 := NB259_231.out; have hnc78 := NB231_259.out; have hnb79 := NB259_235.out; have hnc79 := NB235_259.out; have hnb80 := NB259_240.out; have hnc80 := NB240_259.out; have hcz81_0 : w75.cell? ⟨gb259, 0, none⟩ = some (.slice none 0 0) := (blk_cell BK259.out 0).trans rfl; have hfz81_0 := blk_frozen BK259.out 0; have hcz82_0 : w75.cell? ⟨gb231, 0, none⟩ = some (.slice Ao39 t227.length co39) := (blk_cell BK231.out 0).trans rfl; have hfz82_0 := blk_frozen BK231.out 0) | ((with_reducible refine gate_callee (f := 21) rfl ?_); refine goesL_ (some 86) rfl rfl Try.func21 (by kernel_rfl) rfl #[.agg #[.slice Ao76 t255.length co76], .agg #[.slice Ao39 t227.length co39]] rfl u7_2 ?_; (with_reducible refine (laws_eqBook.calls k _ _ t255 _ _ t227 true _ ?side1 ?side2 ?side3 ?side4 A28.out).mono ?_); (case side1 => exact (by refine (Kd.R_reads' (e := 53) (base := w.heap.size) (ok := fun k_ => ((((((True ∧ some k_ ≠ (.slice Ao36 t224.length co36 : Value).ownBlock) ∧ some k_ ≠ (.slice Ao39 t227.length co39 : Value).ownBlock) ∧ some k_ ≠ (.slice Ao45 t232.length co45 : Value).ownBlock) ∧ some k_ ≠ (.slice Ao51 t236.length co51 : Value).ownBlock) ∧ some k_ ≠ (.slice Ao60 t242.length co60 : Value).ownBlock) ∧ some k_ ≠ (.slice Ao73 t252.length co73 : Value).ownBlock)) (n := t255.length) (c := co76) ?_).2.2; exact u7_34)); (case side2 => exact (Kd.R_reads' HO257.out).2.1); (case side3 => exact (by refine (Kd.R_reads' (e := 53) (base := w.heap.size) (ok := fun k_ => (((some k_ ≠ (.slice Ao36 t224.length co36 : Value).ownBlock ∧ (some k_ ≠ (.slice Ao45 t232.length co45 : Value).ownBlock ∧ (some k_ ≠ (.slice Ao51 t236.length co51 : Value).ownBlock ∧ some k_ ≠ (.slice Ao60 t242.length co60 : Value).ownBlock))) ∧ some k_ ≠ (.slice Ao73 t252.length co73 : Value).ownBlock) ∧ some k_ ≠ (.slice Ao76 t255.length co76 : Value).ownBlock)) (n := t227.length) (c := co39) ?_).2.2; exact u7_35)); (case side4 => exact (Kd.R_reads' HO229.out).2.1); rintro e w83 ⟨rfl, hb⟩; refine ⟨_, rfl, ?_⟩; have n0_ := Aside0.mk (Kd.R_below (by (with_reducible repeat (first | apply Kd.R_alloc | apply Kd.R_drewN | apply Kd.R_drew)); exact (Kd.R_mono (Kd.R_far (p := ⟨gb259, 0, none⟩) (Kd.R_types HO226.out BK259.out (by decide)) (fun _ hk => hk.2) (.slice Ao76 t255.length co76)) (fun _ h_ => h_.1))) hb); have n1_ := Aside0.mk (Kd.R_below u7_35 hb); have n2_ := Aside0.mk (Kd.R_below (by (with_reducible repeat (first | apply Kd.R_alloc | apply Kd.R_drewN | apply Kd.R_drew)); exact (Kd.R_mono (Kd.R_far (p := ⟨gb259, 0, none⟩) (Kd.R_types HO234.out BK259.out (by decide)) (fun _ hk => hk.2) (.slice Ao76 t255.length co76)) (fun _ h_ => h_.1))) hb); have n3_ := Aside0.mk (Kd.R_below (by (with_reducible repeat (first | apply Kd.R_alloc | apply Kd.R_drewN | apply Kd.R_drew)); exact (Kd.R_mono (Kd.R_far (p := ⟨gb259, 0, none⟩) (Kd.R_types HO238.out BK259.out (by decide)) (fun _ hk => hk.2) (.slice Ao76 t255.length co76)) (fun _ h_ => h_.1))) hb); have n4_ := Aside0.mk (Kd.R_below (by (with_reducible repeat (first | apply Kd.R_alloc | apply Kd.R_drewN | apply Kd.R_drew)); exact (Kd.R_mono (Kd.R_far (p := ⟨gb259, 0, none⟩) (Kd.R_types HO244.out BK259.out (by decide)) (fun _ hk => hk.2) (.slice Ao76 t255.length co76)) (fun _ h_ => h_.1))) hb); have n5_ := Aside0.mk (Kd.R_below (by (with_reducible repeat (first | apply Kd.R_alloc | apply Kd.R_drewN | apply Kd.R_drew)); exact (Kd.R_mono (Kd.R_far (p := ⟨gb259, 0, none⟩) (Kd.R_types HO254.out BK259.out (by decide)) (fun _ hk => hk.2) (.slice Ao76 t255.length co76)) (fun _ h_ => h_.1))) hb); have n6_ := Aside0.mk (Kd.R_below u7_34 hb); have n7_ := Aside0.mk (blk_below (g := gb222) (o := .cells #[.slice A0_0 l0_0.length c0_0] 24 (0, 0)) (by (with_reducible repeat (first | refine blk_drewN ?_ _ | refine blk_drew ?_ | refine blk_alloc ?_ _)); refine blk_far ?_ NB222_259.out _; (with_reducible repeat (first | refine blk_drewN ?_ _ | refine blk_drew ?_ | refine blk_alloc ?_ _)); exact BK222.out) hb); have n8_ := Aside0.mk (blk_below (g := gb231) (o := .cells #[.slice Ao39 t227.length co39] 29 (0, 0)) (by (with_reducible repeat (first | refine blk_drewN ?_ _ | refine blk_drew ?_ | refine blk_alloc ?_ _)); refine blk_far ?_ NB231_259.out _; (with_reducible repeat (first | refine blk_drewN ?_ _ | refine blk_drew ?_ | refine blk_alloc ?_ _)); exact BK231.out) hb); have n9_ := Aside0.mk (blk_below (g := gb235) (o := .cells #[.slice Ao45 t232.length co45] 29 (0, 0)) (by (with_reducible repeat (first | refine blk_drewN ?_ _ | refine blk_drew ?_ | refine blk_alloc ?_ _)); refine blk_far ?_ NB235_259.out _; (with_reducible repeat (first | refine blk_drewN ?_ _ | refine blk_drew ?_ | refine blk_alloc ?_ _)); exact BK235.out) hb); have n10_ := Aside0.mk (blk_below (g := gb240) (o := .cells #[.slice Ao51 t236.length co51] 29 (0, 0)) (by (with_reducible repeat (first | refine blk_drewN ?_ _ | refine blk_drew ?_ | refine blk_alloc ?_ _)); refine blk_far ?_ NB240_259.out _; (with_reducible repeat (first | refine blk_drewN ?_ _ | refine blk_drew ?_ | refine blk_alloc ?_ _)); exact BK240.out) hb); have n11_ := Aside0.mk (blk_below (g := gb259) (o := .cells #[.slice Ao76 t255.length co76] 29 (0, 0)) (by (with_reducible repeat (first | refine blk_drewN ?_ _ | refine blk_drew ?_ | refine blk_alloc ?_ _)); refine blk_put (cs := #[.slice none 0 0]) ?_ 0 _ rfl; (with_reducible repeat (first | refine blk_drewN ?_ _ | refine blk_drew ?_ | refine blk_alloc ?_ _)); exact BK259.out) hb); have n12_ := Aside0.mk (below_step u7_20 hb); clear HO226; clear HO229; clear HO234; clear HO238; clear HO244; clear HO254; clear HO257; clear BK222; clear BK231; clear BK235; clear BK240; clear BK259; clear HB; have HO226 := n0_; have HO229 := n1_; have HO234 := n2_; have HO238 := n3_; have HO244 := n4_; have HO254 := n5_; have HO257 := n6_; have BK222 := n7_; have BK231 := n8_; have BK235 := n9_; have BK240 := n10_; have BK259 := n11_; have HB := n12_; clear n0_ n1_ n2_ n3_ n4_ n5_ n6_ n7_ n8_ n9_ n10_ n11_ n12_; (try clear hb); (try clear hb2); (try clear hk); (try clear hi); have hcz84_0 : w83.cell? ⟨gb240, 0, none⟩ = some (.slice Ao51 t236.length co51) := (blk_cell BK240.out 0).trans rfl; have hfz84_0 := blk_frozen BK240.out 0) | ((with_reducible refine gate_callee (f := 27) rfl ?_); refine goesL_ (some 95) rfl rfl Try.func27 (by kernel_rfl) rfl #[.agg #[.slice Ao51 t250.length co51], .int .i64 1] rfl u7_37 ?_; (with_reducible refine (laws_heldBook.calls k _ _ t250 1 t261 _ ?side1 ?side2 A31.out).mono ?_); (case side1 => exact u7_24); (case side2 => exact u7_38); rintro e w85 ⟨rfl, hb⟩; refine ⟨_, rfl, ?_⟩; have n0_ := Aside0.mk (Kd.R_below u7_6 hb); have n1_ := Aside0.mk (Kd.R_below u7_7 hb); have n2_ := Aside0.mk (Kd.R_below u7_10 hb); have n3_ := Aside0.mk (Kd.R_below u7_11 hb); have n4_ := Aside0.mk (Kd.R_below u7_16 hb); have n5_ := Aside0.mk (Kd.R_below u7_27 hb); have n6_ := Aside0.mk (Kd.R_below u7_39 hb); have n7_ := Aside0.mk (blk_below (g := gb222) (o := .cells #[.slice A0_0 l0_0.length c0_0] 24 (0, 0)) u7_1 hb); have n8_ := Aside0.mk (blk_below (g := gb231) (o := .cells #[.slice Ao39 t227.length co39] 29 (0, 0)) u7_4 hb); have n9_ := Aside0.mk (blk_below (g := gb235) (o := .cells #[.slice Ao45 t232.length co45] 29 (0, 0)) u7_5 hb); have n10_ := Aside0.mk (blk_below (g := gb240) (o := .cells #[.slice Ao51 t236.length co51] 29 (0, 0)) u7_9 hb); have n11_ := Aside0.mk (blk_below (g := gb259) (o := .cells #[.slice Ao76 t255.length co76] 29 (0, 0)) (by (with_reducible repeat (first | refine blk_drewN ?_ _ | refine blk_drew ?_ | refine blk_alloc ?_ _)); exact BK259.out) hb); have n12_ := Aside0.mk (below_step u7_20 hb); clear HO226; clear HO229; clear HO234; clear HO238; clear HO244; clear HO254; clear HO257; clear BK222; clear BK231; clear BK235; clear BK240; clear BK259; clear HB; have HO226 := n0_; have HO229 := n1_; have HO234 := n2_; have HO238 := n3_; have HO244 := n4_; have HO254 := n5_; have HO257 := n6_; have BK222 := n7_; have BK231 := n8_; have BK235 := n9_; have BK240 := n10_; have BK259 := n11_; have HB := n12_; clear n0_ n1_ n2_ n3_ n4_ n5_ n6_ n7_ n8_ n9_ n10_ n11_ n12_; (try clear hb); (try clear hb2); (try clear hk); (try clear hi)))
  go_ret
  exact ⟨by first | rfl | (simp [errW_none, errW_some] <;> rfl) | (simp [*, errW_none, errW_some] <;> rfl), u7_20⟩

end Go.Proofs.Ytdbfjakhkclggaa.QFnExactOpenAccount
