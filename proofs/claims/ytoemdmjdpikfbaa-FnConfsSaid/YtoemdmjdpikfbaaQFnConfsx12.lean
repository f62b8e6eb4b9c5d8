-- Printed by the session's own program wip/prx.py.
import Derived.Test.YtoemdmjdpikfbaaSqFnConfs
import Derived.Test.YtoemdmjdpikfbaaQFnConfsx0
namespace Go.Proofs.Ytoemdmjdpikfbaa.QFnConfs
open Go.RowKit Go.Proofs.YtoemdmjdpikfbaaW.PrintWords Go.Proofs.YtoemdmjdpikfbaaW.PrintLast Go.Proofs.YtoemdmjdpikfbaaW.PrintMore Go.Proofs.Ytoemdmjdpikfbaa.SqFnConfs
attribute [local go_sem] max2_int min2_int max_two min_two max_three min_three max_four min_four Go.Proofs.Ytoemdmjdpikfbaa.Set.isSome_setCell
set_option linter.unusedVariables false
set_option linter.unusedSimpArgs false

-- squeezed
theorem u12_0 {P : Prop} (h : P := by simp [Act.eval, Act.put]) : P := h
theorem u12_1 {P : Prop} (h : P := by simp only [Nat.min_def]; split <;> omega) : P := h
theorem u12_2 {P : Prop} (h : P := by rw [List.length_take]; omega) : P := h
/-! ### slices_Insert_int_int: function 77 -/
def slices_Insert_int_int.enc (x : Int) : List Value := [.int .i64 x]
theorem slices_Insert_int_int.flat : Go.Proofs.Ytoemdmjdpikfbaa.Slc.Flat (Kd.int .i64) slices_Insert_int_int.enc := ⟨fun w base ok x => rfl, fun h => h⟩
def slices_Insert_int_int.f (l0 : List (Int)) (a1 : Int) (l2 : List (Int)) : Option (List (Int)) := if 0 ≤ a1 ∧ a1 ≤ (l0.length : Int) ∧ l2.length = 1 ∧ l0.length < 1000000 then some (l0.take a1.toNat ++ l2 ++ l0.drop a1.toNat) else none
theorem slices_Insert_int_int.info : (Try.prog.info? 3).map (fun i => (i.zero, i.size, i.bytes)) = some (some (.int .i64 0), 1, 8) := by kernel_rfl
theorem slices_Insert_int_int.size : (Try.prog.info? 3).map (·.size) = some 1 := by kernel_rfl
theorem slices_Insert_int_int.sizeOf (w : World) : (Go.sizeOf 3).run Try.prog w = .ok 1 w := by kernel_rfl
set_option maxHeartbeats 2000000 in
set_option maxRecDepth 100000 in
theorem slices_Insert_int_int.at_end (P0_ P2_ : Nat → Prop) (A0 : Option Addr) (n c0 : Nat) (l0 : List (Int)) (g2 : Nat) (c2 : Nat) (l2 : List (Int)) (w0 w : World) (hB : Below w0.heap.size w0 w) (ho0 : Kd.R (Kd.int .i64) 3 w w0.heap.size P0_ (.slice A0 n c0) l0) (hC2 : Kd.C (Kd.int .i64) w (some ⟨g2, 0, none⟩) 1 l2) (hn : l0.length = n) (hl2 : l2.length = 1) (hc2 : 1 ≤ c2) (hl : n < 1000000) (hnc : n ≤ c0) (hm : c0 ≤ maxLen) :
   Calls Try.prog 77 #[.slice A0 n c0, .int .i64 (n : Int), .slice (some ⟨g2, 0, none⟩) 1 c2] w fun e w' => ∃ v0_ : Value, e = .returned (v0_) ∧ Kd.R (Kd.int .i64) 3 w' w0.heap.size (fun k_ => ((P0_ k_ ∨ P2_ k_) ∨ w.heap.size ≤ k_)) v0_ (l0 ++ l2) ∧ Below w0.heap.size w0 w' ∧ Kept w w' (fun k_ => P0_ k_ ∨ P2_ k_) := by
 have hown := ho0.1
 have HO := am (Kd.R_mono ho0 (ok' := fun k_ => ((P0_ k_ ∨ P2_ k_) ∨ w.heap.size ≤ k_)) (fun k hk => .inl (.inl hk)))
 have HB := am hB
 have HC2 := am hC2
 have HW := am hown
 have HL := am hl
 have HN := am hn
 unfold maxLen at hm
 have hm63 : c0 ≤ 9223372036854775807 := by omega
 clear ho0 hB hC2 hown hm
 have p1 : (n : Int) ≤ (n : Int) := Int.le_refl _
 cases A0 with
 | none =>
   go_enter Try.func77, Try.ntmps77
   go_wp2_with (first | ((with_reducible refine gate_dst (N := 25) rfl ?_); refine Kd.R_append_rows (Kd.int .i64) (w0 := w0) w0.heap.size rfl (.tmp 23) (.tmp 24) 24 3 (.int .i64 0) 8 rfl Try.underlying24 slices_Insert_int_int.info rfl (by decide) (by omega) _ l0 l2 _ _ _ (fun k_ => ((P0_ k_ ∨ P2_ k_) ∨ w.heap.size ≤ k_)) (fun _ => False) rfl rfl HO.out HC2.out (fun _ _ h => h) (fun _ h => h.elim) (fun _ hk => .inr hk) HB.out HB.out.size (by have := HL.out; have := HN.out; omega) ?_; intro v1 w1 ho hb hg hat; have R0 := am ho; have R1 := am hb; have R2 := am hg; clear ho hb hg hat))
   go_ret
   exact ⟨_, rfl, R0.out, R1.out, Kept.of_grown (W := w) R2.out (Kept.refl w _) (fun k hk => .inl (.inl (HW.out k hk)))⟩
 | some a =>
   obtain ⟨g, o, sp⟩ := a
   have hsp : o = 0 ∧ sp = none := by
     obtain ⟨_, inner, ⟨_, ho⟩, _⟩ := HO.out
     rcases ho with ⟨he, _⟩ | ⟨g', cap', cur, he, _⟩
     · cases he
     · injection he with e1 e2 e3
       injection e1 with e1
       injection e1 with e1 e2 e3
       exact ⟨e2, e3⟩
   obtain ⟨rfl, rfl⟩ := hsp
   by_cases hce : c0 = n
   · subst hce
     go_enter Try.func77, Try.ntmps77
     go_wp2_with (first | ((with_reducible refine gate_dst (N := 25) rfl ?_); refine Kd.R_append_rows (Kd.int .i64) (w0 := w0) w0.heap.size rfl (.tmp 23) (.tmp 24) 24 3 (.int .i64 0) 8 rfl Try.underlying24 slices_Insert_int_int.info rfl (by decide) (by omega) _ l0 l2 _ _ _ (fun k_ => ((P0_ k_ ∨ P2_ k_) ∨ w.heap.size ≤ k_)) (fun _ => False) rfl rfl HO.out HC2.out (fun _ _ h => h) (fun _ h => h.elim) (fun _ hk => .inr hk) HB.out HB.out.size (by have := HL.out; have := HN.out; omega) ?_; intro v1 w1 ho hb hg hat; have R0 := am ho; have R1 := am hb; have R2 := am hg; clear ho hb hg hat))
     go_ret
     exact ⟨_, rfl, R0.out, R1.out, Kept.of_grown (W := w) R2.out (Kept.refl w _) (fun k hk => .inl (.inl (HW.out k hk)))⟩
   have hlt : n < c0 := by omega
   go_enter Try.func77, Try.ntmps77
   go_wp2_with (first | ((with_reducible refine gate_dst (N := 25) rfl ?_); refine Kd.R_append_rows (Kd.int .i64) (w0 := w0) w0.heap.size rfl (.tmp 23) (.tmp 24) 24 3 (.int .i64 0) 8 rfl Try.underlying24 slices_Insert_int_int.info rfl (by decide) (by omega) _ l0 l2 _ _ _ (fun k_ => ((P0_ k_ ∨ P2_ k_) ∨ w.heap.size ≤ k_)) (fun _ => False) rfl rfl HO.out HC2.out (fun _ _ h => h) (fun _ h => h.elim) (fun _ hk => .inr hk) HB.out HB.out.size (by have := HL.out; have := HN.out; omega) ?_; intro v1 w1 ho hb hg hat; have R0 := am ho; have R1 := am hb; have R2 := am hg; clear ho hb hg hat))
   go_ret
   exact ⟨_, rfl, R0.out, R1.out, Kept.of_grown (W := w) R2.out (Kept.refl w _) (fun k hk => .inl (.inl (HW.out k hk)))⟩
set_option maxHeartbeats 2000000 in
set_option maxRecDepth 100000 in
theorem slices_Insert_int_int.shift (P0_ P2_ : Nat → Prop) (g n c i : Nat) (l0 : List (Int)) (y : Int) (cur cur2 : Array Value) (g2 c2 : Nat) (w0 w : World) (hB : Below w0.heap.size w0 w) (hg : w0.heap.size ≤ g) (hP : P0_ g) (hb : w.heap[g]? = some (.cells cur 3 (0, 0))) (hs : cur.size = c * 1) (ht : cur.toList.take (n * 1) = Go.Proofs.Ytoemdmjdpikfbaa.Slc.cellsOf slices_Insert_int_int.enc l0)
   (hn : l0.length = n) (hi : i < n) (hr : n + 1 ≤ c) (hm : c ≤ maxLen) (hb2 : w.heap[g2]? = some (.cells cur2 3 (0, 0))) (ht2 : cur2.toList.take 1 = slices_Insert_int_int.enc y) (hne : g2 ≠ g) (hc2 : 1 ≤ c2) :
   Calls Try.prog 77 #[.slice (some ⟨g, 0, none⟩) n c, .int .i64 (i : Int), .slice (some ⟨g2, 0, none⟩) 1 c2] w fun e w' => ∃ v0_ : Value, e = .returned (v0_) ∧ Kd.R (Kd.int .i64) 3 w' w0.heap.size (fun k_ => ((P0_ k_ ∨ P2_ k_) ∨ w.heap.size ≤ k_)) v0_ (l0.take i ++ y :: l0.drop i) ∧ Below w0.heap.size w0 w' ∧ Kept w w' (fun k_ => P0_ k_ ∨ P2_ k_) := by
 have hsz3 : ((Kd.int .i64)).sz = 1 := rfl
 have hsize := slices_Insert_int_int.size
 have hcl : (Go.Proofs.Ytoemdmjdpikfbaa.Slc.cellsOf slices_Insert_int_int.enc l0).length = n * 1 := by rw [slices_Insert_int_int.flat.cells_len, hn]; rfl
 have hyl : (slices_Insert_int_int.enc y).length = 1 := slices_Insert_int_int.flat.len y
 have hdl : ((Go.Proofs.Ytoemdmjdpikfbaa.Slc.cellsOf slices_Insert_int_int.enc l0).drop (i * 1)).length = (n - i) * 1 := by rw [List.length_drop, hcl, Nat.sub_mul]
 have hc63 : c ≤ 9223372036854775807 := by unfold maxLen at hm; omega
 have hk2 : 1 ≤ cur2.size := by
   have := congrArg List.length ht2
   rw [List.length_take, hyl] at this
   simp at this
   omega
 have hcs : ∀ j v, (Go.Proofs.Ytoemdmjdpikfbaa.Slc.cellsOf slices_Insert_int_int.enc l0)[j]? = some v → cur[j]? = some v := fun j v hj => by
   have hlt := (List.getElem?_eq_some_iff.1 hj).1
   rw [← ht, List.getElem?_take_of_lt (by omega), Array.getElem?_toList] at hj
   exact hj
 have hvs : ∀ j v, (slices_Insert_int_int.enc y)[j]? = some v → cur2[j]? = some v := fun j v hj => by
   have hlt := (List.getElem?_eq_some_iff.1 hj).1
   rw [← ht2, List.getElem?_take_of_lt (by omega), Array.getElem?_toList] at hj
   exact hj
 have hov : ∀ lb cb, (callFunc 92 #[.slice (some ⟨g2, 0, none⟩) 1 c2, .slice (some ⟨g, (i + 1) * 1, none⟩) lb cb]).run Try.prog w = .ok (.value (.bool false)) w := fun lb cb => by
   rw [run_callFunc_extern Try.func92 kr kr kr (e := Extern.SlicesOverlaps.overlaps #[24, 24] #[4]) kr,
     Lib.run_overlaps_apart w 24 4 3 Try.underlying24 1 slices_Insert_int_int.sizeOf ⟨g2, 0, none⟩ ⟨g, (i + 1) * 1, none⟩ 1 c2 lb cb hne 3 3 cur2.size cur.size (by simp [World.shape?, hb2]) (by simp [World.shape?, hb]) (by omega) (blk_frozen hb2 0) (blk_frozen hb2 _)]
   rfl
 have hcp1 : ∀ ty dc sc, (Builtin.copy_ #[24, 24] ty #[.slice (some ⟨g, (i + 1) * 1, none⟩) (n - i) dc, .slice (some ⟨g, i * 1, none⟩) (n + 1 - i) sc]).run Try.prog w.drew = .ok (goInt (n - i : Nat)) (w.drew.setCells g ((i + 1) * 1) ((Go.Proofs.Ytoemdmjdpikfbaa.Slc.cellsOf slices_Insert_int_int.enc l0).drop (i * 1))) := fun ty dc sc =>
   Go.Proofs.Ytoemdmjdpikfbaa.Slc.run_copy_k w.drew _ _ ty 3 1 g ((i + 1) * 1) _ dc ⟨g, i * 1, none⟩ _ sc _ (n - i) Try.underlying24 hsize u12_1 hdl
     (fun j v hj => by
       rw [List.getElem?_drop] at hj
       rw [Addr.add_lit]
       exact (blk_cell (w := w.drew) hb _).trans (hcs _ v hj))
     (fun j hj => by
       rw [hdl, Nat.sub_mul] at hj
       have : i * 1 ≤ n * 1 := Nat.mul_le_mul_right _ (by omega)
       have : (n + 1) * 1 ≤ c * 1 := Nat.mul_le_mul_right _ hr
       have hlt : (i + 1) * 1 + j < cur.size := by rw [hs]; omega
       rw [blk_cell (w := w.drew) hb, Array.getElem?_eq_getElem hlt]; rfl)
     (fun j _ => blk_frozen (w := w.drew) hb _) (fun v hv => slices_Insert_int_int.flat.cells_one l0 v (List.mem_of_mem_drop hv))
 obtain ⟨W1, hW1⟩ : ∃ W1, W1 = w.drew.setCells g ((i + 1) * 1) ((Go.Proofs.Ytoemdmjdpikfbaa.Slc.cellsOf slices_Insert_int_int.enc l0).drop (i * 1)) := ⟨_, rfl⟩
 rw [← hW1] at hcp1
 obtain ⟨cur1, hb1, hs1, ho1, hi1⟩ := Go.Proofs.Ytoemdmjdpikfbaa.Slc.setCells_blk g 3 ((Go.Proofs.Ytoemdmjdpikfbaa.Slc.cellsOf slices_Insert_int_int.enc l0).drop (i * 1)) ((i + 1) * 1) w.drew cur hb
 rw [← hW1] at hb1
 have hb21 : W1.heap[g2]? = some (.cells cur2 3 (0, 0)) := by
   rw [hW1]; exact (Go.Proofs.Ytoemdmjdpikfbaa.Slc.setCells_other g _ _ w.drew g2 hne).trans hb2
 have hcp2 : ∀ ty dc, (Builtin.copy_ #[24, 24] ty #[.slice (some ⟨g, i * 1, none⟩) (n + 1 - i) dc, .slice (some ⟨g2, 0, none⟩) 1 c2]).run Try.prog W1 = .ok (goInt (1 : Nat)) (W1.setCells g (i * 1) (slices_Insert_int_int.enc y)) := fun ty dc =>
   Go.Proofs.Ytoemdmjdpikfbaa.Slc.run_copy_k W1 _ _ ty 3 1 g (i * 1) _ dc ⟨g2, 0, none⟩ 1 c2 _ 1 Try.underlying24 hsize u12_1 (by rw [hyl])
     (fun j v hj => by
       have := (blk_cell hb21 j).trans (hvs _ v hj)
       rw [Addr.add_lit, Nat.zero_add]
       exact this)
     (fun j hj => by
       rw [hyl] at hj
       have : (i + 1) * 1 ≤ c * 1 := Nat.mul_le_mul_right _ (by omega)
       have hlt : i * 1 + j < cur1.size := by rw [hs1, hs]; omega
       rw [blk_cell hb1, Array.getElem?_eq_getElem hlt]; rfl)
     (fun j _ => blk_frozen hb1 _) (slices_Insert_int_int.flat.one y)
 obtain ⟨W2, hW2⟩ : ∃ W2, W2 = W1.setCells g (i * 1) (slices_Insert_int_int.enc y) := ⟨_, rfl⟩
 rw [← hW2] at hcp2
 obtain ⟨cur3, hb3, hs3, ho3, hi3⟩ := Go.Proofs.Ytoemdmjdpikfbaa.Slc.setCells_blk g 3 (slices_Insert_int_int.enc y) (i * 1) W1 cur1 hb1
 rw [← hW2] at hb3
 have hR : Kd.R (Kd.int .i64) 3 W2 w0.heap.size (fun k_ => ((P0_ k_ ∨ P2_ k_) ∨ w.heap.size ≤ k_)) (.slice (some ⟨g, 0, none⟩) (n + 1) c) (l0.take i ++ y :: l0.drop i) := by
   refine slices_Insert_int_int.flat.row hb3 hg (.inl (.inl hP)) (by simp; omega) hr hm (hs3.trans (hs1.trans hs)) (slices_Insert_int_int.flat.ins_cells hn (by omega) (fun q hq => ?_) (fun j hj => ?_) (fun j hj => ?_))
   · rw [hsz3] at hq
     have : i * 1 ≤ n * 1 := Nat.mul_le_mul_right _ (by omega)
     rw [ho3 q (.inl hq), ho1 q (.inl (by omega)), ← ht, List.getElem?_take_of_lt (by omega), Array.getElem?_toList]
   · rw [hsz3] at hj ⊢
     have : (i + 1) * 1 ≤ c * 1 := Nat.mul_le_mul_right _ (by omega)
     exact hi3 j (by omega) (by rw [hs1, hs]; omega)
   · rw [hsz3] at hj ⊢
     have h1 : i * 1 ≤ n * 1 := Nat.mul_le_mul_right _ (by omega)
     have h2 : (n + 1) * 1 ≤ c * 1 := Nat.mul_le_mul_right _ hr
     rw [Nat.sub_mul] at hj
     rw [ho3 _ (.inr (by rw [hyl]; omega)), hi1 j (by rw [hdl, Nat.sub_mul]; omega) (by rw [hs]; omega), List.getElem?_drop]
 have hBel : Below w0.heap.size w0 W2 := by
   rw [hW2, hW1]
   exact Go.Proofs.Ytoemdmjdpikfbaa.Slc.below_setCells hg _ _ (Go.Proofs.Ytoemdmjdpikfbaa.Slc.below_setCells hg _ _ (below_drew hB))
 have hKp : Kept w W2 (fun k_ => P0_ k_ ∨ P2_ k_) := by
   rw [hW2, hW1]
   exact Go.Proofs.Ytoemdmjdpikfbaa.Slc.kept_setCells (.inl (.inl hP)) _ _ (Go.Proofs.Ytoemdmjdpikfbaa.Slc.kept_setCells (.inl (.inl hP)) _ _ (Kept.drew (Kept.refl w _)))
 have HR := am hR
 have HBe := am hBel
 have HKp := am hKp
 have hz2 : ¬ ((i : Int) = (n : Int)) := by omega
 have hw1 : IntKind.i64.wrap ((i : Int) + 1) = (i : Int) + 1 := by rw [IntKind.wrap_i64]; omega
 have hb1' : (0 : Int) ≤ (i : Int) + 1 := by omega
 have hin : i ≤ n := by omega
 have htn : ((i : Int) + 1).toNat = i + 1 := by omega
 have hb2' : ¬ (c = i + 1) := by omega
 have hb3' : (i : Int) ≤ (n : Int) + 1 := by omega
 have hb4 : ¬ (c = i) := by omega
 simp only [Nat.mul_one] at hov hcp1 hcp2
 clear hR hBel hKp hb hs ht hb2 ht2 hcs hvs hW1 hb1 hs1 ho1 hi1 hb21 hW2 hb3 hs3 ho3 hi3 hcl hyl hdl hB hg hP hm hk2 hsz3 hsize hn hne
 go_enter Try.func77, Try.ntmps77
 go_wp2_with (simp only [hov])
 go_region_law (refine Go.Proofs.Ytoemdmjdpikfbaa.Slc.step_copy rfl _ _ 24 24 rfl _ _ u12_0 u12_0 (hcp1 _ _ _) ?_)
 go_wp2_with (at_builtin; refine Go.Proofs.Ytoemdmjdpikfbaa.Slc.list_copy _ rfl _ _ 24 24 rfl _ _ rfl rfl (hcp2 _ _) ?_)
 go_ret
 exact ⟨_, rfl, HR.out, HBe.out, HKp.out⟩
theorem slices_Insert_int_int.parts : ∃ i0, Try.prog.info? 3 = some i0 ∧ i0.zero = some (.int .i64 0) ∧ i0.size = 1 ∧ i0.bytes = 8 := by
 obtain ⟨i0, h, h2⟩ := Option.map_eq_some_iff.1 slices_Insert_int_int.info
 simp only [Prod.mk.injEq] at h2
 exact ⟨i0, h, h2.1, h2.2.1, h2.2.2⟩
set_option maxHeartbeats 2000000 in
set_option maxRecDepth 100000 in
theorem slices_Insert_int_int.grow (P0_ P2_ : Nat → Prop) (g n i : Nat) (l0 : List (Int)) (y : Int) (cur cur2 : Array Value) (g2 c2 : Nat) (w0 w : World) (hB : Below w0.heap.size w0 w) (hb : w.heap[g]? = some (.cells cur 3 (0, 0))) (hs : cur.size = n * 1) (ht : cur.toList.take (n * 1) = Go.Proofs.Ytoemdmjdpikfbaa.Slc.cellsOf slices_Insert_int_int.enc l0)
   (hn : l0.length = n) (hi : i < n) (hl : n < 1000000) (hb2 : w.heap[g2]? = some (.cells cur2 3 (0, 0))) (ht2 : cur2.toList.take 1 = slices_Insert_int_int.enc y) (hc2 : 1 ≤ c2) :
   Calls Try.prog 77 #[.slice (some ⟨g, 0, none⟩) n n, .int .i64 (i : Int), .slice (some ⟨g2, 0, none⟩) 1 c2] w fun e w' => ∃ v0_ : Value, e = .returned (v0_) ∧ Kd.R (Kd.int .i64) 3 w' w0.heap.size (fun k_ => ((P0_ k_ ∨ P2_ k_) ∨ w.heap.size ≤ k_)) v0_ (l0.take i ++ y :: l0.drop i) ∧ Below w0.heap.size w0 w' ∧ Kept w w' (fun k_ => P0_ k_ ∨ P2_ k_) := by
 have hsz3 : ((Kd.int .i64)).sz = 1 := rfl
 have hsize := slices_Insert_int_int.size
 obtain ⟨i0, hi0, hz0, hzs, hzb⟩ := slices_Insert_int_int.parts
 have hcl : (Go.Proofs.Ytoemdmjdpikfbaa.Slc.cellsOf slices_Insert_int_int.enc l0).length = n * 1 := by rw [slices_Insert_int_int.flat.cells_len, hn]; rfl
 have hyl : (slices_Insert_int_int.enc y).length = 1 := slices_Insert_int_int.flat.len y
 have hdl : ((Go.Proofs.Ytoemdmjdpikfbaa.Slc.cellsOf slices_Insert_int_int.enc l0).drop (i * 1)).length = (n - i) * 1 := by rw [List.length_drop, hcl, Nat.sub_mul]
 have hin3 : i * 1 ≤ n * 1 := Nat.mul_le_mul_right _ (by omega)
 have htl : ((Go.Proofs.Ytoemdmjdpikfbaa.Slc.cellsOf slices_Insert_int_int.enc l0).take (i * 1)).length = i * 1 := by rw [List.length_take, hcl]; omega
 have hgw : g < w.heap.size := blk_lt hb
 have hg2w : g2 < w.heap.size := blk_lt hb2
 have hcs : ∀ j v, (Go.Proofs.Ytoemdmjdpikfbaa.Slc.cellsOf slices_Insert_int_int.enc l0)[j]? = some v → cur[j]? = some v := fun j v hj => by
   have hlt := (List.getElem?_eq_some_iff.1 hj).1
   rw [← ht, List.getElem?_take_of_lt (by omega), Array.getElem?_toList] at hj
   exact hj
 have hvs : ∀ j v, (slices_Insert_int_int.enc y)[j]? = some v → cur2[j]? = some v := fun j v hj => by
   have hlt := (List.getElem?_eq_some_iff.1 hj).1
   rw [← ht2, List.getElem?_take_of_lt (by omega), Array.getElem?_toList] at hj
   exact hj
 have hold : (Builtin.firstCells i0.size i (.slice (some ⟨g, 0, none⟩) i n)).run Try.prog w.drew = .ok ((Go.Proofs.Ytoemdmjdpikfbaa.Slc.cellsOf slices_Insert_int_int.enc l0).take (i * 1)).toArray w.drew := by
   rw [hzs]
   exact run_firstCells_some w.drew 1 i ⟨g, 0, none⟩ i n _ htl (fun j v hj => by
     have hj' : (Go.Proofs.Ytoemdmjdpikfbaa.Slc.cellsOf slices_Insert_int_int.enc l0)[j]? = some v := by
       rw [List.getElem?_take] at hj
       split at hj
       · exact hj
       · cases hj
     rw [Addr.add_lit, Nat.zero_add]
     exact (blk_cell (w := w.drew) hb j).trans (hcs j v hj'))
 have hik : i + (n + 1 - i) = n + 1 := by omega
 have hkk : (n : Int) + 1 - (i : Int) = ((n + 1 - i : Nat) : Int) := by omega
 obtain ⟨G, hG⟩ : ∃ G, G = grownCap w (n + 1) n 3 := ⟨_, rfl⟩
 obtain ⟨ROW, hROW⟩ : ∃ ROW : Array Value, ROW = ((Go.Proofs.Ytoemdmjdpikfbaa.Slc.cellsOf slices_Insert_int_int.enc l0).take (i * 1)).toArray ++ Builtin.zeroCells (.int .i64 0 : Value).cells (n + 1 - i) ++ Builtin.zeroCells (.int .i64 0 : Value).cells (G - (n + 1)) := ⟨_, rfl⟩
 have hrz : ∀ ty, (Builtin.append_ #[24, 3] ty #[.slice (some ⟨g, 0, none⟩) i n, .int .i64 ((n : Int) + 1 - (i : Int))]).run Try.prog w = .ok (.slice (some ⟨w.heap.size, 0, none⟩) (n + 1) G) (w.drew.alloc (.cells ROW 3)) := fun ty => by
   have h := Lib.run_append_grow_zeros (P := Try.prog) w 24 3 ty 3 i0 _ .i64 .i64 Try.underlying24 Try.underlying3 hi0 hz0 (some ⟨g, 0, none⟩) i n _ hold (n + 1 - i) (by omega) (by omega) (by omega) (by omega) (by rw [hzb]; omega) (by rw [hzb, hik]; exact growslice_fits (by omega) (by omega))
   rw [hik] at h
   rw [hkk, hROW, hG]
   exact h
 have hGn : n + 1 ≤ G := by rw [hG]; exact grownCap_ge w _ _ _
 have hGm : G ≤ maxLen := by rw [hG]; exact grownCap_le_maxLen w (n + 1) n 3 (by unfold maxLen; omega)
 have hRl : ROW.size = G * 1 := by
   have e1 : ∀ k, (Builtin.zeroCells (.int .i64 0 : Value).cells k).size = k * 1 := fun k => by simp [Builtin.zeroCells, Value.cells]; try omega
   rw [hROW, Array.size_append, Array.size_append, e1, e1]
   simp only [List.size_toArray, htl]
   rw [← Nat.add_mul, ← Nat.add_mul]
   congr 1; omega
 have hR0 : ∀ q, q < i * 1 → ROW[q]? = (Go.Proofs.Ytoemdmjdpikfbaa.Slc.cellsOf slices_Insert_int_int.enc l0)[q]? := fun q hq => by
   rw [hROW, Array.append_assoc, Array.getElem?_append_left (by simp only [List.size_toArray, htl]; exact hq), List.getElem?_toArray, List.getElem?_take_of_lt hq]
 obtain ⟨W1, hW1⟩ : ∃ W1, W1 = w.drew.alloc (.cells ROW 3) := ⟨_, rfl⟩
 rw [← hW1] at hrz
 have hbN : W1.heap[w.heap.size]? = some (.cells ROW 3 (0, 0)) := by rw [hW1]; exact Array.getElem?_push_size
 have hkeep : ∀ k, k < w.heap.size → W1.heap[k]? = w.heap[k]? := fun k hk => by rw [hW1]; show (w.heap.push _)[k]? = _; rw [Array.getElem?_push, if_neg (Nat.ne_of_lt hk)]
 have hb2N : W1.heap[g2]? = some (.cells cur2 3 (0, 0)) := (hkeep g2 hg2w).trans hb2
 have hB1 : Below w0.heap.size w0 W1 := by rw [hW1]; exact below_alloc (below_drew hB) _
 have hK1 : Kept w W1 (fun k_ => P0_ k_ ∨ P2_ k_) := by rw [hW1]; exact (Kept.drew (Kept.refl w _)).alloc _
 have hwN : w0.heap.size ≤ w.heap.size := hB.size
 obtain ⟨NB, hNB⟩ : ∃ NB, NB = w.heap.size := ⟨_, rfl⟩
 have hgN : g ≠ NB := by omega
 have hg2N : g2 ≠ NB := by omega
 have hcpA : ∀ ty dc, (Builtin.copy_ #[24, 24] ty #[.slice (some ⟨NB, i * 1, none⟩) (n + 1 - i) dc, .slice (some ⟨g2, 0, none⟩) 1 c2]).run Try.prog W1 = .ok (goInt (1 : Nat)) (W1.setCells NB (i * 1) (slices_Insert_int_int.enc y)) := fun ty dc =>
   Go.Proofs.Ytoemdmjdpikfbaa.Slc.run_copy_k W1 _ _ ty 3 1 NB (i * 1) _ dc ⟨g2, 0, none⟩ 1 c2 _ 1 Try.underlying24 hsize u12_1 (by rw [hyl])
     (fun j v hj => by
       rw [Addr.add_lit, Nat.zero_add]
       exact (blk_cell hb2N j).trans (hvs _ v hj))
     (fun j hj => by
       rw [hyl] at hj
       have : (i + 1) * 1 ≤ G * 1 := Nat.mul_le_mul_right _ (by omega)
       have hlt : i * 1 + j < ROW.size := by omega
       rw [hNB, blk_cell hbN, Array.getElem?_eq_getElem hlt]; rfl)
     (fun j _ => by rw [hNB]; exact blk_frozen hbN _) (slices_Insert_int_int.flat.one y)
 rw [← hNB] at hbN hrz
 obtain ⟨W2, hW2⟩ : ∃ W2, W2 = W1.setCells NB (i * 1) (slices_Insert_int_int.enc y) := ⟨_, rfl⟩
 rw [← hW2] at hcpA
 obtain ⟨cur3, hb3, hs3, ho3, hi3⟩ := Go.Proofs.Ytoemdmjdpikfbaa.Slc.setCells_blk NB 3 (slices_Insert_int_int.enc y) (i * 1) W1 ROW hbN
 rw [← hW2] at hb3
 have hb31 : W2.heap[g]? = some (.cells cur 3 (0, 0)) := by
   rw [hW2]; exact (Go.Proofs.Ytoemdmjdpikfbaa.Slc.setCells_other NB _ _ W1 g hgN).trans ((hkeep g hgw).trans hb)
 have hcpB : ∀ ty dc sc, (Builtin.copy_ #[24, 24] ty #[.slice (some ⟨NB, (i + 1) * 1, none⟩) (n - i) dc, .slice (some ⟨g, i * 1, none⟩) (n - i) sc]).run Try.prog W2.drew = .ok (goInt (n - i : Nat)) (W2.drew.setCells NB ((i + 1) * 1) ((Go.Proofs.Ytoemdmjdpikfbaa.Slc.cellsOf slices_Insert_int_int.enc l0).drop (i * 1))) := fun ty dc sc =>
   Go.Proofs.Ytoemdmjdpikfbaa.Slc.run_copy_k W2.drew _ _ ty 3 1 NB ((i + 1) * 1) _ dc ⟨g, i * 1, none⟩ _ sc _ (n - i) Try.underlying24 hsize u12_1 hdl
     (fun j v hj => by
       rw [List.getElem?_drop] at hj
       rw [Addr.add_lit]
       exact (blk_cell (w := W2.drew) hb31 _).trans (hcs _ v hj))
     (fun j hj => by
       rw [hdl, Nat.sub_mul] at hj
       have : (n + 1) * 1 ≤ G * 1 := Nat.mul_le_mul_right _ hGn
       have hlt : (i + 1) * 1 + j < cur3.size := by rw [hs3, hRl]; omega
       rw [blk_cell (w := W2.drew) hb3, Array.getElem?_eq_getElem hlt]; rfl)
     (fun j _ => blk_frozen (w := W2.drew) hb3 _) (fun v hv => slices_Insert_int_int.flat.cells_one l0 v (List.mem_of_mem_drop hv))
 obtain ⟨W3, hW3⟩ : ∃ W3, W3 = W2.drew.setCells NB ((i + 1) * 1) ((Go.Proofs.Ytoemdmjdpikfbaa.Slc.cellsOf slices_Insert_int_int.enc l0).drop (i * 1)) := ⟨_, rfl⟩
 rw [← hW3] at hcpB
 obtain ⟨cur4, hb4, hs4, ho4, hi4⟩ := Go.Proofs.Ytoemdmjdpikfbaa.Slc.setCells_blk NB 3 ((Go.Proofs.Ytoemdmjdpikfbaa.Slc.cellsOf slices_Insert_int_int.enc l0).drop (i * 1)) ((i + 1) * 1) W2.drew cur3 hb3
 rw [← hW3] at hb4
 have hR : Kd.R (Kd.int .i64) 3 W3 w0.heap.size (fun k_ => ((P0_ k_ ∨ P2_ k_) ∨ w.heap.size ≤ k_)) (.slice (some ⟨NB, 0, none⟩) (n + 1) G) (l0.take i ++ y :: l0.drop i) := by
   refine slices_Insert_int_int.flat.row hb4 (by omega) (.inr (by omega)) (by simp; omega) hGn hGm (hs4.trans (hs3.trans hRl)) (slices_Insert_int_int.flat.ins_cells hn (by omega) (fun q hq => ?_) (fun j hj => ?_) (fun j hj => ?_))
   · rw [hsz3] at hq
     rw [ho4 q (.inl (by omega)), ho3 q (.inl hq), hR0 q hq]
   · rw [hsz3] at hj ⊢
     have : (i + 1) * 1 ≤ G * 1 := Nat.mul_le_mul_right _ (by omega)
     rw [ho4 _ (.inl (by omega))]
     exact hi3 j (by omega) (by rw [hRl]; omega)
   · rw [hsz3] at hj ⊢
     have h2 : (n + 1) * 1 ≤ G * 1 := Nat.mul_le_mul_right _ hGn
     rw [Nat.sub_mul] at hj
     rw [hi4 j (by rw [hdl, Nat.sub_mul]; omega) (by rw [hs3, hRl]; omega), List.getElem?_drop]
 have hBel : Below w0.heap.size w0 W3 := by
   rw [hW3, hW2]
   exact Go.Proofs.Ytoemdmjdpikfbaa.Slc.below_setCells (by omega) _ _ (below_drew (Go.Proofs.Ytoemdmjdpikfbaa.Slc.below_setCells (by omega) _ _ hB1))
 have hKp : Kept w W3 (fun k_ => P0_ k_ ∨ P2_ k_) := by
   rw [hW3, hW2]
   exact Go.Proofs.Ytoemdmjdpikfbaa.Slc.kept_setCells (.inr (by omega)) _ _ (Kept.drew (Go.Proofs.Ytoemdmjdpikfbaa.Slc.kept_setCells (.inr (by omega)) _ _ hK1))
 have HR := am hR
 have HBe := am hBel
 have HKp := am hKp
 have hz2 : ¬ ((i : Int) = (n : Int)) := by omega
 have hz3 : (n : Int) < (n : Int) + 1 := by omega
 have hG63 : G ≤ 9223372036854775807 := by unfold maxLen at hGm; omega
 have hGi : ¬ (G = i) := by omega
 have hGim : ¬ (G = i + 1) := by omega
 have hci : ¬ (n = i) := by omega
 have hw1 : IntKind.i64.wrap ((i : Int) + 1) = (i : Int) + 1 := by rw [IntKind.wrap_i64]; omega
 have hb1 : (0 : Int) ≤ (i : Int) + 1 := by omega
 have hin : i ≤ n := by omega
 have htn : ((i : Int) + 1).toNat = i + 1 := by omega
 have hb3' : (i : Int) ≤ (n : Int) := by omega
 simp only [Nat.mul_one] at hrz hcpA hcpB
 clear hR hBel hKp hb hs ht hb2 ht2 hcs hvs hW1 hW2 hW3 hb3 hs3 ho3 hi3 hb4 hs4 ho4 hi4 hcl hyl hdl hB hsz3 hsize hi0 hz0 hzs hzb hold hROW hG hRl hR0 hbN hkeep hb2N hB1 hK1 hb31 hGm hkk hik hin3 htl hgw hg2w hgN hg2N hwN hNB hn
 go_enter Try.func77, Try.ntmps77
 go_wp2_with (first
   | (at_builtin; refine Lib.wpList_append_run _ rfl _ _ _ _ rfl _ _ rfl rfl _ _ (hrz _) ?_)
   | (at_builtin; refine Go.Proofs.Ytoemdmjdpikfbaa.Slc.list_copy _ rfl _ _ 24 24 rfl _ _ rfl rfl (hcpA _ _) ?_))
 go_region_law (refine Go.Proofs.Ytoemdmjdpikfbaa.Slc.step_copy rfl _ _ 24 24 rfl _ _ u12_0 u12_0 (hcpB _ _ _) ?_)
 go_wp2
 go_ret
 exact ⟨_, rfl, HR.out, HBe.out, HKp.out⟩
set_option maxHeartbeats 2000000 in
theorem slices_Insert_int_int.calls (P0_ : Nat → Prop) (u9000_ : Value) (l0 : List (Int)) (a1 : Int) (P2_ : Nat → Prop) (u9001_ : Value) (l2 : List (Int)) (r : List (Int)) (w0 w : World) (hB : Below w0.heap.size w0 w) (ho0 : Kd.R (Kd.int .i64) 3 w w0.heap.size P0_ u9000_ l0) (hp0_2 : ∀ k_, P0_ k_ → ¬ P2_ k_) (ho2 : Kd.R (Kd.int .i64) 3 w w0.heap.size P2_ u9001_ l2) (hp2_0 : ∀ k_, P2_ k_ → ¬ P0_ k_) (h : slices_Insert_int_int.f l0 a1 l2 = some r) :
   Calls Try.prog 77 #[u9000_, .int .i64 a1, u9001_] w fun e w' => ∃ v0_ : Value, e = .returned (v0_) ∧ Kd.R (Kd.int .i64) 3 w' w0.heap.size (fun k_ => ((P0_ k_ ∨ P2_ k_) ∨ w.heap.size ≤ k_)) v0_ r ∧ Below w0.heap.size w0 w' ∧ Kept w w' (fun k_ => P0_ k_ ∨ P2_ k_) := by
 unfold slices_Insert_int_int.f at h
 by_cases hc : 0 ≤ a1 ∧ a1 ≤ (l0.length : Int) ∧ l2.length = 1 ∧ l0.length < 1000000
 rotate_left
 · rw [if_neg hc] at h; cases h
 rw [if_pos hc] at h
 obtain rfl := Option.some.inj h
 clear h
 obtain ⟨h0, hle, hl2, hl⟩ := hc
 obtain ⟨i, rfl⟩ := Int.eq_ofNat_of_zero_le h0
 rw [Int.toNat_natCast]
 match l2, hl2, ho2 with
 | [y], hl2, ho2 =>
 obtain ⟨g2, c2, cur2, rfl, _, hP2, hb2, hc2, _, _, ht2⟩ := slices_Insert_int_int.flat.block ho2 (by simp)
 have ht2' : cur2.toList.take ((Kd.int .i64)).sz = slices_Insert_int_int.enc y := by simpa [Go.Proofs.Ytoemdmjdpikfbaa.Slc.cellsOf] using ht2
 by_cases hi : i < l0.length
 rotate_left
 · have hin : i = l0.length := by omega
   subst hin
   obtain ⟨A0, c0, rfl, hc0, _⟩ := Kd.R_reads ho0
   obtain ⟨hnl, hle2, hC2⟩ := Kd.R_reads' ho2
   have hm : c0 ≤ maxLen := by
     obtain ⟨_, inner, ⟨_, ho⟩, _⟩ := ho0
     rcases ho with ⟨he, _⟩ | ⟨g', cap', cur, he, _, _, _, hm, _⟩
     · injection he with e1 e2 e3; rw [e3]; exact Nat.zero_le _
     · injection he with e1 e2 e3; rw [e3]; exact hm
   exact (slices_Insert_int_int.at_end P0_ P2_ A0 l0.length c0 l0 g2 c2 [y] w0 w hB ho0 hC2 rfl rfl hc2 hl hc0 hm).mono fun e w' h => by simpa using h
 obtain ⟨g, c, cur, rfl, hg, hP, hb, hcap, hm, hs, ht⟩ := slices_Insert_int_int.flat.block ho0 (by omega)
 have hne : g2 ≠ g := fun e => hp0_2 g hP (e ▸ hP2)
 by_cases hr : l0.length + 1 ≤ c
 · exact (slices_Insert_int_int.shift P0_ P2_ g l0.length c i l0 y cur cur2 g2 c2 w0 w hB hg hP hb hs ht rfl hi hr hm hb2 ht2' hne hc2).mono fun e w' h => by simpa using h
 have hcn : c = l0.length := by omega
 subst hcn
 exact (slices_Insert_int_int.grow P0_ P2_ g l0.length i l0 y cur cur2 g2 c2 w0 w hB hb hs ht rfl hi hl hb2 ht2' hc2).mono fun e w' h => by simpa using h


/-! ### slices_Delete_int_int: function 78 -/
def slices_Delete_int_int.enc (x : Int) : List Value := [.int .i64 x]
theorem slices_Delete_int_int.flat : Go.Proofs.Ytoemdmjdpikfbaa.Slc.Flat (Kd.int .i64) slices_Delete_int_int.enc := ⟨fun w base ok x => rfl, fun h => h⟩
def slices_Delete_int_int.f (l0 : List (Int)) (a1 : Int) (a2 : Int) : Option (List (Int)) := if 0 ≤ a1 ∧ a2 = a1 + 1 ∧ a1 < (l0.length : Int) then some (l0.eraseIdx a1.toNat) else none
theorem slices_Delete_int_int.size : (Try.prog.info? 3).map (·.size) = some 1 := by kernel_rfl
theorem slices_Delete_int_int.zero (w : World) : (zeroValue 3).run Try.prog w = .ok (.int .i64 0) w := by kernel_rfl
set_option maxHeartbeats 2000000 in
set_option maxRecDepth 100000 in
theorem slices_Delete_int_int.calls (P0_ : Nat → Prop) (u9000_ : Value) (l0 : List (Int)) (a1 : Int) (a2 : Int) (r : List (Int)) (w0 w : World) (hB : Below w0.heap.size w0 w) (ho0 : Kd.R (Kd.int .i64) 3 w w0.heap.size P0_ u9000_ l0) (h : slices_Delete_int_int.f l0 a1 a2 = some r) :
   Calls Try.prog 78 #[u9000_, .int .i64 a1, .int .i64 a2] w fun e w' => ∃ v0_ : Value, e = .returned (v0_) ∧ Kd.R (Kd.int .i64) 3 w' w0.heap.size (fun k_ => (P0_ k_ ∨ w.heap.size ≤ k_)) v0_ r ∧ Below w0.heap.size w0 w' ∧ Kept w w' (fun k_ => P0_ k_) := by
 unfold slices_Delete_int_int.f at h
 by_cases hc : 0 ≤ a1 ∧ a2 = a1 + 1 ∧ a1 < (l0.length : Int)
 rotate_left
 · rw [if_neg hc] at h; cases h
 rw [if_pos hc] at h
 obtain rfl := Option.some.inj h
 clear h
 obtain ⟨h0, rfl, hlt⟩ := hc
 obtain ⟨i, rfl⟩ := Int.eq_ofNat_of_zero_le h0
 have hi : i < l0.length := by omega
 obtain ⟨g, cap, cur, hv, hg, hP, hb, hcap, hm, hs, ht⟩ := slices_Delete_int_int.flat.block ho0 (by omega)
 subst hv
 obtain ⟨n, hn⟩ : ∃ n, n = l0.length := ⟨_, rfl⟩
 unfold maxLen at hm
 have hm63 := hm
 have HO := am (Kd.R_mono ho0 (ok' := fun k_ => P0_ k_ ∨ w.heap.size ≤ k_) (fun k hk => .inl hk))
 have HB := am hB
 have HG := am hg
 have HP := am hP
 have HN := am hn
 rw [← hn] at HO ⊢
 rw [← hn] at hi hcap
 clear ho0 hB hg hP hb hs ht hn h0 hlt
 have e1 : (i : Int) + 1 = ((i + 1 : Nat) : Int) := by omega
 rw [Int.toNat_natCast]
 have p1 : (i : Int) ≤ ((i + 1 : Nat) : Int) := by omega
 have p2 : ((i + 1 : Nat) : Int) ≤ (n : Int) := by omega
 have p3 : ¬ ((i : Int) = ((i + 1 : Nat) : Int)) := by omega
 rw [e1]
 clear e1
 have hsz := slices_Delete_int_int.size
 have hdr : Aside0 (Kd.R (Kd.int .i64) 3 w.drew w0.heap.size (fun k_ => P0_ k_ ∨ w.heap.size ≤ k_) (.slice (some ⟨g, 0, none⟩) n cap) l0) := ⟨HO.out⟩
 have hbd : Aside0 (Below w0.heap.size w0 w.drew) := ⟨below_drew HB.out⟩
 clear HO
 have hic : i ≤ cap := by omega
 have hjc : i + 1 ≤ cap := by omega
 have hq : (i : Int) ≤ (i : Int) + 1 := by omega
 have hr0 : (0 : Int) ≤ (i : Int) + 1 := by omega
 have hr1 : (i : Int) + 1 ≤ (n : Int) := by omega
 by_cases hce : cap = i + 1
 · subst hce
   clear hic hjc
   go_enter Try.func78, Try.ntmps78
   go_wp2_with (fail)
   go_region_law (refine Kd.R_delete_step (Kd.int .i64) (w0 := w0) w0.heap.size (by simp [Region.wanted]) (.tmp 22) (.tmp 25) 24 3 rfl Try.underlying24 hsz (g := g) (n := n) (c := i + 1) (k := i) (m := n - (i + 1)) (c2 := 0) (A := some ⟨g, 0, none⟩) u12_0 (by simp [Act.eval, Act.put]; omega) (by simp) rfl hdr.out hi hbd.out hbd.out.size ?_; intro w1 hr hb hgw)
   have hcn : ¬ ((i + 1) = n - 1) := by omega
   have hnn : n - 1 ≤ n := by omega
   have hk1 : ((n - 1 : Nat) : Int) ≤ (n : Int) := by omega
   obtain ⟨hl1, _, hok1, _, _, cur1, hb1, hs1, ht1⟩ := slices_Delete_int_int.flat.blockG hr
   have hsz3 : ((Kd.int .i64)).sz = 1 := rfl
   have hcl : ∀ ty, (Builtin.clear_ #[24] ty #[.slice (some ⟨g, (n - 1) * 1, none⟩) (n - (n - 1)) ((i + 1) - (n - 1))]).run Try.prog w1 = .ok (.tuple #[]) (w1.setCells g ((n - 1) * 1) (.int .i64 0 : Value).cells.toList) := fun ty => by
     rw [show n - (n - 1) = 1 by omega]
     refine Go.Proofs.Ytoemdmjdpikfbaa.Slc.run_clear_one w1 _ 3 ty _ Try.underlying24 slices_Delete_int_int.zero g _ _ (by decide) (fun j hj => ?_) (fun j hj => blk_frozen hb1 _)
     have hj' : j < 1 := hj
     rw [blk_cell hb1, Array.getElem?_eq_getElem (by rw [hs1, hsz3]; omega)]
     rfl
   obtain ⟨W2, hW2⟩ : ∃ W2, W2 = w1.setCells g ((n - 1) * 1) (.int .i64 0 : Value).cells.toList := ⟨_, rfl⟩
   rw [← hW2] at hcl
   simp only [Nat.mul_one] at hcl
   obtain ⟨cur2, hb2, hs2, hk2, _⟩ := Go.Proofs.Ytoemdmjdpikfbaa.Slc.setCells_blk g 3 (.int .i64 0 : Value).cells.toList ((n - 1) * 1) w1 cur1 hb1
   rw [← hW2] at hb2
   have hR : Kd.R (Kd.int .i64) 3 W2 w0.heap.size (fun k_ => (P0_ k_ ∨ w.heap.size ≤ k_)) (.slice (some ⟨g, 0, none⟩) (n - 1) (i + 1)) (l0.eraseIdx i) := by
     refine slices_Delete_int_int.flat.row hb2 HG.out hok1 hl1.symm (by omega) (by unfold maxLen; omega) (hs2.trans hs1) ?_
     rw [← ht1, ← hl1]
     apply List.ext_getElem?
     intro q
     by_cases hq : q < (n - 1) * ((Kd.int .i64)).sz
     · rw [List.getElem?_take_of_lt hq, List.getElem?_take_of_lt hq, Array.getElem?_toList, Array.getElem?_toList]
       exact hk2 q (.inl (by rw [hsz3] at hq; exact hq))
     · rw [List.getElem?_eq_none u12_2, List.getElem?_eq_none u12_2]
   have hBel : Below w0.heap.size w0 W2 := by rw [hW2]; exact Go.Proofs.Ytoemdmjdpikfbaa.Slc.below_setCells HG.out _ _ hb
   have hKp : Kept w W2 (fun k_ => P0_ k_) := by
     rw [hW2]
     exact Go.Proofs.Ytoemdmjdpikfbaa.Slc.kept_setCells (.inl HP.out) _ _ (Kept.of_grown (W := w.drew) hgw (Kept.drew (Kept.refl w _)) (fun k hk => .inl (by injection hk with hk; exact hk ▸ HP.out)))
   have HR := am hR
   have HBe := am hBel
   have HKp := am hKp
   clear hR hBel hKp hr hb hgw hb1 hs1 ht1 hb2 hs2 hk2 hW2 hl1 hok1 hsz3
   go_wp2
   go_ret
   exact ⟨_, rfl, HR.out, HBe.out, HKp.out⟩
 go_enter Try.func78, Try.ntmps78
 go_wp2_with (fail)
 go_region_law (refine Kd.R_delete_step (Kd.int .i64) (w0 := w0) w0.heap.size (by simp [Region.wanted]) (.tmp 22) (.tmp 25) 24 3 rfl Try.underlying24 hsz (g := g) (n := n) (c := cap) (k := i) (m := n - (i + 1)) (c2 := cap - (i + 1)) (A := some ⟨g, (i + 1) * 1, none⟩) u12_0 u12_0 (by rw [if_neg hce]; simp only [Option.map_some, add_plain]; first | done | rfl) rfl hdr.out hi hbd.out hbd.out.size ?_; intro w1 hr hb hgw)
 have hcn : ¬ (cap = n - 1) := by omega
 have hnn : n - 1 ≤ n := by omega
 have hk1 : ((n - 1 : Nat) : Int) ≤ (n : Int) := by omega
 obtain ⟨hl1, _, hok1, _, _, cur1, hb1, hs1, ht1⟩ := slices_Delete_int_int.flat.blockG hr
 have hsz3 : ((Kd.int .i64)).sz = 1 := rfl
 have hcl : ∀ ty, (Builtin.clear_ #[24] ty #[.slice (some ⟨g, (n - 1) * 1, none⟩) (n - (n - 1)) (cap - (n - 1))]).run Try.prog w1 = .ok (.tuple #[]) (w1.setCells g ((n - 1) * 1) (.int .i64 0 : Value).cells.toList) := fun ty => by
   rw [show n - (n - 1) = 1 by omega]
   refine Go.Proofs.Ytoemdmjdpikfbaa.Slc.run_clear_one w1 _ 3 ty _ Try.underlying24 slices_Delete_int_int.zero g _ _ (by decide) (fun j hj => ?_) (fun j hj => blk_frozen hb1 _)
   have hj' : j < 1 := hj
   rw [blk_cell hb1, Array.getElem?_eq_getElem (by rw [hs1, hsz3]; omega)]
   rfl
 obtain ⟨W2, hW2⟩ : ∃ W2, W2 = w1.setCells g ((n - 1) * 1) (.int .i64 0 : Value).cells.toList := ⟨_, rfl⟩
 rw [← hW2] at hcl
 simp only [Nat.mul_one] at hcl
 obtain ⟨cur2, hb2, hs2, hk2, _⟩ := Go.Proofs.Ytoemdmjdpikfbaa.Slc.setCells_blk g 3 (.int .i64 0 : Value).cells.toList ((n - 1) * 1) w1 cur1 hb1
 rw [← hW2] at hb2
 have hR : Kd.R (Kd.int .i64) 3 W2 w0.heap.size (fun k_ => (P0_ k_ ∨ w.heap.size ≤ k_)) (.slice (some ⟨g, 0, none⟩) (n - 1) cap) (l0.eraseIdx i) := by
   refine slices_Delete_int_int.flat.row hb2 HG.out hok1 hl1.symm (by omega) (by unfold maxLen; omega) (hs2.trans hs1) ?_
   rw [← ht1, ← hl1]
   apply List.ext_getElem?
   intro q
   by_cases hq : q < (n - 1) * ((Kd.int .i64)).sz
   · rw [List.getElem?_take_of_lt hq, List.getElem?_take_of_lt hq, Array.getElem?_toList, Array.getElem?_toList]
     exact hk2 q (.inl (by rw [hsz3] at hq; exact hq))
   · rw [List.getElem?_eq_none u12_2, List.getElem?_eq_none u12_2]
 have hBel : Below w0.heap.size w0 W2 := by rw [hW2]; exact Go.Proofs.Ytoemdmjdpikfbaa.Slc.below_setCells HG.out _ _ hb
 have hKp : Kept w W2 (fun k_ => P0_ k_) := by
   rw [hW2]
   exact Go.Proofs.Ytoemdmjdpikfbaa.Slc.kept_setCells (.inl HP.out) _ _ (Kept.of_grown (W := w.drew) hgw (Kept.drew (Kept.refl w _)) (fun k hk => .inl (by injection hk with hk; exact hk ▸ HP.out)))
 have HR := am hR
 have HBe := am hBel
 have HKp := am hKp
 clear hR hBel hKp hr hb hgw hb1 hs1 ht1 hb2 hs2 hk2 hW2 hl1 hok1 hsz3
 go_wp2
 go_ret
 exact ⟨_, rfl, HR.out, HBe.out, HKp.out⟩


end Go.Proofs.Ytoemdmjdpikfbaa.QFnConfs
