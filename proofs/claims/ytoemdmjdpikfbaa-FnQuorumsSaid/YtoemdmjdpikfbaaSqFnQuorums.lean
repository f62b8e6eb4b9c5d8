/- Short names for what the printed texts say often. No condition. -/
import Derived.Test.YtoemdmjdpikfbaaWWords
import Derived.Test.YtoemdmjdpikfbaaSet
import Derived.KernelRfl
import Derived.Below
import Derived.Deep.Draws
import Derived.OwnWalk
import Derived.Laws.OwnMore
import Derived.Tactics
import Derived.WalkKit
import Derived.RowKit3
import Derived.Deep.QuietTactic
import Derived.BigQuiet
import Derived.Deep.DeepCutAuto
import Derived.Test.YtoemdmjdpikfbaaWLast
import Derived.Test.YtoemdmjdpikfbaaWTab
import Derived.Test.YtoemdmjdpikfbaaWKept
namespace Go.Proofs.Ytoemdmjdpikfbaa.SqFnQuorums
set_option linter.unusedVariables false
open Go.RowKit Go.Proofs.YtoemdmjdpikfbaaW.PrintWords Go.Proofs.YtoemdmjdpikfbaaW.PrintLast
theorem la {α : Type} (l : List α) (i : Nat) (a : α) : l.toArray.setIfInBounds i a = (l.set i a).toArray := List.setIfInBounds_toArray l i a
theorem lb {α : Type} (x : α) (xs : List α) (a : α) : (x :: xs).set 0 a = a :: xs := List.set_cons_zero
theorem lc {α : Type} (x : α) (xs : List α) (n : Nat) (a : α) : (x :: xs).set (n + 1) a = x :: xs.set n a := List.set_cons_succ
theorem kr {P : Prop} (h : P := by kernel_rfl) : P := h
theorem am {P : Prop} (h : P) : Aside0 P := Aside0.mk h
theorem bc1f (w : World) {g : Nat} {t : TypeId} {v0 : Value} (h : w.heap[g]? = some (.cells #[v0] t (0, 0))) : w.cell? ⟨g, 0, none⟩ = some v0 ∧ w.frozen? ⟨g, 0, none⟩ = false := ⟨(blk_cell h 0).trans rfl, blk_frozen h 0⟩
theorem bc3 (w : World) {g : Nat} {t : TypeId} {v0 v1 v2 : Value} (h : w.heap[g]? = some (.cells #[v0, v1, v2] t (0, 0))) : w.cell? ⟨g, 0, none⟩ = some v0 ∧ w.cell? ⟨g, 1, none⟩ = some v1 ∧ w.cell? ⟨g, 2, none⟩ = some v2 := ⟨(blk_cell h 0).trans rfl, (blk_cell h 1).trans rfl, (blk_cell h 2).trans rfl⟩
theorem bc3f (w : World) {g : Nat} {t : TypeId} {v0 v1 v2 : Value} (h : w.heap[g]? = some (.cells #[v0, v1, v2] t (0, 0))) : w.cell? ⟨g, 0, none⟩ = some v0 ∧ w.cell? ⟨g, 1, none⟩ = some v1 ∧ w.cell? ⟨g, 2, none⟩ = some v2 ∧ w.frozen? ⟨g, 0, none⟩ = false ∧ w.frozen? ⟨g, 1, none⟩ = false ∧ w.frozen? ⟨g, 2, none⟩ = false := ⟨(blk_cell h 0).trans rfl, (blk_cell h 1).trans rfl, (blk_cell h 2).trans rfl, blk_frozen h 0, blk_frozen h 1, blk_frozen h 2⟩
theorem cm {w w' : World} (hb : Below w.heap.size w w') {p : Addr} {v : Value} (h : w.cell? p = some v) : w'.cell? p = some v := (hb.cell (World.block_lt_of_cell? w _ h)).trans h
theorem nf {α : Sort _} [Decidable (false = true)] {a b : α} : (if false = true then a else b) = b := if_neg Bool.false_ne_true
theorem sj {α : Type _} {a b : α} (h : some a = some b) : a = b := Option.some.inj h
def bt (p n : Nat) : Array Bool := (List.replicate p true ++ List.replicate (n - p) false).toArray
theorem pU {P : Program} {md : Region.Mode} {ops : Array Oper} {Q : Exit → Act → World → Prop} {S : World → Prop} {ds : List Nat} {oi : Oper} {fuel : Nat} {l : Array Bool} {a : Act} {w : World} (i n : Nat) (l' : Array Bool) {a' : Act}
 (h : wpAnyLast P md ops Q S ds fuel l' a' w) (hi : ops[i]? = some oi := by rfl) (hN : oi.dst = some n := by rfl) (hc : anyB md ops l l' i = true := by exact any_of HT_.out kr) (hQ : ∀ c a w, Q (.panic c) (a.put oi.dst undef) w → Q (.panic c) a w := by exact fun _ _ _ h => h) (hy : Yields P ops oi undef a := by exact Or.inr ⟨by rfl, rfl⟩) (ha : a.put (some n) undef = a' := by simp only [Act.put, la, lb, lc, i64_w, i32_w]; rfl) :
 wpAnyLast P md ops Q S ds (fuel + 1) l a w := pure_ (i := i) l' hi hN hc hQ hy ha h
theorem pV {P : Program} {md : Region.Mode} {ops : Array Oper} {Q : Exit → Act → World → Prop} {S : World → Prop} {ds : List Nat} {oi : Oper} {v : Value} {fuel : Nat} {l : Array Bool} {a : Act} {w : World} (i n : Nat) (l' : Array Bool) {a' : Act}
 (h : wpAnyLast P md ops Q S ds fuel l' a' w) (hi : ops[i]? = some oi := by rfl) (hN : oi.dst = some n := by rfl) (hc : anyB md ops l l' i = true := by exact any_of HT_.out kr) (hQ : ∀ c a w, Q (.panic c) (a.put oi.dst v) w → Q (.panic c) a w := by exact fun _ _ _ h => h) (hy : Yields P ops oi v a := by exact Or.inl ⟨by rfl, by intro w'; go_simp; with_reducible rfl⟩) (ha : a.put (some n) v = a' := by simp only [Act.put, la, lb, lc, i64_w, i32_w]; rfl) :
 wpAnyLast P md ops Q S ds (fuel + 1) l a w := pure_ (i := i) l' hi hN hc hQ hy ha h
theorem tV {P : Program} {md : Region.Mode} {ops : Array Oper} {Q : Exit → Act → World → Prop} {S : World → Prop} {ds : List Nat} {oi : Oper} {v : Value} {fuel : Nat} {l : Array Bool} {a : Act} {w : World} (i n : Nat) (l' : Array Bool) {a' : Act}
 (h : wpAnyLast P md ops Q S ds fuel l' a' w) (hi : ops[i]? = some oi := by rfl) (hN : oi.dst = some n := by rfl) (hc : takeB md ops ds l l' i = true := by exact take_ofW HT_.out HW_.out kr) (hQ : ∀ c a w, Q (.panic c) (a.put oi.dst v) w → Q (.panic c) a w := by exact fun _ _ _ h => h) (hy : YieldsIf P ops S oi v a := by exact Or.inl ⟨by rfl, by intro w' hs; (repeat (first | (obtain ⟨s_, hs⟩ := hs) | fail)); go_simp; with_reducible rfl⟩) (hS : S w := by exact hHeld) (ha : a.put (some n) v = a' := by simp only [Act.put, la, lb, lc, i64_w, i32_w]; rfl) :
 wpAnyLast P md ops Q S ds (fuel + 1) l a w := take_ (i := i) l' hi hN hc hQ hy hS ha h
theorem Q1 {P : Prop} (h : P := by first | rfl | (simp; done) | (simp [*]; done)) : P := h
theorem Q2 {P : Prop} (h : P := by first | (with_reducible assumption) | assumption) : P := h
theorem Q4 {P : Prop} (h : P := by repeat (first | exact Drawn0.refl _ | apply Drawn0.step)) : P := h
theorem Q5 {P : Prop} (h : P := by (with_reducible repeat (first | apply Kd.R_alloc | apply Kd.R_drewN | apply Kd.R_drew)); exact HO_3.out) : P := h
theorem Q3 {P : Prop} (h : P := by (try simp only [List.map_toArray, List.map_cons, List.map_nil]); first | done | rfl | (simp only [List.length_drop, List.length_take]; rfl)) : P := h
theorem Q9 {P : Prop} (h : P := by repeat (first | exact (Kd.C_below HR1.out HB.out) | (with_reducible refine Kd.C_alloc ?_ _) | (with_reducible refine Kd.C_drewN ?_ _) | (with_reducible refine Kd.C_drew ?_))) : P := h
theorem Q6 {P : Prop} (h : P := by repeat (first | exact (Kd.C_below HR0_0.out HB.out) | (with_reducible refine Kd.C_alloc ?_ _) | (with_reducible refine Kd.C_drewN ?_ _) | (with_reducible refine Kd.C_drew ?_))) : P := h
theorem Q7 {P : Prop} (h : P := by repeat (first | exact (Kd.C_below HR0_2.out HB.out) | (with_reducible refine Kd.C_alloc ?_ _) | (with_reducible refine Kd.C_drewN ?_ _) | (with_reducible refine Kd.C_drew ?_))) : P := h
theorem Q8 {P : Prop} (h : P := by repeat (first | exact (Kd.C_below HR0_1.out HB.out) | (with_reducible refine Kd.C_alloc ?_ _) | (with_reducible refine Kd.C_drewN ?_ _) | (with_reducible refine Kd.C_drew ?_))) : P := h
theorem Q0 {P : Prop} (h : P := by repeat (first | (with_reducible first | exact HB.out | apply below_alloc | apply pw_below_drewN | apply below_drew1 | refine below_set ?_ (Aside0.out (by with_reducible assumption))) | exact HB.out)) : P := h
def b0_12 : Array Bool := #[false, false, false, false, false, false, false, false, false, false, false, false]
def b11_12 : Array Bool := #[true, true, true, true, true, true, true, true, true, true, true, false]
def b11_14 : Array Bool := #[true, true, true, true, true, true, true, true, true, true, true, false, false, false]
def b7_12 : Array Bool := #[true, true, true, true, true, true, true, false, false, false, false, false]
def b8_12 : Array Bool := #[true, true, true, true, true, true, true, true, false, false, false, false]
def b9_12 : Array Bool := #[true, true, true, true, true, true, true, true, true, false, false, false]
def bx14 : Array Bool := #[true, true, true, true, true, true, true, false, true, true, true, false, false, false]
def bx15 : Array Bool := #[true, true, true, true, true, true, true, false, false, true, true, false, false, false]
def bx16 : Array Bool := #[true, true, true, true, false, true, true, false, true, true, true, false, false, false]
def bx17 : Array Bool := #[true, true, true, false, true, true, true, false, true, true, true, false, false, false]
def bx18 : Array Bool := #[true, true, true, false, true, true, true, false, false, true, true, false, false, false]
def bx19 : Array Bool := #[true, true, true, false, false, true, true, false, true, true, true, false, false, false]
def bx20 : Array Bool := #[false, true, true, false, true, true, true, false, true, true, true, false, false, false]
def bx6 : Array Bool := #[false, true, false, false, false, false, false, false, false, false, false, false]
def bx7 : Array Bool := #[false, true, true, false, false, false, false, false, false, false, false, false]
def bx8 : Array Bool := #[false, true, true, true, false, false, false, false, false, false, false, false]
def bx9 : Array Bool := #[false, true, true, true, true, false, false, false, false, false, false, false]
end Go.Proofs.Ytoemdmjdpikfbaa.SqFnQuorums
