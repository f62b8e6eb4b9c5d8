-- Printed by the session's own program wip/prx.py.
import Derived.Test.YtkcadcoohmofcaaSqFnExactPropose
import Derived.Test.YtkcadcoohmofcaaProg
import Derived.Below
import Derived.Deep.Draws
import Derived.Deep.AppendLies
import Derived.Maps.AppendAt
import Derived.OwnWalk
import Derived.Laws.BytesArg
import Derived.Laws.MakeOwn
import Derived.Laws.OwnMore
import Derived.Deep.OwnRows
import Derived.Tactics
import Derived.Lib.ConvBytes
import Derived.Laws.Slices
import Derived.WalkKit
import Derived.KernelRfl
import Derived.RowKit3
import Derived.Deep.LoopGhost
import Derived.Deep.QuietTactic
import Derived.BigQuiet
import Derived.WideLaws
import Derived.Deep.DeepCutAuto
import Derived.Deep.CutBlock
import Derived.Deep.RegionHeld3
import Derived.Laws.Rows
import Derived.Lib.AppendStr
import Derived.ArgAppend
import Derived.Laws.IdiomCopy
import Derived.OrdersHeld
import Derived.Laws.BitsLemmas
import Derived.RowKit
import Derived.Shelf.Abstract
import Derived.Test.YtkcadcoohmofcaaSet
import Derived.Test.YtkcadcoohmofcaaShelf
import Derived.Test.YtkcadcoohmofcaaWWords
import Derived.Test.YtkcadcoohmofcaaWLast
import Derived.Test.YtkcadcoohmofcaaWTab
import Derived.Test.YtkcadcoohmofcaaWFour
import Derived.Test.YtkcadcoohmofcaaWQPut
import Derived.Test.YtkcadcoohmofcaaWApart
import Derived.Test.YtkcadcoohmofcaaWArr
import Derived.Test.YtkcadcoohmofcaaWZeros
import Derived.Test.YtkcadcoohmofcaaWFoot
import Derived.Test.YtkcadcoohmofcaaWKept
import Derived.Test.YtkcadcoohmofcaaWShare
import Derived.Test.YtkcadcoohmofcaaWN
import Derived.Test.YtkcadcoohmofcaaWFootNe
import Derived.Test.YtkcadcoohmofcaaWAt
import Derived.Test.YtkcadcoohmofcaaWEqStruct
import Derived.Test.YtkcadcoohmofcaaWRepsOne
import Derived.Test.YtkcadcoohmofcaaWInv
import Derived.Test.YtkcadcoohmofcaaWInvWords
import Derived.Test.YtkcadcoohmofcaaWGuard
import Derived.Test.YtkcadcoohmofcaaWNEv
import Derived.Test.YtkcadcoohmofcaaWMore
namespace Go.Proofs.Ytkcadcoohmofcaa.QFnExactPropose
open Go.RowKit Go.Proofs.YtkcadcoohmofcaaW.PrintWords Go.Proofs.YtkcadcoohmofcaaW.PrintLast Go.Proofs.YtkcadcoohmofcaaW.PrintMore Go.Proofs.Ytkcadcoohmofcaa.SqFnExactPropose
attribute [local go_sem] max2_int min2_int max_two min_two max_three min_three max_four min_four Go.Proofs.Ytkcadcoohmofcaa.Set.isSome_setCell
set_option linter.unusedVariables false
set_option linter.unusedSimpArgs false



def errW : Option Int → Value
 | none => .nilIface
 | some c => .iface 0 (.int .i64 c)
theorem errW_none : errW none = .nilIface := rfl
theorem errW_some (c : Int) : errW (some c) = .iface 0 (.int .i64 c) := rfl
theorem er {P : Prop} (h : P := by first | rfl | (simp [errW_none, errW_some] <;> rfl) | (simp [*, errW_none, errW_some] <;> rfl)) : P := h

theorem info3 : (Try.prog.info? 3).map (fun i => (i.zero, i.size, i.bytes)) = some (some (.int .i64 0), 1, 8) := by kernel_rfl
theorem info5 : (Try.prog.info? 5).map (fun i => (i.zero, i.size, i.bytes)) = some (some (.int .u8 0), 1, 1) := by kernel_rfl
theorem info85 : (Try.prog.info? 85).map (fun i => (i.zero, i.size, i.bytes)) = some (some (.agg #[(.int .i64 0), (.string ⟨#[]⟩)]), 2, 24) := by kernel_rfl
-- the values' own types
-- squeezed
theorem u0_0 {P : Prop} (h : P := by rw [← add_field _ _ 1 (by omega)]; exact hc 1 _ rfl) : P := h
/-! #### struct type 85 -/
structure S85 where
 f0 : Int
 f1 : ByteArray
def z85 : S85 := ⟨(0 : Int), (⟨#[]⟩ : ByteArray)⟩
def k85 : Kd S85 := Kd.iso (Kd.pair (Kd.int .i64) Kd.string) (fun x : S85 => (x.f0, x.f1))
theorem k85_open {w : World} {x : S85} {cs : List Value} (h : k85.K w x cs) : cs = [.int .i64 x.f0, .string x.f1] := by
 obtain ⟨_, _, rfl, rfl, rfl⟩ := h
 exact rfl
theorem k85_openM {w : World} {base : Nat} {ok : Nat → Prop} {x : S85} {cs : List Value} (h : k85.M w base ok x cs) : cs = [.int .i64 x.f0, .string x.f1] := by
 obtain ⟨_, _, rfl, rfl, rfl⟩ := h
 exact rfl
theorem k85_mk (w : World) (x : S85)  : k85.K w x [.int .i64 x.f0, .string x.f1] := ⟨[.int .i64 x.f0], [.string x.f1], rfl, rfl, rfl⟩
theorem k85_mkM (w : World) (base : Nat) (ok : Nat → Prop) (x : S85)  : k85.M w base ok x [.int .i64 x.f0, .string x.f1] := ⟨[.int .i64 x.f0], [.string x.f1], rfl, rfl, rfl⟩
def rd_T85 (xs : List S85) (i : Int) : S85 := xs.getD i.toNat z85
theorem at_T85 {w : World} {A : Option Addr} {n : Nat} {xs : List S85} (h : Kd.C k85 w A n xs) (i : Int) (h0 : 0 ≤ i) (h1 : i < n) : ∃ ad , A = some ad ∧ w.cell? (ad.add (i.toNat * 2)) = some (.int .i64 (rd_T85 xs i).f0) ∧ w.cell? ⟨(ad.add (i.toNat * 2)).block, (ad.add (i.toNat * 2)).off + 1, none⟩ = some (.string (rd_T85 xs i).f1) := by
 obtain ⟨ad, c, e, _, hK, hc0⟩ := Kd.C_get h z85 i h0 h1
 have hc : ∀ j u, c[j]? = some u → w.cell? (ad.add (i.toNat * 2 + j)) = some u := hc0
 obtain rfl := k85_open hK
 exact ⟨ad, e, hc 0 _ rfl, u0_0⟩

/-! #### struct type 112 -/
structure S112 where
 f0 : Int
 f1 : ByteArray
def z112 : S112 := ⟨(0 : Int), (⟨#[]⟩ : ByteArray)⟩
def k112 : Kd S112 := Kd.iso (Kd.pair (Kd.int .i64) Kd.string) (fun x : S112 => (x.f0, x.f1))
theorem k112_open {w : World} {x : S112} {cs : List Value} (h : k112.K w x cs) : cs = [.int .i64 x.f0, .string x.f1] := by
 obtain ⟨_, _, rfl, rfl, rfl⟩ := h
 exact rfl
theorem k112_openM {w : World} {base : Nat} {ok : Nat → Prop} {x : S112} {cs : List Value} (h : k112.M w base ok x cs) : cs = [.int .i64 x.f0, .string x.f1] := by
 obtain ⟨_, _, rfl, rfl, rfl⟩ := h
 exact rfl
theorem k112_mk (w : World) (x : S112)  : k112.K w x [.int .i64 x.f0, .string x.f1] := ⟨[.int .i64 x.f0], [.string x.f1], rfl, rfl, rfl⟩
theorem k112_mkM (w : World) (base : Nat) (ok : Nat → Prop) (x : S112)  : k112.M w base ok x [.int .i64 x.f0, .string x.f1] := ⟨[.int .i64 x.f0], [.string x.f1], rfl, rfl, rfl⟩
def rd_T112 (xs : List S112) (i : Int) : S112 := xs.getD i.toNat z112
theorem at_T112 {w : World} {A : Option Addr} {n : Nat} {xs : List S112} (h : Kd.C k112 w A n xs) (i : Int) (h0 : 0 ≤ i) (h1 : i < n) : ∃ ad , A = some ad ∧ w.cell? (ad.add (i.toNat * 2)) = some (.int .i64 (rd_T112 xs i).f0) ∧ w.cell? ⟨(ad.add (i.toNat * 2)).block, (ad.add (i.toNat * 2)).off + 1, none⟩ = some (.string (rd_T112 xs i).f1) := by
 obtain ⟨ad, c, e, _, hK, hc0⟩ := Kd.C_get h z112 i h0 h1
 have hc : ∀ j u, c[j]? = some u → w.cell? (ad.add (i.toNat * 2 + j)) = some u := hc0
 obtain rfl := k112_open hK
 exact ⟨ad, e, hc 0 _ rfl, u0_0⟩

def rd_L5 (xs : List (List S112)) (i : Int) : (List S112) := xs.getD i.toNat ([] : List S112)
theorem at_L5 {w : World} {A : Option Addr} {n : Nat} {xs : List (List S112)} (h : Kd.C (Kd.slice 112 k112) w A n xs) (i : Int) (h0 : 0 ≤ i) (h1 : i < n) : ∃ ad A0 c0, A = some ad ∧ w.cell? (ad.add i.toNat) = some (.slice A0 (rd_L5 xs i).length c0) ∧ (rd_L5 xs i).length ≤ c0 ∧ k112.C w A0 (rd_L5 xs i).length (rd_L5 xs i) := by
 obtain ⟨ad, c, e, _, hK, hc0⟩ := Kd.C_get h ([] : List S112) i h0 h1
 have hc : ∀ j u, c[j]? = some u → w.cell? (ad.add (i.toNat * 1 + j)) = some u := hc0
 obtain ⟨A0, c0, rfl, l0, g0⟩ := hK
 exact ⟨ad, A0, c0, e, (by have hq := hc 0 _ rfl; rwa [Nat.mul_one, Nat.add_zero] at hq), l0, g0⟩

/-! #### struct type 43 -/
structure S43 where
 f0 : Int
 f1 : Int
 f2 : (List S112)
def z43 : S43 := ⟨(0 : Int), (0 : Int), ([] : List S112)⟩
def k43 : Kd S43 := Kd.iso (Kd.pair (Kd.int .i64) (Kd.pair (Kd.int .i64) (Kd.slice 112 k112))) (fun x : S43 => (x.f0, x.f1, x.f2))
theorem k43_open {w : World} {x : S43} {cs : List Value} (h : k43.K w x cs) : ∃ A2 c2, cs = [.int .i64 x.f0, .int .i64 x.f1, .slice A2 x.f2.length c2] ∧ x.f2.length ≤ c2 ∧ k112.C w A2 x.f2.length x.f2 := by
 obtain ⟨_, _, rfl, rfl, ⟨_, _, rfl, rfl, ⟨A2, c2, rfl, l2, g2⟩⟩⟩ := h
 exact ⟨A2, c2, rfl, l2, g2⟩
theorem k43_openM {w : World} {base : Nat} {ok : Nat → Prop} {x : S43} {cs : List Value} (h : k43.M w base ok x cs) : ∃ v2, cs = [.int .i64 x.f0, .int .i64 x.f1, v2] ∧ k112.R 112 w base ok v2 x.f2 := by
 obtain ⟨_, _, rfl, rfl, ⟨_, _, rfl, rfl, ⟨v2, rfl, g2⟩⟩⟩ := h
 exact ⟨v2, rfl, g2⟩
theorem k43_mk (w : World) (x : S43) {A2 : Option Addr} {c2 : Nat} (l2 : x.f2.length ≤ c2) (g2 : k112.C w A2 x.f2.length x.f2) : k43.K w x [.int .i64 x.f0, .int .i64 x.f1, .slice A2 x.f2.length c2] := ⟨[.int .i64 x.f0], [.int .i64 x.f1, .slice A2 x.f2.length c2], rfl, rfl, ⟨[.int .i64 x.f1], [.slice A2 x.f2.length c2], rfl, rfl, ⟨A2, c2, rfl, l2, g2⟩⟩⟩
theorem k43_mkM (w : World) (base : Nat) (ok : Nat → Prop) (x : S43) {v2 : Value} (g2 : k112.R 112 w base ok v2 x.f2) : k43.M w base ok x [.int .i64 x.f0, .int .i64 x.f1, v2] := ⟨[.int .i64 x.f0], [.int .i64 x.f1, v2], rfl, rfl, ⟨[.int .i64 x.f1], [v2], rfl, rfl, ⟨v2, rfl, g2⟩⟩⟩
def rd_T43 (xs : List S43) (i : Int) : S43 := xs.getD i.toNat z43
theorem at_T43 {w : World} {A : Option Addr} {n : Nat} {xs : List S43} (h : Kd.C k43 w A n xs) (i : Int) (h0 : 0 ≤ i) (h1 : i < n) : ∃ ad A2 c2, A = some ad ∧ w.cell? (ad.add (i.toNat * 3)) = some (.int .i64 (rd_T43 xs i).f0) ∧ w.cell? ⟨(ad.add (i.toNat * 3)).block, (ad.add (i.toNat * 3)).off + 1, none⟩ = some (.int .i64 (rd_T43 xs i).f1) ∧ w.cell? ⟨(ad.add (i.toNat * 3)).block, (ad.add (i.toNat * 3)).off + 2, none⟩ = some (.slice A2 (rd_T43 xs i).f2.length c2) ∧ (rd_T43 xs i).f2.length ≤ c2 ∧ k112.C w A2 (rd_T43 xs i).f2.length (rd_T43 xs i).f2 := by
 obtain ⟨ad, c, e, _, hK, hc0⟩ := Kd.C_get h z43 i h0 h1
 have hc : ∀ j u, c[j]? = some u → w.cell? (ad.add (i.toNat * 3 + j)) = some u := hc0
 obtain ⟨A2, c2, rfl, l2, g2⟩ := k43_open hK
 exact ⟨ad, A2, c2, e, hc 0 _ rfl, u0_0, (by rw [← add_field _ _ 2 (by omega)]; exact hc 2 _ rfl), l2, g2⟩

def rd_L7 (xs : List (List Int)) (i : Int) : (List Int) := xs.getD i.toNat ([] : List Int)
theorem at_L7 {w : World} {A : Option Addr} {n : Nat} {xs : List (List Int)} (h : Kd.C (Kd.slice 3 (Kd.int .i64)) w A n xs) (i : Int) (h0 : 0 ≤ i) (h1 : i < n) : ∃ ad A0 c0, A = some ad ∧ w.cell? (ad.add i.toNat) = some (.slice A0 (rd_L7 xs i).length c0) ∧ (rd_L7 xs i).length ≤ c0 ∧ (Kd.int .i64).C w A0 (rd_L7 xs i).length (rd_L7 xs i) := by
 obtain ⟨ad, c, e, _, hK, hc0⟩ := Kd.C_get h ([] : List Int) i h0 h1
 have hc : ∀ j u, c[j]? = some u → w.cell? (ad.add (i.toNat * 1 + j)) = some u := hc0
 obtain ⟨A0, c0, rfl, l0, g0⟩ := hK
 exact ⟨ad, A0, c0, e, (by have hq := hc 0 _ rfl; rwa [Nat.mul_one, Nat.add_zero] at hq), l0, g0⟩

/-! #### struct type 45 -/
structure S45 where
 f0 : Int
 f1 : Int
 f2 : Int
 f3 : Int
 f4 : Int
 f5 : S43
 f6 : (List Int)
 f7 : (List Int)
def z45 : S45 := ⟨(0 : Int), (0 : Int), (0 : Int), (0 : Int), (0 : Int), z43, ([] : List Int), ([] : List Int)⟩
def k45 : Kd S45 := Kd.iso (Kd.pair (Kd.int .i64) (Kd.pair (Kd.int .i64) (Kd.pair (Kd.int .i64) (Kd.pair (Kd.int .i64) (Kd.pair (Kd.int .i64) (Kd.pair k43 (Kd.pair (Kd.slice 3 (Kd.int .i64)) (Kd.slice 3 (Kd.int .i64))))))))) (fun x : S45 => (x.f0, x.f1, x.f2, x.f3, x.f4, x.f5, x.f6, x.f7))
theorem k45_open {w : World} {x : S45} {cs : List Value} (h : k45.K w x cs) : ∃ A7 c7 A8 c8 A9 c9, cs = [.int .i64 x.f0, .int .i64 x.f1, .int .i64 x.f2, .int .i64 x.f3, .int .i64 x.f4, .int .i64 x.f5.f0, .int .i64 x.f5.f1, .slice A7 x.f5.f2.length c7, .slice A8 x.f6.length c8, .slice A9 x.f7.length c9] ∧ x.f5.f2.length ≤ c7 ∧ k112.C w A7 x.f5.f2.length x.f5.f2 ∧ x.f6.length ≤ c8 ∧ (Kd.int .i64).C w A8 x.f6.length x.f6 ∧ x.f7.length ≤ c9 ∧ (Kd.int .i64).C w A9 x.f7.length x.f7 := by
 obtain ⟨_, _, rfl, rfl, ⟨_, _, rfl, rfl, ⟨_, _, rfl, rfl, ⟨_, _, rfl, rfl, ⟨_, _, rfl, rfl, ⟨_, _, rfl, s5, ⟨_, _, rfl, ⟨A8, c8, rfl, l8, g8⟩, ⟨A9, c9, rfl, l9, g9⟩⟩⟩⟩⟩⟩⟩⟩ := h
 obtain ⟨A7, c7, rfl, l7, g7⟩ := k43_open s5
 exact ⟨A7, c7, A8, c8, A9, c9, rfl, l7, g7, l8, g8, l9, g9⟩
theorem k45_openM {w : World} {base : Nat} {ok : Nat → Prop} {x : S45} {cs : List Value} (h : k45.M w base ok x cs) : ∃ v7 v8 v9, cs = [.int .i64 x.f0, .int .i64 x.f1, .int .i64 x.f2, .int .i64 x.f3, .int .i64 x.f4, .int .i64 x.f5.f0, .int .i64 x.f5.f1, v7, v8, v9] ∧ k112.R 112 w base ok v7 x.f5.f2 ∧ (Kd.int .i64).R 3 w base ok v8 x.f6 ∧ (Kd.int .i64).R 3 w base ok v9 x.f7 := by
 obtain ⟨_, _, rfl, rfl, ⟨_, _, rfl, rfl, ⟨_, _, rfl, rfl, ⟨_, _, rfl, rfl, ⟨_, _, rfl, rfl, ⟨_, _, rfl, s5, ⟨_, _, rfl, ⟨v8, rfl, g8⟩, ⟨v9, rfl, g9⟩⟩⟩⟩⟩⟩⟩⟩ := h
 obtain ⟨v7, rfl, g7⟩ := k43_openM s5
 exact ⟨v7, v8, v9, rfl, g7, g8, g9⟩
theorem k45_mk (w : World) (x : S45) {A7 : Option Addr} {c7 : Nat} (l7 : x.f5.f2.length ≤ c7) (g7 : k112.C w A7 x.f5.f2.length x.f5.f2) {A8 : Option Addr} {c8 : Nat} (l8 : x.f6.length ≤ c8) (g8 : (Kd.int .i64).C w A8 x.f6.length x.f6) {A9 : Option Addr} {c9 : Nat} (l9 : x.f7.length ≤ c9) (g9 : (Kd.int .i64).C w A9 x.f7.length x.f7) : k45.K w x [.int .i64 x.f0, .int .i64 x.f1, .int .i64 x.f2, .int .i64 x.f3, .int .i64 x.f4, .int .i64 x.f5.f0, .int .i64 x.f5.f1, .slice A7 x.f5.f2.length c7, .slice A8 x.f6.length c8, .slice A9 x.f7.length c9] := ⟨[.int .i64 x.f0], [.int .i64 x.f1, .int .i64 x.f2, .int .i64 x.f3, .int .i64 x.f4, .int .i64 x.f5.f0, .int .i64 x.f5.f1, .slice A7 x.f5.f2.length c7, .slice A8 x.f6.length c8, .slice A9 x.f7.length c9], rfl, rfl, ⟨[.int .i64 x.f1], [.int .i64 x.f2, .int .i64 x.f3, .int .i64 x.f4, .int .i64 x.f5.f0, .int .i64 x.f5.f1, .slice A7 x.f5.f2.length c7, .slice A8 x.f6.length c8, .slice A9 x.f7.length c9], rfl, rfl, ⟨[.int .i64 x.f2], [.int .i64 x.f3, .int .i64 x.f4, .int .i64 x.f5.f0, .int .i64 x.f5.f1, .slice A7 x.f5.f2.length c7, .slice A8 x.f6.length c8, .slice A9 x.f7.length c9], rfl, rfl, ⟨[.int .i64 x.f3], [.int .i64 x.f4, .int .i64 x.f5.f0, .int .i64 x.f5.f1, .slice A7 x.f5.f2.length c7, .slice A8 x.f6.length c8, .slice A9 x.f7.length c9], rfl, rfl, ⟨[.int .i64 x.f4], [.int .i64 x.f5.f0, .int .i64 x.f5.f1, .slice A7 x.f5.f2.length c7, .slice A8 x.f6.length c8, .slice A9 x.f7.length c9], rfl, rfl, ⟨[.int .i64 x.f5.f0, .int .i64 x.f5.f1, .slice A7 x.f5.f2.length c7], [.slice A8 x.f6.length c8, .slice A9 x.f7.length c9], rfl, (k43_mk w x.f5 l7 g7), ⟨[.slice A8 x.f6.length c8], [.slice A9 x.f7.length c9], rfl, ⟨A8, c8, rfl, l8, g8⟩, ⟨A9, c9, rfl, l9, g9⟩⟩⟩⟩⟩⟩⟩⟩
theorem k45_mkM (w : World) (base : Nat) (ok : Nat → Prop) (x : S45) {v7 : Value} (g7 : k112.R 112 w base ok v7 x.f5.f2) {v8 : Value} (g8 : (Kd.int .i64).R 3 w base ok v8 x.f6) {v9 : Value} (g9 : (Kd.int .i64).R 3 w base ok v9 x.f7) : k45.M w base ok x [.int .i64 x.f0, .int .i64 x.f1, .int .i64 x.f2, .int .i64 x.f3, .int .i64 x.f4, .int .i64 x.f5.f0, .int .i64 x.f5.f1, v7, v8, v9] := ⟨[.int .i64 x.f0], [.int .i64 x.f1, .int .i64 x.f2, .int .i64 x.f3, .int .i64 x.f4, .int .i64 x.f5.f0, .int .i64 x.f5.f1, v7, v8, v9], rfl, rfl, ⟨[.int .i64 x.f1], [.int .i64 x.f2, .int .i64 x.f3, .int .i64 x.f4, .int .i64 x.f5.f0, .int .i64 x.f5.f1, v7, v8, v9], rfl, rfl, ⟨[.int .i64 x.f2], [.int .i64 x.f3, .int .i64 x.f4, .int .i64 x.f5.f0, .int .i64 x.f5.f1, v7, v8, v9], rfl, rfl, ⟨[.int .i64 x.f3], [.int .i64 x.f4, .int .i64 x.f5.f0, .int .i64 x.f5.f1, v7, v8, v9], rfl, rfl, ⟨[.int .i64 x.f4], [.int .i64 x.f5.f0, .int .i64 x.f5.f1, v7, v8, v9], rfl, rfl, ⟨[.int .i64 x.f5.f0, .int .i64 x.f5.f1, v7], [v8, v9], rfl, (k43_mkM w base ok x.f5 g7), ⟨[v8], [v9], rfl, ⟨v8, rfl, g8⟩, ⟨v9, rfl, g9⟩⟩⟩⟩⟩⟩⟩⟩
def rd_T45 (xs : List S45) (i : Int) : S45 := xs.getD i.toNat z45
theorem at_T45 {w : World} {A : Option Addr} {n : Nat} {xs : List S45} (h : Kd.C k45 w A n xs) (i : Int) (h0 : 0 ≤ i) (h1 : i < n) : ∃ ad A7 c7 A8 c8 A9 c9, A = some ad ∧ w.cell? (ad.add (i.toNat * 10)) = some (.int .i64 (rd_T45 xs i).f0) ∧ w.cell? ⟨(ad.add (i.toNat * 10)).block, (ad.add (i.toNat * 10)).off + 1, none⟩ = some (.int .i64 (rd_T45 xs i).f1) ∧ w.cell? ⟨(ad.add (i.toNat * 10)).block, (ad.add (i.toNat * 10)).off + 2, none⟩ = some (.int .i64 (rd_T45 xs i).f2) ∧ w.cell? ⟨(ad.add (i.toNat * 10)).block, (ad.add (i.toNat * 10)).off + 3, none⟩ = some (.int .i64 (rd_T45 xs i).f3) ∧ w.cell? ⟨(ad.add (i.toNat * 10)).block, (ad.add (i.toNat * 10)).off + 4, none⟩ = some (.int .i64 (rd_T45 xs i).f4) ∧ w.cell? ⟨(ad.add (i.toNat * 10)).block, (ad.add (i.toNat * 10)).off + 5, none⟩ = some (.int .i64 (rd_T45 xs i).f5.f0) ∧ w.cell? ⟨(ad.add (i.toNat * 10)).block, (ad.add (i.toNat * 10)).off + 6, none⟩ = some (.int .i64 (rd_T45 xs i).f5.f1) ∧ w.cell? ⟨(ad.add (i.toNat * 10)).block, (ad.add (i.toNat * 10)).off + 7, none⟩ = some (.slice A7 (rd_T45 xs i).f5.f2.length c7) ∧ w.cell? ⟨(ad.add (i.toNat * 10)).block, (ad.add (i.toNat * 10)).off + 8, none⟩ = some (.slice A8 (rd_T45 xs i).f6.length c8) ∧ w.cell? ⟨(ad.add (i.toNat * 10)).block, (ad.add (i.toNat * 10)).off + 9, none⟩ = some (.slice A9 (rd_T45 xs i).f7.length c9) ∧ (rd_T45 xs i).f5.f2.length ≤ c7 ∧ k112.C w A7 (rd_T45 xs i).f5.f2.length (rd_T45 xs i).f5.f2 ∧ (rd_T45 xs i).f6.length ≤ c8 ∧ (Kd.int .i64).C w A8 (rd_T45 xs i).f6.length (rd_T45 xs i).f6 ∧ (rd_T45 xs i).f7.length ≤ c9 ∧ (Kd.int .i64).C w A9 (rd_T45 xs i).f7.length (rd_T45 xs i).f7 := by
 obtain ⟨ad, c, e, _, hK, hc0⟩ := Kd.C_get h z45 i h0 h1
 have hc : ∀ j u, c[j]? = some u → w.cell? (ad.add (i.toNat * 10 + j)) = some u := hc0
 obtain ⟨A7, c7, A8, c8, A9, c9, rfl, l7, g7, l8, g8, l9, g9⟩ := k45_open hK
 exact ⟨ad, A7, c7, A8, c8, A9, c9, e, hc 0 _ rfl, u0_0, (by rw [← add_field _ _ 2 (by omega)]; exact hc 2 _ rfl), (by rw [← add_field _ _ 3 (by omega)]; exact hc 3 _ rfl), (by rw [← add_field _ _ 4 (by omega)]; exact hc 4 _ rfl), (by rw [← add_field _ _ 5 (by omega)]; exact hc 5 _ rfl), (by rw [← add_field _ _ 6 (by omega)]; exact hc 6 _ rfl), (by rw [← add_field _ _ 7 (by omega)]; exact hc 7 _ rfl), (by rw [← add_field _ _ 8 (by omega)]; exact hc 8 _ rfl), (by rw [← add_field _ _ 9 (by omega)]; exact hc 9 _ rfl), l7, g7, l8, g8, l9, g9⟩

end Go.Proofs.Ytkcadcoohmofcaa.QFnExactPropose
