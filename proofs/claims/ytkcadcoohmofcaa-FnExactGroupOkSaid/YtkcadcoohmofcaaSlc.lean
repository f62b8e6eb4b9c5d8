/- Small words for rows that are looked through. No condition. -/
import Derived.Test.YtkcadcoohmofcaaWMore
namespace Go.Proofs.Ytkcadcoohmofcaa.Slc
open Go Go.RowKit Go.Lib Go.Proofs.YtkcadcoohmofcaaW.PrintWords

theorem setCell_drewN (w : World) (n : Nat) (p : Addr) (v : Value) : (w.drewN n).setCell p v = World.drewN (w.setCell p v) n := rfl
theorem cell_of {W W' : World} {n : Nat} {p : Addr} {v : Option Value} (e : W = World.drewN W' n) (h : W'.cell? p = v) : W.cell? p = v := by rw [e]; exact h

/-- The place of the first element that p holds of, -1 for none. -/
def idxB {α : Type} (p : α → Bool) (xs : List α) : Int := match xs.findIdx? p with | some i => (i : Int) | none => -1
theorem idxB_hit {α : Type} (p : α → Bool) (xs : List α) (z : α) (i : Nat) (hi : i < xs.length) (h : p (xs.getD i z) = true) (hb : ∀ j, j < i → p (xs.getD j z) = false) : idxB p xs = (i : Int) := by
  have e : xs.findIdx? p = some i := by
    rw [List.findIdx?_eq_some_iff_getElem]
    refine ⟨hi, ?_, fun j hj => ?_⟩
    · rw [List.getD_eq_getElem?_getD, List.getElem?_eq_getElem hi] at h
      exact h
    · have := hb j hj
      rw [List.getD_eq_getElem?_getD, List.getElem?_eq_getElem (by omega)] at this
      simpa using this
  unfold idxB
  rw [e]
theorem idxB_miss {α : Type} (p : α → Bool) (xs : List α) (z : α) (hb : ∀ j, j < xs.length → p (xs.getD j z) = false) : idxB p xs = -1 := by
  have e : xs.findIdx? p = none := by
    rw [List.findIdx?_eq_none_iff]
    intro x hx
    obtain ⟨j, hj, rfl⟩ := List.mem_iff_getElem.1 hx
    have := hb j hj
    rw [List.getD_eq_getElem?_getD, List.getElem?_eq_getElem hj] at this
    exact this
  unfold idxB
  rw [e]
theorem idxB_any {α : Type} (p : α → Bool) (xs : List α) : decide (0 ≤ idxB p xs) = xs.any p := by
  unfold idxB
  cases h : xs.findIdx? p with
  | none =>
    rw [List.findIdx?_eq_none_iff] at h
    have : xs.any p = false := by
      rw [List.any_eq_false]
      intro x hx
      rw [h x hx]
      decide
    rw [this]
    decide
  | some i =>
    obtain ⟨hi, h1, _⟩ := List.findIdx?_eq_some_iff_getElem.1 h
    have : xs.any p = true := List.any_eq_true.2 ⟨_, List.getElem_mem hi, h1⟩
    rw [this]
    exact decide_eq_true (by show (0 : Int) ≤ (i : Int); omega)
end Go.Proofs.Ytkcadcoohmofcaa.Slc
