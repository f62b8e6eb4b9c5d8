/- A store into a cell leaves a cell wherever there was one. No condition. -/
import Derived.WalkKit
namespace Go.Proofs.Ytoemdmjdpikfbaa.Set
open Go
theorem isSome_setCell (w : World) (a b : Addr) (v : Value) : ((w.setCell a v).cell? b).isSome = (w.cell? b).isSome := by
  unfold World.cell? World.setCell
  simp only [Array.getElem?_modify]
  by_cases h : a.block = b.block
  · rw [if_pos h]
    generalize w.heap[b.block]? = x
    have key : ∀ c : Array Value, (c.setIfInBounds a.off v)[b.off]?.isSome = c[b.off]?.isSome := fun c => by
      rw [Array.getElem?_setIfInBounds]
      split
      · rename_i e
        split
        · rename_i hlt
          rw [Array.getElem?_eq_getElem (by omega)]
          rfl
        · rename_i hlt
          rw [Array.getElem?_eq_none (by omega)]
      · rfl
    cases x with
    | none => rfl
    | some o =>
      cases o with
      | cells c t fr =>
        simp only [Option.map_some]
        by_cases h1 : b.spot.isSome = true
        · simp [h1]
        · by_cases h2 : a.spot.isSome = true
          · simp [h2]
          · simp [h1, h2, key]
      | _ => rfl
  · rw [if_neg h]
end Go.Proofs.Ytoemdmjdpikfbaa.Set
