/- math/bits.Add64 with no carry in, at numbers that are not below nought. -/
import Derived.Test.YtdbfjakhkclggaaProg
import Derived.WalkKit
import Derived.Laws.Externs
import Derived.KernelRfl
namespace Go.Proofs.Ytdbfjakhkclggaa.Add
open Go Go.RowKit
theorem add64 (x y : Int) (hx0 : 0 ≤ x) (hy0 : 0 ≤ y) (w : World) :
    (callFunc 76 #[.int .u64 x, .int .u64 y, .int .u64 0]).run Try.prog w = .ok (.value (.tuple #[.int .u64 ((x + y) % 18446744073709551616), .int .u64 ((x + y) / 18446744073709551616)])) w := by
  rw [run_callFunc_extern Try.func76 (by kernel_rfl) (by kernel_rfl) (by kernel_rfl) (e := add64Entry) (by kernel_rfl), run_add64 x y 0 hx0 hy0 (by omega) (by omega), Int.add_zero]
  rfl
end Go.Proofs.Ytdbfjakhkclggaa.Add
