/-
  No cell of these rows narrows 'for every input' (looked for: loops, veiled, ifaces, maps, wideKeys, modest, calm, conditions, laid).
  DERIVED. THE GIVEN ROWS OF THIS SEAT. 12 by the template 'for every input the law returns true; each argument reads behind the call as it read before'; 0 by the template 'total and deterministic' (their statements: YtfabcjkaoidmeaaTotals.lean).
  GIVEN WITH THE SEED: the statements are not yours to turn. If you find one false, say at which input.
  Laid BY PROGRAM, IN A SANDBOX (cutbox-rows.mjs): the forced cells as the released guide's own fill.sh prints them over the translation b008e31e3d29a3b8… (all of the seat's roots in one cut). By AI agents, Wed Nov 11 2026. No macro, syntax, notation, axiom, sorry.
-/
import Derived.Test.YtfabcjkaoidmeaaChecked
import GoSem.Claim
import GoSem.ClaimJoined
import GoSem.ClaimMapViews
import Derived.JoinedTies
import Derived.KernelRfl
namespace Go.Proofs.Ytfabcjkaoidmeaa
/- THE CELL 'sum', in the pinned program and in every row, IS THE sha256 OF THE DUMP (.gsa) THAT YtfabcjkaoidmeaaProg.lean LOADS. Nothing in Lean hashes anything: it is a label: what it is worth is what the hold of that sum in a sandbox is worth. -/
noncomputable def Try.pinned : Pinned := { name := "ytfabcjkaoidmeaa", sum := "b008e31e3d29a3b84e6fe1001fcd92cdb037f78b6a349711923a4f73e842e79d", checked := Try.checked }
namespace Rows
def none {H : Type} : Left H := { results := [], args := [] }

/-- 'laws.FnExactCovers': WHATEVER THE INPUT: true; the input reads as it did. -/
def fnExactCoversSpec : ChangeSpec := { name := "fnExactCovers", fn := fun _ => fun
  | [d1, d2] => { results := [.lit (.bool true)], args := [d1, d2] }
  | _ => none }
def fnExactCoversRow : OpenClaim := { program := "ytfabcjkaoidmeaa", sum := "b008e31e3d29a3b84e6fe1001fcd92cdb037f78b6a349711923a4f73e842e79d", func := "loop.example/g00138/laws.FnExactCovers", spec := "fnExactCovers", apart := false }
def FnExactCoversSaid : Prop := fnExactCoversRow.holds Try.pinned (OpenSpec.ofChange fnExactCoversSpec)

/-- ITS FALSE NEIGHBOUR: 'it returns false'. Refute it at one input. -/
def fnExactCoversWrong : ChangeSpec := { name := "fnExactCovers", fn := fun _ => fun
  | [d1, d2] => { results := [.lit (.bool false)], args := [d1, d2] }
  | _ => none }
def FnExactCoversWrongFalsely : Prop := fnExactCoversRow.holds Try.pinned (OpenSpec.ofChange fnExactCoversWrong)

/-- 'laws.FnExactRangesOk': WHATEVER THE INPUT: true; the input reads as it did. -/
def fnExactRangesOkSpec : ChangeSpec := { name := "fnExactRangesOk", fn := fun _ => fun
  | [d] => { results := [.lit (.bool true)], args := [d] }
  | _ => none }
def fnExactRangesOkRow : OpenClaim := { program := "ytfabcjkaoidmeaa", sum := "b008e31e3d29a3b84e6fe1001fcd92cdb037f78b6a349711923a4f73e842e79d", func := "loop.example/g00138/laws.FnExactRangesOk", spec := "fnExactRangesOk", apart := false }
def FnExactRangesOkSaid : Prop := fnExactRangesOkRow.holds Try.pinned (OpenSpec.ofChange fnExactRangesOkSpec)

/-- ITS FALSE NEIGHBOUR: 'it returns false'. Refute it at one input. -/
def fnExactRangesOkWrong : ChangeSpec := { name := "fnExactRangesOk", fn := fun _ => fun
  | [d] => { results := [.lit (.bool false)], args := [d] }
  | _ => none }
def FnExactRangesOkWrongFalsely : Prop := fnExactRangesOkRow.holds Try.pinned (OpenSpec.ofChange fnExactRangesOkWrong)

/-- 'laws.FnExactNewChart': WHATEVER THE INPUT: true; the input reads as it did. -/
def fnExactNewChartSpec : ChangeSpec := { name := "fnExactNewChart", fn := fun _ => fun
  | [d] => { results := [.lit (.bool true)], args := [d] }
  | _ => none }
def fnExactNewChartRow : OpenClaim := { program := "ytfabcjkaoidmeaa", sum := "b008e31e3d29a3b84e6fe1001fcd92cdb037f78b6a349711923a4f73e842e79d", func := "loop.example/g00138/laws.FnExactNewChart", spec := "fnExactNewChart", apart := false }
def FnExactNewChartSaid : Prop := fnExactNewChartRow.holds Try.pinned (OpenSpec.ofChange fnExactNewChartSpec)

/-- ITS FALSE NEIGHBOUR: 'it returns false'. Refute it at one input. -/
def fnExactNewChartWrong : ChangeSpec := { name := "fnExactNewChart", fn := fun _ => fun
  | [d] => { results := [.lit (.bool false)], args := [d] }
  | _ => none }
def FnExactNewChartWrongFalsely : Prop := fnExactNewChartRow.holds Try.pinned (OpenSpec.ofChange fnExactNewChartWrong)

/-- 'laws.FnExactFindRange': WHATEVER THE INPUT: true; the input reads as it did. -/
def fnExactFindRangeSpec : ChangeSpec := { name := "fnExactFindRange", fn := fun _ => fun
  | [d1, d2] => { results := [.lit (.bool true)], args := [d1, d2] }
  | _ => none }
def fnExactFindRangeRow : OpenClaim := { program := "ytfabcjkaoidmeaa", sum := "b008e31e3d29a3b84e6fe1001fcd92cdb037f78b6a349711923a4f73e842e79d", func := "loop.example/g00138/laws.FnExactFindRange", spec := "fnExactFindRange", unfollowed := true, recurses := true, apart := false }
def FnExactFindRangeSaid : Prop := fnExactFindRangeRow.holds Try.pinned (OpenSpec.ofChange fnExactFindRangeSpec)

/-- ITS FALSE NEIGHBOUR: 'it returns false'. Refute it at one input. -/
def fnExactFindRangeWrong : ChangeSpec := { name := "fnExactFindRange", fn := fun _ => fun
  | [d1, d2] => { results := [.lit (.bool false)], args := [d1, d2] }
  | _ => none }
def FnExactFindRangeWrongFalsely : Prop := fnExactFindRangeRow.holds Try.pinned (OpenSpec.ofChange fnExactFindRangeWrong)

/-- 'laws.FnExactMoveRange': WHATEVER THE INPUT: true; the input reads as it did. -/
def fnExactMoveRangeSpec : ChangeSpec := { name := "fnExactMoveRange", fn := fun _ => fun
  | [d1, d2, d3] => { results := [.lit (.bool true)], args := [d1, d2, d3] }
  | _ => none }
def fnExactMoveRangeRow : OpenClaim := { program := "ytfabcjkaoidmeaa", sum := "b008e31e3d29a3b84e6fe1001fcd92cdb037f78b6a349711923a4f73e842e79d", func := "loop.example/g00138/laws.FnExactMoveRange", spec := "fnExactMoveRange", apart := false }
def FnExactMoveRangeSaid : Prop := fnExactMoveRangeRow.holds Try.pinned (OpenSpec.ofChange fnExactMoveRangeSpec)

/-- ITS FALSE NEIGHBOUR: 'it returns false'. Refute it at one input. -/
def fnExactMoveRangeWrong : ChangeSpec := { name := "fnExactMoveRange", fn := fun _ => fun
  | [d1, d2, d3] => { results := [.lit (.bool false)], args := [d1, d2, d3] }
  | _ => none }
def FnExactMoveRangeWrongFalsely : Prop := fnExactMoveRangeRow.holds Try.pinned (OpenSpec.ofChange fnExactMoveRangeWrong)

/-- 'laws.FnRanges': WHATEVER THE INPUT: true; the input reads as it did. -/
def fnRangesSpec : ChangeSpec := { name := "fnRanges", fn := fun _ => fun
  | [d] => { results := [.lit (.bool true)], args := [d] }
  | _ => none }
def fnRangesRow : OpenClaim := { program := "ytfabcjkaoidmeaa", sum := "b008e31e3d29a3b84e6fe1001fcd92cdb037f78b6a349711923a4f73e842e79d", func := "loop.example/g00138/laws.FnRanges", spec := "fnRanges", inPlace := ["slices.overlaps[loop.example/g00138/impl.Range]"], unfollowed := true, recurses := true, apart := false }
def FnRangesSaid : Prop := fnRangesRow.holds Try.pinned (OpenSpec.ofChange fnRangesSpec)

/-- ITS FALSE NEIGHBOUR: 'it returns false'. Refute it at one input. -/
def fnRangesWrong : ChangeSpec := { name := "fnRanges", fn := fun _ => fun
  | [d] => { results := [.lit (.bool false)], args := [d] }
  | _ => none }
def FnRangesWrongFalsely : Prop := fnRangesRow.holds Try.pinned (OpenSpec.ofChange fnRangesWrong)

/-- 'laws.FnExactSameOwners': WHATEVER THE INPUT: true; the input reads as it did. -/
def fnExactSameOwnersSpec : ChangeSpec := { name := "fnExactSameOwners", fn := fun _ => fun
  | [d1, d2] => { results := [.lit (.bool true)], args := [d1, d2] }
  | _ => none }
def fnExactSameOwnersRow : OpenClaim := { program := "ytfabcjkaoidmeaa", sum := "b008e31e3d29a3b84e6fe1001fcd92cdb037f78b6a349711923a4f73e842e79d", func := "loop.example/g00138/laws.FnExactSameOwners", spec := "fnExactSameOwners", apart := false }
def FnExactSameOwnersSaid : Prop := fnExactSameOwnersRow.holds Try.pinned (OpenSpec.ofChange fnExactSameOwnersSpec)

/-- ITS FALSE NEIGHBOUR: 'it returns false'. Refute it at one input. -/
def fnExactSameOwnersWrong : ChangeSpec := { name := "fnExactSameOwners", fn := fun _ => fun
  | [d1, d2] => { results := [.lit (.bool false)], args := [d1, d2] }
  | _ => none }
def FnExactSameOwnersWrongFalsely : Prop := fnExactSameOwnersRow.holds Try.pinned (OpenSpec.ofChange fnExactSameOwnersWrong)

/-- 'laws.FnExactJoined': WHATEVER THE INPUT: true; the input reads as it did. -/
def fnExactJoinedSpec : ChangeSpec := { name := "fnExactJoined", fn := fun _ => fun
  | [d] => { results := [.lit (.bool true)], args := [d] }
  | _ => none }
def fnExactJoinedRow : OpenClaim := { program := "ytfabcjkaoidmeaa", sum := "b008e31e3d29a3b84e6fe1001fcd92cdb037f78b6a349711923a4f73e842e79d", func := "loop.example/g00138/laws.FnExactJoined", spec := "fnExactJoined", apart := false }
def FnExactJoinedSaid : Prop := fnExactJoinedRow.holds Try.pinned (OpenSpec.ofChange fnExactJoinedSpec)

/-- ITS FALSE NEIGHBOUR: 'it returns false'. Refute it at one input. -/
def fnExactJoinedWrong : ChangeSpec := { name := "fnExactJoined", fn := fun _ => fun
  | [d] => { results := [.lit (.bool false)], args := [d] }
  | _ => none }
def FnExactJoinedWrongFalsely : Prop := fnExactJoinedRow.holds Try.pinned (OpenSpec.ofChange fnExactJoinedWrong)

/-- 'laws.FnExactMergeRange': WHATEVER THE INPUT: true; the input reads as it did. -/
def fnExactMergeRangeSpec : ChangeSpec := { name := "fnExactMergeRange", fn := fun _ => fun
  | [d1, d2] => { results := [.lit (.bool true)], args := [d1, d2] }
  | _ => none }
def fnExactMergeRangeRow : OpenClaim := { program := "ytfabcjkaoidmeaa", sum := "b008e31e3d29a3b84e6fe1001fcd92cdb037f78b6a349711923a4f73e842e79d", func := "loop.example/g00138/laws.FnExactMergeRange", spec := "fnExactMergeRange", apart := false }
def FnExactMergeRangeSaid : Prop := fnExactMergeRangeRow.holds Try.pinned (OpenSpec.ofChange fnExactMergeRangeSpec)

/-- ITS FALSE NEIGHBOUR: 'it returns false'. Refute it at one input. -/
def fnExactMergeRangeWrong : ChangeSpec := { name := "fnExactMergeRange", fn := fun _ => fun
  | [d1, d2] => { results := [.lit (.bool false)], args := [d1, d2] }
  | _ => none }
def FnExactMergeRangeWrongFalsely : Prop := fnExactMergeRangeRow.holds Try.pinned (OpenSpec.ofChange fnExactMergeRangeWrong)

/-- 'laws.FnExactChartOk': WHATEVER THE INPUT: true; the input reads as it did. -/
def fnExactChartOkSpec : ChangeSpec := { name := "fnExactChartOk", fn := fun _ => fun
  | [d] => { results := [.lit (.bool true)], args := [d] }
  | _ => none }
def fnExactChartOkRow : OpenClaim := { program := "ytfabcjkaoidmeaa", sum := "b008e31e3d29a3b84e6fe1001fcd92cdb037f78b6a349711923a4f73e842e79d", func := "loop.example/g00138/laws.FnExactChartOk", spec := "fnExactChartOk", unfollowed := true, recurses := true, apart := false }
def FnExactChartOkSaid : Prop := fnExactChartOkRow.holds Try.pinned (OpenSpec.ofChange fnExactChartOkSpec)

/-- ITS FALSE NEIGHBOUR: 'it returns false'. Refute it at one input. -/
def fnExactChartOkWrong : ChangeSpec := { name := "fnExactChartOk", fn := fun _ => fun
  | [d] => { results := [.lit (.bool false)], args := [d] }
  | _ => none }
def FnExactChartOkWrongFalsely : Prop := fnExactChartOkRow.holds Try.pinned (OpenSpec.ofChange fnExactChartOkWrong)

/-- 'laws.FnExactSplitRange': WHATEVER THE INPUT: true; the input reads as it did. -/
def fnExactSplitRangeSpec : ChangeSpec := { name := "fnExactSplitRange", fn := fun _ => fun
  | [d1, d2, d3] => { results := [.lit (.bool true)], args := [d1, d2, d3] }
  | _ => none }
def fnExactSplitRangeRow : OpenClaim := { program := "ytfabcjkaoidmeaa", sum := "b008e31e3d29a3b84e6fe1001fcd92cdb037f78b6a349711923a4f73e842e79d", func := "loop.example/g00138/laws.FnExactSplitRange", spec := "fnExactSplitRange", inPlace := ["slices.overlaps[loop.example/g00138/impl.Range]"], unfollowed := true, recurses := true, apart := false }
def FnExactSplitRangeSaid : Prop := fnExactSplitRangeRow.holds Try.pinned (OpenSpec.ofChange fnExactSplitRangeSpec)

/-- ITS FALSE NEIGHBOUR: 'it returns false'. Refute it at one input. -/
def fnExactSplitRangeWrong : ChangeSpec := { name := "fnExactSplitRange", fn := fun _ => fun
  | [d1, d2, d3] => { results := [.lit (.bool false)], args := [d1, d2, d3] }
  | _ => none }
def FnExactSplitRangeWrongFalsely : Prop := fnExactSplitRangeRow.holds Try.pinned (OpenSpec.ofChange fnExactSplitRangeWrong)

/-- 'laws.FnExactOwners': WHATEVER THE INPUT: true; the input reads as it did. -/
def fnExactOwnersSpec : ChangeSpec := { name := "fnExactOwners", fn := fun _ => fun
  | [d] => { results := [.lit (.bool true)], args := [d] }
  | _ => none }
def fnExactOwnersRow : OpenClaim := { program := "ytfabcjkaoidmeaa", sum := "b008e31e3d29a3b84e6fe1001fcd92cdb037f78b6a349711923a4f73e842e79d", func := "loop.example/g00138/laws.FnExactOwners", spec := "fnExactOwners", recurses := true, apart := false }
def FnExactOwnersSaid : Prop := fnExactOwnersRow.holds Try.pinned (OpenSpec.ofChange fnExactOwnersSpec)

/-- ITS FALSE NEIGHBOUR: 'it returns false'. Refute it at one input. -/
def fnExactOwnersWrong : ChangeSpec := { name := "fnExactOwners", fn := fun _ => fun
  | [d] => { results := [.lit (.bool false)], args := [d] }
  | _ => none }
def FnExactOwnersWrongFalsely : Prop := fnExactOwnersRow.holds Try.pinned (OpenSpec.ofChange fnExactOwnersWrong)

/- THE SECOND FORM. 'bulk': how many values and letters a reading holds, each counted each time it is reached (what is shared counts as often as it is met; a slice's spare places count too). A statement '..UptoSaid' is the law's where the arguments, and the package variables that the reading takes, are together of bulk at most 1048576: NARROWER than '..Said'. Prove '..Said' where nothing that the law and all that it calls make is longer than what came in: it says more and counts as full. Else prove '..UptoSaid'. A law counts once. -/
mutual
def uptoBulk {H : Type} : DataW H → Nat
  | .lit (.string bytes) => bytes.length + 1
  | .lit _ => 1
  | .nil => 1
  | .ptr d => uptoBulk d + 1
  | .slice elems spare => uptoBulkAll elems + uptoBulkAll spare + 1
  | .agg parts => uptoBulkAll parts + 1
  | .iface _ d => uptoBulk d + 1
  | .map entries => uptoBulkEntries entries + 1
  | .held _ => 1
def uptoBulkAll {H : Type} : List (DataW H) → Nat
  | [] => 0
  | d :: r => uptoBulk d + uptoBulkAll r
def uptoBulkEntries {H : Type} : List (Lit × DataW H) → Nat
  | [] => 0
  | x :: r => uptoBulkEntry x + uptoBulkEntries r
def uptoBulkEntry {H : Type} : Lit × DataW H → Nat
  | (.string bytes, d) => bytes.length + uptoBulk d + 1
  | (_, d) => uptoBulk d + 1
 end
def uptoSmall : (H : Type) → List (DataW H) → Bool := fun _ ds => decide (uptoBulkAll ds ≤ 1048576)
def OpenSpec.upto (s : _root_.Go.ChangeSpec) : _root_.Go.OpenSpec := { _root_.Go.OpenSpec.ofChange s with cond := some uptoSmall }

/-- 'laws.FnExactCovers', WHERE WHAT IT READS IS OF BULK AT MOST 1048576: true; the input reads as it did. -/
def fnExactCoversUptoRow : OpenClaim := { program := "ytfabcjkaoidmeaa", sum := "b008e31e3d29a3b84e6fe1001fcd92cdb037f78b6a349711923a4f73e842e79d", func := "loop.example/g00138/laws.FnExactCovers", spec := "fnExactCovers", apart := false, narrowed := true }
def FnExactCoversUptoSaid : Prop := fnExactCoversUptoRow.holds Try.pinned (OpenSpec.upto fnExactCoversSpec)

/-- 'laws.FnExactRangesOk', WHERE WHAT IT READS IS OF BULK AT MOST 1048576: true; the input reads as it did. -/
def fnExactRangesOkUptoRow : OpenClaim := { program := "ytfabcjkaoidmeaa", sum := "b008e31e3d29a3b84e6fe1001fcd92cdb037f78b6a349711923a4f73e842e79d", func := "loop.example/g00138/laws.FnExactRangesOk", spec := "fnExactRangesOk", apart := false, narrowed := true }
def FnExactRangesOkUptoSaid : Prop := fnExactRangesOkUptoRow.holds Try.pinned (OpenSpec.upto fnExactRangesOkSpec)

/-- 'laws.FnExactNewChart', WHERE WHAT IT READS IS OF BULK AT MOST 1048576: true; the input reads as it did. -/
def fnExactNewChartUptoRow : OpenClaim := { program := "ytfabcjkaoidmeaa", sum := "b008e31e3d29a3b84e6fe1001fcd92cdb037f78b6a349711923a4f73e842e79d", func := "loop.example/g00138/laws.FnExactNewChart", spec := "fnExactNewChart", apart := false, narrowed := true }
def FnExactNewChartUptoSaid : Prop := fnExactNewChartUptoRow.holds Try.pinned (OpenSpec.upto fnExactNewChartSpec)

/-- 'laws.FnExactFindRange', WHERE WHAT IT READS IS OF BULK AT MOST 1048576: true; the input reads as it did. -/
def fnExactFindRangeUptoRow : OpenClaim := { program := "ytfabcjkaoidmeaa", sum := "b008e31e3d29a3b84e6fe1001fcd92cdb037f78b6a349711923a4f73e842e79d", func := "loop.example/g00138/laws.FnExactFindRange", spec := "fnExactFindRange", unfollowed := true, recurses := true, apart := false, narrowed := true }
def FnExactFindRangeUptoSaid : Prop := fnExactFindRangeUptoRow.holds Try.pinned (OpenSpec.upto fnExactFindRangeSpec)

/-- 'laws.FnExactMoveRange', WHERE WHAT IT READS IS OF BULK AT MOST 1048576: true; the input reads as it did. -/
def fnExactMoveRangeUptoRow : OpenClaim := { program := "ytfabcjkaoidmeaa", sum := "b008e31e3d29a3b84e6fe1001fcd92cdb037f78b6a349711923a4f73e842e79d", func := "loop.example/g00138/laws.FnExactMoveRange", spec := "fnExactMoveRange", apart := false, narrowed := true }
def FnExactMoveRangeUptoSaid : Prop := fnExactMoveRangeUptoRow.holds Try.pinned (OpenSpec.upto fnExactMoveRangeSpec)

/-- 'laws.FnRanges', WHERE WHAT IT READS IS OF BULK AT MOST 1048576: true; the input reads as it did. -/
def fnRangesUptoRow : OpenClaim := { program := "ytfabcjkaoidmeaa", sum := "b008e31e3d29a3b84e6fe1001fcd92cdb037f78b6a349711923a4f73e842e79d", func := "loop.example/g00138/laws.FnRanges", spec := "fnRanges", inPlace := ["slices.overlaps[loop.example/g00138/impl.Range]"], unfollowed := true, recurses := true, apart := false, narrowed := true }
def FnRangesUptoSaid : Prop := fnRangesUptoRow.holds Try.pinned (OpenSpec.upto fnRangesSpec)

/-- 'laws.FnExactSameOwners', WHERE WHAT IT READS IS OF BULK AT MOST 1048576: true; the input reads as it did. -/
def fnExactSameOwnersUptoRow : OpenClaim := { program := "ytfabcjkaoidmeaa", sum := "b008e31e3d29a3b84e6fe1001fcd92cdb037f78b6a349711923a4f73e842e79d", func := "loop.example/g00138/laws.FnExactSameOwners", spec := "fnExactSameOwners", apart := false, narrowed := true }
def FnExactSameOwnersUptoSaid : Prop := fnExactSameOwnersUptoRow.holds Try.pinned (OpenSpec.upto fnExactSameOwnersSpec)

/-- 'laws.FnExactJoined', WHERE WHAT IT READS IS OF BULK AT MOST 1048576: true; the input reads as it did. -/
def fnExactJoinedUptoRow : OpenClaim := { program := "ytfabcjkaoidmeaa", sum := "b008e31e3d29a3b84e6fe1001fcd92cdb037f78b6a349711923a4f73e842e79d", func := "loop.example/g00138/laws.FnExactJoined", spec := "fnExactJoined", apart := false, narrowed := true }
def FnExactJoinedUptoSaid : Prop := fnExactJoinedUptoRow.holds Try.pinned (OpenSpec.upto fnExactJoinedSpec)

/-- 'laws.FnExactMergeRange', WHERE WHAT IT READS IS OF BULK AT MOST 1048576: true; the input reads as it did. -/
def fnExactMergeRangeUptoRow : OpenClaim := { program := "ytfabcjkaoidmeaa", sum := "b008e31e3d29a3b84e6fe1001fcd92cdb037f78b6a349711923a4f73e842e79d", func := "loop.example/g00138/laws.FnExactMergeRange", spec := "fnExactMergeRange", apart := false, narrowed := true }
def FnExactMergeRangeUptoSaid : Prop := fnExactMergeRangeUptoRow.holds Try.pinned (OpenSpec.upto fnExactMergeRangeSpec)

/-- 'laws.FnExactChartOk', WHERE WHAT IT READS IS OF BULK AT MOST 1048576: true; the input reads as it did. -/
def fnExactChartOkUptoRow : OpenClaim := { program := "ytfabcjkaoidmeaa", sum := "b008e31e3d29a3b84e6fe1001fcd92cdb037f78b6a349711923a4f73e842e79d", func := "loop.example/g00138/laws.FnExactChartOk", spec := "fnExactChartOk", unfollowed := true, recurses := true, apart := false, narrowed := true }
def FnExactChartOkUptoSaid : Prop := fnExactChartOkUptoRow.holds Try.pinned (OpenSpec.upto fnExactChartOkSpec)

/-- 'laws.FnExactSplitRange', WHERE WHAT IT READS IS OF BULK AT MOST 1048576: true; the input reads as it did. -/
def fnExactSplitRangeUptoRow : OpenClaim := { program := "ytfabcjkaoidmeaa", sum := "b008e31e3d29a3b84e6fe1001fcd92cdb037f78b6a349711923a4f73e842e79d", func := "loop.example/g00138/laws.FnExactSplitRange", spec := "fnExactSplitRange", inPlace := ["slices.overlaps[loop.example/g00138/impl.Range]"], unfollowed := true, recurses := true, apart := false, narrowed := true }
def FnExactSplitRangeUptoSaid : Prop := fnExactSplitRangeUptoRow.holds Try.pinned (OpenSpec.upto fnExactSplitRangeSpec)

/-- 'laws.FnExactOwners', WHERE WHAT IT READS IS OF BULK AT MOST 1048576: true; the input reads as it did. -/
def fnExactOwnersUptoRow : OpenClaim := { program := "ytfabcjkaoidmeaa", sum := "b008e31e3d29a3b84e6fe1001fcd92cdb037f78b6a349711923a4f73e842e79d", func := "loop.example/g00138/laws.FnExactOwners", spec := "fnExactOwners", recurses := true, apart := false, narrowed := true }
def FnExactOwnersUptoSaid : Prop := fnExactOwnersUptoRow.holds Try.pinned (OpenSpec.upto fnExactOwnersSpec)

end Rows
end Go.Proofs.Ytfabcjkaoidmeaa
