/-
  No cell of these rows narrows 'for every input' (looked for: loops, veiled, ifaces, maps, wideKeys, modest, calm, conditions, laid).
  DERIVED. THE GIVEN ROWS OF THIS SEAT. 14 by the template 'for every input the law returns true; each argument reads behind the call as it read before'; 0 by the template 'total and deterministic' (their statements: YtdbfjakhkclggaaTotals.lean).
  GIVEN WITH THE SEED: the statements are not yours to turn. If you find one false, say at which input.
  Laid BY PROGRAM, IN A SANDBOX (cutbox-rows.mjs): the forced cells as the released guide's own fill.sh prints them over the translation 4b46f883a9c43fa5… (all of the seat's roots in one cut). By AI agents, Wed Nov 11 2026. No macro, syntax, notation, axiom, sorry.
-/
import Derived.Test.YtdbfjakhkclggaaChecked
import GoSem.Claim
import GoSem.ClaimJoined
import GoSem.ClaimMapViews
import Derived.JoinedTies
import Derived.KernelRfl
namespace Go.Proofs.Ytdbfjakhkclggaa
/- THE CELL 'sum', in the pinned program and in every row, IS THE sha256 OF THE DUMP (.gsa) THAT YtdbfjakhkclggaaProg.lean LOADS. Nothing in Lean hashes anything: it is a label: what it is worth is what the hold of that sum in a sandbox is worth. -/
noncomputable def Try.pinned : Pinned := { name := "ytdbfjakhkclggaa", sum := "4b46f883a9c43fa5e2237614437892d4a17222c90acd0f98e99acc31173c3f57", checked := Try.checked }
namespace Rows
def none {H : Type} : Left H := { results := [], args := [] }

/-- 'laws.FnExactBookOk': WHATEVER THE INPUT: true; the input reads as it did. -/
def fnExactBookOkSpec : ChangeSpec := { name := "fnExactBookOk", fn := fun _ => fun
  | [d] => { results := [.lit (.bool true)], args := [d] }
  | _ => none }
def fnExactBookOkRow : OpenClaim := { program := "ytdbfjakhkclggaa", sum := "4b46f883a9c43fa5e2237614437892d4a17222c90acd0f98e99acc31173c3f57", func := "loop.example/g00138/laws.FnExactBookOk", spec := "fnExactBookOk", inPlace := ["math/bits.Add64"], apart := false }
def FnExactBookOkSaid : Prop := fnExactBookOkRow.holds Try.pinned (OpenSpec.ofChange fnExactBookOkSpec)

/-- ITS FALSE NEIGHBOUR: 'it returns false'. Refute it at one input. -/
def fnExactBookOkWrong : ChangeSpec := { name := "fnExactBookOk", fn := fun _ => fun
  | [d] => { results := [.lit (.bool false)], args := [d] }
  | _ => none }
def FnExactBookOkWrongFalsely : Prop := fnExactBookOkRow.holds Try.pinned (OpenSpec.ofChange fnExactBookOkWrong)

/-- 'laws.FnExactTotalOf': WHATEVER THE INPUT: true; the input reads as it did. -/
def fnExactTotalOfSpec : ChangeSpec := { name := "fnExactTotalOf", fn := fun _ => fun
  | [d] => { results := [.lit (.bool true)], args := [d] }
  | _ => none }
def fnExactTotalOfRow : OpenClaim := { program := "ytdbfjakhkclggaa", sum := "4b46f883a9c43fa5e2237614437892d4a17222c90acd0f98e99acc31173c3f57", func := "loop.example/g00138/laws.FnExactTotalOf", spec := "fnExactTotalOf", inPlace := ["math/bits.Add64"], apart := false }
def FnExactTotalOfSaid : Prop := fnExactTotalOfRow.holds Try.pinned (OpenSpec.ofChange fnExactTotalOfSpec)

/-- ITS FALSE NEIGHBOUR: 'it returns false'. Refute it at one input. -/
def fnExactTotalOfWrong : ChangeSpec := { name := "fnExactTotalOf", fn := fun _ => fun
  | [d] => { results := [.lit (.bool false)], args := [d] }
  | _ => none }
def FnExactTotalOfWrongFalsely : Prop := fnExactTotalOfRow.holds Try.pinned (OpenSpec.ofChange fnExactTotalOfWrong)

/-- 'laws.FnExactMoveMoney': WHATEVER THE INPUT: true; the input reads as it did. -/
def fnExactMoveMoneySpec : ChangeSpec := { name := "fnExactMoveMoney", fn := fun _ => fun
  | [d1, d2, d3, d4] => { results := [.lit (.bool true)], args := [d1, d2, d3, d4] }
  | _ => none }
def fnExactMoveMoneyRow : OpenClaim := { program := "ytdbfjakhkclggaa", sum := "4b46f883a9c43fa5e2237614437892d4a17222c90acd0f98e99acc31173c3f57", func := "loop.example/g00138/laws.FnExactMoveMoney", spec := "fnExactMoveMoney", inPlace := ["math/bits.Add64"], apart := false }
def FnExactMoveMoneySaid : Prop := fnExactMoveMoneyRow.holds Try.pinned (OpenSpec.ofChange fnExactMoveMoneySpec)

/-- ITS FALSE NEIGHBOUR: 'it returns false'. Refute it at one input. -/
def fnExactMoveMoneyWrong : ChangeSpec := { name := "fnExactMoveMoney", fn := fun _ => fun
  | [d1, d2, d3, d4] => { results := [.lit (.bool false)], args := [d1, d2, d3, d4] }
  | _ => none }
def FnExactMoveMoneyWrongFalsely : Prop := fnExactMoveMoneyRow.holds Try.pinned (OpenSpec.ofChange fnExactMoveMoneyWrong)

/-- 'laws.FnExactCloseAccount': WHATEVER THE INPUT: true; the input reads as it did. -/
def fnExactCloseAccountSpec : ChangeSpec := { name := "fnExactCloseAccount", fn := fun _ => fun
  | [d1, d2] => { results := [.lit (.bool true)], args := [d1, d2] }
  | _ => none }
def fnExactCloseAccountRow : OpenClaim := { program := "ytdbfjakhkclggaa", sum := "4b46f883a9c43fa5e2237614437892d4a17222c90acd0f98e99acc31173c3f57", func := "loop.example/g00138/laws.FnExactCloseAccount", spec := "fnExactCloseAccount", inPlace := ["math/bits.Add64"], unfollowed := true, recurses := true, apart := false }
def FnExactCloseAccountSaid : Prop := fnExactCloseAccountRow.holds Try.pinned (OpenSpec.ofChange fnExactCloseAccountSpec)

/-- ITS FALSE NEIGHBOUR: 'it returns false'. Refute it at one input. -/
def fnExactCloseAccountWrong : ChangeSpec := { name := "fnExactCloseAccount", fn := fun _ => fun
  | [d1, d2] => { results := [.lit (.bool false)], args := [d1, d2] }
  | _ => none }
def FnExactCloseAccountWrongFalsely : Prop := fnExactCloseAccountRow.holds Try.pinned (OpenSpec.ofChange fnExactCloseAccountWrong)

/-- 'laws.FnExactReleaseHold': WHATEVER THE INPUT: true; the input reads as it did. -/
def fnExactReleaseHoldSpec : ChangeSpec := { name := "fnExactReleaseHold", fn := fun _ => fun
  | [d1, d2, d3] => { results := [.lit (.bool true)], args := [d1, d2, d3] }
  | _ => none }
def fnExactReleaseHoldRow : OpenClaim := { program := "ytdbfjakhkclggaa", sum := "4b46f883a9c43fa5e2237614437892d4a17222c90acd0f98e99acc31173c3f57", func := "loop.example/g00138/laws.FnExactReleaseHold", spec := "fnExactReleaseHold", inPlace := ["math/bits.Add64"], unfollowed := true, recurses := true, apart := false }
def FnExactReleaseHoldSaid : Prop := fnExactReleaseHoldRow.holds Try.pinned (OpenSpec.ofChange fnExactReleaseHoldSpec)

/-- ITS FALSE NEIGHBOUR: 'it returns false'. Refute it at one input. -/
def fnExactReleaseHoldWrong : ChangeSpec := { name := "fnExactReleaseHold", fn := fun _ => fun
  | [d1, d2, d3] => { results := [.lit (.bool false)], args := [d1, d2, d3] }
  | _ => none }
def FnExactReleaseHoldWrongFalsely : Prop := fnExactReleaseHoldRow.holds Try.pinned (OpenSpec.ofChange fnExactReleaseHoldWrong)

/-- 'laws.FnExactSettleHold': WHATEVER THE INPUT: true; the input reads as it did. -/
def fnExactSettleHoldSpec : ChangeSpec := { name := "fnExactSettleHold", fn := fun _ => fun
  | [d1, d2, d3] => { results := [.lit (.bool true)], args := [d1, d2, d3] }
  | _ => none }
def fnExactSettleHoldRow : OpenClaim := { program := "ytdbfjakhkclggaa", sum := "4b46f883a9c43fa5e2237614437892d4a17222c90acd0f98e99acc31173c3f57", func := "loop.example/g00138/laws.FnExactSettleHold", spec := "fnExactSettleHold", inPlace := ["math/bits.Add64"], unfollowed := true, recurses := true, apart := false }
def FnExactSettleHoldSaid : Prop := fnExactSettleHoldRow.holds Try.pinned (OpenSpec.ofChange fnExactSettleHoldSpec)

/-- ITS FALSE NEIGHBOUR: 'it returns false'. Refute it at one input. -/
def fnExactSettleHoldWrong : ChangeSpec := { name := "fnExactSettleHold", fn := fun _ => fun
  | [d1, d2, d3] => { results := [.lit (.bool false)], args := [d1, d2, d3] }
  | _ => none }
def FnExactSettleHoldWrongFalsely : Prop := fnExactSettleHoldRow.holds Try.pinned (OpenSpec.ofChange fnExactSettleHoldWrong)

/-- 'laws.FnExactDeposit': WHATEVER THE INPUT: true; the input reads as it did. -/
def fnExactDepositSpec : ChangeSpec := { name := "fnExactDeposit", fn := fun _ => fun
  | [d1, d2, d3] => { results := [.lit (.bool true)], args := [d1, d2, d3] }
  | _ => none }
def fnExactDepositRow : OpenClaim := { program := "ytdbfjakhkclggaa", sum := "4b46f883a9c43fa5e2237614437892d4a17222c90acd0f98e99acc31173c3f57", func := "loop.example/g00138/laws.FnExactDeposit", spec := "fnExactDeposit", inPlace := ["math/bits.Add64"], unfollowed := true, recurses := true, apart := false }
def FnExactDepositSaid : Prop := fnExactDepositRow.holds Try.pinned (OpenSpec.ofChange fnExactDepositSpec)

/-- ITS FALSE NEIGHBOUR: 'it returns false'. Refute it at one input. -/
def fnExactDepositWrong : ChangeSpec := { name := "fnExactDeposit", fn := fun _ => fun
  | [d1, d2, d3] => { results := [.lit (.bool false)], args := [d1, d2, d3] }
  | _ => none }
def FnExactDepositWrongFalsely : Prop := fnExactDepositRow.holds Try.pinned (OpenSpec.ofChange fnExactDepositWrong)

/-- 'laws.FnExactWithdraw': WHATEVER THE INPUT: true; the input reads as it did. -/
def fnExactWithdrawSpec : ChangeSpec := { name := "fnExactWithdraw", fn := fun _ => fun
  | [d1, d2, d3] => { results := [.lit (.bool true)], args := [d1, d2, d3] }
  | _ => none }
def fnExactWithdrawRow : OpenClaim := { program := "ytdbfjakhkclggaa", sum := "4b46f883a9c43fa5e2237614437892d4a17222c90acd0f98e99acc31173c3f57", func := "loop.example/g00138/laws.FnExactWithdraw", spec := "fnExactWithdraw", inPlace := ["math/bits.Add64"], unfollowed := true, recurses := true, apart := false }
def FnExactWithdrawSaid : Prop := fnExactWithdrawRow.holds Try.pinned (OpenSpec.ofChange fnExactWithdrawSpec)

/-- ITS FALSE NEIGHBOUR: 'it returns false'. Refute it at one input. -/
def fnExactWithdrawWrong : ChangeSpec := { name := "fnExactWithdraw", fn := fun _ => fun
  | [d1, d2, d3] => { results := [.lit (.bool false)], args := [d1, d2, d3] }
  | _ => none }
def FnExactWithdrawWrongFalsely : Prop := fnExactWithdrawRow.holds Try.pinned (OpenSpec.ofChange fnExactWithdrawWrong)

/-- 'laws.FnExactLockCredit': WHATEVER THE INPUT: true; the input reads as it did. -/
def fnExactLockCreditSpec : ChangeSpec := { name := "fnExactLockCredit", fn := fun _ => fun
  | [d1, d2, d3, d4] => { results := [.lit (.bool true)], args := [d1, d2, d3, d4] }
  | _ => none }
def fnExactLockCreditRow : OpenClaim := { program := "ytdbfjakhkclggaa", sum := "4b46f883a9c43fa5e2237614437892d4a17222c90acd0f98e99acc31173c3f57", func := "loop.example/g00138/laws.FnExactLockCredit", spec := "fnExactLockCredit", inPlace := ["math/bits.Add64"], unfollowed := true, recurses := true, apart := false }
def FnExactLockCreditSaid : Prop := fnExactLockCreditRow.holds Try.pinned (OpenSpec.ofChange fnExactLockCreditSpec)

/-- ITS FALSE NEIGHBOUR: 'it returns false'. Refute it at one input. -/
def fnExactLockCreditWrong : ChangeSpec := { name := "fnExactLockCredit", fn := fun _ => fun
  | [d1, d2, d3, d4] => { results := [.lit (.bool false)], args := [d1, d2, d3, d4] }
  | _ => none }
def FnExactLockCreditWrongFalsely : Prop := fnExactLockCreditRow.holds Try.pinned (OpenSpec.ofChange fnExactLockCreditWrong)

/-- 'laws.FnExactLockDebit': WHATEVER THE INPUT: true; the input reads as it did. -/
def fnExactLockDebitSpec : ChangeSpec := { name := "fnExactLockDebit", fn := fun _ => fun
  | [d1, d2, d3, d4] => { results := [.lit (.bool true)], args := [d1, d2, d3, d4] }
  | _ => none }
def fnExactLockDebitRow : OpenClaim := { program := "ytdbfjakhkclggaa", sum := "4b46f883a9c43fa5e2237614437892d4a17222c90acd0f98e99acc31173c3f57", func := "loop.example/g00138/laws.FnExactLockDebit", spec := "fnExactLockDebit", inPlace := ["math/bits.Add64"], unfollowed := true, recurses := true, apart := false }
def FnExactLockDebitSaid : Prop := fnExactLockDebitRow.holds Try.pinned (OpenSpec.ofChange fnExactLockDebitSpec)

/-- ITS FALSE NEIGHBOUR: 'it returns false'. Refute it at one input. -/
def fnExactLockDebitWrong : ChangeSpec := { name := "fnExactLockDebit", fn := fun _ => fun
  | [d1, d2, d3, d4] => { results := [.lit (.bool false)], args := [d1, d2, d3, d4] }
  | _ => none }
def FnExactLockDebitWrongFalsely : Prop := fnExactLockDebitRow.holds Try.pinned (OpenSpec.ofChange fnExactLockDebitWrong)

/-- 'laws.FnExactOpenAccount': WHATEVER THE INPUT: true; the input reads as it did. -/
def fnExactOpenAccountSpec : ChangeSpec := { name := "fnExactOpenAccount", fn := fun _ => fun
  | [d1, d2] => { results := [.lit (.bool true)], args := [d1, d2] }
  | _ => none }
def fnExactOpenAccountRow : OpenClaim := { program := "ytdbfjakhkclggaa", sum := "4b46f883a9c43fa5e2237614437892d4a17222c90acd0f98e99acc31173c3f57", func := "loop.example/g00138/laws.FnExactOpenAccount", spec := "fnExactOpenAccount", inPlace := ["math/bits.Add64", "slices.overlaps[loop.example/g00138/impl.Account]"], apart := false }
def FnExactOpenAccountSaid : Prop := fnExactOpenAccountRow.holds Try.pinned (OpenSpec.ofChange fnExactOpenAccountSpec)

/-- ITS FALSE NEIGHBOUR: 'it returns false'. Refute it at one input. -/
def fnExactOpenAccountWrong : ChangeSpec := { name := "fnExactOpenAccount", fn := fun _ => fun
  | [d1, d2] => { results := [.lit (.bool false)], args := [d1, d2] }
  | _ => none }
def FnExactOpenAccountWrongFalsely : Prop := fnExactOpenAccountRow.holds Try.pinned (OpenSpec.ofChange fnExactOpenAccountWrong)

/-- 'laws.FnBook': WHATEVER THE INPUT: true; the input reads as it did. -/
def fnBookSpec : ChangeSpec := { name := "fnBook", fn := fun _ => fun
  | [d] => { results := [.lit (.bool true)], args := [d] }
  | _ => none }
def fnBookRow : OpenClaim := { program := "ytdbfjakhkclggaa", sum := "4b46f883a9c43fa5e2237614437892d4a17222c90acd0f98e99acc31173c3f57", func := "loop.example/g00138/laws.FnBook", spec := "fnBook", inPlace := ["math/bits.Add64"], unfollowed := true, recurses := true, apart := false }
def FnBookSaid : Prop := fnBookRow.holds Try.pinned (OpenSpec.ofChange fnBookSpec)

/-- ITS FALSE NEIGHBOUR: 'it returns false'. Refute it at one input. -/
def fnBookWrong : ChangeSpec := { name := "fnBook", fn := fun _ => fun
  | [d] => { results := [.lit (.bool false)], args := [d] }
  | _ => none }
def FnBookWrongFalsely : Prop := fnBookRow.holds Try.pinned (OpenSpec.ofChange fnBookWrong)

/-- 'laws.FnHolds': WHATEVER THE INPUT: true; the input reads as it did. -/
def fnHoldsSpec : ChangeSpec := { name := "fnHolds", fn := fun _ => fun
  | [d] => { results := [.lit (.bool true)], args := [d] }
  | _ => none }
def fnHoldsRow : OpenClaim := { program := "ytdbfjakhkclggaa", sum := "4b46f883a9c43fa5e2237614437892d4a17222c90acd0f98e99acc31173c3f57", func := "loop.example/g00138/laws.FnHolds", spec := "fnHolds", inPlace := ["math/bits.Add64"], unfollowed := true, recurses := true, apart := false }
def FnHoldsSaid : Prop := fnHoldsRow.holds Try.pinned (OpenSpec.ofChange fnHoldsSpec)

/-- ITS FALSE NEIGHBOUR: 'it returns false'. Refute it at one input. -/
def fnHoldsWrong : ChangeSpec := { name := "fnHolds", fn := fun _ => fun
  | [d] => { results := [.lit (.bool false)], args := [d] }
  | _ => none }
def FnHoldsWrongFalsely : Prop := fnHoldsRow.holds Try.pinned (OpenSpec.ofChange fnHoldsWrong)

/-- 'laws.FnOpened': WHATEVER THE INPUT: true; the input reads as it did. -/
def fnOpenedSpec : ChangeSpec := { name := "fnOpened", fn := fun _ => fun
  | [d] => { results := [.lit (.bool true)], args := [d] }
  | _ => none }
def fnOpenedRow : OpenClaim := { program := "ytdbfjakhkclggaa", sum := "4b46f883a9c43fa5e2237614437892d4a17222c90acd0f98e99acc31173c3f57", func := "loop.example/g00138/laws.FnOpened", spec := "fnOpened", inPlace := ["math/bits.Add64", "slices.overlaps[loop.example/g00138/impl.Account]"], unfollowed := true, recurses := true, apart := false }
def FnOpenedSaid : Prop := fnOpenedRow.holds Try.pinned (OpenSpec.ofChange fnOpenedSpec)

/-- ITS FALSE NEIGHBOUR: 'it returns false'. Refute it at one input. -/
def fnOpenedWrong : ChangeSpec := { name := "fnOpened", fn := fun _ => fun
  | [d] => { results := [.lit (.bool false)], args := [d] }
  | _ => none }
def FnOpenedWrongFalsely : Prop := fnOpenedRow.holds Try.pinned (OpenSpec.ofChange fnOpenedWrong)

/- THE SECOND FORM. 'bulk': how many values and letters a reading holds, each counted each time it is reached (what is shared counts as often as it is met; a slice's spare places count too). A statement '..UptoSaid' is the law's where the arguments, and the package variables that the reading takes, are together of bulk at most 1048576: NARROWER than '..Said'. Prove '..Said' where nothing that the law and all that it calls make is longer than what came in: it says more and counts as full. Else prove '..UptoSaid'. A law counts once. -/
mutual
def uptoBulk {H : Type} : DataW H → Nat
  | .lit (.string bytes) => bytes.length + 1
  | .lit _ => 1
  | .nil => 1
  | .ptr d => uptoBulk d + 1
  | .slice elems spare => uptoBulkAll elems + uptoBulkAll spare + 1
  | .agg parts => uptoBulkAll parts + 1
  | .iface _ d => uptoBulk d + 1
  | .map entries => uptoBulkEntries entries + 1
  | .held _ => 1
def uptoBulkAll {H : Type} : List (DataW H) → Nat
  | [] => 0
  | d :: r => uptoBulk d + uptoBulkAll r
def uptoBulkEntries {H : Type} : List (Lit × DataW H) → Nat
  | [] => 0
  | x :: r => uptoBulkEntry x + uptoBulkEntries r
def uptoBulkEntry {H : Type} : Lit × DataW H → Nat
  | (.string bytes, d) => bytes.length + uptoBulk d + 1
  | (_, d) => uptoBulk d + 1
 end
def uptoSmall : (H : Type) → List (DataW H) → Bool := fun _ ds => decide (uptoBulkAll ds ≤ 1048576)
def OpenSpec.upto (s : _root_.Go.ChangeSpec) : _root_.Go.OpenSpec := { _root_.Go.OpenSpec.ofChange s with cond := some uptoSmall }

/-- 'laws.FnExactBookOk', WHERE WHAT IT READS IS OF BULK AT MOST 1048576: true; the input reads as it did. -/
def fnExactBookOkUptoRow : OpenClaim := { program := "ytdbfjakhkclggaa", sum := "4b46f883a9c43fa5e2237614437892d4a17222c90acd0f98e99acc31173c3f57", func := "loop.example/g00138/laws.FnExactBookOk", spec := "fnExactBookOk", inPlace := ["math/bits.Add64"], apart := false, narrowed := true }
def FnExactBookOkUptoSaid : Prop := fnExactBookOkUptoRow.holds Try.pinned (OpenSpec.upto fnExactBookOkSpec)

/-- 'laws.FnExactTotalOf', WHERE WHAT IT READS IS OF BULK AT MOST 1048576: true; the input reads as it did. -/
def fnExactTotalOfUptoRow : OpenClaim := { program := "ytdbfjakhkclggaa", sum := "4b46f883a9c43fa5e2237614437892d4a17222c90acd0f98e99acc31173c3f57", func := "loop.example/g00138/laws.FnExactTotalOf", spec := "fnExactTotalOf", inPlace := ["math/bits.Add64"], apart := false, narrowed := true }
def FnExactTotalOfUptoSaid : Prop := fnExactTotalOfUptoRow.holds Try.pinned (OpenSpec.upto fnExactTotalOfSpec)

/-- 'laws.FnExactMoveMoney', WHERE WHAT IT READS IS OF BULK AT MOST 1048576: true; the input reads as it did. -/
def fnExactMoveMoneyUptoRow : OpenClaim := { program := "ytdbfjakhkclggaa", sum := "4b46f883a9c43fa5e2237614437892d4a17222c90acd0f98e99acc31173c3f57", func := "loop.example/g00138/laws.FnExactMoveMoney", spec := "fnExactMoveMoney", inPlace := ["math/bits.Add64"], apart := false, narrowed := true }
def FnExactMoveMoneyUptoSaid : Prop := fnExactMoveMoneyUptoRow.holds Try.pinned (OpenSpec.upto fnExactMoveMoneySpec)

/-- 'laws.FnExactCloseAccount', WHERE WHAT IT READS IS OF BULK AT MOST 1048576: true; the input reads as it did. -/
def fnExactCloseAccountUptoRow : OpenClaim := { program := "ytdbfjakhkclggaa", sum := "4b46f883a9c43fa5e2237614437892d4a17222c90acd0f98e99acc31173c3f57", func := "loop.example/g00138/laws.FnExactCloseAccount", spec := "fnExactCloseAccount", inPlace := ["math/bits.Add64"], unfollowed := true, recurses := true, apart := false, narrowed := true }
def FnExactCloseAccountUptoSaid : Prop := fnExactCloseAccountUptoRow.holds Try.pinned (OpenSpec.upto fnExactCloseAccountSpec)

/-- 'laws.FnExactReleaseHold', WHERE WHAT IT READS IS OF BULK AT MOST 1048576: true; the input reads as it did. -/
def fnExactReleaseHoldUptoRow : OpenClaim := { program := "ytdbfjakhkclggaa", sum := "4b46f883a9c43fa5e2237614437892d4a17222c90acd0f98e99acc31173c3f57", func := "loop.example/g00138/laws.FnExactReleaseHold", spec := "fnExactReleaseHold", inPlace := ["math/bits.Add64"], unfollowed := true, recurses := true, apart := false, narrowed := true }
def FnExactReleaseHoldUptoSaid : Prop := fnExactReleaseHoldUptoRow.holds Try.pinned (OpenSpec.upto fnExactReleaseHoldSpec)

/-- 'laws.FnExactSettleHold', WHERE WHAT IT READS IS OF BULK AT MOST 1048576: true; the input reads as it did. -/
def fnExactSettleHoldUptoRow : OpenClaim := { program := "ytdbfjakhkclggaa", sum := "4b46f883a9c43fa5e2237614437892d4a17222c90acd0f98e99acc31173c3f57", func := "loop.example/g00138/laws.FnExactSettleHold", spec := "fnExactSettleHold", inPlace := ["math/bits.Add64"], unfollowed := true, recurses := true, apart := false, narrowed := true }
def FnExactSettleHoldUptoSaid : Prop := fnExactSettleHoldUptoRow.holds Try.pinned (OpenSpec.upto fnExactSettleHoldSpec)

/-- 'laws.FnExactDeposit', WHERE WHAT IT READS IS OF BULK AT MOST 1048576: true; the input reads as it did. -/
def fnExactDepositUptoRow : OpenClaim := { program := "ytdbfjakhkclggaa", sum := "4b46f883a9c43fa5e2237614437892d4a17222c90acd0f98e99acc31173c3f57", func := "loop.example/g00138/laws.FnExactDeposit", spec := "fnExactDeposit", inPlace := ["math/bits.Add64"], unfollowed := true, recurses := true, apart := false, narrowed := true }
def FnExactDepositUptoSaid : Prop := fnExactDepositUptoRow.holds Try.pinned (OpenSpec.upto fnExactDepositSpec)

/-- 'laws.FnExactWithdraw', WHERE WHAT IT READS IS OF BULK AT MOST 1048576: true; the input reads as it did. -/
def fnExactWithdrawUptoRow : OpenClaim := { program := "ytdbfjakhkclggaa", sum := "4b46f883a9c43fa5e2237614437892d4a17222c90acd0f98e99acc31173c3f57", func := "loop.example/g00138/laws.FnExactWithdraw", spec := "fnExactWithdraw", inPlace := ["math/bits.Add64"], unfollowed := true, recurses := true, apart := false, narrowed := true }
def FnExactWithdrawUptoSaid : Prop := fnExactWithdrawUptoRow.holds Try.pinned (OpenSpec.upto fnExactWithdrawSpec)

/-- 'laws.FnExactLockCredit', WHERE WHAT IT READS IS OF BULK AT MOST 1048576: true; the input reads as it did. -/
def fnExactLockCreditUptoRow : OpenClaim := { program := "ytdbfjakhkclggaa", sum := "4b46f883a9c43fa5e2237614437892d4a17222c90acd0f98e99acc31173c3f57", func := "loop.example/g00138/laws.FnExactLockCredit", spec := "fnExactLockCredit", inPlace := ["math/bits.Add64"], unfollowed := true, recurses := true, apart := false, narrowed := true }
def FnExactLockCreditUptoSaid : Prop := fnExactLockCreditUptoRow.holds Try.pinned (OpenSpec.upto fnExactLockCreditSpec)

/-- 'laws.FnExactLockDebit', WHERE WHAT IT READS IS OF BULK AT MOST 1048576: true; the input reads as it did. -/
def fnExactLockDebitUptoRow : OpenClaim := { program := "ytdbfjakhkclggaa", sum := "4b46f883a9c43fa5e2237614437892d4a17222c90acd0f98e99acc31173c3f57", func := "loop.example/g00138/laws.FnExactLockDebit", spec := "fnExactLockDebit", inPlace := ["math/bits.Add64"], unfollowed := true, recurses := true, apart := false, narrowed := true }
def FnExactLockDebitUptoSaid : Prop := fnExactLockDebitUptoRow.holds Try.pinned (OpenSpec.upto fnExactLockDebitSpec)

/-- 'laws.FnExactOpenAccount', WHERE WHAT IT READS IS OF BULK AT MOST 1048576: true; the input reads as it did. -/
def fnExactOpenAccountUptoRow : OpenClaim := { program := "ytdbfjakhkclggaa", sum := "4b46f883a9c43fa5e2237614437892d4a17222c90acd0f98e99acc31173c3f57", func := "loop.example/g00138/laws.FnExactOpenAccount", spec := "fnExactOpenAccount", inPlace := ["math/bits.Add64", "slices.overlaps[loop.example/g00138/impl.Account]"], apart := false, narrowed := true }
def FnExactOpenAccountUptoSaid : Prop := fnExactOpenAccountUptoRow.holds Try.pinned (OpenSpec.upto fnExactOpenAccountSpec)

/-- 'laws.FnBook', WHERE WHAT IT READS IS OF BULK AT MOST 1048576: true; the input reads as it did. -/
def fnBookUptoRow : OpenClaim := { program := "ytdbfjakhkclggaa", sum := "4b46f883a9c43fa5e2237614437892d4a17222c90acd0f98e99acc31173c3f57", func := "loop.example/g00138/laws.FnBook", spec := "fnBook", inPlace := ["math/bits.Add64"], unfollowed := true, recurses := true, apart := false, narrowed := true }
def FnBookUptoSaid : Prop := fnBookUptoRow.holds Try.pinned (OpenSpec.upto fnBookSpec)

/-- 'laws.FnHolds', WHERE WHAT IT READS IS OF BULK AT MOST 1048576: true; the input reads as it did. -/
def fnHoldsUptoRow : OpenClaim := { program := "ytdbfjakhkclggaa", sum := "4b46f883a9c43fa5e2237614437892d4a17222c90acd0f98e99acc31173c3f57", func := "loop.example/g00138/laws.FnHolds", spec := "fnHolds", inPlace := ["math/bits.Add64"], unfollowed := true, recurses := true, apart := false, narrowed := true }
def FnHoldsUptoSaid : Prop := fnHoldsUptoRow.holds Try.pinned (OpenSpec.upto fnHoldsSpec)

/-- 'laws.FnOpened', WHERE WHAT IT READS IS OF BULK AT MOST 1048576: true; the input reads as it did. -/
def fnOpenedUptoRow : OpenClaim := { program := "ytdbfjakhkclggaa", sum := "4b46f883a9c43fa5e2237614437892d4a17222c90acd0f98e99acc31173c3f57", func := "loop.example/g00138/laws.FnOpened", spec := "fnOpened", inPlace := ["math/bits.Add64", "slices.overlaps[loop.example/g00138/impl.Account]"], unfollowed := true, recurses := true, apart := false, narrowed := true }
def FnOpenedUptoSaid : Prop := fnOpenedUptoRow.holds Try.pinned (OpenSpec.upto fnOpenedSpec)

end Rows
end Go.Proofs.Ytdbfjakhkclggaa
