/-
  No cell of these rows narrows 'for every input' (looked for: loops, veiled, ifaces, maps, wideKeys, modest, calm, conditions, laid).
  DERIVED. THE GIVEN ROWS OF THIS SEAT. 12 by the template 'for every input the law returns true; each argument reads behind the call as it read before'; 0 by the template 'total and deterministic' (their statements: YtkcadcoohmofcaaTotals.lean).
  GIVEN WITH THE SEED: the statements are not yours to turn. If you find one false, say at which input.
  Laid BY PROGRAM, IN A SANDBOX (cutbox-rows.mjs): the forced cells as the released guide's own fill.sh prints them over the translation 7cbb5c8230e4b892… (all of the seat's roots in one cut). By AI agents, Wed Nov 11 2026. No macro, syntax, notation, axiom, sorry.
-/
import Derived.Test.YtkcadcoohmofcaaChecked
import GoSem.Claim
import GoSem.ClaimJoined
import GoSem.ClaimMapViews
import Derived.JoinedTies
import Derived.KernelRfl
namespace Go.Proofs.Ytkcadcoohmofcaa
/- THE CELL 'sum', in the pinned program and in every row, IS THE sha256 OF THE DUMP (.gsa) THAT YtkcadcoohmofcaaProg.lean LOADS. Nothing in Lean hashes anything: it is a label: what it is worth is what the hold of that sum in a sandbox is worth. -/
noncomputable def Try.pinned : Pinned := { name := "ytkcadcoohmofcaa", sum := "7cbb5c8230e4b89285af458d65689a3b5b34f0e63cde0a93ca879d0fcccf4a64", checked := Try.checked }
namespace Rows
def none {H : Type} : Left H := { results := [], args := [] }

/-- 'laws.FnExactMsgOk': WHATEVER THE INPUT: true; the input reads as it did. -/
def fnExactMsgOkSpec : ChangeSpec := { name := "fnExactMsgOk", fn := fun _ => fun
  | [d1, d2] => { results := [.lit (.bool true)], args := [d1, d2] }
  | _ => none }
def fnExactMsgOkRow : OpenClaim := { program := "ytkcadcoohmofcaa", sum := "7cbb5c8230e4b89285af458d65689a3b5b34f0e63cde0a93ca879d0fcccf4a64", func := "loop.example/g00138/laws.FnExactMsgOk", spec := "fnExactMsgOk", unfollowed := true, recurses := true, apart := false }
def FnExactMsgOkSaid : Prop := fnExactMsgOkRow.holds Try.pinned (OpenSpec.ofChange fnExactMsgOkSpec)

/-- ITS FALSE NEIGHBOUR: 'it returns false'. Refute it at one input. -/
def fnExactMsgOkWrong : ChangeSpec := { name := "fnExactMsgOk", fn := fun _ => fun
  | [d1, d2] => { results := [.lit (.bool false)], args := [d1, d2] }
  | _ => none }
def FnExactMsgOkWrongFalsely : Prop := fnExactMsgOkRow.holds Try.pinned (OpenSpec.ofChange fnExactMsgOkWrong)

/-- 'laws.FnExactNewNode': WHATEVER THE INPUT: true; the input reads as it did. -/
def fnExactNewNodeSpec : ChangeSpec := { name := "fnExactNewNode", fn := fun _ => fun
  | [d1, d2] => { results := [.lit (.bool true)], args := [d1, d2] }
  | _ => none }
def fnExactNewNodeRow : OpenClaim := { program := "ytkcadcoohmofcaa", sum := "7cbb5c8230e4b89285af458d65689a3b5b34f0e63cde0a93ca879d0fcccf4a64", func := "loop.example/g00138/laws.FnExactNewNode", spec := "fnExactNewNode", apart := false }
def FnExactNewNodeSaid : Prop := fnExactNewNodeRow.holds Try.pinned (OpenSpec.ofChange fnExactNewNodeSpec)

/-- ITS FALSE NEIGHBOUR: 'it returns false'. Refute it at one input. -/
def fnExactNewNodeWrong : ChangeSpec := { name := "fnExactNewNode", fn := fun _ => fun
  | [d1, d2] => { results := [.lit (.bool false)], args := [d1, d2] }
  | _ => none }
def FnExactNewNodeWrongFalsely : Prop := fnExactNewNodeRow.holds Try.pinned (OpenSpec.ofChange fnExactNewNodeWrong)

/-- 'laws.FnExactNodeOk': WHATEVER THE INPUT: true; the input reads as it did. -/
def fnExactNodeOkSpec : ChangeSpec := { name := "fnExactNodeOk", fn := fun _ => fun
  | [d1, d2] => { results := [.lit (.bool true)], args := [d1, d2] }
  | _ => none }
def fnExactNodeOkRow : OpenClaim := { program := "ytkcadcoohmofcaa", sum := "7cbb5c8230e4b89285af458d65689a3b5b34f0e63cde0a93ca879d0fcccf4a64", func := "loop.example/g00138/laws.FnExactNodeOk", spec := "fnExactNodeOk", apart := false }
def FnExactNodeOkSaid : Prop := fnExactNodeOkRow.holds Try.pinned (OpenSpec.ofChange fnExactNodeOkSpec)

/-- ITS FALSE NEIGHBOUR: 'it returns false'. Refute it at one input. -/
def fnExactNodeOkWrong : ChangeSpec := { name := "fnExactNodeOk", fn := fun _ => fun
  | [d1, d2] => { results := [.lit (.bool false)], args := [d1, d2] }
  | _ => none }
def FnExactNodeOkWrongFalsely : Prop := fnExactNodeOkRow.holds Try.pinned (OpenSpec.ofChange fnExactNodeOkWrong)

/-- 'laws.FnExactNewGroup': WHATEVER THE INPUT: true; the input reads as it did. -/
def fnExactNewGroupSpec : ChangeSpec := { name := "fnExactNewGroup", fn := fun _ => fun
  | [d] => { results := [.lit (.bool true)], args := [d] }
  | _ => none }
def fnExactNewGroupRow : OpenClaim := { program := "ytkcadcoohmofcaa", sum := "7cbb5c8230e4b89285af458d65689a3b5b34f0e63cde0a93ca879d0fcccf4a64", func := "loop.example/g00138/laws.FnExactNewGroup", spec := "fnExactNewGroup", apart := false }
def FnExactNewGroupSaid : Prop := fnExactNewGroupRow.holds Try.pinned (OpenSpec.ofChange fnExactNewGroupSpec)

/-- ITS FALSE NEIGHBOUR: 'it returns false'. Refute it at one input. -/
def fnExactNewGroupWrong : ChangeSpec := { name := "fnExactNewGroup", fn := fun _ => fun
  | [d] => { results := [.lit (.bool false)], args := [d] }
  | _ => none }
def FnExactNewGroupWrongFalsely : Prop := fnExactNewGroupRow.holds Try.pinned (OpenSpec.ofChange fnExactNewGroupWrong)

/-- 'laws.FnExactRestart': WHATEVER THE INPUT: true; the input reads as it did. -/
def fnExactRestartSpec : ChangeSpec := { name := "fnExactRestart", fn := fun _ => fun
  | [d1, d2] => { results := [.lit (.bool true)], args := [d1, d2] }
  | _ => none }
def fnExactRestartRow : OpenClaim := { program := "ytkcadcoohmofcaa", sum := "7cbb5c8230e4b89285af458d65689a3b5b34f0e63cde0a93ca879d0fcccf4a64", func := "loop.example/g00138/laws.FnExactRestart", spec := "fnExactRestart", apart := false }
def FnExactRestartSaid : Prop := fnExactRestartRow.holds Try.pinned (OpenSpec.ofChange fnExactRestartSpec)

/-- ITS FALSE NEIGHBOUR: 'it returns false'. Refute it at one input. -/
def fnExactRestartWrong : ChangeSpec := { name := "fnExactRestart", fn := fun _ => fun
  | [d1, d2] => { results := [.lit (.bool false)], args := [d1, d2] }
  | _ => none }
def FnExactRestartWrongFalsely : Prop := fnExactRestartRow.holds Try.pinned (OpenSpec.ofChange fnExactRestartWrong)

/-- 'laws.FnExactPropose': WHATEVER THE INPUT: true; the input reads as it did. -/
def fnExactProposeSpec : ChangeSpec := { name := "fnExactPropose", fn := fun _ => fun
  | [d1, d2, d3] => { results := [.lit (.bool true)], args := [d1, d2, d3] }
  | _ => none }
def fnExactProposeRow : OpenClaim := { program := "ytkcadcoohmofcaa", sum := "7cbb5c8230e4b89285af458d65689a3b5b34f0e63cde0a93ca879d0fcccf4a64", func := "loop.example/g00138/laws.FnExactPropose", spec := "fnExactPropose", apart := false }
def FnExactProposeSaid : Prop := fnExactProposeRow.holds Try.pinned (OpenSpec.ofChange fnExactProposeSpec)

/-- ITS FALSE NEIGHBOUR: 'it returns false'. Refute it at one input. -/
def fnExactProposeWrong : ChangeSpec := { name := "fnExactPropose", fn := fun _ => fun
  | [d1, d2, d3] => { results := [.lit (.bool false)], args := [d1, d2, d3] }
  | _ => none }
def FnExactProposeWrongFalsely : Prop := fnExactProposeRow.holds Try.pinned (OpenSpec.ofChange fnExactProposeWrong)

/-- 'laws.FnExactBeat': WHATEVER THE INPUT: true; the input reads as it did. -/
def fnExactBeatSpec : ChangeSpec := { name := "fnExactBeat", fn := fun _ => fun
  | [d1, d2] => { results := [.lit (.bool true)], args := [d1, d2] }
  | _ => none }
def fnExactBeatRow : OpenClaim := { program := "ytkcadcoohmofcaa", sum := "7cbb5c8230e4b89285af458d65689a3b5b34f0e63cde0a93ca879d0fcccf4a64", func := "loop.example/g00138/laws.FnExactBeat", spec := "fnExactBeat", apart := false }
def FnExactBeatSaid : Prop := fnExactBeatRow.holds Try.pinned (OpenSpec.ofChange fnExactBeatSpec)

/-- ITS FALSE NEIGHBOUR: 'it returns false'. Refute it at one input. -/
def fnExactBeatWrong : ChangeSpec := { name := "fnExactBeat", fn := fun _ => fun
  | [d1, d2] => { results := [.lit (.bool false)], args := [d1, d2] }
  | _ => none }
def FnExactBeatWrongFalsely : Prop := fnExactBeatRow.holds Try.pinned (OpenSpec.ofChange fnExactBeatWrong)

/-- 'laws.FnExactGroupOk': WHATEVER THE INPUT: true; the input reads as it did. -/
def fnExactGroupOkSpec : ChangeSpec := { name := "fnExactGroupOk", fn := fun _ => fun
  | [d] => { results := [.lit (.bool true)], args := [d] }
  | _ => none }
def fnExactGroupOkRow : OpenClaim := { program := "ytkcadcoohmofcaa", sum := "7cbb5c8230e4b89285af458d65689a3b5b34f0e63cde0a93ca879d0fcccf4a64", func := "loop.example/g00138/laws.FnExactGroupOk", spec := "fnExactGroupOk", unfollowed := true, recurses := true, apart := false }
def FnExactGroupOkSaid : Prop := fnExactGroupOkRow.holds Try.pinned (OpenSpec.ofChange fnExactGroupOkSpec)

/-- ITS FALSE NEIGHBOUR: 'it returns false'. Refute it at one input. -/
def fnExactGroupOkWrong : ChangeSpec := { name := "fnExactGroupOk", fn := fun _ => fun
  | [d] => { results := [.lit (.bool false)], args := [d] }
  | _ => none }
def FnExactGroupOkWrongFalsely : Prop := fnExactGroupOkRow.holds Try.pinned (OpenSpec.ofChange fnExactGroupOkWrong)

/-- 'laws.FnExactElect': WHATEVER THE INPUT: true; the input reads as it did. -/
def fnExactElectSpec : ChangeSpec := { name := "fnExactElect", fn := fun _ => fun
  | [d1, d2] => { results := [.lit (.bool true)], args := [d1, d2] }
  | _ => none }
def fnExactElectRow : OpenClaim := { program := "ytkcadcoohmofcaa", sum := "7cbb5c8230e4b89285af458d65689a3b5b34f0e63cde0a93ca879d0fcccf4a64", func := "loop.example/g00138/laws.FnExactElect", spec := "fnExactElect", apart := false }
def FnExactElectSaid : Prop := fnExactElectRow.holds Try.pinned (OpenSpec.ofChange fnExactElectSpec)

/-- ITS FALSE NEIGHBOUR: 'it returns false'. Refute it at one input. -/
def fnExactElectWrong : ChangeSpec := { name := "fnExactElect", fn := fun _ => fun
  | [d1, d2] => { results := [.lit (.bool false)], args := [d1, d2] }
  | _ => none }
def FnExactElectWrongFalsely : Prop := fnExactElectRow.holds Try.pinned (OpenSpec.ofChange fnExactElectWrong)

/-- 'laws.FnExactSafeGroup': WHATEVER THE INPUT: true; the input reads as it did. -/
def fnExactSafeGroupSpec : ChangeSpec := { name := "fnExactSafeGroup", fn := fun _ => fun
  | [d] => { results := [.lit (.bool true)], args := [d] }
  | _ => none }
def fnExactSafeGroupRow : OpenClaim := { program := "ytkcadcoohmofcaa", sum := "7cbb5c8230e4b89285af458d65689a3b5b34f0e63cde0a93ca879d0fcccf4a64", func := "loop.example/g00138/laws.FnExactSafeGroup", spec := "fnExactSafeGroup", unfollowed := true, recurses := true, apart := false }
def FnExactSafeGroupSaid : Prop := fnExactSafeGroupRow.holds Try.pinned (OpenSpec.ofChange fnExactSafeGroupSpec)

/-- ITS FALSE NEIGHBOUR: 'it returns false'. Refute it at one input. -/
def fnExactSafeGroupWrong : ChangeSpec := { name := "fnExactSafeGroup", fn := fun _ => fun
  | [d] => { results := [.lit (.bool false)], args := [d] }
  | _ => none }
def FnExactSafeGroupWrongFalsely : Prop := fnExactSafeGroupRow.holds Try.pinned (OpenSpec.ofChange fnExactSafeGroupWrong)

/-- 'laws.FnExactLeaders': WHATEVER THE INPUT: true; the input reads as it did. -/
def fnExactLeadersSpec : ChangeSpec := { name := "fnExactLeaders", fn := fun _ => fun
  | [d] => { results := [.lit (.bool true)], args := [d] }
  | _ => none }
def fnExactLeadersRow : OpenClaim := { program := "ytkcadcoohmofcaa", sum := "7cbb5c8230e4b89285af458d65689a3b5b34f0e63cde0a93ca879d0fcccf4a64", func := "loop.example/g00138/laws.FnExactLeaders", spec := "fnExactLeaders", unfollowed := true, recurses := true, apart := false }
def FnExactLeadersSaid : Prop := fnExactLeadersRow.holds Try.pinned (OpenSpec.ofChange fnExactLeadersSpec)

/-- ITS FALSE NEIGHBOUR: 'it returns false'. Refute it at one input. -/
def fnExactLeadersWrong : ChangeSpec := { name := "fnExactLeaders", fn := fun _ => fun
  | [d] => { results := [.lit (.bool false)], args := [d] }
  | _ => none }
def FnExactLeadersWrongFalsely : Prop := fnExactLeadersRow.holds Try.pinned (OpenSpec.ofChange fnExactLeadersWrong)

/-- 'laws.FnExactSettled': WHATEVER THE INPUT: true; the input reads as it did. -/
def fnExactSettledSpec : ChangeSpec := { name := "fnExactSettled", fn := fun _ => fun
  | [d] => { results := [.lit (.bool true)], args := [d] }
  | _ => none }
def fnExactSettledRow : OpenClaim := { program := "ytkcadcoohmofcaa", sum := "7cbb5c8230e4b89285af458d65689a3b5b34f0e63cde0a93ca879d0fcccf4a64", func := "loop.example/g00138/laws.FnExactSettled", spec := "fnExactSettled", unfollowed := true, recurses := true, apart := false }
def FnExactSettledSaid : Prop := fnExactSettledRow.holds Try.pinned (OpenSpec.ofChange fnExactSettledSpec)

/-- ITS FALSE NEIGHBOUR: 'it returns false'. Refute it at one input. -/
def fnExactSettledWrong : ChangeSpec := { name := "fnExactSettled", fn := fun _ => fun
  | [d] => { results := [.lit (.bool false)], args := [d] }
  | _ => none }
def FnExactSettledWrongFalsely : Prop := fnExactSettledRow.holds Try.pinned (OpenSpec.ofChange fnExactSettledWrong)

/- THE SECOND FORM. 'bulk': how many values and letters a reading holds, each counted each time it is reached (what is shared counts as often as it is met; a slice's spare places count too). A statement '..UptoSaid' is the law's where the arguments, and the package variables that the reading takes, are together of bulk at most 1048576: NARROWER than '..Said'. Prove '..Said' where nothing that the law and all that it calls make is longer than what came in: it says more and counts as full. Else prove '..UptoSaid'. A law counts once. -/
mutual
def uptoBulk {H : Type} : DataW H → Nat
  | .lit (.string bytes) => bytes.length + 1
  | .lit _ => 1
  | .nil => 1
  | .ptr d => uptoBulk d + 1
  | .slice elems spare => uptoBulkAll elems + uptoBulkAll spare + 1
  | .agg parts => uptoBulkAll parts + 1
  | .iface _ d => uptoBulk d + 1
  | .map entries => uptoBulkEntries entries + 1
  | .held _ => 1
def uptoBulkAll {H : Type} : List (DataW H) → Nat
  | [] => 0
  | d :: r => uptoBulk d + uptoBulkAll r
def uptoBulkEntries {H : Type} : List (Lit × DataW H) → Nat
  | [] => 0
  | x :: r => uptoBulkEntry x + uptoBulkEntries r
def uptoBulkEntry {H : Type} : Lit × DataW H → Nat
  | (.string bytes, d) => bytes.length + uptoBulk d + 1
  | (_, d) => uptoBulk d + 1
 end
def uptoSmall : (H : Type) → List (DataW H) → Bool := fun _ ds => decide (uptoBulkAll ds ≤ 1048576)
def OpenSpec.upto (s : _root_.Go.ChangeSpec) : _root_.Go.OpenSpec := { _root_.Go.OpenSpec.ofChange s with cond := some uptoSmall }

/-- 'laws.FnExactMsgOk', WHERE WHAT IT READS IS OF BULK AT MOST 1048576: true; the input reads as it did. -/
def fnExactMsgOkUptoRow : OpenClaim := { program := "ytkcadcoohmofcaa", sum := "7cbb5c8230e4b89285af458d65689a3b5b34f0e63cde0a93ca879d0fcccf4a64", func := "loop.example/g00138/laws.FnExactMsgOk", spec := "fnExactMsgOk", unfollowed := true, recurses := true, apart := false, narrowed := true }
def FnExactMsgOkUptoSaid : Prop := fnExactMsgOkUptoRow.holds Try.pinned (OpenSpec.upto fnExactMsgOkSpec)

/-- 'laws.FnExactNewNode', WHERE WHAT IT READS IS OF BULK AT MOST 1048576: true; the input reads as it did. -/
def fnExactNewNodeUptoRow : OpenClaim := { program := "ytkcadcoohmofcaa", sum := "7cbb5c8230e4b89285af458d65689a3b5b34f0e63cde0a93ca879d0fcccf4a64", func := "loop.example/g00138/laws.FnExactNewNode", spec := "fnExactNewNode", apart := false, narrowed := true }
def FnExactNewNodeUptoSaid : Prop := fnExactNewNodeUptoRow.holds Try.pinned (OpenSpec.upto fnExactNewNodeSpec)

/-- 'laws.FnExactNodeOk', WHERE WHAT IT READS IS OF BULK AT MOST 1048576: true; the input reads as it did. -/
def fnExactNodeOkUptoRow : OpenClaim := { program := "ytkcadcoohmofcaa", sum := "7cbb5c8230e4b89285af458d65689a3b5b34f0e63cde0a93ca879d0fcccf4a64", func := "loop.example/g00138/laws.FnExactNodeOk", spec := "fnExactNodeOk", apart := false, narrowed := true }
def FnExactNodeOkUptoSaid : Prop := fnExactNodeOkUptoRow.holds Try.pinned (OpenSpec.upto fnExactNodeOkSpec)

/-- 'laws.FnExactNewGroup', WHERE WHAT IT READS IS OF BULK AT MOST 1048576: true; the input reads as it did. -/
def fnExactNewGroupUptoRow : OpenClaim := { program := "ytkcadcoohmofcaa", sum := "7cbb5c8230e4b89285af458d65689a3b5b34f0e63cde0a93ca879d0fcccf4a64", func := "loop.example/g00138/laws.FnExactNewGroup", spec := "fnExactNewGroup", apart := false, narrowed := true }
def FnExactNewGroupUptoSaid : Prop := fnExactNewGroupUptoRow.holds Try.pinned (OpenSpec.upto fnExactNewGroupSpec)

/-- 'laws.FnExactRestart', WHERE WHAT IT READS IS OF BULK AT MOST 1048576: true; the input reads as it did. -/
def fnExactRestartUptoRow : OpenClaim := { program := "ytkcadcoohmofcaa", sum := "7cbb5c8230e4b89285af458d65689a3b5b34f0e63cde0a93ca879d0fcccf4a64", func := "loop.example/g00138/laws.FnExactRestart", spec := "fnExactRestart", apart := false, narrowed := true }
def FnExactRestartUptoSaid : Prop := fnExactRestartUptoRow.holds Try.pinned (OpenSpec.upto fnExactRestartSpec)

/-- 'laws.FnExactPropose', WHERE WHAT IT READS IS OF BULK AT MOST 1048576: true; the input reads as it did. -/
def fnExactProposeUptoRow : OpenClaim := { program := "ytkcadcoohmofcaa", sum := "7cbb5c8230e4b89285af458d65689a3b5b34f0e63cde0a93ca879d0fcccf4a64", func := "loop.example/g00138/laws.FnExactPropose", spec := "fnExactPropose", apart := false, narrowed := true }
def FnExactProposeUptoSaid : Prop := fnExactProposeUptoRow.holds Try.pinned (OpenSpec.upto fnExactProposeSpec)

/-- 'laws.FnExactBeat', WHERE WHAT IT READS IS OF BULK AT MOST 1048576: true; the input reads as it did. -/
def fnExactBeatUptoRow : OpenClaim := { program := "ytkcadcoohmofcaa", sum := "7cbb5c8230e4b89285af458d65689a3b5b34f0e63cde0a93ca879d0fcccf4a64", func := "loop.example/g00138/laws.FnExactBeat", spec := "fnExactBeat", apart := false, narrowed := true }
def FnExactBeatUptoSaid : Prop := fnExactBeatUptoRow.holds Try.pinned (OpenSpec.upto fnExactBeatSpec)

/-- 'laws.FnExactGroupOk', WHERE WHAT IT READS IS OF BULK AT MOST 1048576: true; the input reads as it did. -/
def fnExactGroupOkUptoRow : OpenClaim := { program := "ytkcadcoohmofcaa", sum := "7cbb5c8230e4b89285af458d65689a3b5b34f0e63cde0a93ca879d0fcccf4a64", func := "loop.example/g00138/laws.FnExactGroupOk", spec := "fnExactGroupOk", unfollowed := true, recurses := true, apart := false, narrowed := true }
def FnExactGroupOkUptoSaid : Prop := fnExactGroupOkUptoRow.holds Try.pinned (OpenSpec.upto fnExactGroupOkSpec)

/-- 'laws.FnExactElect', WHERE WHAT IT READS IS OF BULK AT MOST 1048576: true; the input reads as it did. -/
def fnExactElectUptoRow : OpenClaim := { program := "ytkcadcoohmofcaa", sum := "7cbb5c8230e4b89285af458d65689a3b5b34f0e63cde0a93ca879d0fcccf4a64", func := "loop.example/g00138/laws.FnExactElect", spec := "fnExactElect", apart := false, narrowed := true }
def FnExactElectUptoSaid : Prop := fnExactElectUptoRow.holds Try.pinned (OpenSpec.upto fnExactElectSpec)

/-- 'laws.FnExactSafeGroup', WHERE WHAT IT READS IS OF BULK AT MOST 1048576: true; the input reads as it did. -/
def fnExactSafeGroupUptoRow : OpenClaim := { program := "ytkcadcoohmofcaa", sum := "7cbb5c8230e4b89285af458d65689a3b5b34f0e63cde0a93ca879d0fcccf4a64", func := "loop.example/g00138/laws.FnExactSafeGroup", spec := "fnExactSafeGroup", unfollowed := true, recurses := true, apart := false, narrowed := true }
def FnExactSafeGroupUptoSaid : Prop := fnExactSafeGroupUptoRow.holds Try.pinned (OpenSpec.upto fnExactSafeGroupSpec)

/-- 'laws.FnExactLeaders', WHERE WHAT IT READS IS OF BULK AT MOST 1048576: true; the input reads as it did. -/
def fnExactLeadersUptoRow : OpenClaim := { program := "ytkcadcoohmofcaa", sum := "7cbb5c8230e4b89285af458d65689a3b5b34f0e63cde0a93ca879d0fcccf4a64", func := "loop.example/g00138/laws.FnExactLeaders", spec := "fnExactLeaders", unfollowed := true, recurses := true, apart := false, narrowed := true }
def FnExactLeadersUptoSaid : Prop := fnExactLeadersUptoRow.holds Try.pinned (OpenSpec.upto fnExactLeadersSpec)

/-- 'laws.FnExactSettled', WHERE WHAT IT READS IS OF BULK AT MOST 1048576: true; the input reads as it did. -/
def fnExactSettledUptoRow : OpenClaim := { program := "ytkcadcoohmofcaa", sum := "7cbb5c8230e4b89285af458d65689a3b5b34f0e63cde0a93ca879d0fcccf4a64", func := "loop.example/g00138/laws.FnExactSettled", spec := "fnExactSettled", unfollowed := true, recurses := true, apart := false, narrowed := true }
def FnExactSettledUptoSaid : Prop := fnExactSettledUptoRow.holds Try.pinned (OpenSpec.upto fnExactSettledSpec)

end Rows
end Go.Proofs.Ytkcadcoohmofcaa
