/-
  No cell of these rows narrows 'for every input' (looked for: loops, veiled, ifaces, maps, wideKeys, modest, calm, conditions, laid).
  DERIVED. THE GIVEN ROWS OF THIS SEAT. 4 by the template 'for every input the law returns true; each argument reads behind the call as it read before'; 0 by the template 'total and deterministic' (their statements: YtjdpifafijcpbaaTotals.lean).
  GIVEN WITH THE SEED: the statements are not yours to turn. If you find one false, say at which input.
  Laid BY PROGRAM, IN A SANDBOX (cutbox-rows.mjs): the forced cells as the released guide's own fill.sh prints them over the translation 6b3a704d75addee8… (all of the seat's roots in one cut). By AI agents, Wed Nov 11 2026. No macro, syntax, notation, axiom, sorry.
-/
import Derived.Test.YtjdpifafijcpbaaChecked
import GoSem.Claim
import GoSem.ClaimJoined
import GoSem.ClaimMapViews
import Derived.JoinedTies
import Derived.KernelRfl
namespace Go.Proofs.Ytjdpifafijcpbaa
/- THE CELL 'sum', in the pinned program and in every row, IS THE sha256 OF THE DUMP (.gsa) THAT YtjdpifafijcpbaaProg.lean LOADS. Nothing in Lean hashes anything: it is a label: what it is worth is what the hold of that sum in a sandbox is worth. -/
noncomputable def Try.pinned : Pinned := { name := "ytjdpifafijcpbaa", sum := "6b3a704d75addee87954f41f1a543efaf8a10c2f28e6bcfad6350ebc8a71ce2d", checked := Try.checked }
namespace Rows
def none {H : Type} : Left H := { results := [], args := [] }

/-- 'laws.FnExactSessionsOk': WHATEVER THE INPUT: true; the input reads as it did. -/
def fnExactSessionsOkSpec : ChangeSpec := { name := "fnExactSessionsOk", fn := fun _ => fun
  | [d] => { results := [.lit (.bool true)], args := [d] }
  | _ => none }
def fnExactSessionsOkRow : OpenClaim := { program := "ytjdpifafijcpbaa", sum := "6b3a704d75addee87954f41f1a543efaf8a10c2f28e6bcfad6350ebc8a71ce2d", func := "loop.example/g00138/laws.FnExactSessionsOk", spec := "fnExactSessionsOk", unfollowed := true, recurses := true, apart := false }
def FnExactSessionsOkSaid : Prop := fnExactSessionsOkRow.holds Try.pinned (OpenSpec.ofChange fnExactSessionsOkSpec)

/-- ITS FALSE NEIGHBOUR: 'it returns false'. Refute it at one input. -/
def fnExactSessionsOkWrong : ChangeSpec := { name := "fnExactSessionsOk", fn := fun _ => fun
  | [d] => { results := [.lit (.bool false)], args := [d] }
  | _ => none }
def FnExactSessionsOkWrongFalsely : Prop := fnExactSessionsOkRow.holds Try.pinned (OpenSpec.ofChange fnExactSessionsOkWrong)

/-- 'laws.FnExactLook': WHATEVER THE INPUT: true; the input reads as it did. -/
def fnExactLookSpec : ChangeSpec := { name := "fnExactLook", fn := fun _ => fun
  | [d1, d2, d3] => { results := [.lit (.bool true)], args := [d1, d2, d3] }
  | _ => none }
def fnExactLookRow : OpenClaim := { program := "ytjdpifafijcpbaa", sum := "6b3a704d75addee87954f41f1a543efaf8a10c2f28e6bcfad6350ebc8a71ce2d", func := "loop.example/g00138/laws.FnExactLook", spec := "fnExactLook", unfollowed := true, recurses := true, apart := false }
def FnExactLookSaid : Prop := fnExactLookRow.holds Try.pinned (OpenSpec.ofChange fnExactLookSpec)

/-- ITS FALSE NEIGHBOUR: 'it returns false'. Refute it at one input. -/
def fnExactLookWrong : ChangeSpec := { name := "fnExactLook", fn := fun _ => fun
  | [d1, d2, d3] => { results := [.lit (.bool false)], args := [d1, d2, d3] }
  | _ => none }
def FnExactLookWrongFalsely : Prop := fnExactLookRow.holds Try.pinned (OpenSpec.ofChange fnExactLookWrong)

/-- 'laws.FnExactForget': WHATEVER THE INPUT: true; the input reads as it did. -/
def fnExactForgetSpec : ChangeSpec := { name := "fnExactForget", fn := fun _ => fun
  | [d1, d2] => { results := [.lit (.bool true)], args := [d1, d2] }
  | _ => none }
def fnExactForgetRow : OpenClaim := { program := "ytjdpifafijcpbaa", sum := "6b3a704d75addee87954f41f1a543efaf8a10c2f28e6bcfad6350ebc8a71ce2d", func := "loop.example/g00138/laws.FnExactForget", spec := "fnExactForget", unfollowed := true, recurses := true, apart := false }
def FnExactForgetSaid : Prop := fnExactForgetRow.holds Try.pinned (OpenSpec.ofChange fnExactForgetSpec)

/-- ITS FALSE NEIGHBOUR: 'it returns false'. Refute it at one input. -/
def fnExactForgetWrong : ChangeSpec := { name := "fnExactForget", fn := fun _ => fun
  | [d1, d2] => { results := [.lit (.bool false)], args := [d1, d2] }
  | _ => none }
def FnExactForgetWrongFalsely : Prop := fnExactForgetRow.holds Try.pinned (OpenSpec.ofChange fnExactForgetWrong)

/-- 'laws.FnExactKeep': WHATEVER THE INPUT: true; the input reads as it did. -/
def fnExactKeepSpec : ChangeSpec := { name := "fnExactKeep", fn := fun _ => fun
  | [d1, d2, d3, d4] => { results := [.lit (.bool true)], args := [d1, d2, d3, d4] }
  | _ => none }
def fnExactKeepRow : OpenClaim := { program := "ytjdpifafijcpbaa", sum := "6b3a704d75addee87954f41f1a543efaf8a10c2f28e6bcfad6350ebc8a71ce2d", func := "loop.example/g00138/laws.FnExactKeep", spec := "fnExactKeep", inPlace := ["slices.overlaps[loop.example/g00138/impl.Session]"], unfollowed := true, recurses := true, apart := false }
def FnExactKeepSaid : Prop := fnExactKeepRow.holds Try.pinned (OpenSpec.ofChange fnExactKeepSpec)

/-- ITS FALSE NEIGHBOUR: 'it returns false'. Refute it at one input. -/
def fnExactKeepWrong : ChangeSpec := { name := "fnExactKeep", fn := fun _ => fun
  | [d1, d2, d3, d4] => { results := [.lit (.bool false)], args := [d1, d2, d3, d4] }
  | _ => none }
def FnExactKeepWrongFalsely : Prop := fnExactKeepRow.holds Try.pinned (OpenSpec.ofChange fnExactKeepWrong)

/- THE SECOND FORM. 'bulk': how many values and letters a reading holds, each counted each time it is reached (what is shared counts as often as it is met; a slice's spare places count too). A statement '..UptoSaid' is the law's where the arguments, and the package variables that the reading takes, are together of bulk at most 1048576: NARROWER than '..Said'. Prove '..Said' where nothing that the law and all that it calls make is longer than what came in: it says more and counts as full. Else prove '..UptoSaid'. A law counts once. -/
mutual
def uptoBulk {H : Type} : DataW H → Nat
  | .lit (.string bytes) => bytes.length + 1
  | .lit _ => 1
  | .nil => 1
  | .ptr d => uptoBulk d + 1
  | .slice elems spare => uptoBulkAll elems + uptoBulkAll spare + 1
  | .agg parts => uptoBulkAll parts + 1
  | .iface _ d => uptoBulk d + 1
  | .map entries => uptoBulkEntries entries + 1
  | .held _ => 1
def uptoBulkAll {H : Type} : List (DataW H) → Nat
  | [] => 0
  | d :: r => uptoBulk d + uptoBulkAll r
def uptoBulkEntries {H : Type} : List (Lit × DataW H) → Nat
  | [] => 0
  | x :: r => uptoBulkEntry x + uptoBulkEntries r
def uptoBulkEntry {H : Type} : Lit × DataW H → Nat
  | (.string bytes, d) => bytes.length + uptoBulk d + 1
  | (_, d) => uptoBulk d + 1
 end
def uptoSmall : (H : Type) → List (DataW H) → Bool := fun _ ds => decide (uptoBulkAll ds ≤ 1048576)
def OpenSpec.upto (s : _root_.Go.ChangeSpec) : _root_.Go.OpenSpec := { _root_.Go.OpenSpec.ofChange s with cond := some uptoSmall }

/-- 'laws.FnExactSessionsOk', WHERE WHAT IT READS IS OF BULK AT MOST 1048576: true; the input reads as it did. -/
def fnExactSessionsOkUptoRow : OpenClaim := { program := "ytjdpifafijcpbaa", sum := "6b3a704d75addee87954f41f1a543efaf8a10c2f28e6bcfad6350ebc8a71ce2d", func := "loop.example/g00138/laws.FnExactSessionsOk", spec := "fnExactSessionsOk", unfollowed := true, recurses := true, apart := false, narrowed := true }
def FnExactSessionsOkUptoSaid : Prop := fnExactSessionsOkUptoRow.holds Try.pinned (OpenSpec.upto fnExactSessionsOkSpec)

/-- 'laws.FnExactLook', WHERE WHAT IT READS IS OF BULK AT MOST 1048576: true; the input reads as it did. -/
def fnExactLookUptoRow : OpenClaim := { program := "ytjdpifafijcpbaa", sum := "6b3a704d75addee87954f41f1a543efaf8a10c2f28e6bcfad6350ebc8a71ce2d", func := "loop.example/g00138/laws.FnExactLook", spec := "fnExactLook", unfollowed := true, recurses := true, apart := false, narrowed := true }
def FnExactLookUptoSaid : Prop := fnExactLookUptoRow.holds Try.pinned (OpenSpec.upto fnExactLookSpec)

/-- 'laws.FnExactForget', WHERE WHAT IT READS IS OF BULK AT MOST 1048576: true; the input reads as it did. -/
def fnExactForgetUptoRow : OpenClaim := { program := "ytjdpifafijcpbaa", sum := "6b3a704d75addee87954f41f1a543efaf8a10c2f28e6bcfad6350ebc8a71ce2d", func := "loop.example/g00138/laws.FnExactForget", spec := "fnExactForget", unfollowed := true, recurses := true, apart := false, narrowed := true }
def FnExactForgetUptoSaid : Prop := fnExactForgetUptoRow.holds Try.pinned (OpenSpec.upto fnExactForgetSpec)

/-- 'laws.FnExactKeep', WHERE WHAT IT READS IS OF BULK AT MOST 1048576: true; the input reads as it did. -/
def fnExactKeepUptoRow : OpenClaim := { program := "ytjdpifafijcpbaa", sum := "6b3a704d75addee87954f41f1a543efaf8a10c2f28e6bcfad6350ebc8a71ce2d", func := "loop.example/g00138/laws.FnExactKeep", spec := "fnExactKeep", inPlace := ["slices.overlaps[loop.example/g00138/impl.Session]"], unfollowed := true, recurses := true, apart := false, narrowed := true }
def FnExactKeepUptoSaid : Prop := fnExactKeepUptoRow.holds Try.pinned (OpenSpec.upto fnExactKeepSpec)

end Rows
end Go.Proofs.Ytjdpifafijcpbaa
