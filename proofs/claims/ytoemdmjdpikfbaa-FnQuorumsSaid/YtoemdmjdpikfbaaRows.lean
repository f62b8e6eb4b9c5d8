/-
  No cell of these rows narrows 'for every input' (looked for: loops, veiled, ifaces, maps, wideKeys, modest, calm, conditions, laid).
  DERIVED. THE GIVEN ROWS OF THIS SEAT. 6 by the template 'for every input the law returns true; each argument reads behind the call as it read before'; 0 by the template 'total and deterministic' (their statements: YtoemdmjdpikfbaaTotals.lean).
  GIVEN WITH THE SEED: the statements are not yours to turn. If you find one false, say at which input.
  Laid BY PROGRAM, IN A SANDBOX (cutbox-rows.mjs): the forced cells as the released guide's own fill.sh prints them over the translation ada3502ca6c53acb… (all of the seat's roots in one cut). By AI agents, Wed Nov 11 2026. No macro, syntax, notation, axiom, sorry.
-/
import Derived.Test.YtoemdmjdpikfbaaChecked
import GoSem.Claim
import GoSem.ClaimJoined
import GoSem.ClaimMapViews
import Derived.JoinedTies
import Derived.KernelRfl
namespace Go.Proofs.Ytoemdmjdpikfbaa
/- THE CELL 'sum', in the pinned program and in every row, IS THE sha256 OF THE DUMP (.gsa) THAT YtoemdmjdpikfbaaProg.lean LOADS. Nothing in Lean hashes anything: it is a label: what it is worth is what the hold of that sum in a sandbox is worth. -/
noncomputable def Try.pinned : Pinned := { name := "ytoemdmjdpikfbaa", sum := "ada3502ca6c53acbc4c87f6ba5fd25c90cfa024e7e80aa584dc976d2b2a1f797", checked := Try.checked }
namespace Rows
def none {H : Type} : Left H := { results := [], args := [] }

/-- 'laws.FnConfs': WHATEVER THE INPUT: true; the input reads as it did. -/
def fnConfsSpec : ChangeSpec := { name := "fnConfs", fn := fun _ => fun
  | [d] => { results := [.lit (.bool true)], args := [d] }
  | _ => none }
def fnConfsRow : OpenClaim := { program := "ytoemdmjdpikfbaa", sum := "ada3502ca6c53acbc4c87f6ba5fd25c90cfa024e7e80aa584dc976d2b2a1f797", func := "loop.example/g00138/laws.FnConfs", spec := "fnConfs", inPlace := ["slices.overlaps[int]"], unfollowed := true, recurses := true, apart := false }
def FnConfsSaid : Prop := fnConfsRow.holds Try.pinned (OpenSpec.ofChange fnConfsSpec)

/-- ITS FALSE NEIGHBOUR: 'it returns false'. Refute it at one input. -/
def fnConfsWrong : ChangeSpec := { name := "fnConfs", fn := fun _ => fun
  | [d] => { results := [.lit (.bool false)], args := [d] }
  | _ => none }
def FnConfsWrongFalsely : Prop := fnConfsRow.holds Try.pinned (OpenSpec.ofChange fnConfsWrong)

/-- 'laws.FnExactLearner': WHATEVER THE INPUT: true; the input reads as it did. -/
def fnExactLearnerSpec : ChangeSpec := { name := "fnExactLearner", fn := fun _ => fun
  | [d1, d2, d3] => { results := [.lit (.bool true)], args := [d1, d2, d3] }
  | _ => none }
def fnExactLearnerRow : OpenClaim := { program := "ytoemdmjdpikfbaa", sum := "ada3502ca6c53acbc4c87f6ba5fd25c90cfa024e7e80aa584dc976d2b2a1f797", func := "loop.example/g00138/laws.FnExactLearner", spec := "fnExactLearner", inPlace := ["slices.overlaps[int]"], unfollowed := true, recurses := true, apart := false }
def FnExactLearnerSaid : Prop := fnExactLearnerRow.holds Try.pinned (OpenSpec.ofChange fnExactLearnerSpec)

/-- ITS FALSE NEIGHBOUR: 'it returns false'. Refute it at one input. -/
def fnExactLearnerWrong : ChangeSpec := { name := "fnExactLearner", fn := fun _ => fun
  | [d1, d2, d3] => { results := [.lit (.bool false)], args := [d1, d2, d3] }
  | _ => none }
def FnExactLearnerWrongFalsely : Prop := fnExactLearnerRow.holds Try.pinned (OpenSpec.ofChange fnExactLearnerWrong)

/-- 'laws.FnExactVoters': WHATEVER THE INPUT: true; the input reads as it did. -/
def fnExactVotersSpec : ChangeSpec := { name := "fnExactVoters", fn := fun _ => fun
  | [d] => { results := [.lit (.bool true)], args := [d] }
  | _ => none }
def fnExactVotersRow : OpenClaim := { program := "ytoemdmjdpikfbaa", sum := "ada3502ca6c53acbc4c87f6ba5fd25c90cfa024e7e80aa584dc976d2b2a1f797", func := "loop.example/g00138/laws.FnExactVoters", spec := "fnExactVoters", unfollowed := true, recurses := true, apart := false }
def FnExactVotersSaid : Prop := fnExactVotersRow.holds Try.pinned (OpenSpec.ofChange fnExactVotersSpec)

/-- ITS FALSE NEIGHBOUR: 'it returns false'. Refute it at one input. -/
def fnExactVotersWrong : ChangeSpec := { name := "fnExactVoters", fn := fun _ => fun
  | [d] => { results := [.lit (.bool false)], args := [d] }
  | _ => none }
def FnExactVotersWrongFalsely : Prop := fnExactVotersRow.holds Try.pinned (OpenSpec.ofChange fnExactVotersWrong)

/-- 'laws.FnExactPlayConf': WHATEVER THE INPUT: true; the input reads as it did. -/
def fnExactPlayConfSpec : ChangeSpec := { name := "fnExactPlayConf", fn := fun _ => fun
  | [d1, d2] => { results := [.lit (.bool true)], args := [d1, d2] }
  | _ => none }
def fnExactPlayConfRow : OpenClaim := { program := "ytoemdmjdpikfbaa", sum := "ada3502ca6c53acbc4c87f6ba5fd25c90cfa024e7e80aa584dc976d2b2a1f797", func := "loop.example/g00138/laws.FnExactPlayConf", spec := "fnExactPlayConf", inPlace := ["slices.overlaps[int]"], unfollowed := true, recurses := true, apart := false }
def FnExactPlayConfSaid : Prop := fnExactPlayConfRow.holds Try.pinned (OpenSpec.ofChange fnExactPlayConfSpec)

/-- ITS FALSE NEIGHBOUR: 'it returns false'. Refute it at one input. -/
def fnExactPlayConfWrong : ChangeSpec := { name := "fnExactPlayConf", fn := fun _ => fun
  | [d1, d2] => { results := [.lit (.bool false)], args := [d1, d2] }
  | _ => none }
def FnExactPlayConfWrongFalsely : Prop := fnExactPlayConfRow.holds Try.pinned (OpenSpec.ofChange fnExactPlayConfWrong)

/-- 'laws.FnCommits': WHATEVER THE INPUT: true; the input reads as it did. -/
def fnCommitsSpec : ChangeSpec := { name := "fnCommits", fn := fun _ => fun
  | [d] => { results := [.lit (.bool true)], args := [d] }
  | _ => none }
def fnCommitsRow : OpenClaim := { program := "ytoemdmjdpikfbaa", sum := "ada3502ca6c53acbc4c87f6ba5fd25c90cfa024e7e80aa584dc976d2b2a1f797", func := "loop.example/g00138/laws.FnCommits", spec := "fnCommits", unfollowed := true, recurses := true, apart := false }
def FnCommitsSaid : Prop := fnCommitsRow.holds Try.pinned (OpenSpec.ofChange fnCommitsSpec)

/-- ITS FALSE NEIGHBOUR: 'it returns false'. Refute it at one input. -/
def fnCommitsWrong : ChangeSpec := { name := "fnCommits", fn := fun _ => fun
  | [d] => { results := [.lit (.bool false)], args := [d] }
  | _ => none }
def FnCommitsWrongFalsely : Prop := fnCommitsRow.holds Try.pinned (OpenSpec.ofChange fnCommitsWrong)

/-- 'laws.FnQuorums': WHATEVER THE INPUT: true; the input reads as it did. -/
def fnQuorumsSpec : ChangeSpec := { name := "fnQuorums", fn := fun _ => fun
  | [d] => { results := [.lit (.bool true)], args := [d] }
  | _ => none }
def fnQuorumsRow : OpenClaim := { program := "ytoemdmjdpikfbaa", sum := "ada3502ca6c53acbc4c87f6ba5fd25c90cfa024e7e80aa584dc976d2b2a1f797", func := "loop.example/g00138/laws.FnQuorums", spec := "fnQuorums", unfollowed := true, recurses := true, apart := false }
def FnQuorumsSaid : Prop := fnQuorumsRow.holds Try.pinned (OpenSpec.ofChange fnQuorumsSpec)

/-- ITS FALSE NEIGHBOUR: 'it returns false'. Refute it at one input. -/
def fnQuorumsWrong : ChangeSpec := { name := "fnQuorums", fn := fun _ => fun
  | [d] => { results := [.lit (.bool false)], args := [d] }
  | _ => none }
def FnQuorumsWrongFalsely : Prop := fnQuorumsRow.holds Try.pinned (OpenSpec.ofChange fnQuorumsWrong)

/- THE SECOND FORM. 'bulk': how many values and letters a reading holds, each counted each time it is reached (what is shared counts as often as it is met; a slice's spare places count too). A statement '..UptoSaid' is the law's where the arguments, and the package variables that the reading takes, are together of bulk at most 1048576: NARROWER than '..Said'. Prove '..Said' where nothing that the law and all that it calls make is longer than what came in: it says more and counts as full. Else prove '..UptoSaid'. A law counts once. -/
mutual
def uptoBulk {H : Type} : DataW H → Nat
  | .lit (.string bytes) => bytes.length + 1
  | .lit _ => 1
  | .nil => 1
  | .ptr d => uptoBulk d + 1
  | .slice elems spare => uptoBulkAll elems + uptoBulkAll spare + 1
  | .agg parts => uptoBulkAll parts + 1
  | .iface _ d => uptoBulk d + 1
  | .map entries => uptoBulkEntries entries + 1
  | .held _ => 1
def uptoBulkAll {H : Type} : List (DataW H) → Nat
  | [] => 0
  | d :: r => uptoBulk d + uptoBulkAll r
def uptoBulkEntries {H : Type} : List (Lit × DataW H) → Nat
  | [] => 0
  | x :: r => uptoBulkEntry x + uptoBulkEntries r
def uptoBulkEntry {H : Type} : Lit × DataW H → Nat
  | (.string bytes, d) => bytes.length + uptoBulk d + 1
  | (_, d) => uptoBulk d + 1
 end
def uptoSmall : (H : Type) → List (DataW H) → Bool := fun _ ds => decide (uptoBulkAll ds ≤ 1048576)
def OpenSpec.upto (s : _root_.Go.ChangeSpec) : _root_.Go.OpenSpec := { _root_.Go.OpenSpec.ofChange s with cond := some uptoSmall }

/-- 'laws.FnConfs', WHERE WHAT IT READS IS OF BULK AT MOST 1048576: true; the input reads as it did. -/
def fnConfsUptoRow : OpenClaim := { program := "ytoemdmjdpikfbaa", sum := "ada3502ca6c53acbc4c87f6ba5fd25c90cfa024e7e80aa584dc976d2b2a1f797", func := "loop.example/g00138/laws.FnConfs", spec := "fnConfs", inPlace := ["slices.overlaps[int]"], unfollowed := true, recurses := true, apart := false, narrowed := true }
def FnConfsUptoSaid : Prop := fnConfsUptoRow.holds Try.pinned (OpenSpec.upto fnConfsSpec)

/-- 'laws.FnExactLearner', WHERE WHAT IT READS IS OF BULK AT MOST 1048576: true; the input reads as it did. -/
def fnExactLearnerUptoRow : OpenClaim := { program := "ytoemdmjdpikfbaa", sum := "ada3502ca6c53acbc4c87f6ba5fd25c90cfa024e7e80aa584dc976d2b2a1f797", func := "loop.example/g00138/laws.FnExactLearner", spec := "fnExactLearner", inPlace := ["slices.overlaps[int]"], unfollowed := true, recurses := true, apart := false, narrowed := true }
def FnExactLearnerUptoSaid : Prop := fnExactLearnerUptoRow.holds Try.pinned (OpenSpec.upto fnExactLearnerSpec)

/-- 'laws.FnExactVoters', WHERE WHAT IT READS IS OF BULK AT MOST 1048576: true; the input reads as it did. -/
def fnExactVotersUptoRow : OpenClaim := { program := "ytoemdmjdpikfbaa", sum := "ada3502ca6c53acbc4c87f6ba5fd25c90cfa024e7e80aa584dc976d2b2a1f797", func := "loop.example/g00138/laws.FnExactVoters", spec := "fnExactVoters", unfollowed := true, recurses := true, apart := false, narrowed := true }
def FnExactVotersUptoSaid : Prop := fnExactVotersUptoRow.holds Try.pinned (OpenSpec.upto fnExactVotersSpec)

/-- 'laws.FnExactPlayConf', WHERE WHAT IT READS IS OF BULK AT MOST 1048576: true; the input reads as it did. -/
def fnExactPlayConfUptoRow : OpenClaim := { program := "ytoemdmjdpikfbaa", sum := "ada3502ca6c53acbc4c87f6ba5fd25c90cfa024e7e80aa584dc976d2b2a1f797", func := "loop.example/g00138/laws.FnExactPlayConf", spec := "fnExactPlayConf", inPlace := ["slices.overlaps[int]"], unfollowed := true, recurses := true, apart := false, narrowed := true }
def FnExactPlayConfUptoSaid : Prop := fnExactPlayConfUptoRow.holds Try.pinned (OpenSpec.upto fnExactPlayConfSpec)

/-- 'laws.FnCommits', WHERE WHAT IT READS IS OF BULK AT MOST 1048576: true; the input reads as it did. -/
def fnCommitsUptoRow : OpenClaim := { program := "ytoemdmjdpikfbaa", sum := "ada3502ca6c53acbc4c87f6ba5fd25c90cfa024e7e80aa584dc976d2b2a1f797", func := "loop.example/g00138/laws.FnCommits", spec := "fnCommits", unfollowed := true, recurses := true, apart := false, narrowed := true }
def FnCommitsUptoSaid : Prop := fnCommitsUptoRow.holds Try.pinned (OpenSpec.upto fnCommitsSpec)

/-- 'laws.FnQuorums', WHERE WHAT IT READS IS OF BULK AT MOST 1048576: true; the input reads as it did. -/
def fnQuorumsUptoRow : OpenClaim := { program := "ytoemdmjdpikfbaa", sum := "ada3502ca6c53acbc4c87f6ba5fd25c90cfa024e7e80aa584dc976d2b2a1f797", func := "loop.example/g00138/laws.FnQuorums", spec := "fnQuorums", unfollowed := true, recurses := true, apart := false, narrowed := true }
def FnQuorumsUptoSaid : Prop := fnQuorumsUptoRow.holds Try.pinned (OpenSpec.upto fnQuorumsSpec)

end Rows
end Go.Proofs.Ytoemdmjdpikfbaa
