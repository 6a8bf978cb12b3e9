/-
  No cell of these rows narrows 'for every input' (looked for: loops, veiled, ifaces, maps, wideKeys, modest, calm, conditions, laid).
  DERIVED. THE GIVEN ROWS OF THIS SEAT. 6 by the template 'for every input the law returns true; each argument reads behind the call as it read before'; 0 by the template 'total and deterministic' (their statements: YtogknojocodhgaaTotals.lean).
  GIVEN WITH THE SEED: the statements are not yours to turn. If you find one false, say at which input.
  Laid BY PROGRAM, IN A SANDBOX (cutbox-rows.mjs): the forced cells as the released guide's own fill.sh prints them over the translation 523535f34ace0ece… (all of the seat's roots in one cut). By AI agents, Wed Nov 11 2026. No macro, syntax, notation, axiom, sorry.
-/
import Derived.Test.YtogknojocodhgaaChecked
import GoSem.Claim
import GoSem.ClaimJoined
import GoSem.ClaimMapViews
import Derived.JoinedTies
import Derived.KernelRfl
namespace Go.Proofs.Ytogknojocodhgaa
/- THE CELL 'sum', in the pinned program and in every row, IS THE sha256 OF THE DUMP (.gsa) THAT YtogknojocodhgaaProg.lean LOADS. Nothing in Lean hashes anything: it is a label: what it is worth is what the hold of that sum in a sandbox is worth. -/
noncomputable def Try.pinned : Pinned := { name := "ytogknojocodhgaa", sum := "523535f34ace0ece9c51ea1b94b8174f8a2fe18d696dbf3f3181aeda3149ba21", checked := Try.checked }
namespace Rows
def none {H : Type} : Left H := { results := [], args := [] }

/-- 'assessorlaw11.ValueNext': WHATEVER THE INPUT: true; the input reads as it did. -/
def valueNextSpec : ChangeSpec := { name := "valueNext", fn := fun _ => fun
  | [d1, d2, d3] => { results := [.lit (.bool true)], args := [d1, d2, d3] }
  | _ => none }
def valueNextRow : OpenClaim := { program := "ytogknojocodhgaa", sum := "523535f34ace0ece9c51ea1b94b8174f8a2fe18d696dbf3f3181aeda3149ba21", func := "assessor/assessorlaw11.ValueNext", spec := "valueNext", inPlace := ["internal/bytealg.IndexByteString", "internal/bytealg.IndexString", "internal/abi.NoEscape", "internal/bytealg.MakeNoZero"], unfollowed := true, recurses := true, named := ["internal/bytealg.MaxLen"], apart := false }
def ValueNextSaid : Prop := valueNextRow.holds Try.pinned (OpenSpec.ofChange valueNextSpec)

/-- ITS FALSE NEIGHBOUR: 'it returns false'. Refute it at one input. -/
def valueNextWrong : ChangeSpec := { name := "valueNext", fn := fun _ => fun
  | [d1, d2, d3] => { results := [.lit (.bool false)], args := [d1, d2, d3] }
  | _ => none }
def ValueNextWrongFalsely : Prop := valueNextRow.holds Try.pinned (OpenSpec.ofChange valueNextWrong)

/-- 'assessorlaw11.ValueDivides': WHATEVER THE INPUT: true; the input reads as it did. -/
def valueDividesSpec : ChangeSpec := { name := "valueDivides", fn := fun _ => fun
  | [d1, d2, d3] => { results := [.lit (.bool true)], args := [d1, d2, d3] }
  | _ => none }
def valueDividesRow : OpenClaim := { program := "ytogknojocodhgaa", sum := "523535f34ace0ece9c51ea1b94b8174f8a2fe18d696dbf3f3181aeda3149ba21", func := "assessor/assessorlaw11.ValueDivides", spec := "valueDivides", inPlace := ["internal/bytealg.IndexByteString", "internal/bytealg.IndexString", "internal/abi.NoEscape", "internal/bytealg.MakeNoZero"], unfollowed := true, recurses := true, named := ["internal/bytealg.MaxLen"], apart := false }
def ValueDividesSaid : Prop := valueDividesRow.holds Try.pinned (OpenSpec.ofChange valueDividesSpec)

/-- ITS FALSE NEIGHBOUR: 'it returns false'. Refute it at one input. -/
def valueDividesWrong : ChangeSpec := { name := "valueDivides", fn := fun _ => fun
  | [d1, d2, d3] => { results := [.lit (.bool false)], args := [d1, d2, d3] }
  | _ => none }
def ValueDividesWrongFalsely : Prop := valueDividesRow.holds Try.pinned (OpenSpec.ofChange valueDividesWrong)

/-- 'assessorlaw11.ValueOperators': WHATEVER THE INPUT: true; the input reads as it did. -/
def valueOperatorsSpec : ChangeSpec := { name := "valueOperators", fn := fun _ => fun
  | [d1, d2, d3, d4] => { results := [.lit (.bool true)], args := [d1, d2, d3, d4] }
  | _ => none }
def valueOperatorsRow : OpenClaim := { program := "ytogknojocodhgaa", sum := "523535f34ace0ece9c51ea1b94b8174f8a2fe18d696dbf3f3181aeda3149ba21", func := "assessor/assessorlaw11.ValueOperators", spec := "valueOperators", inPlace := ["internal/bytealg.IndexByteString", "internal/bytealg.IndexString", "internal/abi.NoEscape", "internal/bytealg.MakeNoZero"], unfollowed := true, recurses := true, named := ["internal/bytealg.MaxLen"], apart := false }
def ValueOperatorsSaid : Prop := valueOperatorsRow.holds Try.pinned (OpenSpec.ofChange valueOperatorsSpec)

/-- ITS FALSE NEIGHBOUR: 'it returns false'. Refute it at one input. -/
def valueOperatorsWrong : ChangeSpec := { name := "valueOperators", fn := fun _ => fun
  | [d1, d2, d3, d4] => { results := [.lit (.bool false)], args := [d1, d2, d3, d4] }
  | _ => none }
def ValueOperatorsWrongFalsely : Prop := valueOperatorsRow.holds Try.pinned (OpenSpec.ofChange valueOperatorsWrong)

/-- 'assessorlaw11.ValueRing': WHATEVER THE INPUT: true; the input reads as it did. -/
def valueRingSpec : ChangeSpec := { name := "valueRing", fn := fun _ => fun
  | [d1, d2, d3] => { results := [.lit (.bool true)], args := [d1, d2, d3] }
  | _ => none }
def valueRingRow : OpenClaim := { program := "ytogknojocodhgaa", sum := "523535f34ace0ece9c51ea1b94b8174f8a2fe18d696dbf3f3181aeda3149ba21", func := "assessor/assessorlaw11.ValueRing", spec := "valueRing", inPlace := ["internal/bytealg.IndexByteString", "internal/bytealg.IndexString", "internal/abi.NoEscape", "internal/bytealg.MakeNoZero"], unfollowed := true, recurses := true, named := ["internal/bytealg.MaxLen"], apart := false }
def ValueRingSaid : Prop := valueRingRow.holds Try.pinned (OpenSpec.ofChange valueRingSpec)

/-- ITS FALSE NEIGHBOUR: 'it returns false'. Refute it at one input. -/
def valueRingWrong : ChangeSpec := { name := "valueRing", fn := fun _ => fun
  | [d1, d2, d3] => { results := [.lit (.bool false)], args := [d1, d2, d3] }
  | _ => none }
def ValueRingWrongFalsely : Prop := valueRingRow.holds Try.pinned (OpenSpec.ofChange valueRingWrong)

/-- 'assessorlaw11.ValueCounts': WHATEVER THE INPUT: true; the input reads as it did. -/
def valueCountsSpec : ChangeSpec := { name := "valueCounts", fn := fun _ => fun
  | [d1, d2] => { results := [.lit (.bool true)], args := [d1, d2] }
  | _ => none }
def valueCountsRow : OpenClaim := { program := "ytogknojocodhgaa", sum := "523535f34ace0ece9c51ea1b94b8174f8a2fe18d696dbf3f3181aeda3149ba21", func := "assessor/assessorlaw11.ValueCounts", spec := "valueCounts", inPlace := ["internal/bytealg.IndexByteString", "internal/bytealg.IndexString", "internal/abi.NoEscape", "internal/bytealg.MakeNoZero"], unfollowed := true, recurses := true, named := ["internal/bytealg.MaxLen"], apart := false }
def ValueCountsSaid : Prop := valueCountsRow.holds Try.pinned (OpenSpec.ofChange valueCountsSpec)

/-- ITS FALSE NEIGHBOUR: 'it returns false'. Refute it at one input. -/
def valueCountsWrong : ChangeSpec := { name := "valueCounts", fn := fun _ => fun
  | [d1, d2] => { results := [.lit (.bool false)], args := [d1, d2] }
  | _ => none }
def ValueCountsWrongFalsely : Prop := valueCountsRow.holds Try.pinned (OpenSpec.ofChange valueCountsWrong)

/-- 'assessorlaw11.ValueReads': WHATEVER THE INPUT: true; the input reads as it did. -/
def valueReadsSpec : ChangeSpec := { name := "valueReads", fn := fun _ => fun
  | [d1, d2, d3, d4] => { results := [.lit (.bool true)], args := [d1, d2, d3, d4] }
  | _ => none }
def valueReadsRow : OpenClaim := { program := "ytogknojocodhgaa", sum := "523535f34ace0ece9c51ea1b94b8174f8a2fe18d696dbf3f3181aeda3149ba21", func := "assessor/assessorlaw11.ValueReads", spec := "valueReads", inPlace := ["internal/bytealg.IndexByteString", "internal/bytealg.IndexString", "internal/abi.NoEscape", "internal/bytealg.MakeNoZero"], unfollowed := true, recurses := true, named := ["internal/bytealg.MaxLen"], apart := false }
def ValueReadsSaid : Prop := valueReadsRow.holds Try.pinned (OpenSpec.ofChange valueReadsSpec)

/-- ITS FALSE NEIGHBOUR: 'it returns false'. Refute it at one input. -/
def valueReadsWrong : ChangeSpec := { name := "valueReads", fn := fun _ => fun
  | [d1, d2, d3, d4] => { results := [.lit (.bool false)], args := [d1, d2, d3, d4] }
  | _ => none }
def ValueReadsWrongFalsely : Prop := valueReadsRow.holds Try.pinned (OpenSpec.ofChange valueReadsWrong)

/- THE SECOND FORM. 'bulk': how many values and letters a reading holds, each counted each time it is reached (what is shared counts as often as it is met; a slice's spare places count too). A statement '..UptoSaid' is the law's where the arguments, and the package variables that the reading takes, are together of bulk at most 1048576: NARROWER than '..Said'. Prove '..Said' where nothing that the law and all that it calls make is longer than what came in: it says more and counts as full. Else prove '..UptoSaid'. A law counts once. -/
mutual
def uptoBulk {H : Type} : DataW H → Nat
  | .lit (.string bytes) => bytes.length + 1
  | .lit _ => 1
  | .nil => 1
  | .ptr d => uptoBulk d + 1
  | .slice elems spare => uptoBulkAll elems + uptoBulkAll spare + 1
  | .agg parts => uptoBulkAll parts + 1
  | .iface _ d => uptoBulk d + 1
  | .map entries => uptoBulkEntries entries + 1
  | .held _ => 1
def uptoBulkAll {H : Type} : List (DataW H) → Nat
  | [] => 0
  | d :: r => uptoBulk d + uptoBulkAll r
def uptoBulkEntries {H : Type} : List (Lit × DataW H) → Nat
  | [] => 0
  | x :: r => uptoBulkEntry x + uptoBulkEntries r
def uptoBulkEntry {H : Type} : Lit × DataW H → Nat
  | (.string bytes, d) => bytes.length + uptoBulk d + 1
  | (_, d) => uptoBulk d + 1
 end
def uptoSmall : (H : Type) → List (DataW H) → Bool := fun _ ds => decide (uptoBulkAll ds ≤ 1048576)
def OpenSpec.upto (s : _root_.Go.ChangeSpec) : _root_.Go.OpenSpec := { _root_.Go.OpenSpec.ofChange s with cond := some uptoSmall }

/-- 'assessorlaw11.ValueNext', WHERE WHAT IT READS IS OF BULK AT MOST 1048576: true; the input reads as it did. -/
def valueNextUptoRow : OpenClaim := { program := "ytogknojocodhgaa", sum := "523535f34ace0ece9c51ea1b94b8174f8a2fe18d696dbf3f3181aeda3149ba21", func := "assessor/assessorlaw11.ValueNext", spec := "valueNext", inPlace := ["internal/bytealg.IndexByteString", "internal/bytealg.IndexString", "internal/abi.NoEscape", "internal/bytealg.MakeNoZero"], unfollowed := true, recurses := true, named := ["internal/bytealg.MaxLen"], apart := false, narrowed := true }
def ValueNextUptoSaid : Prop := valueNextUptoRow.holds Try.pinned (OpenSpec.upto valueNextSpec)

/-- 'assessorlaw11.ValueDivides', WHERE WHAT IT READS IS OF BULK AT MOST 1048576: true; the input reads as it did. -/
def valueDividesUptoRow : OpenClaim := { program := "ytogknojocodhgaa", sum := "523535f34ace0ece9c51ea1b94b8174f8a2fe18d696dbf3f3181aeda3149ba21", func := "assessor/assessorlaw11.ValueDivides", spec := "valueDivides", inPlace := ["internal/bytealg.IndexByteString", "internal/bytealg.IndexString", "internal/abi.NoEscape", "internal/bytealg.MakeNoZero"], unfollowed := true, recurses := true, named := ["internal/bytealg.MaxLen"], apart := false, narrowed := true }
def ValueDividesUptoSaid : Prop := valueDividesUptoRow.holds Try.pinned (OpenSpec.upto valueDividesSpec)

/-- 'assessorlaw11.ValueOperators', WHERE WHAT IT READS IS OF BULK AT MOST 1048576: true; the input reads as it did. -/
def valueOperatorsUptoRow : OpenClaim := { program := "ytogknojocodhgaa", sum := "523535f34ace0ece9c51ea1b94b8174f8a2fe18d696dbf3f3181aeda3149ba21", func := "assessor/assessorlaw11.ValueOperators", spec := "valueOperators", inPlace := ["internal/bytealg.IndexByteString", "internal/bytealg.IndexString", "internal/abi.NoEscape", "internal/bytealg.MakeNoZero"], unfollowed := true, recurses := true, named := ["internal/bytealg.MaxLen"], apart := false, narrowed := true }
def ValueOperatorsUptoSaid : Prop := valueOperatorsUptoRow.holds Try.pinned (OpenSpec.upto valueOperatorsSpec)

/-- 'assessorlaw11.ValueRing', WHERE WHAT IT READS IS OF BULK AT MOST 1048576: true; the input reads as it did. -/
def valueRingUptoRow : OpenClaim := { program := "ytogknojocodhgaa", sum := "523535f34ace0ece9c51ea1b94b8174f8a2fe18d696dbf3f3181aeda3149ba21", func := "assessor/assessorlaw11.ValueRing", spec := "valueRing", inPlace := ["internal/bytealg.IndexByteString", "internal/bytealg.IndexString", "internal/abi.NoEscape", "internal/bytealg.MakeNoZero"], unfollowed := true, recurses := true, named := ["internal/bytealg.MaxLen"], apart := false, narrowed := true }
def ValueRingUptoSaid : Prop := valueRingUptoRow.holds Try.pinned (OpenSpec.upto valueRingSpec)

/-- 'assessorlaw11.ValueCounts', WHERE WHAT IT READS IS OF BULK AT MOST 1048576: true; the input reads as it did. -/
def valueCountsUptoRow : OpenClaim := { program := "ytogknojocodhgaa", sum := "523535f34ace0ece9c51ea1b94b8174f8a2fe18d696dbf3f3181aeda3149ba21", func := "assessor/assessorlaw11.ValueCounts", spec := "valueCounts", inPlace := ["internal/bytealg.IndexByteString", "internal/bytealg.IndexString", "internal/abi.NoEscape", "internal/bytealg.MakeNoZero"], unfollowed := true, recurses := true, named := ["internal/bytealg.MaxLen"], apart := false, narrowed := true }
def ValueCountsUptoSaid : Prop := valueCountsUptoRow.holds Try.pinned (OpenSpec.upto valueCountsSpec)

/-- 'assessorlaw11.ValueReads', WHERE WHAT IT READS IS OF BULK AT MOST 1048576: true; the input reads as it did. -/
def valueReadsUptoRow : OpenClaim := { program := "ytogknojocodhgaa", sum := "523535f34ace0ece9c51ea1b94b8174f8a2fe18d696dbf3f3181aeda3149ba21", func := "assessor/assessorlaw11.ValueReads", spec := "valueReads", inPlace := ["internal/bytealg.IndexByteString", "internal/bytealg.IndexString", "internal/abi.NoEscape", "internal/bytealg.MakeNoZero"], unfollowed := true, recurses := true, named := ["internal/bytealg.MaxLen"], apart := false, narrowed := true }
def ValueReadsUptoSaid : Prop := valueReadsUptoRow.holds Try.pinned (OpenSpec.upto valueReadsSpec)

end Rows
end Go.Proofs.Ytogknojocodhgaa
