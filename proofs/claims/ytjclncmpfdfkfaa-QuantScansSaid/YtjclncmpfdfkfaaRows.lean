/-
  No cell of these rows narrows 'for every input' (looked for: loops, veiled, ifaces, maps, wideKeys, modest, calm, conditions, laid).
  DERIVED. THE GIVEN ROWS OF THIS SEAT. 10 by the template 'for every input the law returns true; each argument reads behind the call as it read before'; 0 by the template 'total and deterministic' (their statements: YtjclncmpfdfkfaaTotals.lean).
  GIVEN WITH THE SEED: the statements are not yours to turn. If you find one false, say at which input.
  Laid BY PROGRAM, IN A SANDBOX (cutbox-rows.mjs): the forced cells as the released guide's own fill.sh prints them over the translation 20050d38a9086721… (all of the seat's roots in one cut). By AI agents, Wed Nov 11 2026. No macro, syntax, notation, axiom, sorry.
-/
import Derived.Test.YtjclncmpfdfkfaaChecked
import GoSem.Claim
import GoSem.ClaimJoined
import GoSem.ClaimMapViews
import Derived.JoinedTies
import Derived.KernelRfl
namespace Go.Proofs.Ytjclncmpfdfkfaa
/- THE CELL 'sum', in the pinned program and in every row, IS THE sha256 OF THE DUMP (.gsa) THAT YtjclncmpfdfkfaaProg.lean LOADS. Nothing in Lean hashes anything: it is a label: what it is worth is what the hold of that sum in a sandbox is worth. -/
noncomputable def Try.pinned : Pinned := { name := "ytjclncmpfdfkfaa", sum := "20050d38a908672139ea0790f0115a2b8ec29d917ecaa9d64dbb583c35faa0c7", checked := Try.checked }
namespace Rows
def none {H : Type} : Left H := { results := [], args := [] }

/-- 'cutroomlaw06.QuantSteps': WHATEVER THE INPUT: true; the input reads as it did. -/
def quantStepsSpec : ChangeSpec := { name := "quantSteps", fn := fun _ => fun
  | [d1, d2, d3, d4] => { results := [.lit (.bool true)], args := [d1, d2, d3, d4] }
  | _ => none }
def quantStepsRow : OpenClaim := { program := "ytjclncmpfdfkfaa", sum := "20050d38a908672139ea0790f0115a2b8ec29d917ecaa9d64dbb583c35faa0c7", func := "cutroom/cutroomlaw06.QuantSteps", spec := "quantSteps", apart := false }
def QuantStepsSaid : Prop := quantStepsRow.holds Try.pinned (OpenSpec.ofChange quantStepsSpec)

/-- ITS FALSE NEIGHBOUR: 'it returns false'. Refute it at one input. -/
def quantStepsWrong : ChangeSpec := { name := "quantSteps", fn := fun _ => fun
  | [d1, d2, d3, d4] => { results := [.lit (.bool false)], args := [d1, d2, d3, d4] }
  | _ => none }
def QuantStepsWrongFalsely : Prop := quantStepsRow.holds Try.pinned (OpenSpec.ofChange quantStepsWrong)

/-- 'cutroomlaw06.QuantLevels': WHATEVER THE INPUT: true; the input reads as it did. -/
def quantLevelsSpec : ChangeSpec := { name := "quantLevels", fn := fun _ => fun
  | [d1, d2, d3] => { results := [.lit (.bool true)], args := [d1, d2, d3] }
  | _ => none }
def quantLevelsRow : OpenClaim := { program := "ytjclncmpfdfkfaa", sum := "20050d38a908672139ea0790f0115a2b8ec29d917ecaa9d64dbb583c35faa0c7", func := "cutroom/cutroomlaw06.QuantLevels", spec := "quantLevels", apart := false }
def QuantLevelsSaid : Prop := quantLevelsRow.holds Try.pinned (OpenSpec.ofChange quantLevelsSpec)

/-- ITS FALSE NEIGHBOUR: 'it returns false'. Refute it at one input. -/
def quantLevelsWrong : ChangeSpec := { name := "quantLevels", fn := fun _ => fun
  | [d1, d2, d3] => { results := [.lit (.bool false)], args := [d1, d2, d3] }
  | _ => none }
def QuantLevelsWrongFalsely : Prop := quantLevelsRow.holds Try.pinned (OpenSpec.ofChange quantLevelsWrong)

/-- 'cutroomlaw06.QuantSamples': WHATEVER THE INPUT: true; the input reads as it did. -/
def quantSamplesSpec : ChangeSpec := { name := "quantSamples", fn := fun _ => fun
  | [d1, d2, d3] => { results := [.lit (.bool true)], args := [d1, d2, d3] }
  | _ => none }
def quantSamplesRow : OpenClaim := { program := "ytjclncmpfdfkfaa", sum := "20050d38a908672139ea0790f0115a2b8ec29d917ecaa9d64dbb583c35faa0c7", func := "cutroom/cutroomlaw06.QuantSamples", spec := "quantSamples", apart := false }
def QuantSamplesSaid : Prop := quantSamplesRow.holds Try.pinned (OpenSpec.ofChange quantSamplesSpec)

/-- ITS FALSE NEIGHBOUR: 'it returns false'. Refute it at one input. -/
def quantSamplesWrong : ChangeSpec := { name := "quantSamples", fn := fun _ => fun
  | [d1, d2, d3] => { results := [.lit (.bool false)], args := [d1, d2, d3] }
  | _ => none }
def QuantSamplesWrongFalsely : Prop := quantSamplesRow.holds Try.pinned (OpenSpec.ofChange quantSamplesWrong)

/-- 'cutroomlaw06.QuantValues': WHATEVER THE INPUT: true; the input reads as it did. -/
def quantValuesSpec : ChangeSpec := { name := "quantValues", fn := fun _ => fun
  | [d1, d2, d3] => { results := [.lit (.bool true)], args := [d1, d2, d3] }
  | _ => none }
def quantValuesRow : OpenClaim := { program := "ytjclncmpfdfkfaa", sum := "20050d38a908672139ea0790f0115a2b8ec29d917ecaa9d64dbb583c35faa0c7", func := "cutroom/cutroomlaw06.QuantValues", spec := "quantValues", apart := false }
def QuantValuesSaid : Prop := quantValuesRow.holds Try.pinned (OpenSpec.ofChange quantValuesSpec)

/-- ITS FALSE NEIGHBOUR: 'it returns false'. Refute it at one input. -/
def quantValuesWrong : ChangeSpec := { name := "quantValues", fn := fun _ => fun
  | [d1, d2, d3] => { results := [.lit (.bool false)], args := [d1, d2, d3] }
  | _ => none }
def QuantValuesWrongFalsely : Prop := quantValuesRow.holds Try.pinned (OpenSpec.ofChange quantValuesWrong)

/-- 'cutroomlaw06.QuantBack': WHATEVER THE INPUT: true; the input reads as it did. -/
def quantBackSpec : ChangeSpec := { name := "quantBack", fn := fun _ => fun
  | [d1, d2, d3] => { results := [.lit (.bool true)], args := [d1, d2, d3] }
  | _ => none }
def quantBackRow : OpenClaim := { program := "ytjclncmpfdfkfaa", sum := "20050d38a908672139ea0790f0115a2b8ec29d917ecaa9d64dbb583c35faa0c7", func := "cutroom/cutroomlaw06.QuantBack", spec := "quantBack", apart := false }
def QuantBackSaid : Prop := quantBackRow.holds Try.pinned (OpenSpec.ofChange quantBackSpec)

/-- ITS FALSE NEIGHBOUR: 'it returns false'. Refute it at one input. -/
def quantBackWrong : ChangeSpec := { name := "quantBack", fn := fun _ => fun
  | [d1, d2, d3] => { results := [.lit (.bool false)], args := [d1, d2, d3] }
  | _ => none }
def QuantBackWrongFalsely : Prop := quantBackRow.holds Try.pinned (OpenSpec.ofChange quantBackWrong)

/-- 'cutroomlaw06.QuantNearest': WHATEVER THE INPUT: true; the input reads as it did. -/
def quantNearestSpec : ChangeSpec := { name := "quantNearest", fn := fun _ => fun
  | [d1, d2, d3] => { results := [.lit (.bool true)], args := [d1, d2, d3] }
  | _ => none }
def quantNearestRow : OpenClaim := { program := "ytjclncmpfdfkfaa", sum := "20050d38a908672139ea0790f0115a2b8ec29d917ecaa9d64dbb583c35faa0c7", func := "cutroom/cutroomlaw06.QuantNearest", spec := "quantNearest", apart := false }
def QuantNearestSaid : Prop := quantNearestRow.holds Try.pinned (OpenSpec.ofChange quantNearestSpec)

/-- ITS FALSE NEIGHBOUR: 'it returns false'. Refute it at one input. -/
def quantNearestWrong : ChangeSpec := { name := "quantNearest", fn := fun _ => fun
  | [d1, d2, d3] => { results := [.lit (.bool false)], args := [d1, d2, d3] }
  | _ => none }
def QuantNearestWrongFalsely : Prop := quantNearestRow.holds Try.pinned (OpenSpec.ofChange quantNearestWrong)

/-- 'cutroomlaw06.QuantBounds': WHATEVER THE INPUT: true; the input reads as it did. -/
def quantBoundsSpec : ChangeSpec := { name := "quantBounds", fn := fun _ => fun
  | [d1, d2] => { results := [.lit (.bool true)], args := [d1, d2] }
  | _ => none }
def quantBoundsRow : OpenClaim := { program := "ytjclncmpfdfkfaa", sum := "20050d38a908672139ea0790f0115a2b8ec29d917ecaa9d64dbb583c35faa0c7", func := "cutroom/cutroomlaw06.QuantBounds", spec := "quantBounds", apart := false }
def QuantBoundsSaid : Prop := quantBoundsRow.holds Try.pinned (OpenSpec.ofChange quantBoundsSpec)

/-- ITS FALSE NEIGHBOUR: 'it returns false'. Refute it at one input. -/
def quantBoundsWrong : ChangeSpec := { name := "quantBounds", fn := fun _ => fun
  | [d1, d2] => { results := [.lit (.bool false)], args := [d1, d2] }
  | _ => none }
def QuantBoundsWrongFalsely : Prop := quantBoundsRow.holds Try.pinned (OpenSpec.ofChange quantBoundsWrong)

/-- 'cutroomlaw06.QuantCoarser': WHATEVER THE INPUT: true; the input reads as it did. -/
def quantCoarserSpec : ChangeSpec := { name := "quantCoarser", fn := fun _ => fun
  | [d1, d2, d3, d4] => { results := [.lit (.bool true)], args := [d1, d2, d3, d4] }
  | _ => none }
def quantCoarserRow : OpenClaim := { program := "ytjclncmpfdfkfaa", sum := "20050d38a908672139ea0790f0115a2b8ec29d917ecaa9d64dbb583c35faa0c7", func := "cutroom/cutroomlaw06.QuantCoarser", spec := "quantCoarser", apart := false }
def QuantCoarserSaid : Prop := quantCoarserRow.holds Try.pinned (OpenSpec.ofChange quantCoarserSpec)

/-- ITS FALSE NEIGHBOUR: 'it returns false'. Refute it at one input. -/
def quantCoarserWrong : ChangeSpec := { name := "quantCoarser", fn := fun _ => fun
  | [d1, d2, d3, d4] => { results := [.lit (.bool false)], args := [d1, d2, d3, d4] }
  | _ => none }
def QuantCoarserWrongFalsely : Prop := quantCoarserRow.holds Try.pinned (OpenSpec.ofChange quantCoarserWrong)

/-- 'cutroomlaw06.QuantError': WHATEVER THE INPUT: true; the input reads as it did. -/
def quantErrorSpec : ChangeSpec := { name := "quantError", fn := fun _ => fun
  | [d1, d2, d3] => { results := [.lit (.bool true)], args := [d1, d2, d3] }
  | _ => none }
def quantErrorRow : OpenClaim := { program := "ytjclncmpfdfkfaa", sum := "20050d38a908672139ea0790f0115a2b8ec29d917ecaa9d64dbb583c35faa0c7", func := "cutroom/cutroomlaw06.QuantError", spec := "quantError", apart := false }
def QuantErrorSaid : Prop := quantErrorRow.holds Try.pinned (OpenSpec.ofChange quantErrorSpec)

/-- ITS FALSE NEIGHBOUR: 'it returns false'. Refute it at one input. -/
def quantErrorWrong : ChangeSpec := { name := "quantError", fn := fun _ => fun
  | [d1, d2, d3] => { results := [.lit (.bool false)], args := [d1, d2, d3] }
  | _ => none }
def QuantErrorWrongFalsely : Prop := quantErrorRow.holds Try.pinned (OpenSpec.ofChange quantErrorWrong)

/-- 'cutroomlaw06.QuantScans': WHATEVER THE INPUT: true; the input reads as it did. -/
def quantScansSpec : ChangeSpec := { name := "quantScans", fn := fun _ => fun
  | [d] => { results := [.lit (.bool true)], args := [d] }
  | _ => none }
def quantScansRow : OpenClaim := { program := "ytjclncmpfdfkfaa", sum := "20050d38a908672139ea0790f0115a2b8ec29d917ecaa9d64dbb583c35faa0c7", func := "cutroom/cutroomlaw06.QuantScans", spec := "quantScans", unfollowed := true, recurses := true, apart := false }
def QuantScansSaid : Prop := quantScansRow.holds Try.pinned (OpenSpec.ofChange quantScansSpec)

/-- ITS FALSE NEIGHBOUR: 'it returns false'. Refute it at one input. -/
def quantScansWrong : ChangeSpec := { name := "quantScans", fn := fun _ => fun
  | [d] => { results := [.lit (.bool false)], args := [d] }
  | _ => none }
def QuantScansWrongFalsely : Prop := quantScansRow.holds Try.pinned (OpenSpec.ofChange quantScansWrong)

/- THE SECOND FORM. 'bulk': how many values and letters a reading holds, each counted each time it is reached (what is shared counts as often as it is met; a slice's spare places count too). A statement '..UptoSaid' is the law's where the arguments, and the package variables that the reading takes, are together of bulk at most 1048576: NARROWER than '..Said'. Prove '..Said' where nothing that the law and all that it calls make is longer than what came in: it says more and counts as full. Else prove '..UptoSaid'. A law counts once. -/
mutual
def uptoBulk {H : Type} : DataW H → Nat
  | .lit (.string bytes) => bytes.length + 1
  | .lit _ => 1
  | .nil => 1
  | .ptr d => uptoBulk d + 1
  | .slice elems spare => uptoBulkAll elems + uptoBulkAll spare + 1
  | .agg parts => uptoBulkAll parts + 1
  | .iface _ d => uptoBulk d + 1
  | .map entries => uptoBulkEntries entries + 1
  | .held _ => 1
def uptoBulkAll {H : Type} : List (DataW H) → Nat
  | [] => 0
  | d :: r => uptoBulk d + uptoBulkAll r
def uptoBulkEntries {H : Type} : List (Lit × DataW H) → Nat
  | [] => 0
  | x :: r => uptoBulkEntry x + uptoBulkEntries r
def uptoBulkEntry {H : Type} : Lit × DataW H → Nat
  | (.string bytes, d) => bytes.length + uptoBulk d + 1
  | (_, d) => uptoBulk d + 1
 end
def uptoSmall : (H : Type) → List (DataW H) → Bool := fun _ ds => decide (uptoBulkAll ds ≤ 1048576)
def OpenSpec.upto (s : _root_.Go.ChangeSpec) : _root_.Go.OpenSpec := { _root_.Go.OpenSpec.ofChange s with cond := some uptoSmall }

/-- 'cutroomlaw06.QuantSteps', WHERE WHAT IT READS IS OF BULK AT MOST 1048576: true; the input reads as it did. -/
def quantStepsUptoRow : OpenClaim := { program := "ytjclncmpfdfkfaa", sum := "20050d38a908672139ea0790f0115a2b8ec29d917ecaa9d64dbb583c35faa0c7", func := "cutroom/cutroomlaw06.QuantSteps", spec := "quantSteps", apart := false, narrowed := true }
def QuantStepsUptoSaid : Prop := quantStepsUptoRow.holds Try.pinned (OpenSpec.upto quantStepsSpec)

/-- 'cutroomlaw06.QuantLevels', WHERE WHAT IT READS IS OF BULK AT MOST 1048576: true; the input reads as it did. -/
def quantLevelsUptoRow : OpenClaim := { program := "ytjclncmpfdfkfaa", sum := "20050d38a908672139ea0790f0115a2b8ec29d917ecaa9d64dbb583c35faa0c7", func := "cutroom/cutroomlaw06.QuantLevels", spec := "quantLevels", apart := false, narrowed := true }
def QuantLevelsUptoSaid : Prop := quantLevelsUptoRow.holds Try.pinned (OpenSpec.upto quantLevelsSpec)

/-- 'cutroomlaw06.QuantSamples', WHERE WHAT IT READS IS OF BULK AT MOST 1048576: true; the input reads as it did. -/
def quantSamplesUptoRow : OpenClaim := { program := "ytjclncmpfdfkfaa", sum := "20050d38a908672139ea0790f0115a2b8ec29d917ecaa9d64dbb583c35faa0c7", func := "cutroom/cutroomlaw06.QuantSamples", spec := "quantSamples", apart := false, narrowed := true }
def QuantSamplesUptoSaid : Prop := quantSamplesUptoRow.holds Try.pinned (OpenSpec.upto quantSamplesSpec)

/-- 'cutroomlaw06.QuantValues', WHERE WHAT IT READS IS OF BULK AT MOST 1048576: true; the input reads as it did. -/
def quantValuesUptoRow : OpenClaim := { program := "ytjclncmpfdfkfaa", sum := "20050d38a908672139ea0790f0115a2b8ec29d917ecaa9d64dbb583c35faa0c7", func := "cutroom/cutroomlaw06.QuantValues", spec := "quantValues", apart := false, narrowed := true }
def QuantValuesUptoSaid : Prop := quantValuesUptoRow.holds Try.pinned (OpenSpec.upto quantValuesSpec)

/-- 'cutroomlaw06.QuantBack', WHERE WHAT IT READS IS OF BULK AT MOST 1048576: true; the input reads as it did. -/
def quantBackUptoRow : OpenClaim := { program := "ytjclncmpfdfkfaa", sum := "20050d38a908672139ea0790f0115a2b8ec29d917ecaa9d64dbb583c35faa0c7", func := "cutroom/cutroomlaw06.QuantBack", spec := "quantBack", apart := false, narrowed := true }
def QuantBackUptoSaid : Prop := quantBackUptoRow.holds Try.pinned (OpenSpec.upto quantBackSpec)

/-- 'cutroomlaw06.QuantNearest', WHERE WHAT IT READS IS OF BULK AT MOST 1048576: true; the input reads as it did. -/
def quantNearestUptoRow : OpenClaim := { program := "ytjclncmpfdfkfaa", sum := "20050d38a908672139ea0790f0115a2b8ec29d917ecaa9d64dbb583c35faa0c7", func := "cutroom/cutroomlaw06.QuantNearest", spec := "quantNearest", apart := false, narrowed := true }
def QuantNearestUptoSaid : Prop := quantNearestUptoRow.holds Try.pinned (OpenSpec.upto quantNearestSpec)

/-- 'cutroomlaw06.QuantBounds', WHERE WHAT IT READS IS OF BULK AT MOST 1048576: true; the input reads as it did. -/
def quantBoundsUptoRow : OpenClaim := { program := "ytjclncmpfdfkfaa", sum := "20050d38a908672139ea0790f0115a2b8ec29d917ecaa9d64dbb583c35faa0c7", func := "cutroom/cutroomlaw06.QuantBounds", spec := "quantBounds", apart := false, narrowed := true }
def QuantBoundsUptoSaid : Prop := quantBoundsUptoRow.holds Try.pinned (OpenSpec.upto quantBoundsSpec)

/-- 'cutroomlaw06.QuantCoarser', WHERE WHAT IT READS IS OF BULK AT MOST 1048576: true; the input reads as it did. -/
def quantCoarserUptoRow : OpenClaim := { program := "ytjclncmpfdfkfaa", sum := "20050d38a908672139ea0790f0115a2b8ec29d917ecaa9d64dbb583c35faa0c7", func := "cutroom/cutroomlaw06.QuantCoarser", spec := "quantCoarser", apart := false, narrowed := true }
def QuantCoarserUptoSaid : Prop := quantCoarserUptoRow.holds Try.pinned (OpenSpec.upto quantCoarserSpec)

/-- 'cutroomlaw06.QuantError', WHERE WHAT IT READS IS OF BULK AT MOST 1048576: true; the input reads as it did. -/
def quantErrorUptoRow : OpenClaim := { program := "ytjclncmpfdfkfaa", sum := "20050d38a908672139ea0790f0115a2b8ec29d917ecaa9d64dbb583c35faa0c7", func := "cutroom/cutroomlaw06.QuantError", spec := "quantError", apart := false, narrowed := true }
def QuantErrorUptoSaid : Prop := quantErrorUptoRow.holds Try.pinned (OpenSpec.upto quantErrorSpec)

/-- 'cutroomlaw06.QuantScans', WHERE WHAT IT READS IS OF BULK AT MOST 1048576: true; the input reads as it did. -/
def quantScansUptoRow : OpenClaim := { program := "ytjclncmpfdfkfaa", sum := "20050d38a908672139ea0790f0115a2b8ec29d917ecaa9d64dbb583c35faa0c7", func := "cutroom/cutroomlaw06.QuantScans", spec := "quantScans", unfollowed := true, recurses := true, apart := false, narrowed := true }
def QuantScansUptoSaid : Prop := quantScansUptoRow.holds Try.pinned (OpenSpec.upto quantScansSpec)

end Rows
end Go.Proofs.Ytjclncmpfdfkfaa
