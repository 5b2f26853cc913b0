/-
  No cell of these rows narrows 'for every input' (looked for: loops, veiled, ifaces, maps, wideKeys, modest, calm, conditions, laid).
  DERIVED. THE GIVEN ROWS OF THIS SEAT. 8 by the template 'for every input the law returns true; each argument reads behind the call as it read before'; 0 by the template 'total and deterministic' (their statements: YtolfkaljbgpkhaaTotals.lean).
  GIVEN WITH THE SEED: the statements are not yours to turn. If you find one false, say at which input.
  Laid BY PROGRAM, IN A SANDBOX (cutbox-rows.mjs): the forced cells as the released guide's own fill.sh prints them over the translation 4bb002d9e628f016… (all of the seat's roots in one cut). By AI agents, Wed Nov 11 2026. No macro, syntax, notation, axiom, sorry.
-/
import Derived.Test.YtolfkaljbgpkhaaChecked
import GoSem.Claim
import GoSem.ClaimJoined
import GoSem.ClaimMapViews
import Derived.JoinedTies
import Derived.KernelRfl
namespace Go.Proofs.Ytolfkaljbgpkhaa
/- THE CELL 'sum', in the pinned program and in every row, IS THE sha256 OF THE DUMP (.gsa) THAT YtolfkaljbgpkhaaProg.lean LOADS. Nothing in Lean hashes anything: it is a label: what it is worth is what the hold of that sum in a sandbox is worth. -/
noncomputable def Try.pinned : Pinned := { name := "ytolfkaljbgpkhaa", sum := "4bb002d9e628f0169215fcbf49d39f92f3362d146dfc92c3bbb139591032f704", checked := Try.checked }
namespace Rows
def none {H : Type} : Left H := { results := [], args := [] }

/-- 'cutroomlaw13.VbvParts': WHATEVER THE INPUT: true; the input reads as it did. -/
def vbvPartsSpec : ChangeSpec := { name := "vbvParts", fn := fun _ => fun
  | [d1, d2, d3] => { results := [.lit (.bool true)], args := [d1, d2, d3] }
  | _ => none }
def vbvPartsRow : OpenClaim := { program := "ytolfkaljbgpkhaa", sum := "4bb002d9e628f0169215fcbf49d39f92f3362d146dfc92c3bbb139591032f704", func := "cutroom/cutroomlaw13.VbvParts", spec := "vbvParts", apart := false }
def VbvPartsSaid : Prop := vbvPartsRow.holds Try.pinned (OpenSpec.ofChange vbvPartsSpec)

/-- ITS FALSE NEIGHBOUR: 'it returns false'. Refute it at one input. -/
def vbvPartsWrong : ChangeSpec := { name := "vbvParts", fn := fun _ => fun
  | [d1, d2, d3] => { results := [.lit (.bool false)], args := [d1, d2, d3] }
  | _ => none }
def VbvPartsWrongFalsely : Prop := vbvPartsRow.holds Try.pinned (OpenSpec.ofChange vbvPartsWrong)

/-- 'cutroomlaw13.VbvNeeds': WHATEVER THE INPUT: true; the input reads as it did. -/
def vbvNeedsSpec : ChangeSpec := { name := "vbvNeeds", fn := fun _ => fun
  | [d1, d2, d3] => { results := [.lit (.bool true)], args := [d1, d2, d3] }
  | _ => none }
def vbvNeedsRow : OpenClaim := { program := "ytolfkaljbgpkhaa", sum := "4bb002d9e628f0169215fcbf49d39f92f3362d146dfc92c3bbb139591032f704", func := "cutroom/cutroomlaw13.VbvNeeds", spec := "vbvNeeds", apart := false }
def VbvNeedsSaid : Prop := vbvNeedsRow.holds Try.pinned (OpenSpec.ofChange vbvNeedsSpec)

/-- ITS FALSE NEIGHBOUR: 'it returns false'. Refute it at one input. -/
def vbvNeedsWrong : ChangeSpec := { name := "vbvNeeds", fn := fun _ => fun
  | [d1, d2, d3] => { results := [.lit (.bool false)], args := [d1, d2, d3] }
  | _ => none }
def VbvNeedsWrongFalsely : Prop := vbvNeedsRow.holds Try.pinned (OpenSpec.ofChange vbvNeedsWrong)

/-- 'cutroomlaw13.VbvJoins': WHATEVER THE INPUT: true; the input reads as it did. -/
def vbvJoinsSpec : ChangeSpec := { name := "vbvJoins", fn := fun _ => fun
  | [d1, d2, d3, d4] => { results := [.lit (.bool true)], args := [d1, d2, d3, d4] }
  | _ => none }
def vbvJoinsRow : OpenClaim := { program := "ytolfkaljbgpkhaa", sum := "4bb002d9e628f0169215fcbf49d39f92f3362d146dfc92c3bbb139591032f704", func := "cutroom/cutroomlaw13.VbvJoins", spec := "vbvJoins", apart := false }
def VbvJoinsSaid : Prop := vbvJoinsRow.holds Try.pinned (OpenSpec.ofChange vbvJoinsSpec)

/-- ITS FALSE NEIGHBOUR: 'it returns false'. Refute it at one input. -/
def vbvJoinsWrong : ChangeSpec := { name := "vbvJoins", fn := fun _ => fun
  | [d1, d2, d3, d4] => { results := [.lit (.bool false)], args := [d1, d2, d3, d4] }
  | _ => none }
def VbvJoinsWrongFalsely : Prop := vbvJoinsRow.holds Try.pinned (OpenSpec.ofChange vbvJoinsWrong)

/-- 'cutroomlaw13.VbvPads': WHATEVER THE INPUT: true; the input reads as it did. -/
def vbvPadsSpec : ChangeSpec := { name := "vbvPads", fn := fun _ => fun
  | [d1, d2, d3] => { results := [.lit (.bool true)], args := [d1, d2, d3] }
  | _ => none }
def vbvPadsRow : OpenClaim := { program := "ytolfkaljbgpkhaa", sum := "4bb002d9e628f0169215fcbf49d39f92f3362d146dfc92c3bbb139591032f704", func := "cutroom/cutroomlaw13.VbvPads", spec := "vbvPads", apart := false }
def VbvPadsSaid : Prop := vbvPadsRow.holds Try.pinned (OpenSpec.ofChange vbvPadsSpec)

/-- ITS FALSE NEIGHBOUR: 'it returns false'. Refute it at one input. -/
def vbvPadsWrong : ChangeSpec := { name := "vbvPads", fn := fun _ => fun
  | [d1, d2, d3] => { results := [.lit (.bool false)], args := [d1, d2, d3] }
  | _ => none }
def VbvPadsWrongFalsely : Prop := vbvPadsRow.holds Try.pinned (OpenSpec.ofChange vbvPadsWrong)

/-- 'cutroomlaw13.VbvRuns': WHATEVER THE INPUT: true; the input reads as it did. -/
def vbvRunsSpec : ChangeSpec := { name := "vbvRuns", fn := fun _ => fun
  | [d1, d2, d3] => { results := [.lit (.bool true)], args := [d1, d2, d3] }
  | _ => none }
def vbvRunsRow : OpenClaim := { program := "ytolfkaljbgpkhaa", sum := "4bb002d9e628f0169215fcbf49d39f92f3362d146dfc92c3bbb139591032f704", func := "cutroom/cutroomlaw13.VbvRuns", spec := "vbvRuns", apart := false }
def VbvRunsSaid : Prop := vbvRunsRow.holds Try.pinned (OpenSpec.ofChange vbvRunsSpec)

/-- ITS FALSE NEIGHBOUR: 'it returns false'. Refute it at one input. -/
def vbvRunsWrong : ChangeSpec := { name := "vbvRuns", fn := fun _ => fun
  | [d1, d2, d3] => { results := [.lit (.bool false)], args := [d1, d2, d3] }
  | _ => none }
def VbvRunsWrongFalsely : Prop := vbvRunsRow.holds Try.pinned (OpenSpec.ofChange vbvRunsWrong)

/-- 'cutroomlaw13.VbvLeast': WHATEVER THE INPUT: true; the input reads as it did. -/
def vbvLeastSpec : ChangeSpec := { name := "vbvLeast", fn := fun _ => fun
  | [d1, d2, d3, d4] => { results := [.lit (.bool true)], args := [d1, d2, d3, d4] }
  | _ => none }
def vbvLeastRow : OpenClaim := { program := "ytolfkaljbgpkhaa", sum := "4bb002d9e628f0169215fcbf49d39f92f3362d146dfc92c3bbb139591032f704", func := "cutroom/cutroomlaw13.VbvLeast", spec := "vbvLeast", apart := false }
def VbvLeastSaid : Prop := vbvLeastRow.holds Try.pinned (OpenSpec.ofChange vbvLeastSpec)

/-- ITS FALSE NEIGHBOUR: 'it returns false'. Refute it at one input. -/
def vbvLeastWrong : ChangeSpec := { name := "vbvLeast", fn := fun _ => fun
  | [d1, d2, d3, d4] => { results := [.lit (.bool false)], args := [d1, d2, d3, d4] }
  | _ => none }
def VbvLeastWrongFalsely : Prop := vbvLeastRow.holds Try.pinned (OpenSpec.ofChange vbvLeastWrong)

/-- 'cutroomlaw13.VbvMore': WHATEVER THE INPUT: true; the input reads as it did. -/
def vbvMoreSpec : ChangeSpec := { name := "vbvMore", fn := fun _ => fun
  | [d1, d2, d3, d4] => { results := [.lit (.bool true)], args := [d1, d2, d3, d4] }
  | _ => none }
def vbvMoreRow : OpenClaim := { program := "ytolfkaljbgpkhaa", sum := "4bb002d9e628f0169215fcbf49d39f92f3362d146dfc92c3bbb139591032f704", func := "cutroom/cutroomlaw13.VbvMore", spec := "vbvMore", apart := false }
def VbvMoreSaid : Prop := vbvMoreRow.holds Try.pinned (OpenSpec.ofChange vbvMoreSpec)

/-- ITS FALSE NEIGHBOUR: 'it returns false'. Refute it at one input. -/
def vbvMoreWrong : ChangeSpec := { name := "vbvMore", fn := fun _ => fun
  | [d1, d2, d3, d4] => { results := [.lit (.bool false)], args := [d1, d2, d3, d4] }
  | _ => none }
def VbvMoreWrongFalsely : Prop := vbvMoreRow.holds Try.pinned (OpenSpec.ofChange vbvMoreWrong)

/-- 'cutroomlaw13.VbvSteers': WHATEVER THE INPUT: true; the input reads as it did. -/
def vbvSteersSpec : ChangeSpec := { name := "vbvSteers", fn := fun _ => fun
  | [d1, d2, d3, d4] => { results := [.lit (.bool true)], args := [d1, d2, d3, d4] }
  | _ => none }
def vbvSteersRow : OpenClaim := { program := "ytolfkaljbgpkhaa", sum := "4bb002d9e628f0169215fcbf49d39f92f3362d146dfc92c3bbb139591032f704", func := "cutroom/cutroomlaw13.VbvSteers", spec := "vbvSteers", apart := false }
def VbvSteersSaid : Prop := vbvSteersRow.holds Try.pinned (OpenSpec.ofChange vbvSteersSpec)

/-- ITS FALSE NEIGHBOUR: 'it returns false'. Refute it at one input. -/
def vbvSteersWrong : ChangeSpec := { name := "vbvSteers", fn := fun _ => fun
  | [d1, d2, d3, d4] => { results := [.lit (.bool false)], args := [d1, d2, d3, d4] }
  | _ => none }
def VbvSteersWrongFalsely : Prop := vbvSteersRow.holds Try.pinned (OpenSpec.ofChange vbvSteersWrong)

/- THE SECOND FORM. 'bulk': how many values and letters a reading holds, each counted each time it is reached (what is shared counts as often as it is met; a slice's spare places count too). A statement '..UptoSaid' is the law's where the arguments, and the package variables that the reading takes, are together of bulk at most 1048576: NARROWER than '..Said'. Prove '..Said' where nothing that the law and all that it calls make is longer than what came in: it says more and counts as full. Else prove '..UptoSaid'. A law counts once. -/
mutual
def uptoBulk {H : Type} : DataW H → Nat
  | .lit (.string bytes) => bytes.length + 1
  | .lit _ => 1
  | .nil => 1
  | .ptr d => uptoBulk d + 1
  | .slice elems spare => uptoBulkAll elems + uptoBulkAll spare + 1
  | .agg parts => uptoBulkAll parts + 1
  | .iface _ d => uptoBulk d + 1
  | .map entries => uptoBulkEntries entries + 1
  | .held _ => 1
def uptoBulkAll {H : Type} : List (DataW H) → Nat
  | [] => 0
  | d :: r => uptoBulk d + uptoBulkAll r
def uptoBulkEntries {H : Type} : List (Lit × DataW H) → Nat
  | [] => 0
  | x :: r => uptoBulkEntry x + uptoBulkEntries r
def uptoBulkEntry {H : Type} : Lit × DataW H → Nat
  | (.string bytes, d) => bytes.length + uptoBulk d + 1
  | (_, d) => uptoBulk d + 1
 end
def uptoSmall : (H : Type) → List (DataW H) → Bool := fun _ ds => decide (uptoBulkAll ds ≤ 1048576)
def OpenSpec.upto (s : _root_.Go.ChangeSpec) : _root_.Go.OpenSpec := { _root_.Go.OpenSpec.ofChange s with cond := some uptoSmall }

/-- 'cutroomlaw13.VbvParts', WHERE WHAT IT READS IS OF BULK AT MOST 1048576: true; the input reads as it did. -/
def vbvPartsUptoRow : OpenClaim := { program := "ytolfkaljbgpkhaa", sum := "4bb002d9e628f0169215fcbf49d39f92f3362d146dfc92c3bbb139591032f704", func := "cutroom/cutroomlaw13.VbvParts", spec := "vbvParts", apart := false, narrowed := true }
def VbvPartsUptoSaid : Prop := vbvPartsUptoRow.holds Try.pinned (OpenSpec.upto vbvPartsSpec)

/-- 'cutroomlaw13.VbvNeeds', WHERE WHAT IT READS IS OF BULK AT MOST 1048576: true; the input reads as it did. -/
def vbvNeedsUptoRow : OpenClaim := { program := "ytolfkaljbgpkhaa", sum := "4bb002d9e628f0169215fcbf49d39f92f3362d146dfc92c3bbb139591032f704", func := "cutroom/cutroomlaw13.VbvNeeds", spec := "vbvNeeds", apart := false, narrowed := true }
def VbvNeedsUptoSaid : Prop := vbvNeedsUptoRow.holds Try.pinned (OpenSpec.upto vbvNeedsSpec)

/-- 'cutroomlaw13.VbvJoins', WHERE WHAT IT READS IS OF BULK AT MOST 1048576: true; the input reads as it did. -/
def vbvJoinsUptoRow : OpenClaim := { program := "ytolfkaljbgpkhaa", sum := "4bb002d9e628f0169215fcbf49d39f92f3362d146dfc92c3bbb139591032f704", func := "cutroom/cutroomlaw13.VbvJoins", spec := "vbvJoins", apart := false, narrowed := true }
def VbvJoinsUptoSaid : Prop := vbvJoinsUptoRow.holds Try.pinned (OpenSpec.upto vbvJoinsSpec)

/-- 'cutroomlaw13.VbvPads', WHERE WHAT IT READS IS OF BULK AT MOST 1048576: true; the input reads as it did. -/
def vbvPadsUptoRow : OpenClaim := { program := "ytolfkaljbgpkhaa", sum := "4bb002d9e628f0169215fcbf49d39f92f3362d146dfc92c3bbb139591032f704", func := "cutroom/cutroomlaw13.VbvPads", spec := "vbvPads", apart := false, narrowed := true }
def VbvPadsUptoSaid : Prop := vbvPadsUptoRow.holds Try.pinned (OpenSpec.upto vbvPadsSpec)

/-- 'cutroomlaw13.VbvRuns', WHERE WHAT IT READS IS OF BULK AT MOST 1048576: true; the input reads as it did. -/
def vbvRunsUptoRow : OpenClaim := { program := "ytolfkaljbgpkhaa", sum := "4bb002d9e628f0169215fcbf49d39f92f3362d146dfc92c3bbb139591032f704", func := "cutroom/cutroomlaw13.VbvRuns", spec := "vbvRuns", apart := false, narrowed := true }
def VbvRunsUptoSaid : Prop := vbvRunsUptoRow.holds Try.pinned (OpenSpec.upto vbvRunsSpec)

/-- 'cutroomlaw13.VbvLeast', WHERE WHAT IT READS IS OF BULK AT MOST 1048576: true; the input reads as it did. -/
def vbvLeastUptoRow : OpenClaim := { program := "ytolfkaljbgpkhaa", sum := "4bb002d9e628f0169215fcbf49d39f92f3362d146dfc92c3bbb139591032f704", func := "cutroom/cutroomlaw13.VbvLeast", spec := "vbvLeast", apart := false, narrowed := true }
def VbvLeastUptoSaid : Prop := vbvLeastUptoRow.holds Try.pinned (OpenSpec.upto vbvLeastSpec)

/-- 'cutroomlaw13.VbvMore', WHERE WHAT IT READS IS OF BULK AT MOST 1048576: true; the input reads as it did. -/
def vbvMoreUptoRow : OpenClaim := { program := "ytolfkaljbgpkhaa", sum := "4bb002d9e628f0169215fcbf49d39f92f3362d146dfc92c3bbb139591032f704", func := "cutroom/cutroomlaw13.VbvMore", spec := "vbvMore", apart := false, narrowed := true }
def VbvMoreUptoSaid : Prop := vbvMoreUptoRow.holds Try.pinned (OpenSpec.upto vbvMoreSpec)

/-- 'cutroomlaw13.VbvSteers', WHERE WHAT IT READS IS OF BULK AT MOST 1048576: true; the input reads as it did. -/
def vbvSteersUptoRow : OpenClaim := { program := "ytolfkaljbgpkhaa", sum := "4bb002d9e628f0169215fcbf49d39f92f3362d146dfc92c3bbb139591032f704", func := "cutroom/cutroomlaw13.VbvSteers", spec := "vbvSteers", apart := false, narrowed := true }
def VbvSteersUptoSaid : Prop := vbvSteersUptoRow.holds Try.pinned (OpenSpec.upto vbvSteersSpec)

end Rows
end Go.Proofs.Ytolfkaljbgpkhaa
