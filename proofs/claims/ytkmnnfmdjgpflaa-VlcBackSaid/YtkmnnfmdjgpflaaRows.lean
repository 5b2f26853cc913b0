/-
  No cell of these rows narrows 'for every input' (looked for: loops, veiled, ifaces, maps, wideKeys, modest, calm, conditions, laid).
  DERIVED. THE GIVEN ROWS OF THIS SEAT. 6 by the template 'for every input the law returns true; each argument reads behind the call as it read before'; 0 by the template 'total and deterministic' (their statements: YtkmnnfmdjgpflaaTotals.lean).
  GIVEN WITH THE SEED: the statements are not yours to turn. If you find one false, say at which input.
  Laid BY PROGRAM, IN A SANDBOX (cutbox-rows.mjs): the forced cells as the released guide's own fill.sh prints them over the translation abcc87cfbb91e32f… (all of the seat's roots in one cut). By AI agents, Wed Nov 11 2026. No macro, syntax, notation, axiom, sorry.
-/
import Derived.Test.YtkmnnfmdjgpflaaChecked
import GoSem.Claim
import GoSem.ClaimJoined
import GoSem.ClaimMapViews
import Derived.JoinedTies
import Derived.KernelRfl
namespace Go.Proofs.Ytkmnnfmdjgpflaa
/- THE CELL 'sum', in the pinned program and in every row, IS THE sha256 OF THE DUMP (.gsa) THAT YtkmnnfmdjgpflaaProg.lean LOADS. Nothing in Lean hashes anything: it is a label: what it is worth is what the hold of that sum in a sandbox is worth. -/
noncomputable def Try.pinned : Pinned := { name := "ytkmnnfmdjgpflaa", sum := "abcc87cfbb91e32f0adcc9e047a5d10b76da51add444685aa9867b3ecea9b1b3", checked := Try.checked }
namespace Rows
def none {H : Type} : Left H := { results := [], args := [] }

/-- 'cutroomlaw04.VlcShorter': WHATEVER THE INPUT: true; the input reads as it did. -/
def vlcShorterSpec : ChangeSpec := { name := "vlcShorter", fn := fun _ => fun
  | [d1, d2] => { results := [.lit (.bool true)], args := [d1, d2] }
  | _ => none }
def vlcShorterRow : OpenClaim := { program := "ytkmnnfmdjgpflaa", sum := "abcc87cfbb91e32f0adcc9e047a5d10b76da51add444685aa9867b3ecea9b1b3", func := "cutroom/cutroomlaw04.VlcShorter", spec := "vlcShorter", unfollowed := true, recurses := true, apart := false }
def VlcShorterSaid : Prop := vlcShorterRow.holds Try.pinned (OpenSpec.ofChange vlcShorterSpec)

/-- ITS FALSE NEIGHBOUR: 'it returns false'. Refute it at one input. -/
def vlcShorterWrong : ChangeSpec := { name := "vlcShorter", fn := fun _ => fun
  | [d1, d2] => { results := [.lit (.bool false)], args := [d1, d2] }
  | _ => none }
def VlcShorterWrongFalsely : Prop := vlcShorterRow.holds Try.pinned (OpenSpec.ofChange vlcShorterWrong)

/-- 'cutroomlaw04.VlcUnsigned': WHATEVER THE INPUT: true; the input reads as it did. -/
def vlcUnsignedSpec : ChangeSpec := { name := "vlcUnsigned", fn := fun _ => fun
  | [d] => { results := [.lit (.bool true)], args := [d] }
  | _ => none }
def vlcUnsignedRow : OpenClaim := { program := "ytkmnnfmdjgpflaa", sum := "abcc87cfbb91e32f0adcc9e047a5d10b76da51add444685aa9867b3ecea9b1b3", func := "cutroom/cutroomlaw04.VlcUnsigned", spec := "vlcUnsigned", unfollowed := true, recurses := true, apart := false }
def VlcUnsignedSaid : Prop := vlcUnsignedRow.holds Try.pinned (OpenSpec.ofChange vlcUnsignedSpec)

/-- ITS FALSE NEIGHBOUR: 'it returns false'. Refute it at one input. -/
def vlcUnsignedWrong : ChangeSpec := { name := "vlcUnsigned", fn := fun _ => fun
  | [d] => { results := [.lit (.bool false)], args := [d] }
  | _ => none }
def VlcUnsignedWrongFalsely : Prop := vlcUnsignedRow.holds Try.pinned (OpenSpec.ofChange vlcUnsignedWrong)

/-- 'cutroomlaw04.VlcSigned': WHATEVER THE INPUT: true; the input reads as it did. -/
def vlcSignedSpec : ChangeSpec := { name := "vlcSigned", fn := fun _ => fun
  | [d] => { results := [.lit (.bool true)], args := [d] }
  | _ => none }
def vlcSignedRow : OpenClaim := { program := "ytkmnnfmdjgpflaa", sum := "abcc87cfbb91e32f0adcc9e047a5d10b76da51add444685aa9867b3ecea9b1b3", func := "cutroom/cutroomlaw04.VlcSigned", spec := "vlcSigned", unfollowed := true, recurses := true, apart := false }
def VlcSignedSaid : Prop := vlcSignedRow.holds Try.pinned (OpenSpec.ofChange vlcSignedSpec)

/-- ITS FALSE NEIGHBOUR: 'it returns false'. Refute it at one input. -/
def vlcSignedWrong : ChangeSpec := { name := "vlcSigned", fn := fun _ => fun
  | [d] => { results := [.lit (.bool false)], args := [d] }
  | _ => none }
def VlcSignedWrongFalsely : Prop := vlcSignedRow.holds Try.pinned (OpenSpec.ofChange vlcSignedWrong)

/-- 'cutroomlaw04.VlcPrefix': WHATEVER THE INPUT: true; the input reads as it did. -/
def vlcPrefixSpec : ChangeSpec := { name := "vlcPrefix", fn := fun _ => fun
  | [d1, d2] => { results := [.lit (.bool true)], args := [d1, d2] }
  | _ => none }
def vlcPrefixRow : OpenClaim := { program := "ytkmnnfmdjgpflaa", sum := "abcc87cfbb91e32f0adcc9e047a5d10b76da51add444685aa9867b3ecea9b1b3", func := "cutroom/cutroomlaw04.VlcPrefix", spec := "vlcPrefix", unfollowed := true, recurses := true, apart := false }
def VlcPrefixSaid : Prop := vlcPrefixRow.holds Try.pinned (OpenSpec.ofChange vlcPrefixSpec)

/-- ITS FALSE NEIGHBOUR: 'it returns false'. Refute it at one input. -/
def vlcPrefixWrong : ChangeSpec := { name := "vlcPrefix", fn := fun _ => fun
  | [d1, d2] => { results := [.lit (.bool false)], args := [d1, d2] }
  | _ => none }
def VlcPrefixWrongFalsely : Prop := vlcPrefixRow.holds Try.pinned (OpenSpec.ofChange vlcPrefixWrong)

/-- 'cutroomlaw04.VlcTakes': WHATEVER THE INPUT: true; the input reads as it did. -/
def vlcTakesSpec : ChangeSpec := { name := "vlcTakes", fn := fun _ => fun
  | [d1, d2] => { results := [.lit (.bool true)], args := [d1, d2] }
  | _ => none }
def vlcTakesRow : OpenClaim := { program := "ytkmnnfmdjgpflaa", sum := "abcc87cfbb91e32f0adcc9e047a5d10b76da51add444685aa9867b3ecea9b1b3", func := "cutroom/cutroomlaw04.VlcTakes", spec := "vlcTakes", unfollowed := true, recurses := true, apart := false }
def VlcTakesSaid : Prop := vlcTakesRow.holds Try.pinned (OpenSpec.ofChange vlcTakesSpec)

/-- ITS FALSE NEIGHBOUR: 'it returns false'. Refute it at one input. -/
def vlcTakesWrong : ChangeSpec := { name := "vlcTakes", fn := fun _ => fun
  | [d1, d2] => { results := [.lit (.bool false)], args := [d1, d2] }
  | _ => none }
def VlcTakesWrongFalsely : Prop := vlcTakesRow.holds Try.pinned (OpenSpec.ofChange vlcTakesWrong)

/-- 'cutroomlaw04.VlcBack': WHATEVER THE INPUT: true; the input reads as it did. -/
def vlcBackSpec : ChangeSpec := { name := "vlcBack", fn := fun _ => fun
  | [d] => { results := [.lit (.bool true)], args := [d] }
  | _ => none }
def vlcBackRow : OpenClaim := { program := "ytkmnnfmdjgpflaa", sum := "abcc87cfbb91e32f0adcc9e047a5d10b76da51add444685aa9867b3ecea9b1b3", func := "cutroom/cutroomlaw04.VlcBack", spec := "vlcBack", unfollowed := true, recurses := true, apart := false }
def VlcBackSaid : Prop := vlcBackRow.holds Try.pinned (OpenSpec.ofChange vlcBackSpec)

/-- ITS FALSE NEIGHBOUR: 'it returns false'. Refute it at one input. -/
def vlcBackWrong : ChangeSpec := { name := "vlcBack", fn := fun _ => fun
  | [d] => { results := [.lit (.bool false)], args := [d] }
  | _ => none }
def VlcBackWrongFalsely : Prop := vlcBackRow.holds Try.pinned (OpenSpec.ofChange vlcBackWrong)

/- THE SECOND FORM. 'bulk': how many values and letters a reading holds, each counted each time it is reached (what is shared counts as often as it is met; a slice's spare places count too). A statement '..UptoSaid' is the law's where the arguments, and the package variables that the reading takes, are together of bulk at most 1048576: NARROWER than '..Said'. Prove '..Said' where nothing that the law and all that it calls make is longer than what came in: it says more and counts as full. Else prove '..UptoSaid'. A law counts once. -/
mutual
def uptoBulk {H : Type} : DataW H → Nat
  | .lit (.string bytes) => bytes.length + 1
  | .lit _ => 1
  | .nil => 1
  | .ptr d => uptoBulk d + 1
  | .slice elems spare => uptoBulkAll elems + uptoBulkAll spare + 1
  | .agg parts => uptoBulkAll parts + 1
  | .iface _ d => uptoBulk d + 1
  | .map entries => uptoBulkEntries entries + 1
  | .held _ => 1
def uptoBulkAll {H : Type} : List (DataW H) → Nat
  | [] => 0
  | d :: r => uptoBulk d + uptoBulkAll r
def uptoBulkEntries {H : Type} : List (Lit × DataW H) → Nat
  | [] => 0
  | x :: r => uptoBulkEntry x + uptoBulkEntries r
def uptoBulkEntry {H : Type} : Lit × DataW H → Nat
  | (.string bytes, d) => bytes.length + uptoBulk d + 1
  | (_, d) => uptoBulk d + 1
 end
def uptoSmall : (H : Type) → List (DataW H) → Bool := fun _ ds => decide (uptoBulkAll ds ≤ 1048576)
def OpenSpec.upto (s : _root_.Go.ChangeSpec) : _root_.Go.OpenSpec := { _root_.Go.OpenSpec.ofChange s with cond := some uptoSmall }

/-- 'cutroomlaw04.VlcShorter', WHERE WHAT IT READS IS OF BULK AT MOST 1048576: true; the input reads as it did. -/
def vlcShorterUptoRow : OpenClaim := { program := "ytkmnnfmdjgpflaa", sum := "abcc87cfbb91e32f0adcc9e047a5d10b76da51add444685aa9867b3ecea9b1b3", func := "cutroom/cutroomlaw04.VlcShorter", spec := "vlcShorter", unfollowed := true, recurses := true, apart := false, narrowed := true }
def VlcShorterUptoSaid : Prop := vlcShorterUptoRow.holds Try.pinned (OpenSpec.upto vlcShorterSpec)

/-- 'cutroomlaw04.VlcUnsigned', WHERE WHAT IT READS IS OF BULK AT MOST 1048576: true; the input reads as it did. -/
def vlcUnsignedUptoRow : OpenClaim := { program := "ytkmnnfmdjgpflaa", sum := "abcc87cfbb91e32f0adcc9e047a5d10b76da51add444685aa9867b3ecea9b1b3", func := "cutroom/cutroomlaw04.VlcUnsigned", spec := "vlcUnsigned", unfollowed := true, recurses := true, apart := false, narrowed := true }
def VlcUnsignedUptoSaid : Prop := vlcUnsignedUptoRow.holds Try.pinned (OpenSpec.upto vlcUnsignedSpec)

/-- 'cutroomlaw04.VlcSigned', WHERE WHAT IT READS IS OF BULK AT MOST 1048576: true; the input reads as it did. -/
def vlcSignedUptoRow : OpenClaim := { program := "ytkmnnfmdjgpflaa", sum := "abcc87cfbb91e32f0adcc9e047a5d10b76da51add444685aa9867b3ecea9b1b3", func := "cutroom/cutroomlaw04.VlcSigned", spec := "vlcSigned", unfollowed := true, recurses := true, apart := false, narrowed := true }
def VlcSignedUptoSaid : Prop := vlcSignedUptoRow.holds Try.pinned (OpenSpec.upto vlcSignedSpec)

/-- 'cutroomlaw04.VlcPrefix', WHERE WHAT IT READS IS OF BULK AT MOST 1048576: true; the input reads as it did. -/
def vlcPrefixUptoRow : OpenClaim := { program := "ytkmnnfmdjgpflaa", sum := "abcc87cfbb91e32f0adcc9e047a5d10b76da51add444685aa9867b3ecea9b1b3", func := "cutroom/cutroomlaw04.VlcPrefix", spec := "vlcPrefix", unfollowed := true, recurses := true, apart := false, narrowed := true }
def VlcPrefixUptoSaid : Prop := vlcPrefixUptoRow.holds Try.pinned (OpenSpec.upto vlcPrefixSpec)

/-- 'cutroomlaw04.VlcTakes', WHERE WHAT IT READS IS OF BULK AT MOST 1048576: true; the input reads as it did. -/
def vlcTakesUptoRow : OpenClaim := { program := "ytkmnnfmdjgpflaa", sum := "abcc87cfbb91e32f0adcc9e047a5d10b76da51add444685aa9867b3ecea9b1b3", func := "cutroom/cutroomlaw04.VlcTakes", spec := "vlcTakes", unfollowed := true, recurses := true, apart := false, narrowed := true }
def VlcTakesUptoSaid : Prop := vlcTakesUptoRow.holds Try.pinned (OpenSpec.upto vlcTakesSpec)

/-- 'cutroomlaw04.VlcBack', WHERE WHAT IT READS IS OF BULK AT MOST 1048576: true; the input reads as it did. -/
def vlcBackUptoRow : OpenClaim := { program := "ytkmnnfmdjgpflaa", sum := "abcc87cfbb91e32f0adcc9e047a5d10b76da51add444685aa9867b3ecea9b1b3", func := "cutroom/cutroomlaw04.VlcBack", spec := "vlcBack", unfollowed := true, recurses := true, apart := false, narrowed := true }
def VlcBackUptoSaid : Prop := vlcBackUptoRow.holds Try.pinned (OpenSpec.upto vlcBackSpec)

end Rows
end Go.Proofs.Ytkmnnfmdjgpflaa
