/-
  No cell of these rows narrows 'for every input' (looked for: loops, veiled, ifaces, maps, wideKeys, modest, calm, conditions, laid).
  DERIVED. THE GIVEN ROWS OF THIS SEAT. 4 by the template 'for every input the law returns true; each argument reads behind the call as it read before'; 0 by the template 'total and deterministic' (their statements: YtmchfkkifeioeaaTotals.lean).
  GIVEN WITH THE SEED: the statements are not yours to turn. If you find one false, say at which input.
  Laid BY PROGRAM, IN A SANDBOX (cutbox-rows.mjs): the forced cells as the released guide's own fill.sh prints them over the translation 0900d2adb8c59998… (all of the seat's roots in one cut). By AI agents, Wed Nov 11 2026. No macro, syntax, notation, axiom, sorry.
-/
import Derived.Test.YtmchfkkifeioeaaChecked
import GoSem.Claim
import GoSem.ClaimJoined
import GoSem.ClaimMapViews
import Derived.JoinedTies
import Derived.KernelRfl
namespace Go.Proofs.Ytmchfkkifeioeaa
/- THE CELL 'sum', in the pinned program and in every row, IS THE sha256 OF THE DUMP (.gsa) THAT YtmchfkkifeioeaaProg.lean LOADS. Nothing in Lean hashes anything: it is a label: what it is worth is what the hold of that sum in a sandbox is worth. -/
noncomputable def Try.pinned : Pinned := { name := "ytmchfkkifeioeaa", sum := "0900d2adb8c599982b82c4ce6f1fded2320e8d883efe97d9c9cbf08f41b651e0", checked := Try.checked }
namespace Rows
def none {H : Type} : Left H := { results := [], args := [] }

/-- 'cutroomlaw09.BlockPuts': WHATEVER THE INPUT: true; the input reads as it did. -/
def blockPutsSpec : ChangeSpec := { name := "blockPuts", fn := fun _ => fun
  | [d1, d2] => { results := [.lit (.bool true)], args := [d1, d2] }
  | _ => none }
def blockPutsRow : OpenClaim := { program := "ytmchfkkifeioeaa", sum := "0900d2adb8c599982b82c4ce6f1fded2320e8d883efe97d9c9cbf08f41b651e0", func := "cutroom/cutroomlaw09.BlockPuts", spec := "blockPuts", unfollowed := true, recurses := true, apart := false }
def BlockPutsSaid : Prop := blockPutsRow.holds Try.pinned (OpenSpec.ofChange blockPutsSpec)

/-- ITS FALSE NEIGHBOUR: 'it returns false'. Refute it at one input. -/
def blockPutsWrong : ChangeSpec := { name := "blockPuts", fn := fun _ => fun
  | [d1, d2] => { results := [.lit (.bool false)], args := [d1, d2] }
  | _ => none }
def BlockPutsWrongFalsely : Prop := blockPutsRow.holds Try.pinned (OpenSpec.ofChange blockPutsWrong)

/-- 'cutroomlaw09.BlockTakes': WHATEVER THE INPUT: true; the input reads as it did. -/
def blockTakesSpec : ChangeSpec := { name := "blockTakes", fn := fun _ => fun
  | [d1, d2] => { results := [.lit (.bool true)], args := [d1, d2] }
  | _ => none }
def blockTakesRow : OpenClaim := { program := "ytmchfkkifeioeaa", sum := "0900d2adb8c599982b82c4ce6f1fded2320e8d883efe97d9c9cbf08f41b651e0", func := "cutroom/cutroomlaw09.BlockTakes", spec := "blockTakes", unfollowed := true, recurses := true, apart := false }
def BlockTakesSaid : Prop := blockTakesRow.holds Try.pinned (OpenSpec.ofChange blockTakesSpec)

/-- ITS FALSE NEIGHBOUR: 'it returns false'. Refute it at one input. -/
def blockTakesWrong : ChangeSpec := { name := "blockTakes", fn := fun _ => fun
  | [d1, d2] => { results := [.lit (.bool false)], args := [d1, d2] }
  | _ => none }
def BlockTakesWrongFalsely : Prop := blockTakesRow.holds Try.pinned (OpenSpec.ofChange blockTakesWrong)

/-- 'cutroomlaw09.BlockBack': WHATEVER THE INPUT: true; the input reads as it did. -/
def blockBackSpec : ChangeSpec := { name := "blockBack", fn := fun _ => fun
  | [d1, d2] => { results := [.lit (.bool true)], args := [d1, d2] }
  | _ => none }
def blockBackRow : OpenClaim := { program := "ytmchfkkifeioeaa", sum := "0900d2adb8c599982b82c4ce6f1fded2320e8d883efe97d9c9cbf08f41b651e0", func := "cutroom/cutroomlaw09.BlockBack", spec := "blockBack", unfollowed := true, recurses := true, apart := false }
def BlockBackSaid : Prop := blockBackRow.holds Try.pinned (OpenSpec.ofChange blockBackSpec)

/-- ITS FALSE NEIGHBOUR: 'it returns false'. Refute it at one input. -/
def blockBackWrong : ChangeSpec := { name := "blockBack", fn := fun _ => fun
  | [d1, d2] => { results := [.lit (.bool false)], args := [d1, d2] }
  | _ => none }
def BlockBackWrongFalsely : Prop := blockBackRow.holds Try.pinned (OpenSpec.ofChange blockBackWrong)

/-- 'cutroomlaw09.BlockUnique': WHATEVER THE INPUT: true; the input reads as it did. -/
def blockUniqueSpec : ChangeSpec := { name := "blockUnique", fn := fun _ => fun
  | [d1, d2] => { results := [.lit (.bool true)], args := [d1, d2] }
  | _ => none }
def blockUniqueRow : OpenClaim := { program := "ytmchfkkifeioeaa", sum := "0900d2adb8c599982b82c4ce6f1fded2320e8d883efe97d9c9cbf08f41b651e0", func := "cutroom/cutroomlaw09.BlockUnique", spec := "blockUnique", unfollowed := true, recurses := true, apart := false }
def BlockUniqueSaid : Prop := blockUniqueRow.holds Try.pinned (OpenSpec.ofChange blockUniqueSpec)

/-- ITS FALSE NEIGHBOUR: 'it returns false'. Refute it at one input. -/
def blockUniqueWrong : ChangeSpec := { name := "blockUnique", fn := fun _ => fun
  | [d1, d2] => { results := [.lit (.bool false)], args := [d1, d2] }
  | _ => none }
def BlockUniqueWrongFalsely : Prop := blockUniqueRow.holds Try.pinned (OpenSpec.ofChange blockUniqueWrong)

/- THE SECOND FORM. 'bulk': how many values and letters a reading holds, each counted each time it is reached (what is shared counts as often as it is met; a slice's spare places count too). A statement '..UptoSaid' is the law's where the arguments, and the package variables that the reading takes, are together of bulk at most 1048576: NARROWER than '..Said'. Prove '..Said' where nothing that the law and all that it calls make is longer than what came in: it says more and counts as full. Else prove '..UptoSaid'. A law counts once. -/
mutual
def uptoBulk {H : Type} : DataW H → Nat
  | .lit (.string bytes) => bytes.length + 1
  | .lit _ => 1
  | .nil => 1
  | .ptr d => uptoBulk d + 1
  | .slice elems spare => uptoBulkAll elems + uptoBulkAll spare + 1
  | .agg parts => uptoBulkAll parts + 1
  | .iface _ d => uptoBulk d + 1
  | .map entries => uptoBulkEntries entries + 1
  | .held _ => 1
def uptoBulkAll {H : Type} : List (DataW H) → Nat
  | [] => 0
  | d :: r => uptoBulk d + uptoBulkAll r
def uptoBulkEntries {H : Type} : List (Lit × DataW H) → Nat
  | [] => 0
  | x :: r => uptoBulkEntry x + uptoBulkEntries r
def uptoBulkEntry {H : Type} : Lit × DataW H → Nat
  | (.string bytes, d) => bytes.length + uptoBulk d + 1
  | (_, d) => uptoBulk d + 1
 end
def uptoSmall : (H : Type) → List (DataW H) → Bool := fun _ ds => decide (uptoBulkAll ds ≤ 1048576)
def OpenSpec.upto (s : _root_.Go.ChangeSpec) : _root_.Go.OpenSpec := { _root_.Go.OpenSpec.ofChange s with cond := some uptoSmall }

/-- 'cutroomlaw09.BlockPuts', WHERE WHAT IT READS IS OF BULK AT MOST 1048576: true; the input reads as it did. -/
def blockPutsUptoRow : OpenClaim := { program := "ytmchfkkifeioeaa", sum := "0900d2adb8c599982b82c4ce6f1fded2320e8d883efe97d9c9cbf08f41b651e0", func := "cutroom/cutroomlaw09.BlockPuts", spec := "blockPuts", unfollowed := true, recurses := true, apart := false, narrowed := true }
def BlockPutsUptoSaid : Prop := blockPutsUptoRow.holds Try.pinned (OpenSpec.upto blockPutsSpec)

/-- 'cutroomlaw09.BlockTakes', WHERE WHAT IT READS IS OF BULK AT MOST 1048576: true; the input reads as it did. -/
def blockTakesUptoRow : OpenClaim := { program := "ytmchfkkifeioeaa", sum := "0900d2adb8c599982b82c4ce6f1fded2320e8d883efe97d9c9cbf08f41b651e0", func := "cutroom/cutroomlaw09.BlockTakes", spec := "blockTakes", unfollowed := true, recurses := true, apart := false, narrowed := true }
def BlockTakesUptoSaid : Prop := blockTakesUptoRow.holds Try.pinned (OpenSpec.upto blockTakesSpec)

/-- 'cutroomlaw09.BlockBack', WHERE WHAT IT READS IS OF BULK AT MOST 1048576: true; the input reads as it did. -/
def blockBackUptoRow : OpenClaim := { program := "ytmchfkkifeioeaa", sum := "0900d2adb8c599982b82c4ce6f1fded2320e8d883efe97d9c9cbf08f41b651e0", func := "cutroom/cutroomlaw09.BlockBack", spec := "blockBack", unfollowed := true, recurses := true, apart := false, narrowed := true }
def BlockBackUptoSaid : Prop := blockBackUptoRow.holds Try.pinned (OpenSpec.upto blockBackSpec)

/-- 'cutroomlaw09.BlockUnique', WHERE WHAT IT READS IS OF BULK AT MOST 1048576: true; the input reads as it did. -/
def blockUniqueUptoRow : OpenClaim := { program := "ytmchfkkifeioeaa", sum := "0900d2adb8c599982b82c4ce6f1fded2320e8d883efe97d9c9cbf08f41b651e0", func := "cutroom/cutroomlaw09.BlockUnique", spec := "blockUnique", unfollowed := true, recurses := true, apart := false, narrowed := true }
def BlockUniqueUptoSaid : Prop := blockUniqueUptoRow.holds Try.pinned (OpenSpec.upto blockUniqueSpec)

end Rows
end Go.Proofs.Ytmchfkkifeioeaa
