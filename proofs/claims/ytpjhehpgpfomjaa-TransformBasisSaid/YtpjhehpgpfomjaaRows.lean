/-
  No cell of these rows narrows 'for every input' (looked for: loops, veiled, ifaces, maps, wideKeys, modest, calm, conditions, laid).
  DERIVED. THE GIVEN ROWS OF THIS SEAT. 9 by the template 'for every input the law returns true; each argument reads behind the call as it read before'; 0 by the template 'total and deterministic' (their statements: YtpjhehpgpfomjaaTotals.lean).
  GIVEN WITH THE SEED: the statements are not yours to turn. If you find one false, say at which input.
  Laid BY PROGRAM, IN A SANDBOX (cutbox-rows.mjs): the forced cells as the released guide's own fill.sh prints them over the translation 7db0c21a689f8660… (all of the seat's roots in one cut). By AI agents, Wed Nov 11 2026. No macro, syntax, notation, axiom, sorry.
-/
import Derived.Test.YtpjhehpgpfomjaaChecked
import GoSem.Claim
import GoSem.ClaimJoined
import GoSem.ClaimMapViews
import Derived.JoinedTies
import Derived.KernelRfl
namespace Go.Proofs.Ytpjhehpgpfomjaa
/- THE CELL 'sum', in the pinned program and in every row, IS THE sha256 OF THE DUMP (.gsa) THAT YtpjhehpgpfomjaaProg.lean LOADS. Nothing in Lean hashes anything: it is a label: what it is worth is what the hold of that sum in a sandbox is worth. -/
noncomputable def Try.pinned : Pinned := { name := "ytpjhehpgpfomjaa", sum := "7db0c21a689f8660942d0d934c7a8ec72a4a3e3c41016013085fcc9037076cdf", checked := Try.checked }
namespace Rows
def none {H : Type} : Left H := { results := [], args := [] }

/-- 'cutroomlaw05.TransformForward': WHATEVER THE INPUT: true; the input reads as it did. -/
def transformForwardSpec : ChangeSpec := { name := "transformForward", fn := fun _ => fun
  | [d] => { results := [.lit (.bool true)], args := [d] }
  | _ => none }
def transformForwardRow : OpenClaim := { program := "ytpjhehpgpfomjaa", sum := "7db0c21a689f8660942d0d934c7a8ec72a4a3e3c41016013085fcc9037076cdf", func := "cutroom/cutroomlaw05.TransformForward", spec := "transformForward", apart := false }
def TransformForwardSaid : Prop := transformForwardRow.holds Try.pinned (OpenSpec.ofChange transformForwardSpec)

/-- ITS FALSE NEIGHBOUR: 'it returns false'. Refute it at one input. -/
def transformForwardWrong : ChangeSpec := { name := "transformForward", fn := fun _ => fun
  | [d] => { results := [.lit (.bool false)], args := [d] }
  | _ => none }
def TransformForwardWrongFalsely : Prop := transformForwardRow.holds Try.pinned (OpenSpec.ofChange transformForwardWrong)

/-- 'cutroomlaw05.TransformInverse': WHATEVER THE INPUT: true; the input reads as it did. -/
def transformInverseSpec : ChangeSpec := { name := "transformInverse", fn := fun _ => fun
  | [d] => { results := [.lit (.bool true)], args := [d] }
  | _ => none }
def transformInverseRow : OpenClaim := { program := "ytpjhehpgpfomjaa", sum := "7db0c21a689f8660942d0d934c7a8ec72a4a3e3c41016013085fcc9037076cdf", func := "cutroom/cutroomlaw05.TransformInverse", spec := "transformInverse", apart := false }
def TransformInverseSaid : Prop := transformInverseRow.holds Try.pinned (OpenSpec.ofChange transformInverseSpec)

/-- ITS FALSE NEIGHBOUR: 'it returns false'. Refute it at one input. -/
def transformInverseWrong : ChangeSpec := { name := "transformInverse", fn := fun _ => fun
  | [d] => { results := [.lit (.bool false)], args := [d] }
  | _ => none }
def TransformInverseWrongFalsely : Prop := transformInverseRow.holds Try.pinned (OpenSpec.ofChange transformInverseWrong)

/-- 'cutroomlaw05.TransformBack': WHATEVER THE INPUT: true; the input reads as it did. -/
def transformBackSpec : ChangeSpec := { name := "transformBack", fn := fun _ => fun
  | [d] => { results := [.lit (.bool true)], args := [d] }
  | _ => none }
def transformBackRow : OpenClaim := { program := "ytpjhehpgpfomjaa", sum := "7db0c21a689f8660942d0d934c7a8ec72a4a3e3c41016013085fcc9037076cdf", func := "cutroom/cutroomlaw05.TransformBack", spec := "transformBack", apart := false }
def TransformBackSaid : Prop := transformBackRow.holds Try.pinned (OpenSpec.ofChange transformBackSpec)

/-- ITS FALSE NEIGHBOUR: 'it returns false'. Refute it at one input. -/
def transformBackWrong : ChangeSpec := { name := "transformBack", fn := fun _ => fun
  | [d] => { results := [.lit (.bool false)], args := [d] }
  | _ => none }
def TransformBackWrongFalsely : Prop := transformBackRow.holds Try.pinned (OpenSpec.ofChange transformBackWrong)

/-- 'cutroomlaw05.TransformLinear': WHATEVER THE INPUT: true; the input reads as it did. -/
def transformLinearSpec : ChangeSpec := { name := "transformLinear", fn := fun _ => fun
  | [d1, d2] => { results := [.lit (.bool true)], args := [d1, d2] }
  | _ => none }
def transformLinearRow : OpenClaim := { program := "ytpjhehpgpfomjaa", sum := "7db0c21a689f8660942d0d934c7a8ec72a4a3e3c41016013085fcc9037076cdf", func := "cutroom/cutroomlaw05.TransformLinear", spec := "transformLinear", apart := false }
def TransformLinearSaid : Prop := transformLinearRow.holds Try.pinned (OpenSpec.ofChange transformLinearSpec)

/-- ITS FALSE NEIGHBOUR: 'it returns false'. Refute it at one input. -/
def transformLinearWrong : ChangeSpec := { name := "transformLinear", fn := fun _ => fun
  | [d1, d2] => { results := [.lit (.bool false)], args := [d1, d2] }
  | _ => none }
def TransformLinearWrongFalsely : Prop := transformLinearRow.holds Try.pinned (OpenSpec.ofChange transformLinearWrong)

/-- 'cutroomlaw05.TransformTranspose': WHATEVER THE INPUT: true; the input reads as it did. -/
def transformTransposeSpec : ChangeSpec := { name := "transformTranspose", fn := fun _ => fun
  | [d] => { results := [.lit (.bool true)], args := [d] }
  | _ => none }
def transformTransposeRow : OpenClaim := { program := "ytpjhehpgpfomjaa", sum := "7db0c21a689f8660942d0d934c7a8ec72a4a3e3c41016013085fcc9037076cdf", func := "cutroom/cutroomlaw05.TransformTranspose", spec := "transformTranspose", apart := false }
def TransformTransposeSaid : Prop := transformTransposeRow.holds Try.pinned (OpenSpec.ofChange transformTransposeSpec)

/-- ITS FALSE NEIGHBOUR: 'it returns false'. Refute it at one input. -/
def transformTransposeWrong : ChangeSpec := { name := "transformTranspose", fn := fun _ => fun
  | [d] => { results := [.lit (.bool false)], args := [d] }
  | _ => none }
def TransformTransposeWrongFalsely : Prop := transformTransposeRow.holds Try.pinned (OpenSpec.ofChange transformTransposeWrong)

/-- 'cutroomlaw05.TransformEnergy': WHATEVER THE INPUT: true; the input reads as it did. -/
def transformEnergySpec : ChangeSpec := { name := "transformEnergy", fn := fun _ => fun
  | [d] => { results := [.lit (.bool true)], args := [d] }
  | _ => none }
def transformEnergyRow : OpenClaim := { program := "ytpjhehpgpfomjaa", sum := "7db0c21a689f8660942d0d934c7a8ec72a4a3e3c41016013085fcc9037076cdf", func := "cutroom/cutroomlaw05.TransformEnergy", spec := "transformEnergy", apart := false }
def TransformEnergySaid : Prop := transformEnergyRow.holds Try.pinned (OpenSpec.ofChange transformEnergySpec)

/-- ITS FALSE NEIGHBOUR: 'it returns false'. Refute it at one input. -/
def transformEnergyWrong : ChangeSpec := { name := "transformEnergy", fn := fun _ => fun
  | [d] => { results := [.lit (.bool false)], args := [d] }
  | _ => none }
def TransformEnergyWrongFalsely : Prop := transformEnergyRow.holds Try.pinned (OpenSpec.ofChange transformEnergyWrong)

/-- 'cutroomlaw05.TransformClamped': WHATEVER THE INPUT: true; the input reads as it did. -/
def transformClampedSpec : ChangeSpec := { name := "transformClamped", fn := fun _ => fun
  | [d] => { results := [.lit (.bool true)], args := [d] }
  | _ => none }
def transformClampedRow : OpenClaim := { program := "ytpjhehpgpfomjaa", sum := "7db0c21a689f8660942d0d934c7a8ec72a4a3e3c41016013085fcc9037076cdf", func := "cutroom/cutroomlaw05.TransformClamped", spec := "transformClamped", apart := false }
def TransformClampedSaid : Prop := transformClampedRow.holds Try.pinned (OpenSpec.ofChange transformClampedSpec)

/-- ITS FALSE NEIGHBOUR: 'it returns false'. Refute it at one input. -/
def transformClampedWrong : ChangeSpec := { name := "transformClamped", fn := fun _ => fun
  | [d] => { results := [.lit (.bool false)], args := [d] }
  | _ => none }
def TransformClampedWrongFalsely : Prop := transformClampedRow.holds Try.pinned (OpenSpec.ofChange transformClampedWrong)

/-- 'cutroomlaw05.TransformNear': WHATEVER THE INPUT: true; the input reads as it did. -/
def transformNearSpec : ChangeSpec := { name := "transformNear", fn := fun _ => fun
  | [d] => { results := [.lit (.bool true)], args := [d] }
  | _ => none }
def transformNearRow : OpenClaim := { program := "ytpjhehpgpfomjaa", sum := "7db0c21a689f8660942d0d934c7a8ec72a4a3e3c41016013085fcc9037076cdf", func := "cutroom/cutroomlaw05.TransformNear", spec := "transformNear", apart := false }
def TransformNearSaid : Prop := transformNearRow.holds Try.pinned (OpenSpec.ofChange transformNearSpec)

/-- ITS FALSE NEIGHBOUR: 'it returns false'. Refute it at one input. -/
def transformNearWrong : ChangeSpec := { name := "transformNear", fn := fun _ => fun
  | [d] => { results := [.lit (.bool false)], args := [d] }
  | _ => none }
def TransformNearWrongFalsely : Prop := transformNearRow.holds Try.pinned (OpenSpec.ofChange transformNearWrong)

/-- 'cutroomlaw05.TransformBasis': WHATEVER THE INPUT: true; the input reads as it did. -/
def transformBasisSpec : ChangeSpec := { name := "transformBasis", fn := fun _ => fun
  | [d1, d2] => { results := [.lit (.bool true)], args := [d1, d2] }
  | _ => none }
def transformBasisRow : OpenClaim := { program := "ytpjhehpgpfomjaa", sum := "7db0c21a689f8660942d0d934c7a8ec72a4a3e3c41016013085fcc9037076cdf", func := "cutroom/cutroomlaw05.TransformBasis", spec := "transformBasis", apart := false }
def TransformBasisSaid : Prop := transformBasisRow.holds Try.pinned (OpenSpec.ofChange transformBasisSpec)

/-- ITS FALSE NEIGHBOUR: 'it returns false'. Refute it at one input. -/
def transformBasisWrong : ChangeSpec := { name := "transformBasis", fn := fun _ => fun
  | [d1, d2] => { results := [.lit (.bool false)], args := [d1, d2] }
  | _ => none }
def TransformBasisWrongFalsely : Prop := transformBasisRow.holds Try.pinned (OpenSpec.ofChange transformBasisWrong)

/- THE SECOND FORM. 'bulk': how many values and letters a reading holds, each counted each time it is reached (what is shared counts as often as it is met; a slice's spare places count too). A statement '..UptoSaid' is the law's where the arguments, and the package variables that the reading takes, are together of bulk at most 1048576: NARROWER than '..Said'. Prove '..Said' where nothing that the law and all that it calls make is longer than what came in: it says more and counts as full. Else prove '..UptoSaid'. A law counts once. -/
mutual
def uptoBulk {H : Type} : DataW H → Nat
  | .lit (.string bytes) => bytes.length + 1
  | .lit _ => 1
  | .nil => 1
  | .ptr d => uptoBulk d + 1
  | .slice elems spare => uptoBulkAll elems + uptoBulkAll spare + 1
  | .agg parts => uptoBulkAll parts + 1
  | .iface _ d => uptoBulk d + 1
  | .map entries => uptoBulkEntries entries + 1
  | .held _ => 1
def uptoBulkAll {H : Type} : List (DataW H) → Nat
  | [] => 0
  | d :: r => uptoBulk d + uptoBulkAll r
def uptoBulkEntries {H : Type} : List (Lit × DataW H) → Nat
  | [] => 0
  | x :: r => uptoBulkEntry x + uptoBulkEntries r
def uptoBulkEntry {H : Type} : Lit × DataW H → Nat
  | (.string bytes, d) => bytes.length + uptoBulk d + 1
  | (_, d) => uptoBulk d + 1
 end
def uptoSmall : (H : Type) → List (DataW H) → Bool := fun _ ds => decide (uptoBulkAll ds ≤ 1048576)
def OpenSpec.upto (s : _root_.Go.ChangeSpec) : _root_.Go.OpenSpec := { _root_.Go.OpenSpec.ofChange s with cond := some uptoSmall }

/-- 'cutroomlaw05.TransformForward', WHERE WHAT IT READS IS OF BULK AT MOST 1048576: true; the input reads as it did. -/
def transformForwardUptoRow : OpenClaim := { program := "ytpjhehpgpfomjaa", sum := "7db0c21a689f8660942d0d934c7a8ec72a4a3e3c41016013085fcc9037076cdf", func := "cutroom/cutroomlaw05.TransformForward", spec := "transformForward", apart := false, narrowed := true }
def TransformForwardUptoSaid : Prop := transformForwardUptoRow.holds Try.pinned (OpenSpec.upto transformForwardSpec)

/-- 'cutroomlaw05.TransformInverse', WHERE WHAT IT READS IS OF BULK AT MOST 1048576: true; the input reads as it did. -/
def transformInverseUptoRow : OpenClaim := { program := "ytpjhehpgpfomjaa", sum := "7db0c21a689f8660942d0d934c7a8ec72a4a3e3c41016013085fcc9037076cdf", func := "cutroom/cutroomlaw05.TransformInverse", spec := "transformInverse", apart := false, narrowed := true }
def TransformInverseUptoSaid : Prop := transformInverseUptoRow.holds Try.pinned (OpenSpec.upto transformInverseSpec)

/-- 'cutroomlaw05.TransformBack', WHERE WHAT IT READS IS OF BULK AT MOST 1048576: true; the input reads as it did. -/
def transformBackUptoRow : OpenClaim := { program := "ytpjhehpgpfomjaa", sum := "7db0c21a689f8660942d0d934c7a8ec72a4a3e3c41016013085fcc9037076cdf", func := "cutroom/cutroomlaw05.TransformBack", spec := "transformBack", apart := false, narrowed := true }
def TransformBackUptoSaid : Prop := transformBackUptoRow.holds Try.pinned (OpenSpec.upto transformBackSpec)

/-- 'cutroomlaw05.TransformLinear', WHERE WHAT IT READS IS OF BULK AT MOST 1048576: true; the input reads as it did. -/
def transformLinearUptoRow : OpenClaim := { program := "ytpjhehpgpfomjaa", sum := "7db0c21a689f8660942d0d934c7a8ec72a4a3e3c41016013085fcc9037076cdf", func := "cutroom/cutroomlaw05.TransformLinear", spec := "transformLinear", apart := false, narrowed := true }
def TransformLinearUptoSaid : Prop := transformLinearUptoRow.holds Try.pinned (OpenSpec.upto transformLinearSpec)

/-- 'cutroomlaw05.TransformTranspose', WHERE WHAT IT READS IS OF BULK AT MOST 1048576: true; the input reads as it did. -/
def transformTransposeUptoRow : OpenClaim := { program := "ytpjhehpgpfomjaa", sum := "7db0c21a689f8660942d0d934c7a8ec72a4a3e3c41016013085fcc9037076cdf", func := "cutroom/cutroomlaw05.TransformTranspose", spec := "transformTranspose", apart := false, narrowed := true }
def TransformTransposeUptoSaid : Prop := transformTransposeUptoRow.holds Try.pinned (OpenSpec.upto transformTransposeSpec)

/-- 'cutroomlaw05.TransformEnergy', WHERE WHAT IT READS IS OF BULK AT MOST 1048576: true; the input reads as it did. -/
def transformEnergyUptoRow : OpenClaim := { program := "ytpjhehpgpfomjaa", sum := "7db0c21a689f8660942d0d934c7a8ec72a4a3e3c41016013085fcc9037076cdf", func := "cutroom/cutroomlaw05.TransformEnergy", spec := "transformEnergy", apart := false, narrowed := true }
def TransformEnergyUptoSaid : Prop := transformEnergyUptoRow.holds Try.pinned (OpenSpec.upto transformEnergySpec)

/-- 'cutroomlaw05.TransformClamped', WHERE WHAT IT READS IS OF BULK AT MOST 1048576: true; the input reads as it did. -/
def transformClampedUptoRow : OpenClaim := { program := "ytpjhehpgpfomjaa", sum := "7db0c21a689f8660942d0d934c7a8ec72a4a3e3c41016013085fcc9037076cdf", func := "cutroom/cutroomlaw05.TransformClamped", spec := "transformClamped", apart := false, narrowed := true }
def TransformClampedUptoSaid : Prop := transformClampedUptoRow.holds Try.pinned (OpenSpec.upto transformClampedSpec)

/-- 'cutroomlaw05.TransformNear', WHERE WHAT IT READS IS OF BULK AT MOST 1048576: true; the input reads as it did. -/
def transformNearUptoRow : OpenClaim := { program := "ytpjhehpgpfomjaa", sum := "7db0c21a689f8660942d0d934c7a8ec72a4a3e3c41016013085fcc9037076cdf", func := "cutroom/cutroomlaw05.TransformNear", spec := "transformNear", apart := false, narrowed := true }
def TransformNearUptoSaid : Prop := transformNearUptoRow.holds Try.pinned (OpenSpec.upto transformNearSpec)

/-- 'cutroomlaw05.TransformBasis', WHERE WHAT IT READS IS OF BULK AT MOST 1048576: true; the input reads as it did. -/
def transformBasisUptoRow : OpenClaim := { program := "ytpjhehpgpfomjaa", sum := "7db0c21a689f8660942d0d934c7a8ec72a4a3e3c41016013085fcc9037076cdf", func := "cutroom/cutroomlaw05.TransformBasis", spec := "transformBasis", apart := false, narrowed := true }
def TransformBasisUptoSaid : Prop := transformBasisUptoRow.holds Try.pinned (OpenSpec.upto transformBasisSpec)

end Rows
end Go.Proofs.Ytpjhehpgpfomjaa
