/- What the statements' arguments read as: slices of bytes, as whole numbers. -/
import Derived.Test.YtjclncmpfdfkfaaArgI
namespace Go.Proofs.Ytjclncmpfdfkfaa
open Go.RowKit Go.ChangeShapes Go.WideShapes Go.ChangeAt
section
variable {H : Type} {enc : TypeId × Value → H} {w : World} {base b0 : Nat} {spare : Nat → Bool} {held : Bool} {v : Value} {d : DataW H} {p : List MemPlace}
theorem arg_bytesI (hv : Value.okWide Try.prog w .any b0 22 v) (h : DataW.Trod enc Try.prog w base spare held 22 v d p) : ∃ l : List Int, Rd w v (l.map (Value.int .u8)) ∧ ∀ x ∈ l, 0 ≤ x ∧ x < 256 := by
  obtain ⟨l, h1, h2⟩ := arg_nums Try.underlying22 Try.underlying5 (by kernel_rfl) hv h
  refine ⟨l, h1, fun x hx => ?_⟩
  have := h2 x hx
  have h3 : 0 ≤ x ∧ x ≤ 255 := by simpa [IntKind.min, IntKind.max, IntKind.signed, IntKind.bits] using this
  omega
end
end Go.Proofs.Ytjclncmpfdfkfaa
