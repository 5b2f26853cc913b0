/- What the statements' arguments read as: slices of whole numbers. -/
import Derived.Test.YtmchfkkifeioeaaArgN
import Derived.Test.YtmchfkkifeioeaaLi
namespace Go.Proofs.Ytmchfkkifeioeaa
open Go.RowKit Go.ChangeShapes Go.WideShapes Go.ChangeAt
section
variable {H : Type} {enc : TypeId × Value → H} {w : World} {base b0 : Nat} {spare : Nat → Bool} {held : Bool} {v : Value} {d : DataW H} {p : List MemPlace}
theorem arg_intsN (hv : Value.okWide Try.prog w .any b0 22 v) (h : DataW.Trod enc Try.prog w base spare held 22 v d p) : ∃ l : List Int, RdK w v l.length (i64s l) ∧ ∀ x ∈ l, -9223372036854775808 ≤ x ∧ x ≤ 9223372036854775807 := by
  obtain ⟨l, h1, h2⟩ := arg_nums Try.underlying22 Try.underlying3 (by kernel_rfl) hv h
  refine ⟨l, ?_, fun x hx => ?_⟩
  · have := rdk_of h1
    rwa [List.length_map] at this
  · have := h2 x hx
    simpa [IntKind.min, IntKind.max, IntKind.signed, IntKind.bits] using this
end
end Go.Proofs.Ytmchfkkifeioeaa
