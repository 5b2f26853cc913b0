/- What the statements' arguments read as: slices of truth values. -/
import Derived.Test.YtkmnnfmdjgpflaaArgN
import Derived.Test.YtkmnnfmdjgpflaaLi
namespace Go.Proofs.Ytkmnnfmdjgpflaa
open Go.RowKit Go.ChangeShapes Go.WideShapes Go.ChangeAt
section
variable {H : Type} {enc : TypeId × Value → H} {w : World} {base b0 : Nat} {spare : Nat → Bool} {held : Bool} {v : Value} {d : DataW H} {p : List MemPlace}
theorem arg_bools (hv : Value.okWide Try.prog w .any b0 44 v) (h : DataW.Trod enc Try.prog w base spare held 44 v d p) : ∃ l : List Bool, RdK w v l.length (bools l) := by
  obtain ⟨A, len, cap, rfl⟩ := okWide_slice Try.underlying44 hv
  obtain ⟨fuel, hf⟩ := h
  rcases Go.Deep.open_slice1 Try.underlying44 (by kernel_rfl) hf with ⟨hcs, _⟩ | ⟨x, l, c, m, n, V, D, Pl, hcs, _, hl, hm, hmm, _, hx⟩
  · simp [Value.cells] at hcs
    obtain ⟨rfl, rfl, rfl⟩ := hcs
    exact ⟨[], .inl ⟨rfl, rfl, rfl⟩⟩
  · simp [Value.cells] at hcs
    obtain ⟨rfl, rfl, rfl⟩ := hcs
    have hs := spot_none Try.underlying44 hv
    obtain ⟨b, off, spot⟩ := x
    simp at hs
    subst hs
    have hlm : len ≤ m := by rw [hmm]; split <;> omega
    have each : ∀ i, i < len → ∃ u : Bool, w.cell? ⟨b, off + i, none⟩ = some (.bool u) := by
      intro i hi
      obtain ⟨h1, h2⟩ := hx i (by omega)
      rw [addr_add] at h1
      obtain ⟨u, e, _⟩ := DataW.trod_bool Try.underlying4 h2
      have e2 : V i = .bool u := by have : [V i] = [Value.bool u] := e; injection this
      exact ⟨u, by rw [h1, e2]⟩
    obtain ⟨f, hfu⟩ := Go.Deep.choose_lt each
    refine ⟨(List.range len).map f, .inr ⟨b, off, cap, by simp, by simp; exact hl, fun j u hj => ?_⟩⟩
    have hj4 : j < len := by have := (List.getElem?_eq_some_iff.1 hj).1; rw [bools_length] at this; simpa using this
    have : (bools ((List.range len).map f))[j]? = some (.bool (f j)) := by simp [bools, List.getElem?_range hj4]
    rw [this] at hj
    injection hj with hj
    rw [← hj]; exact hfu j hj4
end
end Go.Proofs.Ytkmnnfmdjgpflaa
