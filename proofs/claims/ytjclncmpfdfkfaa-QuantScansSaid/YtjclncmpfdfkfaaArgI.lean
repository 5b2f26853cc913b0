/- What the statements' arguments read as: slices of whole numbers. -/
import Derived.Test.YtjclncmpfdfkfaaRow
import Derived.Test.YtjclncmpfdfkfaaProg
import Derived.ProofKit
import Derived.OpenShut
namespace Go.Proofs.Ytjclncmpfdfkfaa
open Go.RowKit Go.ChangeShapes Go.WideShapes Go.ChangeAt

theorem spot_none {P : Program} {w : World} {base : Nat} {t e : TypeId} {a : Addr} {len cap : Nat} (ht : P.underlying t = some (.slice e)) (h : Value.okWide P w .any base t (.slice (some a) len cap)) : a.spot = none := by
  simp only [Value.okWide, Cell.okWide, Cell.ok, ht] at h
  exact h.2.2.2.1

theorem kind_of_wf {k : IntKind} {n : Int} (h : (Lit.int k n).wf = true) : k.min ≤ n ∧ n ≤ k.max := by simpa [Lit.wf] using h

section
variable {H : Type} {enc : TypeId × Value → H} {P : Program} {w : World} {base b0 : Nat} {spare : Nat → Bool} {held : Bool} {v : Value} {d : DataW H} {p : List MemPlace}

/-- a slice of whole numbers that came in -/
theorem arg_nums {t e : TypeId} {k : IntKind} (ht : P.underlying t = some (.slice e)) (he : P.underlying e = some (.int k)) (hc : P.cellsOf e = 1) (hv : Value.okWide P w .any b0 t v)
    (h : DataW.Trod enc P w base spare held t v d p) : ∃ l : List Int, Rd w v (l.map (Value.int k)) ∧ ∀ x ∈ l, k.min ≤ x ∧ x ≤ k.max := by
  obtain ⟨A, len, cap, rfl⟩ := okWide_slice ht hv
  obtain ⟨fuel, hf⟩ := h
  rcases open_ints ht he hc hf with ⟨hcs, _⟩ | ⟨x, l, c, zs, hcs, _, hl, hm, hz, _, hcell, hwz⟩
  · simp [Value.cells] at hcs
    obtain ⟨rfl, rfl, rfl⟩ := hcs
    exact ⟨[], .inl ⟨rfl, rfl⟩, by simp⟩
  · simp [Value.cells] at hcs
    obtain ⟨rfl, rfl, rfl⟩ := hcs
    have hs := spot_none ht hv
    obtain ⟨b, off, spot⟩ := x
    simp at hs
    subst hs
    have hz' : len ≤ zs.length := by split at hz <;> omega
    refine ⟨zs.take len, .inr ⟨b, off, cap, by simp [List.length_take, Nat.min_eq_left hz'], by simp; omega, ?_⟩, fun y hy => kind_of_wf (hwz y (List.mem_of_mem_take hy))⟩
    intro j u hj
    rw [List.getElem?_map, List.getElem?_take] at hj
    by_cases hjl : j < len
    · rw [if_pos hjl] at hj
      have h1 := hcell j (by omega)
      rw [addr_add] at h1
      rw [h1]
      rw [List.getElem?_eq_getElem (by omega)] at hj
      simp only [Option.map_some] at hj
      rw [← hj, List.getD_eq_getElem?_getD, List.getElem?_eq_getElem (by omega)]
      rfl
    · rw [if_neg hjl] at hj
      cases hj
end

section
variable {H : Type} {enc : TypeId × Value → H} {w : World} {base b0 : Nat} {spare : Nat → Bool} {held : Bool} {v : Value} {d : DataW H} {p : List MemPlace}
theorem arg_ints (hv : Value.okWide Try.prog w .any b0 29 v) (h : DataW.Trod enc Try.prog w base spare held 29 v d p) : ∃ l : List Int, Rd w v (l.map (Value.int .i64)) ∧ ∀ x ∈ l, -9223372036854775808 ≤ x ∧ x ≤ 9223372036854775807 := by
  obtain ⟨l, h1, h2⟩ := arg_nums Try.underlying29 Try.underlying3 (by kernel_rfl) hv h
  refine ⟨l, h1, fun x hx => ?_⟩
  have := h2 x hx
  simpa [IntKind.min, IntKind.max, IntKind.signed, IntKind.bits] using this

end
end Go.Proofs.Ytjclncmpfdfkfaa
