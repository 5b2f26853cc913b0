/- What the statements' arguments read as: slices of bytes. -/
import Derived.Test.YtmimljaniliecaaObj
import Derived.ProofKit
import Derived.OpenShut
import Derived.Deep.Slices
namespace Go.Proofs.Ytmimljaniliecaa
open Go.RowKit Go.ChangeShapes Go.WideShapes Go.ChangeAt Bt

theorem spot_none {P : Program} {w : World} {base : Nat} {t e : TypeId} {a : Addr} {len cap : Nat} (ht : P.underlying t = some (.slice e)) (h : Value.okWide P w .any base t (.slice (some a) len cap)) : a.spot = none := by
  simp only [Value.okWide, Cell.okWide, Cell.ok, ht] at h
  exact h.2.2.2.1

theorem kind_of_wf {k : IntKind} {n : Int} (h : (Lit.int k n).wf = true) : k.min ≤ n ∧ n ≤ k.max := by simpa [Lit.wf] using h

section
variable {H : Type} {enc : TypeId × Value → H} {P : Program} {w : World} {base b0 : Nat} {spare : Nat → Bool} {held : Bool} {v : Value} {d : DataW H} {p : List MemPlace}

/-- a slice of whole numbers that came in -/
theorem arg_nums {t e : TypeId} {k : IntKind} (ht : P.underlying t = some (.slice e)) (he : P.underlying e = some (.int k)) (hc : P.cellsOf e = 1) (hv : Value.okWide P w .any b0 t v)
    (h : DataW.Trod enc P w base spare held t v d p) : ∃ l : List Int, Rd w v (l.map (Value.int k)) ∧ ∀ x ∈ l, k.min ≤ x ∧ x ≤ k.max := by
  obtain ⟨A, len, cap, rfl⟩ := okWide_slice ht hv
  obtain ⟨fuel, hf⟩ := h
  rcases open_ints ht he hc hf with ⟨hcs, _⟩ | ⟨x, l, c, zs, hcs, _, hl, hm, hz, _, hcell, hwz⟩
  · simp [Value.cells] at hcs
    obtain ⟨rfl, rfl, rfl⟩ := hcs
    exact ⟨[], .inl ⟨rfl, rfl⟩, by simp⟩
  · simp [Value.cells] at hcs
    obtain ⟨rfl, rfl, rfl⟩ := hcs
    have hs := spot_none ht hv
    obtain ⟨b, off, spot⟩ := x
    simp at hs
    subst hs
    have hz' : len ≤ zs.length := by split at hz <;> omega
    refine ⟨zs.take len, .inr ⟨b, off, cap, by simp [List.length_take, Nat.min_eq_left hz'], by simp; omega, ?_⟩, fun y hy => kind_of_wf (hwz y (List.mem_of_mem_take hy))⟩
    intro j u hj
    rw [List.getElem?_map, List.getElem?_take] at hj
    by_cases hjl : j < len
    · rw [if_pos hjl] at hj
      have h1 := hcell j (by omega)
      rw [addr_add] at h1
      rw [h1]
      rw [List.getElem?_eq_getElem (by omega)] at hj
      simp only [Option.map_some] at hj
      rw [← hj, List.getD_eq_getElem?_getD, List.getElem?_eq_getElem (by omega)]
      rfl
    · rw [if_neg hjl] at hj
      cases hj
end

theorem wf_i64 {n : Int} (h : (Lit.int .i64 n).wf = true) : -9223372036854775808 ≤ n ∧ n ≤ 9223372036854775807 := by
  simpa [IntKind.min, IntKind.max, IntKind.signed, IntKind.bits] using kind_of_wf h
theorem rdk_of {w : World} {v : Value} {xs : List Value} (h : Rd w v xs) : RdK w v xs.length xs := by
  rcases h with ⟨rfl, rfl⟩ | ⟨b, off, c, rfl, hc, hx⟩
  · exact .inl ⟨rfl, rfl, rfl⟩
  · exact .inr ⟨b, off, c, rfl, hc, hx⟩
section
variable {H : Type} {enc : TypeId × Value → H} {w : World} {base b0 : Nat} {spare : Nat → Bool} {held : Bool} {v : Value} {d : DataW H} {p : List MemPlace}
theorem arg_bytesN (hv : Value.okWide Try.prog w .any b0 22 v) (h : DataW.Trod enc Try.prog w base spare held 22 v d p) : ∃ l : List Nat, RdK w v l.length (u8s l) ∧ ∀ x ∈ l, x < 256 := by
  obtain ⟨l, h1, h2⟩ := arg_nums Try.underlying22 Try.underlying5 (by kernel_rfl) hv h
  have h3 : ∀ x ∈ l, 0 ≤ x ∧ x ≤ 255 := fun x hx => by
    have := h2 x hx
    simpa [IntKind.min, IntKind.max, IntKind.signed, IntKind.bits] using this
  refine ⟨l.map Int.toNat, ?_, ?_⟩
  · have e : u8s (l.map Int.toNat) = l.map (Value.int .u8) := by
      unfold u8s
      rw [List.map_map]
      apply List.map_congr_left
      intro x hx
      have := (h3 x hx).1
      show Value.int .u8 ((x.toNat : Nat) : Int) = _
      rw [Int.toNat_of_nonneg this]
    rw [e]
    have := rdk_of h1
    rwa [List.length_map] at this ⊢
  · intro x hx
    simp only [List.mem_map] at hx
    obtain ⟨y, hy, rfl⟩ := hx
    have := h3 y hy
    omega
end
end Go.Proofs.Ytmimljaniliecaa
