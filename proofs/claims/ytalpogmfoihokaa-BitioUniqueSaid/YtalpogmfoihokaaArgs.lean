/- What the statements' arguments read as: slices of bytes, of numbers, of calls of Put. -/
import Derived.Test.YtalpogmfoihokaaLaw
import Derived.ProofKit
import Derived.OpenShut
import Derived.Deep.SlicePairs
namespace Go.Proofs.Ytalpogmfoihokaa
open Go.RowKit Go.ChangeShapes Go.WideShapes Go.ChangeAt

theorem spot_none {P : Program} {w : World} {base : Nat} {t e : TypeId} {a : Addr} {len cap : Nat} (ht : P.underlying t = some (.slice e)) (h : Value.okWide P w .any base t (.slice (some a) len cap)) : a.spot = none := by
  simp only [Value.okWide, Cell.okWide, Cell.ok, ht] at h
  exact h.2.2.2.1

theorem kind_of_wf {k : IntKind} {n : Int} (h : (Lit.int k n).wf = true) : k.min ≤ n ∧ n ≤ k.max := by simpa [Lit.wf] using h

section
variable {H : Type} {enc : TypeId × Value → H} {P : Program} {w : World} {base b0 : Nat} {spare : Nat → Bool} {held : Bool} {v : Value} {d : DataW H} {p : List MemPlace}

/-- a slice of whole numbers that came in -/
theorem arg_nums {t e : TypeId} {k : IntKind} (ht : P.underlying t = some (.slice e)) (he : P.underlying e = some (.int k)) (hc : P.cellsOf e = 1) (hv : Value.okWide P w .any b0 t v)
    (h : DataW.Trod enc P w base spare held t v d p) : ∃ l : List Int, Rd w v (l.map (Value.int k)) ∧ ∀ x ∈ l, k.min ≤ x ∧ x ≤ k.max := by
  obtain ⟨A, len, cap, rfl⟩ := okWide_slice ht hv
  obtain ⟨fuel, hf⟩ := h
  rcases open_ints ht he hc hf with ⟨hcs, _⟩ | ⟨x, l, c, zs, hcs, _, hl, hm, hz, _, hcell, hwz⟩
  · simp [Value.cells] at hcs
    obtain ⟨rfl, rfl, rfl⟩ := hcs
    exact ⟨[], .inl ⟨rfl, rfl⟩, by simp⟩
  · simp [Value.cells] at hcs
    obtain ⟨rfl, rfl, rfl⟩ := hcs
    have hs := spot_none ht hv
    obtain ⟨b, off, spot⟩ := x
    simp at hs
    subst hs
    have hz' : len ≤ zs.length := by split at hz <;> omega
    refine ⟨zs.take len, .inr ⟨b, off, cap, by simp [List.length_take, Nat.min_eq_left hz'], by simp; omega, ?_⟩, fun y hy => kind_of_wf (hwz y (List.mem_of_mem_take hy))⟩
    intro j u hj
    rw [List.getElem?_map, List.getElem?_take] at hj
    by_cases hjl : j < len
    · rw [if_pos hjl] at hj
      have h1 := hcell j (by omega)
      rw [addr_add] at h1
      rw [h1]
      rw [List.getElem?_eq_getElem (by omega)] at hj
      simp only [Option.map_some] at hj
      rw [← hj, List.getD_eq_getElem?_getD, List.getElem?_eq_getElem (by omega)]
      rfl
    · rw [if_neg hjl] at hj
      cases hj
end

section
variable {H : Type} {enc : TypeId × Value → H} {w : World} {base b0 : Nat} {spare : Nat → Bool} {held : Bool} {v : Value} {d : DataW H} {p : List MemPlace}
theorem arg_bytes (hv : Value.okWide Try.prog w .any b0 25 v) (h : DataW.Trod enc Try.prog w base spare held 25 v d p) : ∃ l : List Nat, Rd w v (u8s l) ∧ ∀ x ∈ l, x < 256 := by
  obtain ⟨l, h1, h2⟩ := arg_nums Try.underlying25 Try.underlying5 (by kernel_rfl) hv h
  have h3 : ∀ x ∈ l, 0 ≤ x ∧ x ≤ 255 := fun x hx => by
    have := h2 x hx
    simpa [IntKind.min, IntKind.max, IntKind.signed, IntKind.bits] using this
  refine ⟨l.map Int.toNat, ?_, ?_⟩
  · have e : u8s (l.map Int.toNat) = l.map (Value.int .u8) := by
      unfold u8s
      rw [List.map_map]
      apply List.map_congr_left
      intro x hx
      have := (h3 x hx).1
      show Value.int .u8 ((x.toNat : Nat) : Int) = _
      rw [Int.toNat_of_nonneg this]
    rw [e]; exact h1
  · intro x hx
    simp only [List.mem_map] at hx
    obtain ⟨y, hy, rfl⟩ := hx
    have := h3 y hy
    omega

theorem arg_ints (hv : Value.okWide Try.prog w .any b0 46 v) (h : DataW.Trod enc Try.prog w base spare held 46 v d p) : ∃ l : List Int, Rd w v (l.map (Value.int .i64)) ∧ ∀ x ∈ l, -9223372036854775808 ≤ x ∧ x ≤ 9223372036854775807 := by
  obtain ⟨l, h1, h2⟩ := arg_nums Try.underlying46 Try.underlying3 (by kernel_rfl) hv h
  refine ⟨l, h1, fun x hx => ?_⟩
  have := h2 x hx
  simpa [IntKind.min, IntKind.max, IntKind.signed, IntKind.bits] using this

theorem arg_ops (hv : Value.okWide Try.prog w .any b0 22 v) (h : DataW.Trod enc Try.prog w base spare held 22 v d p) : ∃ os, RdO w v os := by
  obtain ⟨A, len, cap, rfl⟩ := okWide_slice Try.underlying22 hv
  obtain ⟨fuel, hf⟩ := h
  rcases Go.Deep.open_slice_pairs Try.underlying22 Try.underlying34 (by kernel_rfl) rfl rfl (by kernel_rfl) (by kernel_rfl) hf with ⟨hcs, _⟩ | ⟨x, l, c, m, n, V0, V1, D0, D1, P0, P1, hcs, _, hl, hm, hmm, _, hcell⟩
  · simp [Value.cells] at hcs
    obtain ⟨rfl, rfl, rfl⟩ := hcs
    exact ⟨[], none, 0, rfl, by simp, by intro i o hi; simp at hi⟩
  · simp [Value.cells] at hcs
    obtain ⟨rfl, rfl, rfl⟩ := hcs
    have hs := spot_none Try.underlying22 hv
    obtain ⟨b, off, spot⟩ := x
    simp at hs
    subst hs
    have hml : len ≤ m := by rw [hmm]; split <;> omega
    have hex : ∀ i, i < len → ∃ o : Int × Int, V0 i = .int .u32 o.1 ∧ V1 i = .int .i64 o.2 ∧ 0 ≤ o.1 ∧ o.1 < 4294967296 := by
      intro i hi
      obtain ⟨_, _, h1, h2⟩ := hcell i (by omega)
      obtain ⟨a, e0, _, wa⟩ := DataW.trod_int Try.underlying32 h1
      obtain ⟨c', e1, _, wc⟩ := DataW.trod_int Try.underlying3 h2
      simp at e0 e1
      have := kind_of_wf wa
      have : 0 ≤ a ∧ a ≤ 4294967295 := by simpa [IntKind.min, IntKind.max, IntKind.signed, IntKind.bits] using this
      exact ⟨(a, c'), e0, e1, this.1, by omega⟩
    let os : List (Int × Int) := (List.range len).map fun i => if h : i < len then (hex i h).choose else (0, 0)
    have hos : os.length = len := by simp [os]
    have hget : ∀ i, i < len → os[i]? = some (if h : i < len then (hex i h).choose else (0, 0)) := by
      intro i hi
      simp only [os]
      rw [List.getElem?_map, List.getElem?_range hi]; rfl
    refine ⟨os, some ⟨b, off, none⟩, cap, by rw [hos], ?_, ?_⟩
    · intro o ho
      simp only [os, List.mem_map, List.mem_range] at ho
      obtain ⟨i, hi, rfl⟩ := ho
      rw [dif_pos hi]
      exact (hex i hi).choose_spec.2.2
    · intro i o hi
      have hil : i < len := by
        rcases Nat.lt_or_ge i len with h | h
        · exact h
        · rw [List.getElem?_eq_none (by rw [hos]; exact h)] at hi; cases hi
      rw [hget i hil, dif_pos hil] at hi
      cases hi
      obtain ⟨h1, h2, _, _⟩ := hcell i (by omega)
      have hsp := (hex i hil).choose_spec
      rw [addr_add] at h1 h2
      rw [hsp.1] at h1
      rw [hsp.2.1] at h2
      exact ⟨b, off, rfl, h1, by rw [Nat.add_assoc]; exact h2⟩
end
end Go.Proofs.Ytalpogmfoihokaa
