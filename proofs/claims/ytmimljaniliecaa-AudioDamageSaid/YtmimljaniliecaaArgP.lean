/- What the statements' arguments read as: slices of slices of samples. -/
import Derived.Test.YtmimljaniliecaaArgN
import Derived.Test.YtmimljaniliecaaAk
import Derived.Deep.Matrix
import Derived.Laws.LoneSync
namespace Go.Proofs.Ytmimljaniliecaa
open Go.RowKit Go.ChangeShapes Go.WideShapes Go.ChangeAt
section
variable {H : Type} {enc : TypeId × Value → H} {w : World} {base b0 : Nat} {held : Bool} {v : Value} {d : DataW H} {p : List MemPlace}
theorem addr_add0 (a : Addr) : a.add 0 = a := by cases a; rfl
theorem arg_pcm (hv : Value.okWide Try.prog w .any b0 28 v) (h : DataW.Trod enc Try.prog w base (fun _ => true) held 28 v d p) : ∃ ls As cs, RdP w v ls As cs ∧ SP ls := by
  obtain ⟨A, len, cap, rfl⟩ := okWide_slice Try.underlying28 hv
  obtain ⟨fuel, hf⟩ := h
  rcases Go.Deep.open_int_rows Try.underlying28 Try.underlying39 Try.underlying45 (by kernel_rfl) (by kernel_rfl) hf with ⟨hcs, _⟩ | ⟨x, l, c, As, Ls, Cs, Z, hcs, _, hl, hm, _, hx⟩
  · simp [Value.cells] at hcs
    obtain ⟨rfl, rfl, rfl⟩ := hcs
    exact ⟨[], fun _ => none, fun _ => 0, ⟨.inl ⟨rfl, rfl, rfl⟩, fun j hj => by simp at hj⟩, fun j hj => by simp at hj⟩
  · simp [Value.cells] at hcs
    obtain ⟨rfl, rfl, rfl⟩ := hcs
    have hs := spot_none Try.underlying28 hv
    obtain ⟨b, off, spot⟩ := x
    simp at hs
    subst hs
    have hget : ∀ j, j < len → ((List.range len).map fun r => (Z r).take (Ls r)).getD j [] = (Z j).take (Ls j) := by
      intro j hj
      simp [List.getD_eq_getElem?_getD, List.getElem?_range hj]
    have hlen : ∀ j, j < len → ((Z j).take (Ls j)).length = Ls j := by
      intro j hj
      obtain ⟨_, h1, _, h2, _⟩ := hx j (by omega)
      rw [List.length_take, h2]; omega
    have hll : ((List.range len).map fun r => (Z r).take (Ls r)).length = len := by simp
    refine ⟨(List.range len).map fun r => (Z r).take (Ls r), As, Cs, ⟨.inr ⟨b, off, cap, by rw [hll], by rw [hll]; exact hl, fun j u hj => ?_⟩, fun j hj h0 => ?_⟩, fun j hj y hy => ?_⟩
    · have hj4 : j < len := by have := (List.getElem?_eq_some_iff.1 hj).1; rw [pvs_length, hll] at this; exact this
      have h1 := pvs_get ((List.range len).map fun r => (Z r).take (Ls r)) As Cs j (by rw [hll]; exact hj4)
      rw [Nat.mul_one, Nat.add_zero, hget j hj4, hlen j hj4] at h1
      rw [h1] at hj
      injection hj with hj
      subst hj
      have := (hx j (by omega)).1
      rw [addr_add] at this
      exact this
    · rw [hll] at hj
      rw [hget j hj] at h0 ⊢
      rw [hlen j hj] at h0 ⊢
      obtain ⟨_, h1, _, h2, _, h4, h5⟩ := hx j (by omega)
      cases e : As j with
      | none => have := h4 e; omega
      | some a' =>
        obtain ⟨_, h6⟩ := h5 a' e
        have h7 := h6 0 (by omega)
        rw [addr_add0] at h7
        obtain ⟨_, _, _, _, hsp⟩ := World.shape?_of_cell? h7
        obtain ⟨b', off', spot'⟩ := a'
        simp at hsp
        subst hsp
        refine .inr ⟨b', off', Cs j, rfl, h1, fun k u hk => ?_⟩
        have hk4 : k < Ls j := by have := (List.getElem?_eq_some_iff.1 hk).1; rw [i16s_length, hlen j hj] at this; exact this
        have h8 := i16s_get ((Z j).take (Ls j)) k (by rw [hlen j hj]; exact hk4)
        rw [Nat.mul_one, Nat.add_zero] at h8
        rw [h8] at hk
        injection hk with hk
        subst hk
        have h9 := h6 k (by omega)
        rw [addr_add] at h9
        rw [h9, List.getD_eq_getElem?_getD, List.getD_eq_getElem?_getD, List.getElem?_take, if_pos hk4]
    · rw [hll] at hj
      rw [hget j hj] at hy
      obtain ⟨_, _, _, _, h3, _⟩ := hx j (by omega)
      have := kind_of_wf (h3 y (List.mem_of_mem_take hy))
      simpa [IntKind.min, IntKind.max, IntKind.signed, IntKind.bits] using this
end
end Go.Proofs.Ytmimljaniliecaa
