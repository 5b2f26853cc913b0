/- What the statements' arguments read as: slices of access units. -/
import Derived.Test.YtolfkaljbgpkhaaArgS
import Derived.Test.YtolfkaljbgpkhaaUn
import Derived.Deep.Slices
import Derived.Lib.SmallJoins
namespace Go.Proofs.Ytolfkaljbgpkhaa
open Go.RowKit Go.ChangeShapes Go.WideShapes Go.ChangeAt
section
variable {H : Type} {enc : TypeId × Value → H} {w : World} {base b0 : Nat} {spare : Nat → Bool} {held : Bool} {v : Value} {d : DataW H} {p : List MemPlace}
instance : Inhabited UnitD := ⟨u0⟩
theorem wf_i64 {n : Int} (h : (Lit.int .i64 n).wf = true) : -9223372036854775808 ≤ n ∧ n ≤ 9223372036854775807 := by
  simpa [IntKind.min, IntKind.max, IntKind.signed, IntKind.bits] using kind_of_wf h
theorem one_unit {b off : Nat} {cs' : List Value} {n : Nat} {x : DataW H × List MemPlace} (h1 : w.cells? base (⟨b, off, none⟩ : Addr) 4 = some cs') (h2 : DataW.trod enc Try.prog w base spare held n 68 cs' = some x) :
    ∃ u : UnitD, ((-9223372036854775808 ≤ u.bits ∧ u.bits ≤ 9223372036854775807) ∧ (-9223372036854775808 ≤ u.fields ∧ u.fields ≤ 9223372036854775807)) ∧ ∀ j y, (uv u)[j]? = some y → w.cell? ⟨b, off + j, none⟩ = some y := by
  obtain ⟨_, hlen, hcell⟩ := World.cells?_some h1
  obtain ⟨y0, y1, y2, y3, m, _, _, t0, t1, t2, t3⟩ := Go.Joins.trod_struct4 Try.underlying68 h2
  match cs', hlen with
  | [v0, v1, v2, v3], _ =>
    obtain ⟨n0, e0, _, _⟩ := DataW.trod_int Try.underlying3 t0
    obtain ⟨n1, e1, _, _⟩ := DataW.trod_int Try.underlying3 t1
    obtain ⟨n2, e2, _, w2⟩ := DataW.trod_int Try.underlying2 t2
    obtain ⟨n3, e3, _, w3⟩ := DataW.trod_int Try.underlying3 t3
    obtain rfl : v0 = .int .i64 n0 := by have : [v0] = [.int .i64 n0] := Eq.trans (by kernel_rfl) e0; injection this
    obtain rfl : v1 = .int .i64 n1 := by have : [v1] = [.int .i64 n1] := Eq.trans (by kernel_rfl) e1; injection this
    obtain rfl : v2 = .int .i64 n2 := by have : [v2] = [.int .i64 n2] := Eq.trans (by kernel_rfl) e2; injection this
    obtain rfl : v3 = .int .i64 n3 := by have : [v3] = [.int .i64 n3] := Eq.trans (by kernel_rfl) e3; injection this
    refine ⟨⟨n0, n1, n2, n3⟩, ⟨wf_i64 w2, wf_i64 w3⟩, fun j y hj => ?_⟩
    have hj4 : j < 4 := (List.getElem?_eq_some_iff.1 hj).1
    have := hcell j hj4
    rw [addr_add] at this
    rw [this]
    exact hj
theorem arg_units (hv : Value.okWide Try.prog w .any b0 32 v) (h : DataW.Trod enc Try.prog w base spare held 32 v d p) : ∃ us : List UnitD, RdK w v us.length (flat us) ∧ UOk us := by
  obtain ⟨A, len, cap, rfl⟩ := okWide_slice Try.underlying32 hv
  obtain ⟨fuel, hf⟩ := h
  rcases Go.Deep.open_slice Try.underlying32 hf with ⟨hcs, _⟩ | ⟨x, l, c, m, n, D, Pl, hcs, _, hl, hm, hmm, _, hx⟩
  · simp [Value.cells] at hcs
    obtain ⟨rfl, rfl, rfl⟩ := hcs
    exact ⟨[], .inl ⟨rfl, rfl, rfl⟩, fun j hj => by simp at hj⟩
  · simp [Value.cells] at hcs
    obtain ⟨rfl, rfl, rfl⟩ := hcs
    have hs := spot_none Try.underlying32 hv
    obtain ⟨b, off, spot⟩ := x
    simp at hs
    subst hs
    have hlm : len ≤ m := by rw [hmm]; split <;> omega
    have each : ∀ i, i < len → ∃ u : UnitD, ((-9223372036854775808 ≤ u.bits ∧ u.bits ≤ 9223372036854775807) ∧ (-9223372036854775808 ≤ u.fields ∧ u.fields ≤ 9223372036854775807)) ∧ ∀ j y, (uv u)[j]? = some y → w.cell? ⟨b, off + i * 4 + j, none⟩ = some y := by
      intro i hi
      obtain ⟨cs', h1, h2⟩ := hx i (by omega)
      rw [show Try.prog.cellsOf 68 = 4 by kernel_rfl, addr_add] at h1
      exact one_unit h1 h2
    obtain ⟨f, hfu⟩ := Go.Deep.choose_lt each
    have hlen : ((List.range len).map f).length = len := by simp
    have hget : ∀ i, i < len → ((List.range len).map f).getD i u0 = f i := by
      intro i hi
      rw [List.getD_eq_getElem?_getD, List.getElem?_map, List.getElem?_range hi]; rfl
    refine ⟨(List.range len).map f, .inr ⟨b, off, cap, by rw [hlen], by rw [hlen]; exact hl, fun j u hj => ?_⟩, fun j hj => ?_⟩
    · have hj4 : j < len * 4 := by have := (List.getElem?_eq_some_iff.1 hj).1; rw [flat_len, hlen] at this; exact this
      have hd : j = j / 4 * 4 + j % 4 := by omega
      rw [hd] at hj ⊢
      rw [flat_get _ _ _ (by omega) (by rw [hlen]; omega), hget _ (by omega)] at hj
      rw [← Nat.add_assoc]
      exact (hfu (j / 4) (by omega)).2 _ _ hj
    · rw [hlen] at hj
      rw [hget j hj]
      exact (hfu j hj).1
end
end Go.Proofs.Ytolfkaljbgpkhaa
