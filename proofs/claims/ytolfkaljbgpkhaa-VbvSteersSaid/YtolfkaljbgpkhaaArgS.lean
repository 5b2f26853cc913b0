/- What the statements' arguments read as: a sequence header. -/
import Derived.Test.YtolfkaljbgpkhaaArgI0
import Derived.Test.YtolfkaljbgpkhaaSq
namespace Go.Proofs.Ytolfkaljbgpkhaa
open Go.RowKit Go.ChangeShapes Go.WideShapes Go.ChangeAt
section
variable {P : Program} {w : World} {b : Nat} {t : TypeId} {v : Value}
theorem cell_int {k : IntKind} (ht : P.underlying t = some (.int k)) (h : Cell.okWide P w .any b t v) : ∃ n, v = .int k n ∧ k.has n := by
  cases v <;> simp [Cell.okWide, Cell.ok, ht] at h
  obtain ⟨rfl, h⟩ := h
  exact ⟨_, rfl, h⟩
theorem cell_bool (ht : P.underlying t = some .bool) (h : Cell.okWide P w .any b t v) : ∃ n, v = .bool n := by
  cases v <;> simp [Cell.okWide, Cell.ok, ht] at h
  exact ⟨_, rfl⟩
end
def intOf : Value → Int
  | .int _ n => n
  | _ => 0
theorem cells_u8 (cs : Array Value) (o n : Nat) (h : ∀ j, j < n → ∃ x, cs[o + j]? = some (.int .u8 x) ∧ 0 ≤ x ∧ x < 256) : ∃ l : List Int, l.length = n ∧ (∀ j, j < n → 0 ≤ l.getD j 0 ∧ l.getD j 0 < 256) ∧ ∀ j, j < n → cs[o + j]? = some (.int .u8 (l.getD j 0)) := by
  refine ⟨tab n (fun j => intOf (cs.getD (o + j) undef)), tab_length _ _, fun j hj => ?_, fun j hj => ?_⟩ <;>
  · obtain ⟨x, hx, h1⟩ := h j hj
    rw [tab_getD _ _ _ hj, Array.getD_eq_getD_getElem?, hx]
    first | exact h1 | rfl
def seqH : List TypeId := [3, 3, 2, 2, 4, 3, 3]
def seqTs : List TypeId := seqH ++ List.replicate 128 5
theorem seqTs_len : seqTs.length = 135 := by simp [seqTs, seqH]
theorem seqH_len : seqH.length = 7 := rfl
theorem arg_seq {w : World} {b0 : Nat} {v : Value} (hv : Value.okWide Try.prog w .any b0 26 v) : ∃ s, v = .agg (sqv s) ∧ SOk s := by
  unfold Value.okWide at hv
  rw [Try.underlying26] at hv
  obtain ⟨cs, rfl, hsz, ts, hts, _, hc⟩ := hv
  have hsz : cs.size = 135 := hsz.trans (by kernel_rfl)
  obtain rfl : seqTs = ts := Option.some.inj (Eq.trans (by kernel_rfl) hts)
  have hI : ∀ i u, i < 7 → seqH[i]? = some u → ∃ v, cs[i]? = some v ∧ Cell.okWide Try.prog w .any b0 u v := by
    intro i u hi hu
    have h1 : cs[i]? = some (cs[i]'(by omega)) := by simp
    obtain ⟨u', h2, h3⟩ := hc i _ h1
    rw [seqTs_len, Nat.mod_eq_of_lt (by omega), seqTs, List.getElem?_append_left (by rw [seqH_len]; exact hi), hu] at h2
    cases h2
    exact ⟨_, h1, h3⟩
  have hB : ∀ j, j < 128 → ∃ x, cs[7 + j]? = some (.int .u8 x) ∧ 0 ≤ x ∧ x < 256 := by
    intro j hj
    have h1 : cs[7 + j]? = some (cs[7 + j]'(by omega)) := by simp
    obtain ⟨u', h2, h3⟩ := hc (7 + j) _ h1
    rw [seqTs_len, Nat.mod_eq_of_lt (by omega), seqTs, List.getElem?_append_right (by rw [seqH_len]; omega)] at h2
    rw [seqH_len, show 7 + j - 7 = j by omega, List.getElem?_replicate, if_pos hj] at h2
    cases h2
    obtain ⟨n, h4, h5⟩ := cell_int Try.underlying5 h3
    refine ⟨n, by rw [h1, h4], ?_⟩
    simp [IntKind.has, IntKind.min, IntKind.max, IntKind.signed, IntKind.bits] at h5
    omega
  have i64 : ∀ {n : Int}, IntKind.i64.has n → -9223372036854775808 ≤ n ∧ n ≤ 9223372036854775807 := by
    intro n h
    simpa [IntKind.has, IntKind.min, IntKind.max, IntKind.signed, IntKind.bits] using h
  obtain ⟨v0, e0, c0⟩ := hI 0 _ (by omega) rfl
  obtain ⟨v1, e1, c1⟩ := hI 1 _ (by omega) rfl
  obtain ⟨v2, e2, c2⟩ := hI 2 _ (by omega) rfl
  obtain ⟨v3, e3, c3⟩ := hI 3 _ (by omega) rfl
  obtain ⟨v4, e4, c4⟩ := hI 4 _ (by omega) rfl
  obtain ⟨v5, e5, c5⟩ := hI 5 _ (by omega) rfl
  obtain ⟨v6, e6, c6⟩ := hI 6 _ (by omega) rfl
  obtain ⟨n0, rfl, r0⟩ := cell_int Try.underlying3 c0
  obtain ⟨n1, rfl, r1⟩ := cell_int Try.underlying3 c1
  obtain ⟨n2, rfl, r2⟩ := cell_int Try.underlying2 c2
  obtain ⟨n3, rfl, r3⟩ := cell_int Try.underlying2 c3
  obtain ⟨n4, rfl⟩ := cell_bool Try.underlying4 c4
  obtain ⟨n5, rfl, r5⟩ := cell_int Try.underlying3 c5
  obtain ⟨n6, rfl, r6⟩ := cell_int Try.underlying3 c6
  obtain ⟨la, lal, lab, lac⟩ := cells_u8 cs 7 64 (fun j hj => hB j (by omega))
  obtain ⟨lb, lbl, lbb, lbc⟩ := cells_u8 cs 71 64 (fun j hj => by have := hB (64 + j) (by omega); rw [show 7 + (64 + j) = 71 + j by omega] at this; exact this)
  refine ⟨⟨n0, n1, n2, n3, n4, n5, n6, la, lb⟩, ?_, ⟨i64 r0, i64 r1, i64 r2, i64 r3, i64 r5, i64 r6, lal, lbl, lab, lbb⟩⟩
  refine congrArg Value.agg ?_
  apply Array.ext_getElem?
  intro i
  match i with
  | 0 => rw [e0, sqv_W]
  | 1 => rw [e1, sqv_H]
  | 2 => rw [e2, sqv_num]
  | 3 => rw [e3, sqv_den]
  | 4 => rw [e4, sqv_il]
  | 5 => rw [e5, sqv_br]
  | 6 => rw [e6, sqv_bu]
  | j + 7 =>
    by_cases h1 : j < 64
    · rw [show j + 7 = 7 + j by omega, lac j h1, sqv_a _ j _ (map_at (by rw [lal]; exact h1))]
    · by_cases h2 : j < 128
      · rw [show j + 7 = 71 + (j - 64) by omega, lbc (j - 64) (by omega), sqv_b lal (j - 64) _ (map_at (by rw [lbl]; omega))]
      · rw [Array.getElem?_eq_none (by omega), Array.getElem?_eq_none (by rw [sqv_size lal lbl]; omega)]
theorem seq_arg {H : Type} {enc : TypeId × Value → H} {w : World} {base b0 : Nat} {spare : Nat → Bool} {held : Bool} {v : Value} {d : DataW H} {p : List MemPlace} (hv : Value.okWide Try.prog w .any b0 26 v) (_ : DataW.Trod enc Try.prog w base spare held 26 v d p) : ∃ s, v = .agg (sqv s) ∧ SOk s := arg_seq hv
end Go.Proofs.Ytolfkaljbgpkhaa
