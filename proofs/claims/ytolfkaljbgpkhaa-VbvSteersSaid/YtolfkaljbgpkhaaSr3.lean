/- Stuffing avoids every overflow. -/
import Derived.Test.YtolfkaljbgpkhaaRw
namespace Go.Proofs.Ytolfkaljbgpkhaa
open Go.RowKit

def padU (u : UnitD) (n : Int) : UnitD := { u with bits := u.bits + 8 * n }
def less8 (u : UnitD) : UnitD := { u with bits := u.bits - 8 }
/-- the units with stuffing -/
def padAll : List UnitD → List Int → List UnitD
  | u :: us, n :: l => padU u n :: padAll us l
  | us, _ => us
theorem padAll_nil (us : List UnitD) : padAll us [] = us := by cases us <;> rfl
theorem padAll_len (us : List UnitD) : ∀ l, (padAll us l).length = us.length := by
  induction us with
  | nil => intro l; rfl
  | cons u us ih => intro l; cases l with
    | nil => rfl
    | cons n l => show (padAll us l).length + 1 = _; rw [ih]; rfl
theorem padAll_take (us : List UnitD) : ∀ (l : List Int) (i : Nat), i < us.length → i < l.length → padAll us (l.take (i + 1)) = (padAll us (l.take i)).set i (padU (us.getD i u0) (l.getD i 0)) ∧ (padAll us (l.take i)).getD i u0 = us.getD i u0 := by
  induction us with
  | nil => intro l i h; simp at h
  | cons u us ih =>
    intro l i h1 h2
    cases l with
    | nil => simp at h2
    | cons n l =>
      cases i with
      | zero => exact ⟨by show padU u n :: padAll us (l.take 0) = _; rw [List.take_zero, padAll_nil]; rfl, rfl⟩
      | succ i =>
        obtain ⟨e1, e2⟩ := ih l i (by simpa using h1) (by simpa using h2)
        exact ⟨by show padU u n :: padAll us (l.take (i + 1)) = _; rw [e1]; rfl, e2⟩
theorem padAll_getD (us : List UnitD) : ∀ (l : List Int) (i : Nat), i < us.length → i < l.length → (padAll us l).getD i u0 = padU (us.getD i u0) (l.getD i 0) := by
  induction us with
  | nil => intro l i h; simp at h
  | cons u us ih =>
    intro l i h1 h2
    cases l with
    | nil => simp at h2
    | cons n l => cases i with
      | zero => rfl
      | succ i => exact ih l i (by simpa using h1) (by simpa using h2)
theorem flat_set (us : List UnitD) : ∀ (i : Nat) (b : Int), i < us.length → (flat us).set (i * 4 + 2) (.int .i64 b) = flat (us.set i { us.getD i u0 with bits := b }) := by
  induction us with
  | nil => intro i b h; simp at h
  | cons u us ih =>
    intro i b h
    cases i with
    | zero => rfl
    | succ i =>
      rw [flat_cons, List.set_append_right _ _ (show 4 ≤ (i + 1) * 4 + 2 by omega), show (i + 1) * 4 + 2 - (uv u).length = i * 4 + 2 by show (i + 1) * 4 + 2 - 4 = _; omega, ih i b (by simpa using h)]
      rfl
theorem padN_pos {c cap f : Int} (last : Bool) (hc : 0 < c) : 0 ≤ padN c cap f last := by
  unfold padN
  split
  · rename_i h
    have := ceil_bd (o := f - cap) (c := c * 8) (by omega) h.1
    omega
  · exact Int.le_refl _
theorem padO_pads {c d cap : Int} (hc : 1 ≤ c) (hd : 0 ≤ d) (hcap : c * 8 ≤ cap) (us : List UnitD) : ∀ (full : Int) {q : List Int × Int}, (∀ j, j < us.length → PU (us.getD j u0)) → 0 ≤ full → full ≤ cap → padO c d cap full us = some q → ∀ k, k < q.1.length → 0 ≤ q.1.getD k 0 ∧ 8 * q.1.getD k 0 ≤ 3 * d + c * 8 := by
  induction us with
  | nil => intro full q _ h0 h1 h k hk; simp only [padO, Option.some.injEq] at h; subst h; simp at hk
  | cons u r ih =>
    intro full q hP h0 h1 h k hk
    obtain ⟨⟨hb0, hb1, hf⟩, hr⟩ := PU_tail hP
    obtain ⟨hn, N, l, hN, hl, hq⟩ := padO_cons_some h
    have hdf : 0 ≤ d * u.fields ∧ d * u.fields ≤ 3 * d := by rcases hf with h | h <;> rw [h] <;> omega
    have hcb : 0 ≤ c * u.bits := Int.mul_nonneg (by omega) hb0
    have hNp : 0 ≤ N := by rw [hN]; exact padN_pos _ (by omega)
    have hN8 : 8 * N ≤ c * (8 * N) := by have := Int.mul_le_mul_of_nonneg_right hc (show 0 ≤ 8 * N by omega); omega
    rw [hl] at hk ⊢
    have key : 8 * N ≤ 3 * d + c * 8 ∧ (r = [] ∨ (0 ≤ full + (d * u.fields - c * u.bits) - c * (8 * N) ∧ full + (d * u.fields - c * u.bits) - c * (8 * N) ≤ cap)) := by
      rcases padN_cases (c := c) (cap := cap) (f := full + (d * u.fields - c * u.bits)) r.isEmpty (by omega) with ⟨h2, h3⟩ | ⟨h2, h3, h4, h5⟩
      · rw [← hN] at h2
        refine ⟨by omega, ?_⟩
        rcases h3 with h3 | h3
        · right; rw [h2]; omega
        · left; exact List.isEmpty_iff.1 h3
      · rw [← hN] at h4 h5
        exact ⟨by omega, .inr (by omega)⟩
    cases k with
    | zero => exact ⟨hNp, key.1⟩
    | succ k =>
      rcases key.2 with h | ⟨ha, hb⟩
      · subst h
        have := padO_len [] _ hq
        have hl0 : l.length = 0 := this
        simp [hl0] at hk
      · have := ih _ hr ha hb hq k (by simpa using hk)
        exact this
theorem padAll_empty (us : List UnitD) (l : List Int) : (padAll us l).isEmpty = us.isEmpty := by
  rw [Bool.eq_iff_iff, List.isEmpty_iff, List.isEmpty_iff, ← List.length_eq_zero_iff, ← List.length_eq_zero_iff, padAll_len]
theorem steer {c d cap : Int} (hc : 0 < c) (hd : 0 ≤ d) (hcap : 3 * d + 16 * c ≤ cap) (us : List UnitD) : ∀ (full : Int) {q : List Int × Int}, (∀ j, j < us.length → PU (us.getD j u0)) → padO c d cap full us = some q →
    (runO c d cap full (padAll us q.1)).2 = none ∧ ∀ k, k < q.1.length → ¬ q.1.getD k 0 = 0 → (runO c d cap full ((padAll us q.1).set k (less8 ((padAll us q.1).getD k u0)))).2 = some k := by
  induction us with
  | nil =>
    intro full q _ h
    simp only [padO, Option.some.injEq] at h
    subst h
    exact ⟨rfl, fun k hk => by simp at hk⟩
  | cons u r ih =>
    intro full q hP h
    obtain ⟨⟨hb0, hb1, hf⟩, hr⟩ := PU_tail hP
    obtain ⟨hn, N, l, hN, hl, hq⟩ := padO_cons_some h
    obtain ⟨i1, i2⟩ := ih _ hr hq
    have i1 : (runO c d cap (full + (d * u.fields - c * u.bits) - c * (8 * N)) (padAll r l)).2 = none := i1
    have hdf : 0 ≤ d * u.fields ∧ d * u.fields ≤ 3 * d := by rcases hf with h | h <;> rw [h] <;> omega
    rw [hl]
    have hpa : padAll (u :: r) (N :: l) = padU u N :: padAll r l := rfl
    rw [hpa]
    have hmul : c * (u.bits + 8 * N) = c * u.bits + c * (8 * N) := Int.mul_add _ _ _
    have hmul8 : c * (u.bits + 8 * N - 8) = c * u.bits + c * (8 * N) - c * 8 := by rw [Int.mul_sub, Int.mul_add]
    have hcs := padN_cases (c := c) (cap := cap) (f := full + (d * u.fields - c * u.bits)) r.isEmpty hc
    rw [← hN] at hcs
    -- the first unit passes
    have pass : ∀ t : List UnitD, t.isEmpty = r.isEmpty → (runO c d cap full (padU u N :: t)).2 = (runO c d cap (full + (d * u.fields - c * u.bits) - c * (8 * N)) t).2.map (· + 1) := by
      intro t ht
      have e : full - c * (padU u N).bits + d * (padU u N).fields = full + (d * u.fields - c * u.bits) - c * (8 * N) := by
        show full - c * (u.bits + 8 * N) + d * u.fields = _
        omega
      simp only [runO]
      rw [if_neg, e]
      rw [e, ht]
      show ¬ (full < c * (u.bits + 8 * N) ∨ _)
      rw [hmul]
      rcases hcs with ⟨h2, h3⟩ | ⟨h2, h3, h4, h5⟩
      · rw [h2]
        rintro (h | ⟨h, h'⟩)
        · omega
        · rcases h3 with h3 | h3
          · omega
          · rw [h3] at h; cases h
      · rintro (h | ⟨h, h'⟩) <;> omega
    refine ⟨by rw [pass _ (padAll_empty r l), i1]; rfl, fun k hk hne => ?_⟩
    cases k with
    | zero =>
      have hne : ¬ N = 0 := hne
      rcases hcs with ⟨h2, _⟩ | ⟨h2, h3, h4, h5⟩
      · exact (hne h2).elim
      · show (runO c d cap full (less8 (padU u N) :: padAll r l)).2 = some 0
        simp only [runO]
        rw [if_pos]
        right
        refine ⟨by rw [padAll_empty, h2], ?_⟩
        show full - c * (u.bits + 8 * N - 8) + d * u.fields > cap
        omega
    | succ k =>
      have hk' : k < l.length := by simpa using hk
      have := i2 k hk' hne
      show (runO c d cap full (padU u N :: (padAll r l).set k (less8 ((padAll r l).getD k u0)))).2 = some (k + 1)
      rw [pass _ (by rw [Bool.eq_iff_iff, List.isEmpty_iff, List.isEmpty_iff, ← List.length_eq_zero_iff, ← List.length_eq_zero_iff, List.length_set, padAll_len]), this]
      rfl
end Go.Proofs.Ytolfkaljbgpkhaa
