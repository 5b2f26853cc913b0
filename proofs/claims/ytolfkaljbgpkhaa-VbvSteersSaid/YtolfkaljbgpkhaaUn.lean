/- Access units: their cells; when they and a start may be checked. -/
import Derived.Test.YtolfkaljbgpkhaaOwn
import Derived.Test.YtolfkaljbgpkhaaCp
namespace Go.Proofs.Ytolfkaljbgpkhaa
open Go.RowKit

/-- an access unit -/
structure UnitD where
  first : Int
  last : Int
  bits : Int
  fields : Int
def u0 : UnitD := ⟨0, 0, 0, 0⟩
def uv (u : UnitD) : List Value := [.int .i64 u.first, .int .i64 u.last, .int .i64 u.bits, .int .i64 u.fields]
def flat (us : List UnitD) : List Value := us.flatMap uv
theorem flat_cons (u : UnitD) (us : List UnitD) : flat (u :: us) = uv u ++ flat us := by simp [flat]
theorem flat_append (a b : List UnitD) : flat (a ++ b) = flat a ++ flat b := by simp [flat]
theorem flat_len (us : List UnitD) : (flat us).length = us.length * 4 := by
  induction us with
  | nil => rfl
  | cons u us ih => rw [flat_cons, List.length_append, ih, List.length_cons]; show 4 + _ = _; omega
theorem flat_get (us : List UnitD) (j f : Nat) (hf : f < 4) (hj : j < us.length) : (flat us)[j * 4 + f]? = (uv (us.getD j u0))[f]? := by
  induction us generalizing j with
  | nil => simp at hj
  | cons u us ih =>
    rw [flat_cons]
    cases j with
    | zero => rw [Nat.zero_mul, Nat.zero_add, List.getElem?_append_left (show f < 4 from hf)]; rfl
    | succ j =>
      rw [List.getElem?_append_right (show 4 ≤ (j + 1) * 4 + f by omega), show (j + 1) * 4 + f - (uv u).length = j * 4 + f by show (j + 1) * 4 + f - 4 = _; omega]
      exact ih j (by simpa using hj)
theorem flat_row (us : List UnitD) (j : Nat) (hj : j < us.length) : ∀ i v, (uv (us.getD j u0))[i]? = some v → (flat us)[j * 4 + i]? = some v := by
  intro i v h
  have hi : i < 4 := (List.getElem?_eq_some_iff.1 h).1
  rw [flat_get us j i hi hj]; exact h
theorem flat_take_succ (us : List UnitD) (j : Nat) (hj : j < us.length) : flat (us.take (j + 1)) = flat (us.take j) ++ uv (us.getD j u0) := by
  rw [List.take_add_one, flat_append, List.getD_eq_getElem?_getD]
  rw [List.getElem?_eq_getElem hj]
  simp [flat]
theorem flat_one (us : List UnitD) : ∀ x ∈ flat us, x.oneCell' = true := by
  intro x hx
  obtain ⟨u, _, h⟩ := List.mem_flatMap.1 hx
  simp only [uv, List.mem_cons, List.not_mem_nil, or_false] at h
  rcases h with rfl | rfl | rfl | rfl <;> rfl
theorem drop_getD {α : Type} (l : List α) (d : α) (k : Nat) (h : k < l.length) : l.drop k = l.getD k d :: l.drop (k + 1) := by
  rw [List.drop_eq_getElem_cons h, List.getD_eq_getElem?_getD, List.getElem?_eq_getElem h]; rfl
/-- its numbers are of their types -/
def UOk (us : List UnitD) : Prop := ∀ j, j < us.length → (-9223372036854775808 ≤ (us.getD j u0).bits ∧ (us.getD j u0).bits ≤ 9223372036854775807) ∧ (-9223372036854775808 ≤ (us.getD j u0).fields ∧ (us.getD j u0).fields ≤ 9223372036854775807)

theorem append_unit {S : Nat → Prop} {w0 w : World} {A B T : List (Nat × Obj)} (M : Mem S w0 w (A ++ (T ++ B))) (ty : TypeId) (v : Value) (n : Nat) (xs : List Value) (hO : Own 60 4 v n xs T) (u : Value) (m : Nat) (news : List Value) (hu : RdK w u m news) (hl : news.length = m * 4) (h1 : ∀ u ∈ news, u.oneCell' = true) (hn : n + m ≤ 1000000) :
    ∃ v' T' w', (Builtin.append_ #[36, 36] ty #[v, u]).run Try.prog w = .ok v' w' ∧ Own 60 4 v' (n + m) (xs ++ news) T' ∧ Mem S w0 w' (A ++ (T' ++ B)) := by
  have hs : (Try.prog.info? 60).isSome = true := by kernel_rfl
  have hz : (((Try.prog.info? 60).get hs).zero).isSome = true := by kernel_rfl
  exact append_of M 36 ty 60 ((Try.prog.info? 60).get hs) ((((Try.prog.info? 60).get hs).zero).get hz) 4 32 Try.underlying36 (Option.some_get hs).symm (Option.some_get hz).symm (by kernel_rfl) (by kernel_rfl) (by kernel_rfl) (by decide) v n xs hO u m news hu hl h1
    (by simp only [maxLen]; omega) (by omega)

/-- access units and a start may be checked -/
def PU (u : UnitD) : Prop := 0 ≤ u.bits ∧ u.bits ≤ 8388608 ∧ (u.fields = 2 ∨ u.fields = 3)
def PR (s : SeqD) (us : List UnitD) (start : Int) : Prop := sB s = true ∧ 0 ≤ start ∧ start ≤ capS s ∧ us.length ≤ 256 ∧ ∀ j, j < us.length → PU (us.getD j u0)
noncomputable def prB (s : SeqD) (us : List UnitD) (start : Int) : Bool := @decide (PR s us start) (Classical.propDecidable _)
theorem prB_t {s : SeqD} {us : List UnitD} {start : Int} (h : PR s us start) : prB s us start = true := by unfold prB; exact @decide_eq_true _ (Classical.propDecidable _) h
theorem prB_f {s : SeqD} {us : List UnitD} {start : Int} (h : ¬ PR s us start) : prB s us start = false := by unfold prB; exact @decide_eq_false _ (Classical.propDecidable _) h
theorem PR_of {s : SeqD} {us : List UnitD} {start : Int} (h : prB s us start = true) : PR s us start := by
  by_cases c : PR s us start
  · exact c
  · rw [prB_f c] at h; cases h
end Go.Proofs.Ytolfkaljbgpkhaa
