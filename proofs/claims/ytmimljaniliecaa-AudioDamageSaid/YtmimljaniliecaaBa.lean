/- Sound that is cut into blocks and coded, plainly. -/
import Derived.Test.YtmimljaniliecaaPo
namespace Go.Proofs.Ytmimljaniliecaa
open Go.RowKit Bt

/-- the samples from q on, at most 32 of each channel -/
def cutL (ls : List (List Int)) (q : Nat) : List (List Int) := ls.map fun l => (l.drop q).take 32
theorem cutL_length (ls : List (List Int)) (q : Nat) : (cutL ls q).length = ls.length := by simp [cutL]
theorem cutL_get (ls : List (List Int)) (q j : Nat) : (cutL ls q).getD j [] = ((ls.getD j []).drop q).take 32 := by
  unfold cutL
  rw [List.getD_eq_getElem?_getD, List.getD_eq_getElem?_getD, List.getElem?_map]
  cases ls[j]? <;> simp
theorem cutL_glen (ls : List (List Int)) (q j : Nat) : ((cutL ls q).getD j []).length = min 32 ((ls.getD j []).length - q) := by rw [cutL_get, List.length_take, List.length_drop]
def cutA (As : Nat → Option Addr) (cs : Nat → Nat) (q : Nat) : Nat → Option Addr := fun j => subA (As j) (cs j) q
def cutC (cs : Nat → Nat) (q : Nat) : Nat → Nat := fun j => cs j - q
theorem cut_sp {ls : List (List Int)} (h : SP ls) (q : Nat) : SP (cutL ls q) := by
  intro j hj x hx
  rw [cutL_length] at hj
  rw [cutL_get] at hx
  exact h j hj x (List.mem_of_mem_drop (List.mem_of_mem_take hx))
theorem cut_bp {ls : List (List Int)} {q : Nat} (h : PP ls) (hq : q < (ls.getD 0 []).length) : BP (cutL ls q) := by
  obtain ⟨h1, h2, h3⟩ := h
  refine ⟨⟨by rw [cutL_length]; exact h1, by rw [cutL_glen]; omega, fun j hj => ?_⟩, by rw [cutL_glen]; omega, by rw [cutL_glen]; omega⟩
  rw [cutL_length] at hj
  rw [cutL_glen, cutL_glen, h3 j hj]
theorem cut_snoc {ls : List (List Int)} {As : Nat → Option Addr} {cs : Nat → Nat} {q n j m : Nat} (hn : (ls.getD j []).length = n) (hj : j < ls.length) (hm : m = min (q + 32) n - q) (hq : q ≤ n) :
    (pvs (cutL ls q) (cutA As cs q) (cutC cs q)).take j ++ [.slice (subA (As j) (cs j) q) m (cs j - q)] = (pvs (cutL ls q) (cutA As cs q) (cutC cs q)).take (j + 1) := by
  have h := pvs_get (cutL ls q) (cutA As cs q) (cutC cs q) j (by rw [cutL_length]; exact hj)
  rw [Nat.mul_one, Nat.add_zero] at h
  rw [List.take_add_one, h, cutL_glen, hn, show min 32 (n - q) = m by omega]
  rfl
theorem take_len {α : Type} (x : List α) (k : Nat) : x.take (x.take k).length = x.take k := by
  rw [List.length_take]
  rcases Nat.le_total k x.length with h | h
  · rw [Nat.min_eq_left h]
  · rw [Nat.min_eq_right h, List.take_of_length_le (Nat.le_refl _), List.take_of_length_le h]
theorem i16s_cut (l : List Int) (q n : Nat) : ((i16s l).drop q).take n = i16s ((l.drop q).take n) := by simp [i16s, List.map_take, List.map_drop]
theorem cut_rdp {w : World} {v : Value} {ls : List (List Int)} {As : Nat → Option Addr} {cs : Nat → Nat} (hP : RdP w v ls As cs) {q j c1 : Nat} {A1 : Option Addr} {T1 : List (Nat × Obj)} (hO : Own 39 1 (.slice A1 j c1) j ((pvs (cutL ls q) (cutA As cs q) (cutC cs q)).take j) T1) (hj : j = ls.length) (hT : ∀ p ∈ T1, w.heap[p.1]? = some p.2) : RdP w (.slice A1 j c1) (cutL ls q) (cutA As cs q) (cutC cs q) := by
  subst hj
  refine ⟨?_, fun j hj h0 => ?_⟩
  · have := hO.rd hT
    rw [List.take_of_length_le (by rw [pvs_length, cutL_length]; exact Nat.le_refl _)] at this
    rw [cutL_length]; exact this
  · rw [cutL_length] at hj
    have hl := cutL_glen ls q j
    rw [cutL_get] at h0 hl ⊢
    have h1 := hP.ch j hj (by omega)
    have h2 := rdk_sub h1 (i16s_length _) h1.cap (lo := q) (hi := q + (((ls.getD j []).drop q).take 32).length) (by omega) (by omega)
    rw [Nat.add_sub_cancel_left, i16s_cut, take_len] at h2
    exact h2
/-- the head of coded sound -/
def hdR (ls : List (List Int)) : List Nat := [67, 82, 83, 68] ++ [ls.length, (ls.getD 0 []).length / 65536, (ls.getD 0 []).length / 256 % 256, (ls.getD 0 []).length % 256]
def hdL (ls : List (List Int)) : List Nat := summedB (hdR ls)
theorem hdR_lt {ls : List (List Int)} (h : PP ls) : ∀ x ∈ hdR ls, x < 256 := by
  obtain ⟨h1, h2, _⟩ := h
  intro x hx
  simp only [hdR, List.cons_append, List.nil_append, List.mem_cons, List.not_mem_nil, or_false] at hx
  omega
theorem hdR_len (ls : List (List Int)) : (hdR ls).length = 8 := rfl
theorem hdL_len (ls : List (List Int)) : (hdL ls).length = 10 := by unfold hdL; rw [summedB_len]; rfl
theorem pbL_len (ls : List (List Int)) : (pbL ls).length ≤ 151 := by
  rcases Classical.em (BP ls) with h | h
  · rw [(pb_t h).1, blkL_len]; have := h.1.1; omega
  · rw [(pb_f h).1]; exact Nat.zero_le _
/-- the blocks, k of them -/
noncomputable def enB (ls : List (List Int)) : Nat → List Nat
  | 0 => []
  | k + 1 => enB ls k ++ pbL (cutL ls (32 * k))
theorem enB_len (ls : List (List Int)) (k : Nat) : (enB ls k).length ≤ 151 * k := by
  induction k with
  | zero => exact Nat.le_refl _
  | succ k ih => show (enB ls k ++ _).length ≤ _; rw [List.length_append]; have := pbL_len (cutL ls (32 * k)); omega
theorem enB_lt (ls : List (List Int)) (k : Nat) : ∀ x ∈ enB ls k, x < 256 := by
  induction k with
  | zero => intro x hx; simp [enB] at hx
  | succ k ih =>
    intro x hx
    rcases List.mem_append.1 hx with hx | hx
    · exact ih x hx
    · exact pbL_lt _ x hx
noncomputable def enL (ls : List (List Int)) : List Nat := if PP ls then hdL ls ++ enB ls (((ls.getD 0 []).length + 31) / 32) else []
def enE (ls : List (List Int)) : Int := if PP ls then 0 else 1
theorem en_t {ls : List (List Int)} (h : PP ls) : enL ls = hdL ls ++ enB ls (((ls.getD 0 []).length + 31) / 32) ∧ enE ls = 0 := ⟨if_pos h, if_pos h⟩
theorem en_f {ls : List (List Int)} (h : ¬ PP ls) : enL ls = [] ∧ enE ls = 1 := ⟨if_neg h, if_neg h⟩
theorem enL_lt (ls : List (List Int)) : ∀ x ∈ enL ls, x < 256 := by
  rcases Classical.em (PP ls) with h | h
  · rw [(en_t h).1]
    intro x hx
    rcases List.mem_append.1 hx with hx | hx
    · exact summedB_lt (hdR_lt h) x hx
    · exact enB_lt _ _ x hx
  · rw [(en_f h).1]; intro x hx; simp at hx
end Go.Proofs.Ytmimljaniliecaa
