/- Sounds, plainly. -/
import Derived.Test.YtmimljaniliecaaAv
namespace Go.Proofs.Ytmimljaniliecaa
open Go.RowKit Bt

theorem RdK.cap {w : World} {A : Option Addr} {n c : Nat} {xs : List Value} (h : RdK w (.slice A n c) n xs) : n ≤ c := by
  obtain ⟨_, _, e, h⟩ := h.shape
  injection e with _ _ e
  omega
/-- sound of a length that a machine can count -/
def Bd (ls : List (List Int)) : Prop := ls.length ≤ 1000000 ∧ ∀ i, (ls.getD i []).length ≤ 100000000
theorem getD_none {ls : List (List Int)} {i : Nat} (h : ls.length ≤ i) : ls.getD i [] = [] := by rw [List.getD_eq_getElem?_getD, List.getElem?_eq_none h]; rfl
theorem tbL_bd (l : List Nat) : Bd (tbL l) := by
  unfold tbL
  split
  · rename_i h
    obtain ⟨⟨_, h1, h2, _⟩, _⟩ := h
    refine ⟨by rw [chLs_length]; omega, fun i => ?_⟩
    rcases Nat.lt_or_ge i (l.getD 0 0) with h3 | h3
    · rw [chLs_get _ _ _ _ h3, chL_length]; omega
    · rw [getD_none (by rw [chLs_length]; exact h3)]; exact Nat.zero_le _
  · exact ⟨Nat.zero_le _, fun i => by rw [getD_none (Nat.zero_le _)]; exact Nat.zero_le _⟩
theorem ext_getD {α : Type} {d : α} {l m : List α} (h : l.length = m.length) (he : ∀ j, j < l.length → l.getD j d = m.getD j d) : l = m := by
  apply List.ext_getElem? 
  intro j
  rcases Nat.lt_or_ge j l.length with h1 | h1
  · have h2 := he j h1
    rw [List.getD_eq_getElem?_getD, List.getD_eq_getElem?_getD, List.getElem?_eq_getElem h1, List.getElem?_eq_getElem (show j < m.length by omega)] at h2
    rw [List.getElem?_eq_getElem h1, List.getElem?_eq_getElem (show j < m.length by omega)]
    simpa using h2
  · rw [List.getElem?_eq_none h1, List.getElem?_eq_none (by omega)]

theorem pbL_lt (ls : List (List Int)) : ∀ x ∈ pbL ls, x < 256 := by
  rcases Classical.em (BP ls) with h | h
  · rw [(pb_t h).1]; exact summedB_lt (blk_lt0 h)
  · rw [(pb_f h).1]; intro x hx; simp at hx
end Go.Proofs.Ytmimljaniliecaa
