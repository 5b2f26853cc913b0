/- The walks of the writer of bits: what NewWriter, Len and Put do to its state. -/
import Derived.Test.YtmimljaniliecaaBase
import Derived.Test.YtmimljaniliecaaBits
import Derived.Test.YtmimljaniliecaaProg
namespace Go.Proofs.Ytmimljaniliecaa
open Go.RowKit Bt

def u8s (l : List Nat) : List Value := l.map fun (x : Nat) => Value.int .u8 (x : Int)
theorem u8s_length (l : List Nat) : (u8s l).length = l.length := by simp [u8s]

theorem info_u8 : (Try.prog.info? 5).map (fun i => (i.zero, i.size, i.bytes)) = some (some (.int .u8 0), 1, 1) := by kernel_rfl

/-- A writer at block g holds the bits l; its blocks are among S. -/
def IsW (w : World) (S : Nat → Prop) (g : Nat) (l : List Nat) : Prop :=
  ∃ v, w.heap[g]? = some (.cells #[v, .int .i64 l.length] 78 (0, 0)) ∧ w.ownsRow 0 5 1 v (packed l).length (u8s (packed l)) ∧ Bin l ∧
    S g ∧ (∀ k, v.ownBlock = some k → S k ∧ k ≠ g) ∧ ∀ k, S k → k < w.heap.size

theorem IsW.keep {w w' : World} {S T : Nat → Prop} {g : Nat} {l : List Nat} (h : IsW w S g l) (hk : Keep T w w') (hd : ∀ k, S k → ¬ T k) : IsW w' S g l := by
  obtain ⟨v, h1, h2, h3, h4, h5, h6⟩ := h
  exact ⟨v, hk.heap h1 (hd _ h4), own_keep h2 hk (fun k hk => hd _ (h5 k hk).1), h3, h4, h5, fun k hs => Nat.lt_of_lt_of_le (h6 k hs) hk.size⟩

theorem u8s_set (l : List Nat) (i : Nat) (y : Nat) : u8s (l.set i y) = (u8s l).set i (.int .u8 (y : Int)) := by simp [u8s, List.map_set]

theorem row_at {cur : Array Value} {m : Nat} {l : List Nat} {i : Nat} (h : cur.toList.take (m * 1) = u8s (packed l)) (hi : i < (packed l).length) (hm : i < m) : cur[i]? = some (.int .u8 (byteAt l i : Nat)) := by
  have h1 : (cur.toList.take (m * 1))[i]? = (u8s (packed l))[i]? := by rw [h]
  rw [List.getElem?_take, if_pos (by omega)] at h1
  rw [← Array.getElem?_toList, h1]
  have h2 := packed_getD l i
  rw [if_pos (by rw [← packed_length]; exact hi), List.getD_eq_getElem?_getD, List.getElem?_eq_getElem hi] at h2
  simp only [Option.getD_some] at h2
  simp [u8s, List.getElem?_eq_getElem hi, h2]

/-- A bit more: the byte is written, the count is raised. -/
theorem stepW {w : World} {S : Nat → Prop} {g gb m cap N y : Nat} {cur : Array Value} {L P : List Nat} {b : Nat} (hb : w.heap[g]? = some (.cells #[.slice (some ⟨gb, 0, none⟩) m cap, .int .i64 N] 78 (0, 0)))
    (hgb : w.heap[gb]? = some (.cells cur 5 (0, 0))) (hcap : m ≤ cap) (hcm : cap ≤ maxLen) (hcs : cur.size = cap * 1) (htake : cur.toList.take (m * 1) = u8s P) (hbin : Bin L) (hb1 : b ≤ 1) (hg : S g) (hgS : S gb) (hne : gb ≠ g)
    (hlt : ∀ k, S k → k < w.heap.size) (hN : N = L.length) (hP : packed (L ++ [b]) = P.set (N / 8) y) (hm : P.length = m) :
    IsW ((w.setCell ⟨gb, N / 8, none⟩ (.int .u8 y)).setCell ⟨g, 1, none⟩ (.int .i64 ((N : Int) + 1))) S g (L ++ [b]) := by
  have hb' : (w.setCell ⟨gb, N / 8, none⟩ (.int .u8 y)).heap[g]? = some (.cells #[.slice (some ⟨gb, 0, none⟩) m cap, .int .i64 N] 78 (0, 0)) := by
    rw [Below.heap_setCell _ _ _ _ (Ne.symm hne)]; exact hb
  refine ⟨.slice (some ⟨gb, 0, none⟩) m cap, ?_, ⟨?_, .inr ⟨gb, cap, cur.setIfInBounds (N / 8) (.int .u8 y), ?_, Nat.zero_le _, ?_, ?_, hcm, ?_, ?_⟩⟩, bin_append hbin (by intro x hx; simp at hx; omega), hg, ?_, ?_⟩
  · have := setCell_heap_at (u := Value.int .i64 ((N : Int) + 1)) hb' 1
    rw [this]
    simp [hN]
  · simp [u8s_length]
  · rw [hP]; simp [hm]
  · rw [Below.heap_setCell _ _ _ _ hne]
    exact setCell_heap_at hgb _
  · rw [hP]; simp; omega
  · simp [hcs]
  · rw [hP, List.length_set, hm, Array.toList_setIfInBounds, u8s_set, ← htake]
    rw [List.take_set]
  · intro k hk
    simp [Value.ownBlock] at hk
    subst hk
    exact ⟨hgS, hne⟩
  · intro k hk
    simpa [World.setCell] using hlt k hk

set_option maxHeartbeats 400000 in
theorem newWriter (w : World) : Calls Try.prog 43 #[] w fun e w' => e = .returned (.pointer (some ⟨w.heap.size, 0, none⟩)) ∧ IsW w' (fun k => k = w.heap.size) w.heap.size [] ∧ Below w.heap.size w w' := by
  go_enter Try.func43, Try.ntmps43
  go_wp2
  go_ret
  refine ⟨rfl, ⟨.slice none 0 0, heap_alloc_new w _, by rw [show packed [] = [] from rfl]; exact World.ownsRow_nil _ _ _ _, by intro x hx; simp at hx, rfl, by intro k hk; simp [Value.ownBlock] at hk, by intro k hk; subst hk; simp⟩, (Below.refl _ _).alloc (Nat.le_refl _) _⟩

end Go.Proofs.Ytmimljaniliecaa
