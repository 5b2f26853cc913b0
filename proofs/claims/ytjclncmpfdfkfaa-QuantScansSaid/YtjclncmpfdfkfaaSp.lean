/- The diagonal order of a block's elements, plainly; a row of the memory that is sorted. -/
import Derived.Test.YtjclncmpfdfkfaaSo
import Derived.Shelf.SlSortCmp.NoneTotal
import Derived.Lib.SortBridge
import Derived.Laws.IdiomCopy
namespace Go.Proofs.Ytjclncmpfdfkfaa
open Go.RowKit Go.Sort

/-- the elements by diagonals -/
def zzN : List Nat := [0, 1, 8, 16, 9, 2, 3, 10, 17, 24, 32, 25, 18, 11, 4, 5, 12, 19, 26, 33, 40, 48, 41, 34, 27, 20, 13, 6, 7, 14, 21, 28, 35, 42, 49, 56, 57, 50, 43, 36, 29, 22, 15, 23, 30, 37, 44, 51, 58, 59, 52, 45, 38, 31, 39, 46, 53, 60, 61, 54, 47, 55, 62, 63]
def zzF : List (Fin 64) := zzN.map fun n => Fin.ofNat 64 n
def zkey (n : Nat) : Nat := (n / 8 + n % 8) * 8 + (if (n / 8 + n % 8) % 2 = 1 then n / 8 else 7 - n / 8)
def encF (i : Fin 64) : Value := .int .i64 ((i.val : Nat) : Int)
def cfF (i j : Fin 64) : Int := zzc ((i.val : Nat) : Int) ((j.val : Nat) : Int)
theorem all64 {p : Nat → Bool} (h : (List.range 64).all p = true) (i : Fin 64) : p i.val = true := List.all_eq_true.1 h i.val (List.mem_range.2 i.isLt)
theorem key_lt_all : ((List.range 64).all fun i => (List.range 64).all fun j => decide (zzc ((i : Nat) : Int) ((j : Nat) : Int) < 0) == decide (zkey i < zkey j)) = true := by decide +kernel
theorem key_inj_all : ((List.range 64).all fun i => (List.range 64).all fun j => (!(zkey i == zkey j)) || (i == j)) = true := by decide +kernel
theorem lt_key (i j : Fin 64) : ltOf cfF i j = decide (zkey i.val < zkey j.val) := by
  have h := List.all_eq_true.1 (all64 key_lt_all i) j.val (List.mem_range.2 j.isLt)
  exact eq_of_beq h
theorem key_inj {i j : Fin 64} (h : zkey i.val = zkey j.val) : i = j := by
  have h1 := List.all_eq_true.1 (all64 key_inj_all i) j.val (List.mem_range.2 j.isLt)
  rw [h] at h1
  simp at h1
  exact Fin.ext h1
theorem swoF : SWO (ltOf cfF) where
  irrefl x := by rw [lt_key]; simp
  trans x y z h1 h2 := by rw [lt_key] at *; simp at *; omega
  ntrans x y z h1 h2 := by rw [lt_key] at *; simp at *; omega
theorem totF (x y : Fin 64) (h1 : ltOf cfF x y = false) (h2 : ltOf cfF y x = false) : x = y := by
  rw [lt_key] at h1 h2
  simp at h1 h2
  exact key_inj (by omega)
def idF : List (Fin 64) := (List.range 64).map fun n => Fin.ofNat 64 n
theorem zz_perm : (zzF.isPerm idF) = true := by decide +kernel
theorem zz_sorted : ((List.range 64).all fun i => (List.range 64).all fun j => decide (i < j) == decide (zkey (zzN.getD i 0) < zkey (zzN.getD j 0))) = true := by decide +kernel
theorem zzF_length : zzF.length = 64 := by decide
theorem zzF_get (i : Nat) (h : i < 64) : (zzF[i]'(by rw [zzF_length]; exact h)).val = zzN.getD i 0 := by
  have h2 : ((List.range 64).all fun i => (zzF.getD i 0).val == zzN.getD i 0) = true := by decide +kernel
  have h3 := List.all_eq_true.1 h2 i (List.mem_range.2 h)
  rw [List.getD_eq_getElem?_getD, List.getElem?_eq_getElem (by rw [zzF_length]; exact h)] at h3
  simpa using h3
theorem zz_merge : idF.mergeSort (fun x y => !(ltOf cfF) y x) = zzF := by
  refine List.Perm.eq_of_pairwise (le := fun x y => (!(ltOf cfF) y x) = true) ?_ ?_ ?_ ((List.mergeSort_perm _ _).trans (List.isPerm_iff.1 zz_perm).symm)
  · intro a b _ _ h1 h2
    simp only [Bool.not_eq_true'] at h1 h2
    exact totF a b h2 h1
  · refine List.pairwise_mergeSort ?_ ?_ _
    · intro a b c h1 h2
      simp only [Bool.not_eq_true'] at h1 h2 ⊢
      exact swoF.ntrans c b a h2 h1
    · intro a b
      cases h : ltOf cfF b a with
      | false => simp
      | true => simp [swoF.asymmA h]
  · rw [List.pairwise_iff_getElem]
    intro i j hi hj hij
    have hi' : i < 64 := by rw [zzF_length] at hi; exact hi
    have hj' : j < 64 := by rw [zzF_length] at hj; exact hj
    rw [lt_key, zzF_get i hi', zzF_get j hj']
    have h1 := List.all_eq_true.1 (List.all_eq_true.1 zz_sorted i (List.mem_range.2 hi')) j (List.mem_range.2 hj')
    have h2 := eq_of_beq h1
    rw [decide_eq_true hij] at h2
    have h3 := of_decide_eq_true h2.symm
    rw [decide_eq_false (by omega)]
    rfl

-- the memory behind it
def setMany (cs : Array Value) : Nat → List Value → Array Value
  | _, [] => cs
  | o, v :: r => setMany (cs.setIfInBounds o v) (o + 1) r
theorem setMany_size : ∀ (vs : List Value) (o : Nat) (cs : Array Value), (setMany cs o vs).size = cs.size := by
  intro vs
  induction vs with
  | nil => intro o cs; rfl
  | cons v r ih => intro o cs; show (setMany _ _ r).size = _; rw [ih, Array.size_setIfInBounds]
theorem setMany_get : ∀ (vs : List Value) (o : Nat) (cs : Array Value) (j : Nat), o + vs.length ≤ cs.size → (setMany cs o vs)[j]? = if o ≤ j ∧ j < o + vs.length then vs[j - o]? else cs[j]? := by
  intro vs
  induction vs with
  | nil => intro o cs j _; rw [if_neg (by rw [List.length_nil]; omega)]; rfl
  | cons v r ih =>
    intro o cs j h
    rw [List.length_cons] at h
    show (setMany _ _ r)[j]? = _
    rw [ih (o + 1) _ j (by rw [Array.size_setIfInBounds]; omega), Array.getElem?_setIfInBounds, List.length_cons]
    by_cases h1 : o = j
    · subst h1
      rw [if_neg (by omega), if_pos rfl, if_pos (by omega), if_pos (by omega), Nat.sub_self]
      rfl
    · rw [if_neg h1]
      by_cases h2 : o + 1 ≤ j ∧ j < o + 1 + r.length
      · rw [if_pos h2, if_pos (by omega), show j - o = (j - (o + 1)) + 1 by omega, List.getElem?_cons_succ]
      · rw [if_neg h2, if_neg (by omega)]
theorem setMany_all {vs : List Value} {cs : Array Value} (h : vs.length = cs.size) : setMany cs 0 vs = vs.toArray := by
  apply Array.ext_getElem?
  intro j
  rw [setMany_get vs 0 cs j (by omega), Nat.zero_add]
  rcases Nat.lt_or_ge j vs.length with h1 | h1
  · rw [if_pos ⟨Nat.zero_le _, h1⟩, Nat.sub_zero]; simp
  · rw [if_neg (by omega)]
    simp [Array.getElem?_eq_none (show cs.size ≤ j by omega), List.getElem?_eq_none h1]
theorem Mem.setCellsB {S : Nat → Prop} {w0 : World} {t : TypeId} {g i : Nat} : ∀ (vs : List Value) (o : Nat) (w : World) (cs : Array Value) (L : List (Nat × Obj)), Mem S w0 w L → L[i]? = some (g, .cells cs t (0, 0)) → Mem S w0 (w.setCells g o vs) (L.set i (g, .cells (setMany cs o vs) t (0, 0))) := by
  intro vs
  induction vs with
  | nil =>
    intro o w cs L M hi
    show Mem S w0 w (L.set i (g, .cells cs t (0, 0)))
    have : L.set i (g, .cells cs t (0, 0)) = L := by
      apply List.ext_getElem?
      intro j
      rw [List.getElem?_set]
      by_cases e : i = j
      · subst e; rw [if_pos rfl, hi]; simp [(List.getElem?_eq_some_iff.1 hi).1]
      · rw [if_neg e]
    rw [this]; exact M
  | cons v r ih =>
    intro o w cs L M hi
    have M1 := M.setCell i hi o v
    have hi1 : (L.set i (g, Obj.cells (cs.setIfInBounds o v) t (0, 0)))[i]? = some (g, .cells (cs.setIfInBounds o v) t (0, 0)) := by
      rw [List.getElem?_set, if_pos rfl, if_pos (List.getElem?_eq_some_iff.1 hi).1]
    have M2 := ih (o + 1) _ _ _ M1 hi1
    rw [List.set_set] at M2
    exact M2
theorem Mem.drewN {S : Nat → Prop} {w0 w : World} {L : List (Nat × Obj)} (M : Mem S w0 w L) (n : Nat) : Mem S w0 (w.drewN n) L := ⟨⟨M.keep.os, M.keep.tape, M.keep.output, M.keep.size, M.keep.block⟩, M.at_, M.own, M.apart⟩
theorem Mem.grow {S : Nat → Prop} {w0 w : World} {L : List (Nat × Obj)} (M : Mem S w0 w L) (os : Array Obj) : Mem S w0 (Go.Sort.grow w os) L := by
  have h : ∀ k, k < w.heap.size → (Go.Sort.grow w os).heap[k]? = w.heap[k]? := fun k hk => heap_grow_old w os hk
  exact ⟨⟨M.keep.os, M.keep.tape, M.keep.output, by rw [size_grow]; have := M.keep.size; omega, fun k hk hS => by rw [h k (by have := M.keep.size; omega)]; exact M.keep.block k hk hS⟩, fun p hp => by rw [h p.1 (M.lt hp)]; exact M.at_ p hp, M.own, M.apart⟩
end Go.Proofs.Ytjclncmpfdfkfaa
