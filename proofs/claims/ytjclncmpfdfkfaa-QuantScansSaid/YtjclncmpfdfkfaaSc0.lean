/- Scans, plainly; the sort of a block's indexes. -/
import Derived.Test.YtjclncmpfdfkfaaSp
import Derived.Test.YtjclncmpfdfkfaaSl
import Derived.Test.YtjclncmpfdfkfaaQm
namespace Go.Proofs.Ytjclncmpfdfkfaa
open Go.RowKit Go.Sort Go.Shelf Go.Lib

def altN : List Nat := [0, 8, 16, 24, 1, 9, 2, 10, 17, 25, 32, 40, 48, 56, 57, 49, 41, 33, 26, 18, 3, 11, 4, 12, 19, 27, 34, 42, 50, 58, 35, 43, 51, 59, 20, 28, 5, 13, 6, 14, 21, 29, 36, 44, 52, 60, 37, 45, 53, 61, 22, 30, 7, 15, 23, 31, 38, 46, 54, 62, 39, 47, 55, 63]
def scN (a : Bool) : List Nat := if a then altN else zzN
def scL (a : Bool) : List Int := (scN a).map Int.ofNat
theorem scN_length (a : Bool) : (scN a).length = 64 := by cases a <;> rfl
theorem scL_length (a : Bool) : (scL a).length = 64 := by unfold scL; rw [List.length_map, scN_length]
theorem scL_get (a : Bool) (p : Nat) : (scL a).getD p 0 = (((scN a).getD p 0 : Nat) : Int) := by
  unfold scL
  rw [List.getD_eq_getElem?_getD, List.getD_eq_getElem?_getD, List.getElem?_map]
  cases (scN a)[p]? <;> rfl
/-- where an element stands in the scan -/
def posN (a : Bool) (k : Nat) : Nat := (scN a).idxOf k
theorem sc_all (a : Bool) : ((List.range 64).all fun p => decide ((scN a).getD p 0 < 64) && decide (posN a ((scN a).getD p 0) = p) && decide (posN a p < 64) && decide ((scN a).getD (posN a p) 0 = p)) = true := by
  cases a <;> decide +kernel
theorem sc_facts (a : Bool) {p : Nat} (h : p < 64) : (scN a).getD p 0 < 64 ∧ posN a ((scN a).getD p 0) = p ∧ posN a p < 64 ∧ (scN a).getD (posN a p) 0 = p := by
  have h1 := List.all_eq_true.1 (sc_all a) p (List.mem_range.2 h)
  simp only [Bool.and_eq_true, decide_eq_true_eq] at h1
  exact ⟨h1.1.1.1, h1.1.1.2, h1.1.2, h1.2⟩
/-- a list is filled from its beginning -/
def fiTo (l : List Int) (k n : Nat) : Int := if n < k then l.getD n 0 else 0
theorem fiTo_zero (l : List Int) : tab 64 (fiTo l 0) = zeros := tab_congr fun n hn => by unfold fiTo; rw [if_neg (by omega)]
theorem fiTo_end (l : List Int) (hl : l.length = 64) (k : Nat) (hk : 64 ≤ k) : tab 64 (fiTo l k) = l := Eq.trans (tab_congr fun n hn => by unfold fiTo; rw [if_pos (by omega)]) (tab_self l 64 hl)
theorem fiTo_next (l : List Int) (k : Nat) : (tab 64 (fiTo l k)).set k (l.getD k 0) = tab 64 (fiTo l (k + 1)) := by
  rw [tab_set]
  refine tab_congr fun n hn => ?_
  unfold fiTo
  by_cases e : n = k
  · subst e; rw [if_pos rfl, if_pos (by omega)]
  · rw [if_neg e]
    by_cases e2 : n < k
    · rw [if_pos e2, if_pos (by omega)]
    · rw [if_neg e2, if_neg (by omega)]
def idL : List Int := tab 64 (fun n => (n : Int))
theorem idL_get {k : Nat} (h : k < 64) : idL.getD k 0 = (k : Int) := tab_getD _ _ _ h
/-- a block's elements in scan order -/
def toS (a : Bool) (x : List Int) : List Int := tab 64 fun p => x.getD ((scN a).getD p 0) 0
theorem toS_get (a : Bool) (x : List Int) {p : Nat} (h : p < 64) : (toS a x).getD p 0 = x.getD ((scN a).getD p 0) 0 := tab_getD _ _ _ h
def frS (a : Bool) (x : List Int) : List Int := tab 64 fun k => x.getD (posN a k) 0
def frTo (a : Bool) (x : List Int) (p k : Nat) : Int := if posN a k < p then x.getD (posN a k) 0 else 0
theorem frTo_zero (a : Bool) (x : List Int) : tab 64 (frTo a x 0) = zeros := tab_congr fun n hn => by unfold frTo; rw [if_neg (by omega)]
theorem frTo_end (a : Bool) (x : List Int) (p : Nat) (hp : 64 ≤ p) : tab 64 (frTo a x p) = frS a x := tab_congr fun n hn => by
  unfold frTo
  rw [if_pos (by have := (sc_facts a hn).2.2.1; omega)]
theorem frTo_next (a : Bool) (x : List Int) (p : Nat) (hp : p < 64) : (tab 64 (frTo a x p)).set ((scN a).getD p 0) (x.getD p 0) = tab 64 (frTo a x (p + 1)) := by
  obtain ⟨h1, h2, h3, h4⟩ := sc_facts a hp
  rw [tab_set]
  refine tab_congr fun n hn => ?_
  unfold frTo
  by_cases e : n = (scN a).getD p 0
  · subst e; rw [if_pos rfl, h2, if_pos (by omega)]
  · rw [if_neg e]
    have hne : posN a n ≠ p := fun h => e (by rw [← h]; exact (sc_facts a hn).2.2.2.symm)
    by_cases e2 : posN a n < p
    · rw [if_pos e2, if_pos (by omega)]
    · rw [if_neg e2, if_neg (by omega)]
theorem fr_to (a : Bool) {x : List Int} (hx : x.length = 64) : frS a (toS a x) = x := by
  refine Eq.trans (tab_congr fun n hn => ?_) (tab_self x 64 hx)
  obtain ⟨h1, h2, h3, h4⟩ := sc_facts a hn
  rw [toS_get a x h3, h4]
-- how the reference walks by diagonals
def zcond (i : Nat) : Bool := decide ((if (i / 8) % 2 = 0 then 7 - i % 8 else i % 8) ≤ i / 8 ∧ i / 8 < (if (i / 8) % 2 = 0 then 7 - i % 8 else i % 8) + 8)
def zcnt (i : Nat) : Nat := ((List.range i).filter zcond).length
theorem zcnt_succ (i : Nat) : zcnt (i + 1) = if zcond i then zcnt i + 1 else zcnt i := by
  unfold zcnt
  rw [List.range_succ, List.filter_append, List.length_append]
  cases h : zcond i <;> simp [h]
theorem z_all : ((List.range 120).all fun i => !(zcond i) || (decide (zcnt i < 64) && decide (zzN.getD (zcnt i) 0 = 8 * (if (i / 8) % 2 = 0 then 7 - i % 8 else i % 8) + i / 8 - (if (i / 8) % 2 = 0 then 7 - i % 8 else i % 8)))) = true := by decide +kernel
theorem z_end : zcnt 120 = 64 := by decide +kernel
theorem zcnt_mono {i j : Nat} (h : i ≤ j) : zcnt i ≤ zcnt j := by
  induction h with
  | refl => exact Nat.le_refl _
  | step _ ih => rw [Nat.succ_eq_add_one, zcnt_succ]; split <;> omega
theorem z_facts {s n r : Nat} (hs : s < 15) (hn : n < 8) (hr : r = if s % 2 = 0 then 7 - n else n) : (r ≤ s → s < r + 8 → zcnt (8 * s + n) < 64 ∧ (((8 * r + s - r : Nat) : Int) = (scL false).getD (zcnt (8 * s + n)) 0) ∧ zcnt (8 * s + n + 1) = zcnt (8 * s + n) + 1) ∧ (¬ (r ≤ s ∧ s < r + 8) → zcnt (8 * s + n + 1) = zcnt (8 * s + n)) := by
  have e1 : (8 * s + n) / 8 = s := by omega
  have e2 : (8 * s + n) % 8 = n := by omega
  have hc : zcond (8 * s + n) = decide (r ≤ s ∧ s < r + 8) := by unfold zcond; rw [e1, e2, ← hr]
  have h1 := List.all_eq_true.1 z_all (8 * s + n) (List.mem_range.2 (by omega))
  simp only [e1, e2, ← hr] at h1
  refine ⟨fun a b => ?_, fun a => ?_⟩
  · rw [hc, decide_eq_true ⟨a, b⟩] at h1
    simp only [Bool.not_true, Bool.false_or, Bool.and_eq_true, decide_eq_true_eq] at h1
    refine ⟨h1.1, ?_, by rw [zcnt_succ, hc, decide_eq_true ⟨a, b⟩]; rfl⟩
    rw [scL_get, show scN false = zzN from rfl, h1.2]
  · rw [zcnt_succ, hc, decide_eq_false a]; rfl
def intraL : List Int := [8, 16, 19, 22, 26, 27, 29, 34, 16, 16, 22, 24, 27, 29, 34, 37, 19, 22, 26, 27, 29, 34, 34, 38, 22, 22, 26, 27, 29, 34, 37, 40, 22, 26, 27, 29, 32, 35, 40, 48, 26, 27, 29, 32, 35, 40, 48, 58, 26, 27, 29, 34, 38, 46, 56, 69, 27, 29, 35, 38, 46, 56, 69, 83]
theorem intraL_length : intraL.length = 64 := rfl
/-- the closure's contract, as a sort asks it -/
theorem zz_lays (g : Nat) (w : World) : CmpLays1 Try.prog 55 #[] encF cfF g 0 64 w := fun m os dk _ x y =>
  zzc_walk _ _ ⟨by omega, by have := x.isLt; omega⟩ ⟨by omega, by have := y.isLt; omega⟩ _
theorem idF_get {j : Nat} (h : j < 64) : encF (idF.toArray[j]!) = .int .i64 ((j : Nat) : Int) := by
  have h2 : ((List.range 64).all fun j => decide ((idF.toArray[j]!).val = j)) = true := by decide +kernel
  have h3 := of_decide_eq_true (List.all_eq_true.1 h2 j (List.mem_range.2 h))
  unfold encF
  rw [h3]
theorem zz_cells : (zzF.map encF).toArray = iv (scL false) := by
  unfold iv
  congr 1
/-- the sort of a block's indexes -/
theorem sort_calls {S : Nat → Prop} {w0 w : World} {L : List (Nat × Obj)} {g i : Nat} {t : TypeId} (M : Mem S w0 w L) (hi : L[i]? = some (g, .cells (iv idL) t (0, 0))) :
    Calls Try.prog 54 #[.slice (some ⟨g, 0, none⟩) 64 64, .func (.func 55) #[] #[]] w fun e w' => e = .returned (.tuple #[]) ∧ Mem S w0 w' (L.set i (g, .cells (iv (scL false)) t (0, 0))) := by
  have hsz : idF.toArray.size = 64 := by decide
  have hcell : ∀ j, j < 64 → w.cell? ⟨g, 0 + j, none⟩ = some (encF (idF.toArray[j]!)) := fun j hj => by
    rw [Nat.zero_add, idF_get hj]
    have h1 := iv_get idL j (by rw [show idL.length = 64 from tab_length _ _]; exact hj)
    rw [idL_get hj] at h1
    exact M.cell i hi j _ h1
  have hH : Holds encF w g 0 idF.toArray := fun j hj => by
    rw [hsz] at hj
    exact ⟨hcell j hj, frozen_of_row (M.get i hi) _⟩
  have hblk : g < w.heap.size := M.lt (List.mem_of_getElem? hi)
  have eg : ∀ args w, (callFunc 55 args).run Try.prog w = .ok (.enter 55 args) w := enters_of Try.func55 (by kernel_rfl) rfl
  have hS := Any.slices_SortFunc_total sortL encF (fun _ => rfl) cfF swoF 55 #[] g 0 64 idF.toArray w eg (by rw [hsz]; exact zz_lays g w) hH hblk (by rw [hsz]; omega) totF
  rw [hsz] at hS
  change Calls Try.prog 54 _ _ _ at hS
  refine hS.mono fun e w' ⟨he, n, os, hw⟩ => ⟨he, ?_⟩
  rw [hw]
  unfold sortWorld
  rw [List.toList_toArray, zz_merge, Lib.sorted_world encF w g 0 n idF.toArray zzF os hH (by rw [hsz, zzF_length])]
  have M1 := ((M.drewN n).setCellsB (zzF.map encF) 0 (w.drewN n) (iv idL) L hi).grow os
  rw [setMany_all (by rw [List.length_map, zzF_length, iv_size, show idL.length = 64 from tab_length _ _]), zz_cells] at M1
  exact M1
end Go.Proofs.Ytjclncmpfdfkfaa
