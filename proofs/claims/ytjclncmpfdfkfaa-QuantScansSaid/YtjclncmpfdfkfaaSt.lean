/- The store of a nest of loops that fills rows of 64 numbers one after the other, and laws to read and write it. -/
import Derived.Test.YtjclncmpfdfkfaaMat
namespace Go.Proofs.Ytjclncmpfdfkfaa
open Go.RowKit

/-- rows below c are done, row c holds v, the others are 0 -/
def part2 (R : Nat → Int) (c : Nat) (v : Int) : Nat → Int := fun n => if n < c then R n else if n = c then v else 0
theorem part2_zero (R : Nat → Int) : part2 R 0 0 = fun _ => 0 := by
  funext n
  unfold part2
  rw [if_neg (Nat.not_lt_zero n)]
  split <;> rfl
theorem part2_next (R : Nat → Int) (c : Nat) (v : Int) (hv : v = R c) : part2 R c v = part2 R (c + 1) 0 := by
  subst hv
  funext n
  unfold part2
  by_cases h : n < c
  · rw [if_pos h, if_pos (by omega)]
  · rw [if_neg h]
    by_cases h2 : n = c
    · rw [if_pos h2, if_pos (by omega), h2]
    · rw [if_neg h2, if_neg (by omega)]
      split <;> rfl
theorem part2_end (R : Nat → Int) (v : Int) : tab 64 (part2 R 64 v) = tab 64 R := tab_congr (fun i hi => by unfold part2; rw [if_pos hi])
theorem part2_set (R : Nat → Int) (c : Nat) (v v' : Int) : (tab 64 (part2 R c v)).set c v' = tab 64 (part2 R c v') := by
  rw [tab_set]
  apply tab_congr
  intro i _
  unfold part2
  by_cases h : i = c
  · subst h; rw [if_pos rfl, if_neg (Nat.lt_irrefl _), if_pos rfl]
  · rw [if_neg h]
    by_cases h2 : i < c
    · rw [if_pos h2, if_pos h2]
    · rw [if_neg h2, if_neg h2, if_neg h, if_neg h]
theorem part2_at (R : Nat → Int) (c : Nat) (v : Int) (h : c < 64) : (tab 64 (part2 R c v)).getD c 0 = v := by
  rw [tab_getD _ _ _ h]; unfold part2; rw [if_neg (Nat.lt_irrefl _), if_pos rfl]

/-- block g of w is the row of the numbers l -/
def Has (w : World) (g : Nat) (t : TypeId) (l : List Int) : Prop := w.heap[g]? = some (.cells (iv l) t (0, 0))
namespace Has
variable {w w' : World} {g : Nat} {t : TypeId} {l : List Int}
theorem lt (h : Has w g t l) : g < w.heap.size := heap_lt h
theorem below {B : Nat} (h : Has w g t l) (hb : Below B w w') (hg : g < B) : Has w' g t l := (hb.block g hg).trans h
theorem belowS (h : Has w g t l) (hb : Below w.heap.size w w') : Has w' g t l := h.below hb h.lt
theorem cell (h : Has w g t l) (i : Nat) (hi : i < l.length) : w.cell? ⟨g, i, none⟩ = some (.int .i64 (l.getD i 0)) := by
  rw [cell_of_row _ _ _ _ _ _ h]; exact iv_get _ _ hi
theorem frozen (h : Has w g t l) (i : Nat) : w.frozen? ⟨g, i, none⟩ = false := frozen_of_row h _
theorem set (h : Has w g t l) (i : Nat) (x : Int) : Has (w.setCell ⟨g, i, none⟩ (.int .i64 x)) g t (l.set i x) := by
  unfold Has
  rw [setCell_heap_at h, iv_set]
theorem other (h : Has w g t l) {p : Addr} (hp : p.block ≠ g) (v : Value) : Has (w.setCell p v) g t l := by
  unfold Has
  rw [Below.heap_setCell _ _ _ _ hp.symm]; exact h
theorem alloc (h : Has w g t l) (o : Obj) : Has (w.alloc o) g t l := (Below.heap_alloc _ _ _ h.lt).trans h
theorem setRow (h : Has w g t l) (l' : List Int) : Has (w.setRow g (iv l')) g t l' := setRow_heap_at h
theorem rowOther (h : Has w g t l) {k : Nat} (hk : k ≠ g) (cs : Array Value) : Has (w.setRow k cs) g t l := (setRow_other w k g cs hk.symm).trans h
theorem new (w : World) (t : TypeId) (l : List Int) : Has (w.alloc (.cells (iv l) t (0, 0))) w.heap.size t l := heap_alloc_new w _
theorem newAt (w : World) (t : TypeId) (l : List Int) (k : Nat) (h : k = w.heap.size) : Has (w.alloc (.cells (iv l) t (0, 0))) k t l := by subst h; exact new w t l
end Has
theorem idx {i : Nat} {n : Nat} (h : i < n) : (0 : Int) ≤ (i : Int) ∧ (i : Int) < (n : Int) := by omega

/-- an element of an array value of numbers -/
theorem index_iv {P : Program} {w : World} {t e : TypeId} {len : Nat} (l : List Int) (hu : P.underlying t = some (.array len e)) (ha : (isAgg e).run P w = .ok false w) (hs : (sizeOf e).run P w = .ok 1 w)
    (n : Nat) (hn : n < len) (hl : n < l.length) : (Instr.index t (.agg (iv l)) (.int .i64 (n : Int))).run P w = .ok (.int .i64 (l.getD n 0)) w := by
  simp [Instr.index, run_underlying hu, asIntOf, part, ha, hs, hn, iv_get _ _ hl]

/-- the results of a function whose first result lies in a cell and whose second one in a slot -/
theorem results_two {fn : Func} {P : Program} {p u : Tmp} {ty : TypeId} (h : fn.results = #[.cell p ty, .tmp u]) (tmps : Array Value) (w : World) (g : Nat) (t : TypeId) (cs : Array Value) (fr : Nat × Nat) (d : TypeDesc)
    (hp : tmps.getD p undef = .pointer (some ⟨g, 0, none⟩)) (hg : w.heap[g]? = some (.cells cs t fr))
    (hu : P.underlying ty = some d) (hd : (match d with | .struct _ | .array _ _ => true | _ => false) = true) (hi : (P.info? ty).map (·.size) = some cs.size) (v : Value) (hv : tmps.getD u undef = v) :
    (results fn tmps).run P w = .ok (.tuple #[.agg cs, v]) w := by
  subst hv
  rw [results_cell_tmp h, hp]
  simp [asAddr, run_loadVar_row w g t ty cs fr d hg hu hd hi]
end Go.Proofs.Ytjclncmpfdfkfaa
