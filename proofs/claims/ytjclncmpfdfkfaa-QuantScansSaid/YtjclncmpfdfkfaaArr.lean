/- Arrays of 64 numbers: their cells, a sum over a range, the block that a list makes. -/
import Derived.Test.YtjclncmpfdfkfaaRow
import Derived.Test.YtjclncmpfdfkfaaProg
namespace Go.Proofs.Ytjclncmpfdfkfaa
open Go.RowKit

/-- the cells of a list of ints -/
def iv (l : List Int) : Array Value := (l.map (Value.int .i64)).toArray
theorem heap_at_new (w : World) (o : Obj) (k : Nat) (h : k = w.heap.size) : (w.alloc o).heap[k]? = some o := by subst h; exact heap_alloc_new w o
theorem iv_size (l : List Int) : (iv l).size = l.length := by simp [iv]
theorem iv_get (l : List Int) (i : Nat) (h : i < l.length) : (iv l)[i]? = some (.int .i64 (l.getD i 0)) := by
  simp [iv, List.getElem?_eq_getElem h]
theorem iv_set (l : List Int) (i : Nat) (x : Int) : (iv l).setIfInBounds i (.int .i64 x) = iv (l.set i x) := by
  apply Array.toList_inj.1
  simp [iv, List.map_set]

/-- the list of the first n values of a function -/
def tab (n : Nat) (f : Nat → Int) : List Int := (List.range n).map f
theorem tab_length (n : Nat) (f : Nat → Int) : (tab n f).length = n := by simp [tab]
theorem tab_get? (n : Nat) (f : Nat → Int) (i : Nat) : (tab n f)[i]? = if i < n then some (f i) else none := by
  unfold tab
  rw [List.getElem?_map]
  by_cases h : i < n
  · rw [List.getElem?_range h, if_pos h]; rfl
  · rw [List.getElem?_eq_none (by simpa using h), if_neg h]; rfl
theorem tab_getD (n : Nat) (f : Nat → Int) (i : Nat) (h : i < n) : (tab n f).getD i 0 = f i := by
  rw [List.getD_eq_getElem?_getD, tab_get?, if_pos h]; rfl
theorem tab_congr {n : Nat} {f g : Nat → Int} (h : ∀ i, i < n → f i = g i) : tab n f = tab n g := by
  unfold tab
  apply List.map_congr_left
  intro i hi
  exact h i (List.mem_range.1 hi)
theorem tab_set (n : Nat) (f : Nat → Int) (i : Nat) (x : Int) : (tab n f).set i x = tab n (fun j => if j = i then x else f j) := by
  apply List.ext_getElem?
  intro j
  rw [List.getElem?_set, tab_length, tab_get?, tab_get?]
  by_cases h : i = j
  · subst h
    by_cases hi : i < n
    · simp [hi]
    · simp [hi]
  · by_cases hj : j < n
    · simp [h, hj, Ne.symm h]
    · simp [h, hj]
theorem tab_self (l : List Int) (n : Nat) (h : l.length = n) : tab n (fun i => l.getD i 0) = l := by
  apply List.ext_getElem?
  intro i
  rw [tab_get?]
  by_cases hi : i < n
  · rw [if_pos hi, List.getElem?_eq_getElem (by omega), List.getD_eq_getElem?_getD, List.getElem?_eq_getElem (by omega)]; rfl
  · rw [if_neg hi, List.getElem?_eq_none (by omega)]
theorem tab_inj {n : Nat} {f g : Nat → Int} (h : tab n f = tab n g) : ∀ i, i < n → f i = g i := by
  intro i hi
  rw [← tab_getD n f i hi, ← tab_getD n g i hi, h]

/-- the sum of f over the numbers below n -/
def dot (f : Nat → Int) : Nat → Int
  | 0 => 0
  | n + 1 => dot f n + f n
theorem dot_congr {f g : Nat → Int} (n : Nat) (h : ∀ i, i < n → f i = g i) : dot f n = dot g n := by
  induction n with
  | zero => rfl
  | succ n ih => simp only [dot]; rw [ih (fun i hi => h i (by omega)), h n (by omega)]
theorem dot_bound (f : Nat → Int) (B : Int) (n : Nat) (h : ∀ i, i < n → -B ≤ f i ∧ f i ≤ B) : -(n * B) ≤ dot f n ∧ dot f n ≤ n * B := by
  induction n with
  | zero => simp [dot]
  | succ n ih =>
    have h1 := ih (fun i hi => h i (by omega))
    have h2 := h n (by omega)
    simp only [dot]
    have e : ((n + 1 : Nat) : Int) * B = n * B + B := by rw [Int.natCast_add, Int.add_mul]; simp
    omega

theorem iv_one (l : List Int) : (iv l).all (·.oneCell') = true := by
  simp only [iv, List.all_toArray, List.all_map]
  simp [Value.oneCell']
theorem info64 (l : List Int) (h : l.length = 64) : (Try.prog.info? 30).map (·.size) = some (iv l).size := by
  rw [iv_size, h]; kernel_rfl

theorem setRow_heap_at {w : World} {g : Nat} {cur cs : Array Value} {e : TypeId} (hg : w.heap[g]? = some (.cells cur e (0, 0))) : (w.setRow g cs).heap[g]? = some (.cells cs e (0, 0)) := setRow_heap w g cur cs e (0, 0) hg
theorem Below_setRow {B : Nat} {a w : World} (h : Below B a w) {g : Nat} (hg : B ≤ g) (cs : Array Value) : Below B a (w.setRow g cs) :=
  h.trans ⟨rfl, rfl, rfl, by simp [World.setRow], fun k hk => setRow_other w g k cs (by omega)⟩

/-- the block that a list makes -/
def blockOf (l : List Int) : List Int := tab 64 (fun n => l.getD n 0)

/-- the cells of a list of bytes -/
def bv (l : List Int) : Array Value := (l.map (Value.int .u8)).toArray
theorem bv_size (l : List Int) : (bv l).size = l.length := by simp [bv]
theorem bv_get (l : List Int) (i : Nat) (h : i < l.length) : (bv l)[i]? = some (.int .u8 (l.getD i 0)) := by
  simp [bv, List.getElem?_eq_getElem h]
theorem bv_set (l : List Int) (i : Nat) (x : Int) : (bv l).setIfInBounds i (.int .u8 x) = bv (l.set i x) := by
  apply Array.toList_inj.1
  simp [bv, List.map_set]
theorem bv_one (l : List Int) : (bv l).all (·.oneCell') = true := by
  simp only [bv, List.all_toArray, List.all_map]
  simp [Value.oneCell']
theorem bv_same {l l' : List Int} {n : Nat} (h : l.length = n) (h' : l'.length = n) : (bv l).size = (bv l').size := by rw [bv_size, bv_size, h, h']
theorem iv_same {l l' : List Int} {n : Nat} (h : l.length = n) (h' : l'.length = n) : (iv l).size = (iv l').size := by rw [iv_size, iv_size, h, h']
def zeros : List Int := tab 64 (fun _ => 0)
theorem zeros_length : zeros.length = 64 := tab_length _ _
theorem blockOf_length (l : List Int) : (blockOf l).length = 64 := tab_length _ _
/-- all bytes -/
def BL (l : List Int) : Prop := ∀ n, n < 64 → 0 ≤ l.getD n 0 ∧ l.getD n 0 < 256
end Go.Proofs.Ytjclncmpfdfkfaa
