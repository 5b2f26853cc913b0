/- Arrays of 64 numbers: their cells, a sum over a range, the block that a list makes. -/
import Derived.Test.YtpjhehpgpfomjaaRow
import Derived.Test.YtpjhehpgpfomjaaProg
namespace Go.Proofs.Ytpjhehpgpfomjaa
open Go.RowKit

/-- the cells of a list of ints -/
def iv (l : List Int) : Array Value := (l.map (Value.int .i64)).toArray
theorem heap_at_new (w : World) (o : Obj) (k : Nat) (h : k = w.heap.size) : (w.alloc o).heap[k]? = some o := by subst h; exact heap_alloc_new w o
theorem iv_size (l : List Int) : (iv l).size = l.length := by simp [iv]
theorem iv_get (l : List Int) (i : Nat) (h : i < l.length) : (iv l)[i]? = some (.int .i64 (l.getD i 0)) := by
  simp [iv, List.getElem?_eq_getElem h]
theorem iv_set (l : List Int) (i : Nat) (x : Int) : (iv l).setIfInBounds i (.int .i64 x) = iv (l.set i x) := by
  apply Array.toList_inj.1
  simp [iv, List.map_set]

/-- the list of the first n values of a function -/
def tab (n : Nat) (f : Nat → Int) : List Int := (List.range n).map f
theorem tab_length (n : Nat) (f : Nat → Int) : (tab n f).length = n := by simp [tab]
theorem tab_get? (n : Nat) (f : Nat → Int) (i : Nat) : (tab n f)[i]? = if i < n then some (f i) else none := by
  unfold tab
  rw [List.getElem?_map]
  by_cases h : i < n
  · rw [List.getElem?_range h, if_pos h]; rfl
  · rw [List.getElem?_eq_none (by simpa using h), if_neg h]; rfl
theorem tab_getD (n : Nat) (f : Nat → Int) (i : Nat) (h : i < n) : (tab n f).getD i 0 = f i := by
  rw [List.getD_eq_getElem?_getD, tab_get?, if_pos h]; rfl
theorem tab_congr {n : Nat} {f g : Nat → Int} (h : ∀ i, i < n → f i = g i) : tab n f = tab n g := by
  unfold tab
  apply List.map_congr_left
  intro i hi
  exact h i (List.mem_range.1 hi)
theorem tab_set (n : Nat) (f : Nat → Int) (i : Nat) (x : Int) : (tab n f).set i x = tab n (fun j => if j = i then x else f j) := by
  apply List.ext_getElem?
  intro j
  rw [List.getElem?_set, tab_length, tab_get?, tab_get?]
  by_cases h : i = j
  · subst h
    by_cases hi : i < n
    · simp [hi]
    · simp [hi]
  · by_cases hj : j < n
    · simp [h, hj, Ne.symm h]
    · simp [h, hj]
theorem tab_self (l : List Int) (n : Nat) (h : l.length = n) : tab n (fun i => l.getD i 0) = l := by
  apply List.ext_getElem?
  intro i
  rw [tab_get?]
  by_cases hi : i < n
  · rw [if_pos hi, List.getElem?_eq_getElem (by omega), List.getD_eq_getElem?_getD, List.getElem?_eq_getElem (by omega)]; rfl
  · rw [if_neg hi, List.getElem?_eq_none (by omega)]
theorem tab_inj {n : Nat} {f g : Nat → Int} (h : tab n f = tab n g) : ∀ i, i < n → f i = g i := by
  intro i hi
  rw [← tab_getD n f i hi, ← tab_getD n g i hi, h]

/-- the sum of f over the numbers below n -/
def dot (f : Nat → Int) : Nat → Int
  | 0 => 0
  | n + 1 => dot f n + f n
theorem dot_congr {f g : Nat → Int} (n : Nat) (h : ∀ i, i < n → f i = g i) : dot f n = dot g n := by
  induction n with
  | zero => rfl
  | succ n ih => simp only [dot]; rw [ih (fun i hi => h i (by omega)), h n (by omega)]
theorem dot_bound (f : Nat → Int) (B : Int) (n : Nat) (h : ∀ i, i < n → -B ≤ f i ∧ f i ≤ B) : -(n * B) ≤ dot f n ∧ dot f n ≤ n * B := by
  induction n with
  | zero => simp [dot]
  | succ n ih =>
    have h1 := ih (fun i hi => h i (by omega))
    have h2 := h n (by omega)
    simp only [dot]
    have e : ((n + 1 : Nat) : Int) * B = n * B + B := by rw [Int.natCast_add, Int.add_mul]; simp
    omega

theorem iv_one (l : List Int) : (iv l).all (·.oneCell') = true := by
  simp only [iv, List.all_toArray, List.all_map]
  simp [Value.oneCell']
theorem info64 (l : List Int) (h : l.length = 64) : (Try.prog.info? 23).map (·.size) = some (iv l).size := by
  rw [iv_size, h]; kernel_rfl

theorem setRow_heap_at {w : World} {g : Nat} {cur cs : Array Value} {e : TypeId} (hg : w.heap[g]? = some (.cells cur e (0, 0))) : (w.setRow g cs).heap[g]? = some (.cells cs e (0, 0)) := setRow_heap w g cur cs e (0, 0) hg
theorem Below_setRow {B : Nat} {a w : World} (h : Below B a w) {g : Nat} (hg : B ≤ g) (cs : Array Value) : Below B a (w.setRow g cs) :=
  h.trans ⟨rfl, rfl, rfl, by simp [World.setRow], fun k hk => setRow_other w g k cs (by omega)⟩

/-- the block that a list makes -/
def blockOf (l : List Int) : List Int := tab 64 (fun n => l.getD n 0)

set_option maxHeartbeats 400000 in
set_option maxRecDepth 100000 in
theorem block_walk (w : World) (v : Value) (l : List Int) (h : Rd w v (l.map (Value.int .i64))) : Calls Try.prog 13 #[v] w fun e w' => e = .returned (.agg (iv (blockOf l))) ∧ Below w.heap.size w w' := by
  obtain ⟨A, c, rfl, hc, hx⟩ := h.shape
  rw [List.length_map] at *
  go_enter Try.func13, Try.ntmps13
  have HX := Lib.hid hx; clear hx h
  generalize hm : l.length = m at *
  have HM := Lib.hid hm; clear hm
  go_wp2_with fail
  go_loopw [4] (fun t wr => ∃ n : Nat, n ≤ 64 ∧ n ≤ m ∧ t = .int .i64 n ∧ wr.heap[w.heap.size + 1]? = some (.cells (iv (tab 64 (fun i => if i < n then l.getD i 0 else 0))) 23 (0, 0)) ∧
    wr.heap[w.heap.size]? = some (.cells (iv (tab 64 (fun _ => 0))) 23 (0, 0)) ∧ Below w.heap.size w wr) (fun t _ => 64 - (intOf t).toNat)
  case atStart =>
    refine ⟨0, by omega, Nat.zero_le _, rfl, ?_, ?_, ?_⟩
    · rw [show tab 64 (fun i => if i < 0 then l.getD i 0 else 0) = tab 64 (fun _ => 0) from tab_congr (fun i _ => by simp)]
      exact (heap_at_new _ _ _ (by simp)).trans rfl
    · exact ((Below.heap_alloc _ _ _ (by simp)).trans (heap_alloc_new w _)).trans rfl
    · exact ((Below.refl _ _).alloc (Nat.le_refl _) _).alloc (by simp) _
  case round =>
    obtain ⟨n, hn, hnm, rfl, hG, hR, hB⟩ := hrel
    by_cases h64 : n < 64
    · by_cases hlt : n < m
      · obtain ⟨b, off, rfl, cx⟩ := HX.out n (.int .i64 (l.getD n 0)) (by rw [List.getElem?_map, List.getElem?_eq_getElem (by rw [HM.out]; exact hlt), List.getD_eq_getElem?_getD, List.getElem?_eq_getElem (by rw [HM.out]; exact hlt)]; rfl)
        have cx' : wr.cell? ⟨b, off + n, none⟩ = some (.int .i64 (l.getD n 0)) := (hB.cell (p := ⟨b, off + n, none⟩) (World.block_lt_of_cell? _ _ cx)).trans cx
        have cg : ∃ u, wr.cell? ⟨w.heap.size + 1, n, none⟩ = some u := ⟨_, by rw [cell_of_row _ _ _ _ _ _ hG]; exact iv_get _ _ (by rw [tab_length]; exact h64)⟩
        obtain ⟨u, cg⟩ := cg
        have fg : wr.frozen? ⟨w.heap.size + 1, n, none⟩ = false := frozen_of_row hG _
        have fin1 : (wr.setCell ⟨w.heap.size + 1, n, none⟩ (.int .i64 (l.getD n 0))).heap[w.heap.size + 1]? = some (.cells (iv (tab 64 (fun i => if i < n + 1 then l.getD i 0 else 0))) 23 (0, 0)) := by
          rw [setCell_heap_at hG, iv_set, tab_set]
          congr 3
          apply tab_congr
          intro i _
          by_cases e : i = n
          · subst e; rw [if_pos rfl, if_pos (by omega)]
          · rw [if_neg e]
            by_cases e2 : i < n
            · rw [if_pos e2, if_pos (by omega)]
            · rw [if_neg e2, if_neg (by omega)]
        have fin2 : (wr.setCell ⟨w.heap.size + 1, n, none⟩ (.int .i64 (l.getD n 0))).heap[w.heap.size]? = some (.cells (iv (tab 64 (fun _ => 0))) 23 (0, 0)) := by
          rw [Below.heap_setCell _ _ _ _ (by simp)]; exact hR
        have fin3 : Below w.heap.size w (wr.setCell ⟨w.heap.size + 1, n, none⟩ (.int .i64 (l.getD n 0))) := hB.setCell (by simp) _
        have F1 := Lib.hid fin1; clear fin1
        have F2 := Lib.hid fin2; clear fin2
        have F3 := Lib.hid fin3; clear fin3
        generalize l.getD n 0 = x at *
        clear hG hR hB cx
        go_wp2
        go_roundw
        case rel => exact ⟨n + 1, by omega, by omega, by go_num, F1.out, F2.out, F3.out⟩
        case measure => simp [intOf] <;> omega
      · have hfin : tab 64 (fun i => if i < n then l.getD i 0 else 0) = blockOf l := by
          apply tab_congr
          intro i _
          by_cases e : i < n
          · rw [if_pos e]
          · rw [if_neg e, List.getD_eq_getElem?_getD, List.getElem?_eq_none (by rw [HM.out]; omega)]; rfl
        rw [hfin] at hG
        have HF := Lib.hid hfin; clear hfin
        have HG := Lib.hid hG; clear hG
        have HR := Lib.hid hR; clear hR
        have HB := Lib.hid hB; clear hB
        go_wp2_with (first | (go_loud (refine wpList_load_row rfl 23 _ rfl (w.heap.size + 1) rfl 23 (iv (blockOf l)) (0, 0) _ HG.out Try.underlying23 rfl (info64 _ (tab_length _ _)) ?_)) | (refine wpList_store_row rfl 23 _ _ rfl w.heap.size (iv (blockOf l)) rfl rfl 23 _ HR.out (info64 _ (tab_length _ _)) (by rw [iv_size, iv_size, blockOf, tab_length, tab_length]) (iv_one _) ?_))
        exact bodyPost_ret (v := .agg (iv (blockOf l))) (results_cell_row rfl _ _ w.heap.size 23 (iv (blockOf l)) (0, 0) _ rfl (setRow_heap_at HR.out) Try.underlying23 rfl (info64 _ (tab_length _ _))) rfl ⟨rfl, Below_setRow HB.out (Nat.le_refl _) _⟩
    · obtain rfl : n = 64 := by omega
      have hfin : tab 64 (fun i => if i < 64 then l.getD i 0 else 0) = blockOf l := by
        apply tab_congr
        intro i hi
        rw [if_pos hi]
      rw [hfin] at hG
      have HF := Lib.hid hfin; clear hfin
      have HG := Lib.hid hG; clear hG
      have HR := Lib.hid hR; clear hR
      have HB := Lib.hid hB; clear hB
      go_wp2_with (first | (refine wpList_load_row rfl 23 _ rfl (w.heap.size + 1) rfl 23 (iv (blockOf l)) (0, 0) _ HG.out Try.underlying23 rfl (info64 _ (tab_length _ _)) ?_) | (refine wpList_store_row rfl 23 _ _ rfl w.heap.size (iv (blockOf l)) rfl rfl 23 _ HR.out (info64 _ (tab_length _ _)) (by rw [iv_size, iv_size, blockOf, tab_length, tab_length]) (iv_one _) ?_))
      exact bodyPost_ret (v := .agg (iv (blockOf l))) (results_cell_row rfl _ _ w.heap.size 23 (iv (blockOf l)) (0, 0) _ rfl (setRow_heap_at HR.out) Try.underlying23 rfl (info64 _ (tab_length _ _))) rfl ⟨rfl, Below_setRow HB.out (Nat.le_refl _) _⟩
end Go.Proofs.Ytpjhehpgpfomjaa
