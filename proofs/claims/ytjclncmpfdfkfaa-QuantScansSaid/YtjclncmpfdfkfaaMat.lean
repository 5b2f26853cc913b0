/- The transform's matrix, its norms, and small functions of it. -/
import Derived.Test.YtjclncmpfdfkfaaArr
import Derived.Great.BuildSlice
import Derived.Great.Walk
namespace Go.Proofs.Ytjclncmpfdfkfaa
open Go.RowKit Go.Great

/-- the matrix, row after row -/
def matL : List Int := [8, 8, 8, 8, 8, 8, 8, 8, 12, 10, 6, 3, -3, -6, -10, -12, 8, 4, -4, -8, -8, -4, 4, 8, 10, -3, -12, -6, 6, 12, 3, -10, 8, -8, -8, 8, 8, -8, -8, 8, 6, -12, 3, 10, -10, -3, 12, -6, 4, -8, 8, -4, -4, 8, -8, 4, 3, -6, 10, -12, 12, -10, 6, -3]

set_option maxHeartbeats 400000 in
set_option maxRecDepth 100000 in
theorem matrix_walk (w : World) : Calls Try.prog 49 #[] w fun e w' => e = .returned (.agg (iv matL)) ∧ Below w.heap.size w w' := by
  go_enter Try.func49, Try.ntmps49
  have HR : (w.alloc (.cells (iv (tab 64 (fun _ => 0))) 50 (0, 0))).heap[w.heap.size]? = some (.cells (iv (tab 64 (fun _ => 0))) 50 (0, 0)) := heap_alloc_new w _
  have HB : Below w.heap.size w (w.alloc (.cells (iv (tab 64 (fun _ => 0))) 50 (0, 0))) := (Below.refl _ _).alloc (Nat.le_refl _) _
  have R := Lib.hid HR; clear HR
  have B := Lib.hid HB; clear HB
  apply wp_seq_k; intro K1 hK1
  apply wp_region_lit
  refine wpList_allocTo rfl (some 0) rfl (.pointer (some ⟨w.heap.size, 0, none⟩)) (.cells (iv (tab 64 (fun _ => 0))) 50 (0, 0)) (by go_simp; rfl) ?_
  refine wpList_nil (hK1 _ _ ?_)
  clear hK1 K1
  apply wp_seq_k; intro K2 hK2
  apply wp_region_lit
  refine wpList_buildTo rfl 49 _ rfl (some 1) rfl (iv [8, 8, 8, 8, 8, 8, 8, 8]) (by kernel_rfl) ?_
  refine wpList_buildTo rfl 49 _ rfl (some 2) rfl (iv [12, 10, 6, 3, -3, -6, -10, -12]) (by kernel_rfl) ?_
  refine wpList_buildTo rfl 49 _ rfl (some 3) rfl (iv [8, 4, -4, -8, -8, -4, 4, 8]) (by kernel_rfl) ?_
  refine wpList_buildTo rfl 49 _ rfl (some 4) rfl (iv [10, -3, -12, -6, 6, 12, 3, -10]) (by kernel_rfl) ?_
  refine wpList_buildTo rfl 49 _ rfl (some 5) rfl (iv [8, -8, -8, 8, 8, -8, -8, 8]) (by kernel_rfl) ?_
  refine wpList_buildTo rfl 49 _ rfl (some 6) rfl (iv [6, -12, 3, 10, -10, -3, 12, -6]) (by kernel_rfl) ?_
  refine wpList_buildTo rfl 49 _ rfl (some 7) rfl (iv [4, -8, 8, -4, -4, 8, -8, 4]) (by kernel_rfl) ?_
  refine wpList_buildTo rfl 49 _ rfl (some 8) rfl (iv [3, -6, 10, -12, 12, -10, 6, -3]) (by kernel_rfl) ?_
  refine wpList_buildTo rfl 50 _ rfl (some 9) rfl (iv matL) (by kernel_rfl) ?_
  refine wpList_store_rowTo rfl 50 _ _ rfl rfl w.heap.size (iv matL) (by kernel_rfl) (by kernel_rfl) 50 _ R.out (by kernel_rfl) (by kernel_rfl) (iv_one _) ?_
  refine wpList_nil (hK2 _ _ ?_)
  clear hK2 K2
  refine wp_ret (bodyPost_ret (v := .agg (iv matL)) (results_cell_row (p := 0) (ty := 50) (by kernel_rfl) _ _ w.heap.size 50 (iv matL) (0, 0) (.array 8 49) (by kernel_rfl) (setRow_heap_at R.out) (by kernel_rfl) rfl (by kernel_rfl)) (by kernel_rfl) ⟨rfl, Below_setRow B.out (Nat.le_refl _) _⟩)
end Go.Proofs.Ytjclncmpfdfkfaa
