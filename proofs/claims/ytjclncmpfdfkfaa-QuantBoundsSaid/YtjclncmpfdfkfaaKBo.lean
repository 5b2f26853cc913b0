/- The walk of the law QuantBounds. -/
import Derived.Test.YtjclncmpfdfkfaaQp
import Derived.Test.YtjclncmpfdfkfaaQa
import Derived.Test.YtjclncmpfdfkfaaEq
import Derived.Test.YtjclncmpfdfkfaaArgI
namespace Go.Proofs.Ytjclncmpfdfkfaa
open Go.RowKit
set_option maxHeartbeats 4000000 in
set_option maxRecDepth 100000 in
theorem QuantBounds_walk (w : World) (v0 : Value) (l0 : List Int) (hr0 : Rd w v0 (l0.map (Value.int .u8))) (hb0 : ∀ x ∈ l0, 0 ≤ x ∧ x < 256) (q : Int) : Calls Try.prog 9 #[v0, .int .i64 q] w fun e w' => e = .returned (.bool true) ∧ Below w.heap.size w w' := by
  refine calls_of_wp Try.func9 rfl ?_
  refine wp_frame (a' := ⟨#[v0, .int .i64 q, undef, undef, undef, undef, undef, undef, undef, undef, undef, undef, undef, undef, undef, undef, undef], []⟩) (by kernel_rfl) ?_
  have M0 : Mem NoS w w [] := Mem.start _ _
  refine wp_seq_k (fun K1 hK1 => ?_)
  refine wl_region ?_
  refine st_val (.bool false) (by kernel_rfl) (by kernel_rfl) ?_
  refine wl_nil ?_
  refine hK1 _ _ ?_
  try clear hK1 K1
  refine wp_seq_k (fun K2 hK2 => ?_)
  refine wl_region ?_
  refine st_callB M0 (.bool true) (by kernel_rfl) (args := #[]) (run_value_call 14 #[] _ rfl Try.func14 (by kernel_rfl) (by kernel_rfl) _ (by kernel_rfl)) (awake_walk w) ?_
  intro W3 M4
  refine st_val (.bool true) (by kernel_rfl) (by kernel_rfl) ?_
  refine st_val (v0) (by kernel_rfl) (by kernel_rfl) ?_
  refine st_callB M4 (.agg (bv (matOf l0))) (by kernel_rfl) (args := #[v0]) (run_value_call 13 #[(Operand.tmp 7)] _ rfl Try.func13 (by kernel_rfl) (by kernel_rfl) _ (by kernel_rfl)) (matrix_walk_ W3 v0 l0 (M4.rd hr0 (fun _ _ h => h))) ?_
  intro W5 M6
  refine st_val (.int .i64 q) (by kernel_rfl) (by kernel_rfl) ?_
  refine st_callB M6 (.int .i64 (bnd (matOf l0) q)) (by kernel_rfl) (args := #[.agg (bv (matOf l0)), .int .i64 q]) (run_value_call 26 #[(Operand.tmp 8), (Operand.tmp 9)] _ rfl Try.func26 (by kernel_rfl) (by kernel_rfl) _ (by kernel_rfl)) (bound_walk W5 (matOf l0) q (matOf_length _) (matOf_BL hb0)) ?_
  intro W7 M8
  refine st_val (v0) (by kernel_rfl) (by kernel_rfl) ?_
  refine st_callB M8 (.agg (bv (matOf l0))) (by kernel_rfl) (args := #[v0]) (run_value_call 13 #[(Operand.tmp 11)] _ rfl Try.func13 (by kernel_rfl) (by kernel_rfl) _ (by kernel_rfl)) (matrix_walk_ W7 v0 l0 (M8.rd hr0 (fun _ _ h => h))) ?_
  intro W9 M10
  refine st_val (.int .i64 q) (by kernel_rfl) (by kernel_rfl) ?_
  refine st_callB M10 (.int .i64 (bnd (matOf l0) q)) (by kernel_rfl) (args := #[.agg (bv (matOf l0)), .int .i64 q]) (run_value_call 27 #[(Operand.tmp 12), (Operand.tmp 13)] _ rfl Try.func27 (by kernel_rfl) (by kernel_rfl) _ (by kernel_rfl)) (refBound_walk W9 (matOf l0) q (matOf_length _) (matOf_BL hb0)) ?_
  intro W11 M12
  refine st_val (.bool true) (by kernel_rfl) (bool_of (dec_t (show (bnd (matOf l0) q : Int) = bnd (matOf l0) q from rfl)) (by kernel_rfl)) ?_
  refine st_val (.bool true) (by kernel_rfl) (by kernel_rfl) ?_
  refine st_val (.bool true) (by kernel_rfl) (by kernel_rfl) ?_
  refine wl_nil ?_
  refine hK2 _ _ ?_
  try clear hK2 K2
  refine wp_frame (a' := ⟨#[v0, .int .i64 q, undef, undef, .bool true, .bool true, .bool true, v0, .agg (bv (matOf l0)), .int .i64 q, .int .i64 (bnd (matOf l0) q), v0, .agg (bv (matOf l0)), .int .i64 q, .int .i64 (bnd (matOf l0) q), .bool true, .bool true], []⟩) (by kernel_rfl) ?_
  refine wp_ret ?_
  exact done1 4 (.bool true) (by kernel_rfl) (by kernel_rfl) (by kernel_rfl) ⟨rfl, M12.toBelow⟩
end Go.Proofs.Ytjclncmpfdfkfaa
