/- The walk of the law TransformInverse. -/
import Derived.Test.YtpjhehpgpfomjaaAw
import Derived.Test.YtpjhehpgpfomjaaAlg
namespace Go.Proofs.Ytpjhehpgpfomjaa
open Go.RowKit

set_option maxHeartbeats 4000000 in
set_option maxRecDepth 100000 in
theorem TransformInverse_walk (w : World) (v0 : Value) (l0 : List Int) (hr0 : Rd w v0 (l0.map (Value.int .i64))) : Calls Try.prog 4 #[v0] w fun e w' => e = .returned (.bool true) ∧ Below w.heap.size w w' := by
  refine calls_of_wp Try.func4 rfl ?_
  refine wp_frame (a' := ⟨#[v0, undef, undef, undef, undef, undef, undef, undef, undef, undef, undef, undef, undef], []⟩) (by kernel_rfl) ?_
  have M0 : Mem NoS w w [] := Mem.start _ _
  refine wp_seq_k (fun K1 hK1 => ?_)
  refine wl_region ?_
  refine st_val (.bool false) (by kernel_rfl) (by kernel_rfl) ?_
  refine wl_nil ?_
  refine hK1 _ _ ?_
  try clear hK1 K1
  refine wp_seq_k (fun K2 hK2 => ?_)
  refine wl_region ?_
  refine st_callB M0 (.bool true) (by kernel_rfl) (args := #[]) (run_value_call 15 #[] _ rfl Try.func15 (by kernel_rfl) (by kernel_rfl) _ (by kernel_rfl)) (awake_walk w) ?_
  intro W3 M4
  refine st_val (.bool true) (by kernel_rfl) (by kernel_rfl) ?_
  refine st_val (v0) (by kernel_rfl) (by kernel_rfl) ?_
  refine st_callB M4 (.agg (iv (blockOf l0))) (by kernel_rfl) (args := #[v0]) (run_value_call 13 #[(Operand.tmp 5)] _ rfl Try.func13 (by kernel_rfl) (by kernel_rfl) _ (by kernel_rfl)) (block_walk W3 v0 l0 (M4.rd hr0 (fun _ _ h => h))) ?_
  intro W5 M6
  refine st_callB M6 (.agg (iv (inv (blockOf l0)))) (by kernel_rfl) (args := #[.agg (iv (blockOf l0))]) (run_value_call 16 #[(Operand.tmp 6)] _ rfl Try.func16 (by kernel_rfl) (by kernel_rfl) _ (by kernel_rfl)) (inverse_walk W5 (blockOf l0) (blockOf_length _)) ?_
  intro W7 M8
  refine st_val (v0) (by kernel_rfl) (by kernel_rfl) ?_
  refine st_callB M8 (.agg (iv (blockOf l0))) (by kernel_rfl) (args := #[v0]) (run_value_call 13 #[(Operand.tmp 8)] _ rfl Try.func13 (by kernel_rfl) (by kernel_rfl) _ (by kernel_rfl)) (block_walk W7 v0 l0 (M8.rd hr0 (fun _ _ h => h))) ?_
  intro W9 M10
  refine st_callB M10 (.agg (iv (inv (blockOf l0)))) (by kernel_rfl) (args := #[.agg (iv (blockOf l0))]) (run_value_call 17 #[(Operand.tmp 9)] _ rfl Try.func17 (by kernel_rfl) (by kernel_rfl) _ (by kernel_rfl)) (refInverse_walk W9 (blockOf l0) (blockOf_length _)) ?_
  intro W11 M12
  refine st_val (.bool true) (by kernel_rfl) (run_value_bin .eql 23 _ (.tmp 7) (.tmp 10) rfl (.agg (iv (inv (blockOf l0)))) (.agg (iv (inv (blockOf l0)))) _ (by kernel_rfl) (by kernel_rfl) (by kernel_rfl) (eql_same W11 (inv (blockOf l0)) (inv_length _))) ?_
  refine st_val (.bool true) (by kernel_rfl) (by kernel_rfl) ?_
  refine st_val (.bool true) (by kernel_rfl) (by kernel_rfl) ?_
  refine wl_nil ?_
  refine hK2 _ _ ?_
  try clear hK2 K2
  refine wp_ret ?_
  exact done1 2 (.bool true) (by kernel_rfl) (by kernel_rfl) (by kernel_rfl) ⟨rfl, M12.toBelow⟩
end Go.Proofs.Ytpjhehpgpfomjaa
