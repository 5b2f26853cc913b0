/- The walk of the law TransformForward. -/
import Derived.Test.YtpjhehpgpfomjaaAw
import Derived.Test.YtpjhehpgpfomjaaAlg
namespace Go.Proofs.Ytpjhehpgpfomjaa
open Go.RowKit

set_option maxHeartbeats 4000000 in
set_option maxRecDepth 100000 in
theorem TransformForward_walk (w : World) (v0 : Value) (l0 : List Int) (hr0 : Rd w v0 (l0.map (Value.int .i64))) : Calls Try.prog 3 #[v0] w fun e w' => e = .returned (.bool true) ∧ Below w.heap.size w w' := by
  refine calls_of_wp Try.func3 rfl ?_
  refine wp_frame (a' := ⟨#[v0, undef, undef, undef, undef, undef, undef, undef, undef, undef, undef, undef, undef, undef, undef, undef, undef, undef, undef, undef, undef, undef, undef, undef, undef, undef, undef, undef, undef, undef], []⟩) (by kernel_rfl) ?_
  have M0 : Mem NoS w w [] := Mem.start _ _
  refine wp_seq_k (fun K1 hK1 => ?_)
  refine wl_region ?_
  refine st_val (.bool false) (by kernel_rfl) (by kernel_rfl) ?_
  refine wl_nil ?_
  refine hK1 _ _ ?_
  try clear hK1 K1
  refine wp_seq_k (fun K2 hK2 => ?_)
  refine wl_region ?_
  refine st_val (v0) (by kernel_rfl) (by kernel_rfl) ?_
  refine st_callB M0 (.agg (iv (blockOf l0))) (by kernel_rfl) (args := #[v0]) (run_value_call 13 #[(Operand.tmp 8)] _ rfl Try.func13 (by kernel_rfl) (by kernel_rfl) _ (by kernel_rfl)) (block_walk w v0 l0 (M0.rd hr0 (fun _ _ h => h))) ?_
  intro W3 M4
  rcases Classical.em (Lim 255 (blockOf l0)) with hL | hL
  ·
    refine st_callB M4 (.tuple #[.agg (iv (fwd (blockOf l0))), .int .i64 0]) (by kernel_rfl) (args := #[.agg (iv (blockOf l0))]) (run_value_call 12 #[(Operand.tmp 9)] _ rfl Try.func12 (by kernel_rfl) (by kernel_rfl) _ (by kernel_rfl)) (forward_good W3 (blockOf l0) (blockOf_length _) hL) ?_
    intro W5 M6
    refine st_val (.tuple #[.agg (iv (fwd (blockOf l0))), .int .i64 0]) (by kernel_rfl) (by kernel_rfl) ?_
    refine st_val (.agg (iv (fwd (blockOf l0)))) (by kernel_rfl) (by kernel_rfl) ?_
    refine st_val (.int .i64 0) (by kernel_rfl) (by kernel_rfl) ?_
    refine st_alloc M6 (.cells (iv zeros) 23 (0, 0)) (by kernel_rfl) (by kernel_rfl) ?_
    intro g7 W8 M9
    refine st_storeRow M9 0 rfl 23 (.tmp 3) (.tmp 11) (by rfl) (iv (fwd (blockOf l0))) (by kernel_rfl) (by kernel_rfl) (info64 _ (fwd_length _)) (iv_same (fwd_length _) zeros_length) (iv_one _) (by kernel_rfl) [(g7, .cells (iv (fwd (blockOf l0))) 23 (0, 0))] rfl ?_
    intro W10 M11
    refine st_val (.int .i64 0) (by kernel_rfl) (by kernel_rfl) ?_
    refine wl_nil ?_
    refine hK2 _ _ ?_
    try clear hK2 K2
    refine wp_seq_k (fun K12 hK12 => ?_)
    refine wl_region ?_
    refine st_val (v0) (by kernel_rfl) (by kernel_rfl) ?_
    refine st_callB M11 (.agg (iv (blockOf l0))) (by kernel_rfl) (args := #[v0]) (run_value_call 13 #[(Operand.tmp 14)] _ rfl Try.func13 (by kernel_rfl) (by kernel_rfl) _ (by kernel_rfl)) (block_walk W10 v0 l0 (M11.rd hr0 (fun _ _ h => h))) ?_
    intro W13 M14
    refine st_callB M14 (.tuple #[.agg (iv (fwd (blockOf l0))), .int .i64 0]) (by kernel_rfl) (args := #[.agg (iv (blockOf l0))]) (run_value_call 14 #[(Operand.tmp 15)] _ rfl Try.func14 (by kernel_rfl) (by kernel_rfl) _ (by kernel_rfl)) (refForward_good W13 (blockOf l0) (blockOf_length _) hL) ?_
    intro W15 M16
    refine st_val (.tuple #[.agg (iv (fwd (blockOf l0))), .int .i64 0]) (by kernel_rfl) (by kernel_rfl) ?_
    refine st_val (.agg (iv (fwd (blockOf l0)))) (by kernel_rfl) (by kernel_rfl) ?_
    refine st_val (.int .i64 0) (by kernel_rfl) (by kernel_rfl) ?_
    refine st_alloc M16 (.cells (iv zeros) 23 (0, 0)) (by kernel_rfl) (by kernel_rfl) ?_
    intro g17 W18 M19
    refine st_storeRow M19 0 rfl 23 (.tmp 5) (.tmp 17) (by rfl) (iv (fwd (blockOf l0))) (by kernel_rfl) (by kernel_rfl) (info64 _ (fwd_length _)) (iv_same (fwd_length _) zeros_length) (iv_one _) (by kernel_rfl) [(g17, .cells (iv (fwd (blockOf l0))) 23 (0, 0)), (g7, .cells (iv (fwd (blockOf l0))) 23 (0, 0))] rfl ?_
    intro W20 M21
    refine st_val (.int .i64 0) (by kernel_rfl) (by kernel_rfl) ?_
    refine wl_nil ?_
    refine hK12 _ _ ?_
    try clear hK12 K12
    refine wp_frame (a' := ⟨#[v0, undef, .bool false, .pointer (some ⟨g7, 0, none⟩), .int .i64 0, .pointer (some ⟨g17, 0, none⟩), .int .i64 0, .tuple #[.agg (iv (fwd (blockOf l0))), .int .i64 0], v0, .agg (iv (blockOf l0)), .tuple #[.agg (iv (fwd (blockOf l0))), .int .i64 0], .agg (iv (fwd (blockOf l0))), .int .i64 0, .tuple #[.agg (iv (fwd (blockOf l0))), .int .i64 0], v0, .agg (iv (blockOf l0)), .tuple #[.agg (iv (fwd (blockOf l0))), .int .i64 0], .agg (iv (fwd (blockOf l0))), .int .i64 0, undef, undef, undef, undef, undef, undef, undef, undef, undef, undef, undef], []⟩) (by kernel_rfl) ?_
    refine wp_seq_k (fun K22 hK22 => ?_)
    refine wl_region ?_
    refine st_callB M21 (.bool true) (by kernel_rfl) (args := #[]) (run_value_call 15 #[] _ rfl Try.func15 (by kernel_rfl) (by kernel_rfl) _ (by kernel_rfl)) (awake_walk W20) ?_
    intro W23 M24
    refine st_val (.bool true) (by kernel_rfl) (by kernel_rfl) ?_
    refine st_val (.int .i64 0) (by kernel_rfl) (by kernel_rfl) ?_
    refine st_val (.int .i64 0) (by kernel_rfl) (by kernel_rfl) ?_
    refine st_val (.bool true) (by kernel_rfl) (by kernel_rfl) ?_
    refine st_val (.bool true) (by kernel_rfl) (by kernel_rfl) ?_
    refine st_val (.bool true) (by kernel_rfl) (by kernel_rfl) ?_
    refine st_val (.agg (iv (fwd (blockOf l0)))) (by kernel_rfl) (run_load_row 23 (.tmp 3) rfl g7 (by kernel_rfl) 23 (iv (fwd (blockOf l0))) (0, 0) _ (M24.get 1 rfl) Try.underlying23 rfl (info64 _ (fwd_length _))) ?_
    refine st_val (.agg (iv (fwd (blockOf l0)))) (by kernel_rfl) (run_load_row 23 (.tmp 5) rfl g17 (by kernel_rfl) 23 (iv (fwd (blockOf l0))) (0, 0) _ (M24.get 0 rfl) Try.underlying23 rfl (info64 _ (fwd_length _))) ?_
    refine st_val (.bool true) (by kernel_rfl) (run_value_bin .eql 23 _ (.tmp 26) (.tmp 27) rfl (.agg (iv (fwd (blockOf l0)))) (.agg (iv (fwd (blockOf l0)))) _ (by kernel_rfl) (by kernel_rfl) (by kernel_rfl) (eql_same W23 (fwd (blockOf l0)) (fwd_length _))) ?_
    refine st_val (.bool true) (by kernel_rfl) (by kernel_rfl) ?_
    refine st_val (.bool true) (by kernel_rfl) (by kernel_rfl) ?_
    refine wl_nil ?_
    refine hK22 _ _ ?_
    try clear hK22 K22
    refine wp_ret ?_
    exact done1 2 (.bool true) (by kernel_rfl) (by kernel_rfl) (by kernel_rfl) ⟨rfl, M24.toBelow⟩
  ·
    refine st_callB M4 (.tuple #[.agg (iv zeros), .int .i64 2]) (by kernel_rfl) (args := #[.agg (iv (blockOf l0))]) (run_value_call 12 #[(Operand.tmp 9)] _ rfl Try.func12 (by kernel_rfl) (by kernel_rfl) _ (by kernel_rfl)) (forward_bad W3 (blockOf l0) (blockOf_length _) hL) ?_
    intro W25 M26
    refine st_val (.tuple #[.agg (iv zeros), .int .i64 2]) (by kernel_rfl) (by kernel_rfl) ?_
    refine st_val (.agg (iv zeros)) (by kernel_rfl) (by kernel_rfl) ?_
    refine st_val (.int .i64 2) (by kernel_rfl) (by kernel_rfl) ?_
    refine st_alloc M26 (.cells (iv zeros) 23 (0, 0)) (by kernel_rfl) (by kernel_rfl) ?_
    intro g27 W28 M29
    refine st_storeRow M29 0 rfl 23 (.tmp 3) (.tmp 11) (by rfl) (iv zeros) (by kernel_rfl) (by kernel_rfl) (info64 _ zeros_length) (iv_same zeros_length zeros_length) (iv_one _) (by kernel_rfl) [(g27, .cells (iv zeros) 23 (0, 0))] rfl ?_
    intro W30 M31
    refine st_val (.int .i64 2) (by kernel_rfl) (by kernel_rfl) ?_
    refine wl_nil ?_
    refine hK2 _ _ ?_
    try clear hK2 K2
    refine wp_seq_k (fun K32 hK32 => ?_)
    refine wl_region ?_
    refine st_val (v0) (by kernel_rfl) (by kernel_rfl) ?_
    refine st_callB M31 (.agg (iv (blockOf l0))) (by kernel_rfl) (args := #[v0]) (run_value_call 13 #[(Operand.tmp 14)] _ rfl Try.func13 (by kernel_rfl) (by kernel_rfl) _ (by kernel_rfl)) (block_walk W30 v0 l0 (M31.rd hr0 (fun _ _ h => h))) ?_
    intro W33 M34
    refine st_callB M34 (.tuple #[.agg (iv zeros), .int .i64 2]) (by kernel_rfl) (args := #[.agg (iv (blockOf l0))]) (run_value_call 14 #[(Operand.tmp 15)] _ rfl Try.func14 (by kernel_rfl) (by kernel_rfl) _ (by kernel_rfl)) (refForward_bad W33 (blockOf l0) (blockOf_length _) hL) ?_
    intro W35 M36
    refine st_val (.tuple #[.agg (iv zeros), .int .i64 2]) (by kernel_rfl) (by kernel_rfl) ?_
    refine st_val (.agg (iv zeros)) (by kernel_rfl) (by kernel_rfl) ?_
    refine st_val (.int .i64 2) (by kernel_rfl) (by kernel_rfl) ?_
    refine st_alloc M36 (.cells (iv zeros) 23 (0, 0)) (by kernel_rfl) (by kernel_rfl) ?_
    intro g37 W38 M39
    refine st_storeRow M39 0 rfl 23 (.tmp 5) (.tmp 17) (by rfl) (iv zeros) (by kernel_rfl) (by kernel_rfl) (info64 _ zeros_length) (iv_same zeros_length zeros_length) (iv_one _) (by kernel_rfl) [(g37, .cells (iv zeros) 23 (0, 0)), (g27, .cells (iv zeros) 23 (0, 0))] rfl ?_
    intro W40 M41
    refine st_val (.int .i64 2) (by kernel_rfl) (by kernel_rfl) ?_
    refine wl_nil ?_
    refine hK32 _ _ ?_
    try clear hK32 K32
    refine wp_frame (a' := ⟨#[v0, undef, .bool false, .pointer (some ⟨g27, 0, none⟩), .int .i64 2, .pointer (some ⟨g37, 0, none⟩), .int .i64 2, .tuple #[.agg (iv zeros), .int .i64 2], v0, .agg (iv (blockOf l0)), .tuple #[.agg (iv zeros), .int .i64 2], .agg (iv zeros), .int .i64 2, .tuple #[.agg (iv zeros), .int .i64 2], v0, .agg (iv (blockOf l0)), .tuple #[.agg (iv zeros), .int .i64 2], .agg (iv zeros), .int .i64 2, undef, undef, undef, undef, undef, undef, undef, undef, undef, undef, undef], []⟩) (by kernel_rfl) ?_
    refine wp_seq_k (fun K42 hK42 => ?_)
    refine wl_region ?_
    refine st_callB M41 (.bool true) (by kernel_rfl) (args := #[]) (run_value_call 15 #[] _ rfl Try.func15 (by kernel_rfl) (by kernel_rfl) _ (by kernel_rfl)) (awake_walk W40) ?_
    intro W43 M44
    refine st_val (.bool true) (by kernel_rfl) (by kernel_rfl) ?_
    refine st_val (.int .i64 2) (by kernel_rfl) (by kernel_rfl) ?_
    refine st_val (.int .i64 2) (by kernel_rfl) (by kernel_rfl) ?_
    refine st_val (.bool true) (by kernel_rfl) (by kernel_rfl) ?_
    refine st_val (.bool true) (by kernel_rfl) (by kernel_rfl) ?_
    refine st_val (.bool true) (by kernel_rfl) (by kernel_rfl) ?_
    refine st_val (.agg (iv zeros)) (by kernel_rfl) (run_load_row 23 (.tmp 3) rfl g27 (by kernel_rfl) 23 (iv zeros) (0, 0) _ (M44.get 1 rfl) Try.underlying23 rfl (info64 _ zeros_length)) ?_
    refine st_val (.agg (iv zeros)) (by kernel_rfl) (run_load_row 23 (.tmp 5) rfl g37 (by kernel_rfl) 23 (iv zeros) (0, 0) _ (M44.get 0 rfl) Try.underlying23 rfl (info64 _ zeros_length)) ?_
    refine st_val (.bool true) (by kernel_rfl) (run_value_bin .eql 23 _ (.tmp 26) (.tmp 27) rfl (.agg (iv zeros)) (.agg (iv zeros)) _ (by kernel_rfl) (by kernel_rfl) (by kernel_rfl) (eql_same W43 zeros zeros_length)) ?_
    refine st_val (.bool true) (by kernel_rfl) (by kernel_rfl) ?_
    refine st_val (.bool true) (by kernel_rfl) (by kernel_rfl) ?_
    refine wl_nil ?_
    refine hK42 _ _ ?_
    try clear hK42 K42
    refine wp_ret ?_
    exact done1 2 (.bool true) (by kernel_rfl) (by kernel_rfl) (by kernel_rfl) ⟨rfl, M44.toBelow⟩
end Go.Proofs.Ytpjhehpgpfomjaa
