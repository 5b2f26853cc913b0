/- The walk of the law TransformBack. -/
import Derived.Test.YtpjhehpgpfomjaaAw
import Derived.Test.YtpjhehpgpfomjaaAlg
namespace Go.Proofs.Ytpjhehpgpfomjaa
open Go.RowKit

set_option maxHeartbeats 4000000 in
set_option maxRecDepth 100000 in
theorem TransformBack_walk (w : World) (v0 : Value) (l0 : List Int) (hr0 : Rd w v0 (l0.map (Value.int .i64))) : Calls Try.prog 5 #[v0] w fun e w' => e = .returned (.bool true) ∧ Below w.heap.size w w' := by
  refine calls_of_wp Try.func5 rfl ?_
  refine wp_frame (a' := ⟨#[v0, undef, undef, undef, undef, undef, undef, undef, undef, undef, undef, undef, undef, undef, undef, undef, undef, undef, undef, undef, undef, undef, undef, undef, undef, undef, undef, undef, undef, undef, undef, undef, undef, undef, undef, undef], []⟩) (by kernel_rfl) ?_
  have M0 : Mem NoS w w [] := Mem.start _ _
  refine wp_seq_k (fun K1 hK1 => ?_)
  refine wl_region ?_
  refine st_val (.bool false) (by kernel_rfl) (by kernel_rfl) ?_
  refine wl_nil ?_
  refine hK1 _ _ ?_
  try clear hK1 K1
  refine wp_seq_k (fun K2 hK2 => ?_)
  refine wl_region ?_
  refine st_val (v0) (by kernel_rfl) (by kernel_rfl) ?_
  refine st_callB M0 (.agg (iv (blockOf l0))) (by kernel_rfl) (args := #[v0]) (run_value_call 13 #[(Operand.tmp 6)] _ rfl Try.func13 (by kernel_rfl) (by kernel_rfl) _ (by kernel_rfl)) (block_walk w v0 l0 (M0.rd hr0 (fun _ _ h => h))) ?_
  intro W3 M4
  refine st_alloc M4 (.cells (iv zeros) 23 (0, 0)) (by kernel_rfl) (by kernel_rfl) ?_
  intro g5 W6 M7
  refine st_storeRow M7 0 rfl 23 (.tmp 3) (.tmp 7) (by rfl) (iv (blockOf l0)) (by kernel_rfl) (by kernel_rfl) (info64 _ (blockOf_length _)) (iv_same (blockOf_length _) zeros_length) (iv_one _) (by kernel_rfl) [(g5, .cells (iv (blockOf l0)) 23 (0, 0))] rfl ?_
  intro W8 M9
  refine wl_nil ?_
  refine hK2 _ _ ?_
  try clear hK2 K2
  refine wp_seq_k (fun K10 hK10 => ?_)
  refine wl_region ?_
  refine st_val (.agg (iv (blockOf l0))) (by kernel_rfl) (run_load_row 23 (.tmp 3) rfl g5 (by kernel_rfl) 23 (iv (blockOf l0)) (0, 0) _ (M9.get 0 rfl) Try.underlying23 rfl (info64 _ (blockOf_length _))) ?_
  rcases Classical.em (Lim 255 (blockOf l0)) with hL | hL
  ·
    refine st_callB M9 (.tuple #[.agg (iv (fwd (blockOf l0))), .int .i64 0]) (by kernel_rfl) (args := #[.agg (iv (blockOf l0))]) (run_value_call 12 #[(Operand.tmp 9)] _ rfl Try.func12 (by kernel_rfl) (by kernel_rfl) _ (by kernel_rfl)) (forward_good W8 (blockOf l0) (blockOf_length _) hL) ?_
    intro W11 M12
    refine st_val (.tuple #[.agg (iv (fwd (blockOf l0))), .int .i64 0]) (by kernel_rfl) (by kernel_rfl) ?_
    refine st_val (.agg (iv (fwd (blockOf l0)))) (by kernel_rfl) (by kernel_rfl) ?_
    refine st_val (.int .i64 0) (by kernel_rfl) (by kernel_rfl) ?_
    refine st_alloc M12 (.cells (iv zeros) 23 (0, 0)) (by kernel_rfl) (by kernel_rfl) ?_
    intro g13 W14 M15
    refine st_storeRow M15 0 rfl 23 (.tmp 4) (.tmp 11) (by rfl) (iv (fwd (blockOf l0))) (by kernel_rfl) (by kernel_rfl) (info64 _ (fwd_length _)) (iv_same (fwd_length _) zeros_length) (iv_one _) (by kernel_rfl) [(g13, .cells (iv (fwd (blockOf l0))) 23 (0, 0)), (g5, .cells (iv (blockOf l0)) 23 (0, 0))] rfl ?_
    intro W16 M17
    refine st_val (.int .i64 0) (by kernel_rfl) (by kernel_rfl) ?_
    refine wl_nil ?_
    refine hK10 _ _ ?_
    try clear hK10 K10
    refine wp_seq_k (fun K18 hK18 => ?_)
    refine wp_seq_k (fun K19 hK19 => ?_)
    refine wl_region ?_
    refine st_val (.agg (iv (blockOf l0))) (by kernel_rfl) (run_load_row 23 (.tmp 3) rfl g5 (by kernel_rfl) 23 (iv (blockOf l0)) (0, 0) _ (M17.get 1 rfl) Try.underlying23 rfl (info64 _ (blockOf_length _))) ?_
    refine st_callB M17 (.bool true) (by kernel_rfl) (args := #[.agg (iv (blockOf l0)), .int .i64 255]) (run_value_call 18 #[(Operand.tmp 13), (Operand.const (Value.int IntKind.i64 255))] _ rfl Try.func18 (by kernel_rfl) (by kernel_rfl) _ (by kernel_rfl)) ((by have := within_walk W16 (blockOf l0) (blockOf_length _) 255 (by omega); rw [within_of hL] at this; exact this)) ?_
    intro W20 M21
    refine st_val (.bool false) (by kernel_rfl) (by kernel_rfl) ?_
    refine wl_nil ?_
    refine hK19 _ _ ?_
    try clear hK19 K19
    refine wp_frame (a' := ⟨#[v0, undef, .bool false, .pointer (some ⟨g5, 0, none⟩), .pointer (some ⟨g13, 0, none⟩), .int .i64 0, v0, .agg (iv (blockOf l0)), .tuple #[.agg (iv (fwd (blockOf l0))), .int .i64 0], .agg (iv (blockOf l0)), .tuple #[.agg (iv (fwd (blockOf l0))), .int .i64 0], .agg (iv (fwd (blockOf l0))), .int .i64 0, .agg (iv (blockOf l0)), .bool true, .bool false, undef, undef, undef, undef, undef, undef, undef, undef, undef, undef, undef, undef, undef, undef, undef, undef, undef, undef, undef, undef], []⟩) (by kernel_rfl) ?_
    refine wp_cond_false (by kernel_rfl) ?_
    refine wp_skip ?_
    refine hK18 _ _ ?_
    try clear hK18 K18
    refine wp_seq_k (fun K22 hK22 => ?_)
    refine wl_seq 16 (fun w' => Mem NoS w w' [(g13, .cells (iv (fwd (blockOf l0))) 23 (0, 0)), (g5, .cells (iv (blockOf l0)) 23 (0, 0))]) (by decide) (by kernel_rfl) (by kernel_rfl) M21.drew ?_
    refine seq_call (v := .bool true) (f := 15) (args := #[]) (by decide) (by kernel_rfl) (fun w' M' => (run_value_call 15 #[] _ rfl Try.func15 (by kernel_rfl) (by kernel_rfl) _ (by kernel_rfl))) (fun w' M' => callB_mem M' (awake_walk w')) ?_
    refine seq_run (v := .bool true) (by decide) (by kernel_rfl) (fun w' M' => (by kernel_rfl)) ?_
    refine seq_run (v := .int .i64 0) (by decide) (by kernel_rfl) (fun w' M' => (by kernel_rfl)) ?_
    refine seq_run (v := .bool true) (by decide) (by kernel_rfl) (fun w' M' => (by kernel_rfl)) ?_
    refine seq_run (v := .bool true) (by decide) (by kernel_rfl) (fun w' M' => (by kernel_rfl)) ?_
    refine seq_run (v := .bool true) (by decide) (by kernel_rfl) (fun w' M' => (by kernel_rfl)) ?_
    refine seq_run (v := .agg (iv (fwd (blockOf l0)))) (by decide) (by kernel_rfl) (fun w' M' => (run_load_row 23 (.tmp 4) rfl g13 (by kernel_rfl) 23 (iv (fwd (blockOf l0))) (0, 0) _ (M'.get 0 rfl) Try.underlying23 rfl (info64 _ (fwd_length _)))) ?_
    refine seq_call (v := .bool true) (f := 18) (args := #[.agg (iv (fwd (blockOf l0))), .int .i64 1044480]) (by decide) (by kernel_rfl) (fun w' M' => (run_value_call 18 #[(Operand.tmp 27), (Operand.const (Value.int IntKind.i64 1044480))] _ rfl Try.func18 (by kernel_rfl) (by kernel_rfl) _ (by kernel_rfl))) (fun w' M' => callB_mem M' ((by have := within_walk w' (fwd (blockOf l0)) (fwd_length _) 1044480 (by omega); rw [within_of (fwd_bound hL)] at this; exact this))) ?_
    refine seq_run (v := .bool true) (by decide) (by kernel_rfl) (fun w' M' => (by kernel_rfl)) ?_
    refine seq_run (v := .bool true) (by decide) (by kernel_rfl) (fun w' M' => (by kernel_rfl)) ?_
    refine seq_run (v := .agg (iv (fwd (blockOf l0)))) (by decide) (by kernel_rfl) (fun w' M' => (run_load_row 23 (.tmp 4) rfl g13 (by kernel_rfl) 23 (iv (fwd (blockOf l0))) (0, 0) _ (M'.get 0 rfl) Try.underlying23 rfl (info64 _ (fwd_length _)))) ?_
    refine seq_call (v := .agg (iv (blockOf l0))) (f := 16) (args := #[.agg (iv (fwd (blockOf l0)))]) (by decide) (by kernel_rfl) (fun w' M' => (run_value_call 16 #[(Operand.tmp 31)] _ rfl Try.func16 (by kernel_rfl) (by kernel_rfl) _ (by kernel_rfl))) (fun w' M' => callB_mem M' ((by have := inverse_walk w' (fwd (blockOf l0)) (fwd_length _); rw [inv_fwd (blockOf_length _) hL] at this; exact this))) ?_
    refine seq_run (v := .agg (iv (blockOf l0))) (by decide) (by kernel_rfl) (fun w' M' => (run_load_row 23 (.tmp 3) rfl g5 (by kernel_rfl) 23 (iv (blockOf l0)) (0, 0) _ (M'.get 1 rfl) Try.underlying23 rfl (info64 _ (blockOf_length _)))) ?_
    refine seq_run (v := .bool true) (by decide) (by kernel_rfl) (fun w' M' => (run_value_bin .eql 23 _ (.tmp 32) (.tmp 33) rfl (.agg (iv (blockOf l0))) (.agg (iv (blockOf l0))) _ (by kernel_rfl) (by kernel_rfl) (by kernel_rfl) (eql_same w' (blockOf l0) (blockOf_length _)))) ?_
    refine seq_run (v := .bool true) (by decide) (by kernel_rfl) (fun w' M' => (by kernel_rfl)) ?_
    refine seq_run (v := .bool true) (by decide) (by kernel_rfl) (fun w' M' => (by kernel_rfl)) ?_
    refine seq_end (by decide) ?_
    intro W23 M24
    refine wl_nil ?_
    refine hK22 _ _ ?_
    try clear hK22 K22
    refine wp_frame (a' := ⟨#[v0, undef, .bool true, .pointer (some ⟨g5, 0, none⟩), .pointer (some ⟨g13, 0, none⟩), .int .i64 0, v0, .agg (iv (blockOf l0)), .tuple #[.agg (iv (fwd (blockOf l0))), .int .i64 0], .agg (iv (blockOf l0)), .tuple #[.agg (iv (fwd (blockOf l0))), .int .i64 0], .agg (iv (fwd (blockOf l0))), .int .i64 0, .agg (iv (blockOf l0)), .bool true, .bool false, undef, undef, undef, undef, undef, .bool true, .bool true, .int .i64 0, .bool true, .bool true, .bool true, .agg (iv (fwd (blockOf l0))), .bool true, .bool true, .bool true, .agg (iv (fwd (blockOf l0))), .agg (iv (blockOf l0)), .agg (iv (blockOf l0)), .bool true, .bool true], []⟩) (by kernel_rfl) ?_
    refine wp_ret ?_
    exact done1 2 (.bool true) (by kernel_rfl) (by kernel_rfl) (by kernel_rfl) ⟨rfl, M24.toBelow⟩
  ·
    refine st_callB M9 (.tuple #[.agg (iv zeros), .int .i64 2]) (by kernel_rfl) (args := #[.agg (iv (blockOf l0))]) (run_value_call 12 #[(Operand.tmp 9)] _ rfl Try.func12 (by kernel_rfl) (by kernel_rfl) _ (by kernel_rfl)) (forward_bad W8 (blockOf l0) (blockOf_length _) hL) ?_
    intro W25 M26
    refine st_val (.tuple #[.agg (iv zeros), .int .i64 2]) (by kernel_rfl) (by kernel_rfl) ?_
    refine st_val (.agg (iv zeros)) (by kernel_rfl) (by kernel_rfl) ?_
    refine st_val (.int .i64 2) (by kernel_rfl) (by kernel_rfl) ?_
    refine st_alloc M26 (.cells (iv zeros) 23 (0, 0)) (by kernel_rfl) (by kernel_rfl) ?_
    intro g27 W28 M29
    refine st_storeRow M29 0 rfl 23 (.tmp 4) (.tmp 11) (by rfl) (iv zeros) (by kernel_rfl) (by kernel_rfl) (info64 _ zeros_length) (iv_same zeros_length zeros_length) (iv_one _) (by kernel_rfl) [(g27, .cells (iv zeros) 23 (0, 0)), (g5, .cells (iv (blockOf l0)) 23 (0, 0))] rfl ?_
    intro W30 M31
    refine st_val (.int .i64 2) (by kernel_rfl) (by kernel_rfl) ?_
    refine wl_nil ?_
    refine hK10 _ _ ?_
    try clear hK10 K10
    refine wp_seq_k (fun K32 hK32 => ?_)
    refine wp_seq_k (fun K33 hK33 => ?_)
    refine wl_region ?_
    refine st_val (.agg (iv (blockOf l0))) (by kernel_rfl) (run_load_row 23 (.tmp 3) rfl g5 (by kernel_rfl) 23 (iv (blockOf l0)) (0, 0) _ (M31.get 1 rfl) Try.underlying23 rfl (info64 _ (blockOf_length _))) ?_
    refine st_callB M31 (.bool false) (by kernel_rfl) (args := #[.agg (iv (blockOf l0)), .int .i64 255]) (run_value_call 18 #[(Operand.tmp 13), (Operand.const (Value.int IntKind.i64 255))] _ rfl Try.func18 (by kernel_rfl) (by kernel_rfl) _ (by kernel_rfl)) ((by have := within_walk W30 (blockOf l0) (blockOf_length _) 255 (by omega); rw [within_not hL] at this; exact this)) ?_
    intro W34 M35
    refine st_val (.bool true) (by kernel_rfl) (by kernel_rfl) ?_
    refine wl_nil ?_
    refine hK33 _ _ ?_
    try clear hK33 K33
    refine wp_frame (a' := ⟨#[v0, undef, .bool false, .pointer (some ⟨g5, 0, none⟩), .pointer (some ⟨g27, 0, none⟩), .int .i64 2, v0, .agg (iv (blockOf l0)), .tuple #[.agg (iv zeros), .int .i64 2], .agg (iv (blockOf l0)), .tuple #[.agg (iv zeros), .int .i64 2], .agg (iv zeros), .int .i64 2, .agg (iv (blockOf l0)), .bool false, .bool true, undef, undef, undef, undef, undef, undef, undef, undef, undef, undef, undef, undef, undef, undef, undef, undef, undef, undef, undef, undef], []⟩) (by kernel_rfl) ?_
    refine wp_cond_true (by kernel_rfl) ?_
    refine wp_seq_k (fun K36 hK36 => ?_)
    refine wl_region ?_
    refine st_callB M35 (.bool true) (by kernel_rfl) (args := #[]) (run_value_call 15 #[] _ rfl Try.func15 (by kernel_rfl) (by kernel_rfl) _ (by kernel_rfl)) (awake_walk W34) ?_
    intro W37 M38
    refine st_val (.bool true) (by kernel_rfl) (by kernel_rfl) ?_
    refine st_val (.int .i64 2) (by kernel_rfl) (by kernel_rfl) ?_
    refine st_val (.bool true) (by kernel_rfl) (by kernel_rfl) ?_
    refine st_val (.bool true) (by kernel_rfl) (by kernel_rfl) ?_
    refine st_val (.bool true) (by kernel_rfl) (by kernel_rfl) ?_
    refine wl_nil ?_
    refine hK36 _ _ ?_
    try clear hK36 K36
    refine wp_ret ?_
    refine th_ret ?_
    exact done1 2 (.bool true) (by kernel_rfl) (by kernel_rfl) (by kernel_rfl) ⟨rfl, M38.toBelow⟩
end Go.Proofs.Ytpjhehpgpfomjaa
