/- The walk of the law QuantBack. -/
import Derived.Test.YtjclncmpfdfkfaaQp
import Derived.Test.YtjclncmpfdfkfaaQa
import Derived.Test.YtjclncmpfdfkfaaEq
import Derived.Test.YtjclncmpfdfkfaaArgI
namespace Go.Proofs.Ytjclncmpfdfkfaa
open Go.RowKit
set_option maxHeartbeats 4000000 in
set_option maxRecDepth 100000 in
theorem QuantBack_walk (w : World) (v0 : Value) (l0 : List Int) (hr0 : Rd w v0 (l0.map (Value.int .i64))) (hb0 : ∀ x ∈ l0, -9223372036854775808 ≤ x ∧ x ≤ 9223372036854775807) (v1 : Value) (l1 : List Int) (hr1 : Rd w v1 (l1.map (Value.int .u8))) (hb1 : ∀ x ∈ l1, 0 ≤ x ∧ x < 256) (q : Int) : Calls Try.prog 7 #[v0, v1, .int .i64 q] w fun e w' => e = .returned (.bool true) ∧ Below w.heap.size w w' := by
  refine calls_of_wp Try.func7 rfl ?_
  refine wp_frame (a' := ⟨#[v0, v1, .int .i64 q, undef, undef, undef, undef, undef, undef, undef, undef, undef, undef, undef, undef, undef, undef, undef, undef, undef, undef, undef, undef, undef, undef, undef, undef, undef, undef, undef, undef, undef, undef, undef, undef, undef, undef, undef, undef, undef, undef, undef], []⟩) (by kernel_rfl) ?_
  have M0 : Mem NoS w w [] := Mem.start _ _
  refine wp_seq_k (fun K1 hK1 => ?_)
  refine wl_region ?_
  refine st_val (.bool false) (by kernel_rfl) (by kernel_rfl) ?_
  refine wl_nil ?_
  refine hK1 _ _ ?_
  try clear hK1 K1
  refine wp_seq_k (fun K2 hK2 => ?_)
  refine wl_region ?_
  refine st_val (v0) (by kernel_rfl) (by kernel_rfl) ?_
  refine st_callB M0 (.agg (iv (blockOf l0))) (by kernel_rfl) (args := #[v0]) (run_value_call 20 #[(Operand.tmp 12)] _ rfl Try.func20 (by kernel_rfl) (by kernel_rfl) _ (by kernel_rfl)) (block_walk w v0 l0 (M0.rd hr0 (fun _ _ h => h))) ?_
  intro W3 M4
  refine st_val (v1) (by kernel_rfl) (by kernel_rfl) ?_
  refine st_callB M4 (.agg (bv (matOf l1))) (by kernel_rfl) (args := #[v1]) (run_value_call 13 #[(Operand.tmp 14)] _ rfl Try.func13 (by kernel_rfl) (by kernel_rfl) _ (by kernel_rfl)) (matrix_walk_ W3 v1 l1 (M4.rd hr1 (fun _ _ h => h))) ?_
  intro W5 M6
  refine st_val (.int .i64 q) (by kernel_rfl) (by kernel_rfl) ?_
  refine st_callB M6 (.tuple #[.agg (iv (dL (blockOf l0) (matOf l1) q)), .int .i64 (dE (blockOf l0) (matOf l1) q)]) (by kernel_rfl) (args := #[.agg (iv (blockOf l0)), .agg (bv (matOf l1)), .int .i64 q]) (run_value_call 24 #[(Operand.tmp 13), (Operand.tmp 15), (Operand.tmp 16)] _ rfl Try.func24 (by kernel_rfl) (by kernel_rfl) _ (by kernel_rfl)) (dequantise_walk W5 (blockOf l0) (matOf l1) q (blockOf_length _) (matOf_length _) (matOf_BL hb1)) ?_
  intro W7 M8
  refine st_val (.tuple #[.agg (iv (dL (blockOf l0) (matOf l1) q)), .int .i64 (dE (blockOf l0) (matOf l1) q)]) (by kernel_rfl) (by kernel_rfl) ?_
  refine st_val (.agg (iv (dL (blockOf l0) (matOf l1) q))) (by kernel_rfl) (by kernel_rfl) ?_
  refine st_val (.int .i64 (dE (blockOf l0) (matOf l1) q)) (by kernel_rfl) (by kernel_rfl) ?_
  refine st_alloc M8 (.cells (iv zeros) 30 (0, 0)) (by kernel_rfl) (by kernel_rfl) ?_
  intro g9 W10 M11
  refine st_storeRow M11 0 rfl 30 (.tmp 7) (.tmp 18) (by rfl) (iv (dL (blockOf l0) (matOf l1) q)) (by kernel_rfl) (by kernel_rfl) (info64 _ (dL_length _ _ _)) (iv_same (dL_length _ _ _) zeros_length) (iv_one _) (by kernel_rfl) [(g9, .cells (iv (dL (blockOf l0) (matOf l1) q)) 30 (0, 0))] rfl ?_
  intro W12 M13
  refine st_val (.int .i64 (dE (blockOf l0) (matOf l1) q)) (by kernel_rfl) (by kernel_rfl) ?_
  refine wl_nil ?_
  refine hK2 _ _ ?_
  try clear hK2 K2
  refine wp_seq_k (fun K14 hK14 => ?_)
  refine wp_seq_k (fun K15 hK15 => ?_)
  refine wl_region ?_
  refine st_val (.int .i64 (dE (blockOf l0) (matOf l1) q)) (by kernel_rfl) (by kernel_rfl) ?_
  rcases Decidable.em ((dE (blockOf l0) (matOf l1) q : Int) = 0) with hE | hE
  ·
    refine st_val (.bool false) (by kernel_rfl) (bool_of (neq_f hE) (by kernel_rfl)) ?_
    refine wl_nil ?_
    refine hK15 _ _ ?_
    try clear hK15 K15
    refine wp_frame (a' := ⟨#[v0, v1, .int .i64 q, undef, undef, undef, .bool false, .pointer (some ⟨g9, 0, none⟩), .int .i64 (dE (blockOf l0) (matOf l1) q), undef, undef, .tuple #[.agg (iv (dL (blockOf l0) (matOf l1) q)), .int .i64 (dE (blockOf l0) (matOf l1) q)], v0, .agg (iv (blockOf l0)), v1, .agg (bv (matOf l1)), .int .i64 q, .tuple #[.agg (iv (dL (blockOf l0) (matOf l1) q)), .int .i64 (dE (blockOf l0) (matOf l1) q)], .agg (iv (dL (blockOf l0) (matOf l1) q)), .int .i64 (dE (blockOf l0) (matOf l1) q), .int .i64 (dE (blockOf l0) (matOf l1) q), .bool false, undef, undef, undef, undef, undef, undef, undef, undef, undef, undef, undef, undef, undef, undef, undef, undef, undef, undef, undef, undef], []⟩) (by kernel_rfl) ?_
    refine wp_cond_false (by kernel_rfl) ?_
    refine wp_skip ?_
    refine hK14 _ _ ?_
    try clear hK14 K14
    refine wp_seq_k (fun K16 hK16 => ?_)
    refine wl_seqA M13 9 [7] [.agg (iv (dL (blockOf l0) (matOf l1) q)), v1, .agg (bv (matOf l1)), .int .i64 q, .tuple #[.agg (iv (blockOf l0)), .int .i64 0], .tuple #[.agg (iv (blockOf l0)), .int .i64 0], .agg (iv (blockOf l0)), .int .i64 0, undef] [(8, .cells (iv zeros) 30 (0, 0))] (by decide) (by kernel_rfl) (by kernel_rfl) (fun d _ _ _ _ h => by cases d <;> exact h) rfl rfl (by decide) (fun G17 => ?_)
    refine sqa_run (.agg (iv (dL (blockOf l0) (matOf l1) q))) (by decide) rfl rfl rfl (by kernel_rfl) (fun w' M' => (run_load_row 30 (.tmp 7) rfl g9 (by kernel_rfl) 30 (iv (dL (blockOf l0) (matOf l1) q)) (0, 0) _ (M'.get 0 rfl) Try.underlying30 rfl (info64 _ (dL_length _ _ _)))) ?_
    refine sqa_run (v1) (by decide) rfl rfl rfl (by kernel_rfl) (fun w' M' => (by kernel_rfl)) ?_
    refine sqa_call (.agg (bv (matOf l1))) (f := 13) (args := #[v1]) (by decide) rfl rfl rfl (by kernel_rfl) (fun w' M' => (run_value_call 13 #[(Operand.tmp 25)] _ rfl Try.func13 (by kernel_rfl) (by kernel_rfl) _ (by kernel_rfl))) (fun w' M' => matrix_walk_ w' v1 l1 (M'.rd hr1 (fun _ _ h => h))) ?_
    refine sqa_run (.int .i64 q) (by decide) rfl rfl rfl (by kernel_rfl) (fun w' M' => (by kernel_rfl)) ?_
    refine sqa_call (.tuple #[.agg (iv (blockOf l0)), .int .i64 0]) (f := 19) (args := #[.agg (iv (dL (blockOf l0) (matOf l1) q)), .agg (bv (matOf l1)), .int .i64 q]) (by decide) rfl rfl rfl (by kernel_rfl) (fun w' M' => (run_value_call 19 #[(Operand.tmp 24), (Operand.tmp 26), (Operand.tmp 27)] _ rfl Try.func19 (by kernel_rfl) (by kernel_rfl) _ (by kernel_rfl))) (fun w' M' => (by have := quantise_walk w' (dL (blockOf l0) (matOf l1) q) (matOf l1) q (dL_length _ _ _) (matOf_length l1) (matOf_BL hb1) (fun n hn => by have := dL_in (matOf_BL hb1) hE n hn; omega); rw [(back_of (blockOf_length l0) (matOf_BL hb1) hE).1, (back_of (blockOf_length l0) (matOf_BL hb1) hE).2] at this; exact this)) ?_
    refine sqa_run (.tuple #[.agg (iv (blockOf l0)), .int .i64 0]) (by decide) rfl rfl rfl (by kernel_rfl) (fun w' M' => (by kernel_rfl)) ?_
    refine sqa_run (.agg (iv (blockOf l0))) (by decide) rfl rfl rfl (by kernel_rfl) (fun w' M' => (by kernel_rfl)) ?_
    refine sqa_late (.int .i64 0) (by decide) rfl rfl (by kernel_rfl) (fun w' => (by kernel_rfl)) ?_
    refine sqa_alloc (.cells (iv zeros) 30 (0, 0)) (by decide) rfl rfl rfl (fun w' => by kernel_rfl) ?_
    refine sqa_end (by decide) ?_
    intro W18 M19
    refine st_storeRow M19 0 rfl 30 (.tmp 9) (.tmp 29) (by rfl) (iv (blockOf l0)) (by kernel_rfl) (by kernel_rfl) (info64 _ (blockOf_length _)) (iv_same (blockOf_length _) zeros_length) (iv_one _) (by kernel_rfl) [((G17 8), .cells (iv (blockOf l0)) 30 (0, 0)), (g9, .cells (iv (dL (blockOf l0) (matOf l1) q)) 30 (0, 0))] rfl ?_
    intro W20 M21
    refine st_val (.int .i64 0) (by kernel_rfl) (by kernel_rfl) ?_
    refine wl_nil ?_
    refine hK16 _ _ ?_
    try clear hK16 K16
    refine wp_seq_k (fun K22 hK22 => ?_)
    refine wl_seq 12 (fun w' => Mem NoS w w' [((G17 8), .cells (iv (blockOf l0)) 30 (0, 0)), (g9, .cells (iv (dL (blockOf l0) (matOf l1) q)) 30 (0, 0))]) (by decide) (by kernel_rfl) (by kernel_rfl) M21.drew ?_
    refine seq_call (v := .bool true) (f := 14) (args := #[]) (by decide) (by kernel_rfl) (fun w' M' => (run_value_call 14 #[] _ rfl Try.func14 (by kernel_rfl) (by kernel_rfl) _ (by kernel_rfl))) (fun w' M' => callB_mem M' (awake_walk w')) ?_
    refine seq_run (v := .bool true) (by decide) (by kernel_rfl) (fun w' M' => (by kernel_rfl)) ?_
    refine seq_run (v := .int .i64 0) (by decide) (by kernel_rfl) (fun w' M' => (by kernel_rfl)) ?_
    refine seq_run (v := .bool true) (by decide) (by kernel_rfl) (fun w' M' => (by kernel_rfl)) ?_
    refine seq_run (v := .bool true) (by decide) (by kernel_rfl) (fun w' M' => (by kernel_rfl)) ?_
    refine seq_run (v := .bool true) (by decide) (by kernel_rfl) (fun w' M' => (by kernel_rfl)) ?_
    refine seq_run (v := .agg (iv (blockOf l0))) (by decide) (by kernel_rfl) (fun w' M' => (run_load_row 30 (.tmp 9) rfl (G17 8) (by kernel_rfl) 30 (iv (blockOf l0)) (0, 0) _ (M'.get 0 rfl) Try.underlying30 rfl (info64 _ (blockOf_length _)))) ?_
    refine seq_run (v := v0) (by decide) (by kernel_rfl) (fun w' M' => (by kernel_rfl)) ?_
    refine seq_call (v := .agg (iv (blockOf l0))) (f := 20) (args := #[v0]) (by decide) (by kernel_rfl) (fun w' M' => (run_value_call 20 #[(Operand.tmp 38)] _ rfl Try.func20 (by kernel_rfl) (by kernel_rfl) _ (by kernel_rfl))) (fun w' M' => callB_mem M' (block_walk w' v0 l0 (M'.rd hr0 (fun _ _ h => h)))) ?_
    refine seq_run (v := .bool true) (by decide) (by kernel_rfl) (fun w' M' => (run_value_bin .eql 30 _ (.tmp 37) (.tmp 39) rfl (.agg (iv (blockOf l0))) (.agg (iv (blockOf l0))) _ (by kernel_rfl) (by kernel_rfl) (by kernel_rfl) (eql_same w' (blockOf l0) (blockOf_length _)))) ?_
    refine seq_run (v := .bool true) (by decide) (by kernel_rfl) (fun w' M' => (by kernel_rfl)) ?_
    refine seq_run (v := .bool true) (by decide) (by kernel_rfl) (fun w' M' => (by kernel_rfl)) ?_
    refine seq_end (by decide) ?_
    intro W23 M24
    refine wl_nil ?_
    refine hK22 _ _ ?_
    try clear hK22 K22
    refine wp_frame (a' := ⟨#[v0, v1, .int .i64 q, undef, undef, undef, .bool true, .pointer (some ⟨g9, 0, none⟩), .int .i64 (dE (blockOf l0) (matOf l1) q), .pointer (some ⟨(G17 8), 0, none⟩), .int .i64 0, .tuple #[.agg (iv (dL (blockOf l0) (matOf l1) q)), .int .i64 (dE (blockOf l0) (matOf l1) q)], v0, .agg (iv (blockOf l0)), v1, .agg (bv (matOf l1)), .int .i64 q, .tuple #[.agg (iv (dL (blockOf l0) (matOf l1) q)), .int .i64 (dE (blockOf l0) (matOf l1) q)], .agg (iv (dL (blockOf l0) (matOf l1) q)), .int .i64 (dE (blockOf l0) (matOf l1) q), .int .i64 (dE (blockOf l0) (matOf l1) q), .bool false, undef, .tuple #[.agg (iv (blockOf l0)), .int .i64 0], .agg (iv (dL (blockOf l0) (matOf l1) q)), v1, .agg (bv (matOf l1)), .int .i64 q, .tuple #[.agg (iv (blockOf l0)), .int .i64 0], .agg (iv (blockOf l0)), .int .i64 0, .bool true, .bool true, .int .i64 0, .bool true, .bool true, .bool true, .agg (iv (blockOf l0)), v0, .agg (iv (blockOf l0)), .bool true, .bool true], []⟩) (by kernel_rfl) ?_
    refine wp_ret ?_
    exact done1 6 (.bool true) (by kernel_rfl) (by kernel_rfl) (by kernel_rfl) ⟨rfl, M24.toBelow⟩
  ·
    refine st_val (.bool true) (by kernel_rfl) (bool_of (neq_t hE) (by kernel_rfl)) ?_
    refine wl_nil ?_
    refine hK15 _ _ ?_
    try clear hK15 K15
    refine wp_frame (a' := ⟨#[v0, v1, .int .i64 q, undef, undef, undef, .bool false, .pointer (some ⟨g9, 0, none⟩), .int .i64 (dE (blockOf l0) (matOf l1) q), undef, undef, .tuple #[.agg (iv (dL (blockOf l0) (matOf l1) q)), .int .i64 (dE (blockOf l0) (matOf l1) q)], v0, .agg (iv (blockOf l0)), v1, .agg (bv (matOf l1)), .int .i64 q, .tuple #[.agg (iv (dL (blockOf l0) (matOf l1) q)), .int .i64 (dE (blockOf l0) (matOf l1) q)], .agg (iv (dL (blockOf l0) (matOf l1) q)), .int .i64 (dE (blockOf l0) (matOf l1) q), .int .i64 (dE (blockOf l0) (matOf l1) q), .bool true, undef, undef, undef, undef, undef, undef, undef, undef, undef, undef, undef, undef, undef, undef, undef, undef, undef, undef, undef, undef], []⟩) (by kernel_rfl) ?_
    refine wp_cond_true (by kernel_rfl) ?_
    refine wp_seq_k (fun K25 hK25 => ?_)
    refine wl_region ?_
    refine st_callB M13 (.bool true) (by kernel_rfl) (args := #[]) (run_value_call 14 #[] _ rfl Try.func14 (by kernel_rfl) (by kernel_rfl) _ (by kernel_rfl)) (awake_walk W12) ?_
    intro W26 M27
    refine st_val (.bool true) (by kernel_rfl) (by kernel_rfl) ?_
    refine wl_nil ?_
    refine hK25 _ _ ?_
    try clear hK25 K25
    refine wp_ret ?_
    refine th_ret ?_
    exact done1 6 (.bool true) (by kernel_rfl) (by kernel_rfl) (by kernel_rfl) ⟨rfl, M27.toBelow⟩
end Go.Proofs.Ytjclncmpfdfkfaa
