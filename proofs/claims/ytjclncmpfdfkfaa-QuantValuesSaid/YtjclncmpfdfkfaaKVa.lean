/- The walk of the law QuantValues. -/
import Derived.Test.YtjclncmpfdfkfaaQp
import Derived.Test.YtjclncmpfdfkfaaQa
import Derived.Test.YtjclncmpfdfkfaaEq
import Derived.Test.YtjclncmpfdfkfaaArgI
namespace Go.Proofs.Ytjclncmpfdfkfaa
open Go.RowKit
set_option maxHeartbeats 4000000 in
set_option maxRecDepth 100000 in
theorem QuantValues_walk (w : World) (v0 : Value) (l0 : List Int) (hr0 : Rd w v0 (l0.map (Value.int .i64))) (hb0 : ∀ x ∈ l0, -9223372036854775808 ≤ x ∧ x ≤ 9223372036854775807) (v1 : Value) (l1 : List Int) (hr1 : Rd w v1 (l1.map (Value.int .u8))) (hb1 : ∀ x ∈ l1, 0 ≤ x ∧ x < 256) (q : Int) : Calls Try.prog 6 #[v0, v1, .int .i64 q] w fun e w' => e = .returned (.bool true) ∧ Below w.heap.size w w' := by
  refine calls_of_wp Try.func6 rfl ?_
  refine wp_frame (a' := ⟨#[v0, v1, .int .i64 q, undef, undef, undef, undef, undef, undef, undef, undef, undef, undef, undef, undef, undef, undef, undef, undef, undef, undef, undef, undef, undef, undef, undef, undef, undef, undef, undef, undef, undef, undef, undef, undef, undef, undef, undef, undef, undef], []⟩) (by kernel_rfl) ?_
  have M0 : Mem NoS w w [] := Mem.start _ _
  refine wp_seq_k (fun K1 hK1 => ?_)
  refine wl_region ?_
  refine st_val (.bool false) (by kernel_rfl) (by kernel_rfl) ?_
  refine wl_nil ?_
  refine hK1 _ _ ?_
  try clear hK1 K1
  refine wp_seq_k (fun K2 hK2 => ?_)
  refine wl_region ?_
  refine st_val (v0) (by kernel_rfl) (by kernel_rfl) ?_
  refine st_callB M0 (.agg (iv (blockOf l0))) (by kernel_rfl) (args := #[v0]) (run_value_call 20 #[(Operand.tmp 12)] _ rfl Try.func20 (by kernel_rfl) (by kernel_rfl) _ (by kernel_rfl)) (block_walk w v0 l0 (M0.rd hr0 (fun _ _ h => h))) ?_
  intro W3 M4
  refine st_val (v1) (by kernel_rfl) (by kernel_rfl) ?_
  refine st_callB M4 (.agg (bv (matOf l1))) (by kernel_rfl) (args := #[v1]) (run_value_call 13 #[(Operand.tmp 14)] _ rfl Try.func13 (by kernel_rfl) (by kernel_rfl) _ (by kernel_rfl)) (matrix_walk_ W3 v1 l1 (M4.rd hr1 (fun _ _ h => h))) ?_
  intro W5 M6
  refine st_val (.int .i64 q) (by kernel_rfl) (by kernel_rfl) ?_
  refine st_callB M6 (.tuple #[.agg (iv (dL (blockOf l0) (matOf l1) q)), .int .i64 (dE (blockOf l0) (matOf l1) q)]) (by kernel_rfl) (args := #[.agg (iv (blockOf l0)), .agg (bv (matOf l1)), .int .i64 q]) (run_value_call 24 #[(Operand.tmp 13), (Operand.tmp 15), (Operand.tmp 16)] _ rfl Try.func24 (by kernel_rfl) (by kernel_rfl) _ (by kernel_rfl)) (dequantise_walk W5 (blockOf l0) (matOf l1) q (blockOf_length _) (matOf_length _) (matOf_BL hb1)) ?_
  intro W7 M8
  refine st_val (.tuple #[.agg (iv (dL (blockOf l0) (matOf l1) q)), .int .i64 (dE (blockOf l0) (matOf l1) q)]) (by kernel_rfl) (by kernel_rfl) ?_
  refine st_val (.agg (iv (dL (blockOf l0) (matOf l1) q))) (by kernel_rfl) (by kernel_rfl) ?_
  refine st_val (.int .i64 (dE (blockOf l0) (matOf l1) q)) (by kernel_rfl) (by kernel_rfl) ?_
  refine st_alloc M8 (.cells (iv zeros) 30 (0, 0)) (by kernel_rfl) (by kernel_rfl) ?_
  intro g9 W10 M11
  refine st_storeRow M11 0 rfl 30 (.tmp 7) (.tmp 18) (by rfl) (iv (dL (blockOf l0) (matOf l1) q)) (by kernel_rfl) (by kernel_rfl) (info64 _ (dL_length _ _ _)) (iv_same (dL_length _ _ _) zeros_length) (iv_one _) (by kernel_rfl) [(g9, .cells (iv (dL (blockOf l0) (matOf l1) q)) 30 (0, 0))] rfl ?_
  intro W12 M13
  refine st_val (.int .i64 (dE (blockOf l0) (matOf l1) q)) (by kernel_rfl) (by kernel_rfl) ?_
  refine wl_nil ?_
  refine hK2 _ _ ?_
  try clear hK2 K2
  refine wp_seq_k (fun K14 hK14 => ?_)
  refine wl_region ?_
  refine st_val (v0) (by kernel_rfl) (by kernel_rfl) ?_
  refine st_callB M13 (.agg (iv (blockOf l0))) (by kernel_rfl) (args := #[v0]) (run_value_call 20 #[(Operand.tmp 21)] _ rfl Try.func20 (by kernel_rfl) (by kernel_rfl) _ (by kernel_rfl)) (block_walk W12 v0 l0 (M13.rd hr0 (fun _ _ h => h))) ?_
  intro W15 M16
  refine st_val (v1) (by kernel_rfl) (by kernel_rfl) ?_
  refine st_callB M16 (.agg (bv (matOf l1))) (by kernel_rfl) (args := #[v1]) (run_value_call 13 #[(Operand.tmp 23)] _ rfl Try.func13 (by kernel_rfl) (by kernel_rfl) _ (by kernel_rfl)) (matrix_walk_ W15 v1 l1 (M16.rd hr1 (fun _ _ h => h))) ?_
  intro W17 M18
  refine st_val (.int .i64 q) (by kernel_rfl) (by kernel_rfl) ?_
  refine st_callB M18 (.tuple #[.agg (iv (dL (blockOf l0) (matOf l1) q)), .int .i64 (dE (blockOf l0) (matOf l1) q)]) (by kernel_rfl) (args := #[.agg (iv (blockOf l0)), .agg (bv (matOf l1)), .int .i64 q]) (run_value_call 25 #[(Operand.tmp 22), (Operand.tmp 24), (Operand.tmp 25)] _ rfl Try.func25 (by kernel_rfl) (by kernel_rfl) _ (by kernel_rfl)) (refDequantise_walk W17 (blockOf l0) (matOf l1) q (blockOf_length _) (matOf_length _) (matOf_BL hb1)) ?_
  intro W19 M20
  refine st_val (.tuple #[.agg (iv (dL (blockOf l0) (matOf l1) q)), .int .i64 (dE (blockOf l0) (matOf l1) q)]) (by kernel_rfl) (by kernel_rfl) ?_
  refine st_val (.agg (iv (dL (blockOf l0) (matOf l1) q))) (by kernel_rfl) (by kernel_rfl) ?_
  refine st_val (.int .i64 (dE (blockOf l0) (matOf l1) q)) (by kernel_rfl) (by kernel_rfl) ?_
  refine st_alloc M20 (.cells (iv zeros) 30 (0, 0)) (by kernel_rfl) (by kernel_rfl) ?_
  intro g21 W22 M23
  refine st_storeRow M23 0 rfl 30 (.tmp 9) (.tmp 27) (by rfl) (iv (dL (blockOf l0) (matOf l1) q)) (by kernel_rfl) (by kernel_rfl) (info64 _ (dL_length _ _ _)) (iv_same (dL_length _ _ _) zeros_length) (iv_one _) (by kernel_rfl) [(g21, .cells (iv (dL (blockOf l0) (matOf l1) q)) 30 (0, 0)), (g9, .cells (iv (dL (blockOf l0) (matOf l1) q)) 30 (0, 0))] rfl ?_
  intro W24 M25
  refine st_val (.int .i64 (dE (blockOf l0) (matOf l1) q)) (by kernel_rfl) (by kernel_rfl) ?_
  refine wl_nil ?_
  refine hK14 _ _ ?_
  try clear hK14 K14
  refine wp_frame (a' := ⟨#[v0, v1, .int .i64 q, undef, undef, undef, .bool false, .pointer (some ⟨g9, 0, none⟩), .int .i64 (dE (blockOf l0) (matOf l1) q), .pointer (some ⟨g21, 0, none⟩), .int .i64 (dE (blockOf l0) (matOf l1) q), .tuple #[.agg (iv (dL (blockOf l0) (matOf l1) q)), .int .i64 (dE (blockOf l0) (matOf l1) q)], v0, .agg (iv (blockOf l0)), v1, .agg (bv (matOf l1)), .int .i64 q, .tuple #[.agg (iv (dL (blockOf l0) (matOf l1) q)), .int .i64 (dE (blockOf l0) (matOf l1) q)], .agg (iv (dL (blockOf l0) (matOf l1) q)), .int .i64 (dE (blockOf l0) (matOf l1) q), .tuple #[.agg (iv (dL (blockOf l0) (matOf l1) q)), .int .i64 (dE (blockOf l0) (matOf l1) q)], v0, .agg (iv (blockOf l0)), v1, .agg (bv (matOf l1)), .int .i64 q, .tuple #[.agg (iv (dL (blockOf l0) (matOf l1) q)), .int .i64 (dE (blockOf l0) (matOf l1) q)], .agg (iv (dL (blockOf l0) (matOf l1) q)), .int .i64 (dE (blockOf l0) (matOf l1) q), undef, undef, undef, undef, undef, undef, undef, undef, undef, undef, undef], []⟩) (by kernel_rfl) ?_
  refine wp_seq_k (fun K26 hK26 => ?_)
  refine wl_region ?_
  refine st_callB M25 (.bool true) (by kernel_rfl) (args := #[]) (run_value_call 14 #[] _ rfl Try.func14 (by kernel_rfl) (by kernel_rfl) _ (by kernel_rfl)) (awake_walk W24) ?_
  intro W27 M28
  refine st_val (.bool true) (by kernel_rfl) (by kernel_rfl) ?_
  refine st_val (.int .i64 (dE (blockOf l0) (matOf l1) q)) (by kernel_rfl) (by kernel_rfl) ?_
  refine st_val (.int .i64 (dE (blockOf l0) (matOf l1) q)) (by kernel_rfl) (by kernel_rfl) ?_
  refine st_val (.bool true) (by kernel_rfl) (bool_of (dec_t (show (dE (blockOf l0) (matOf l1) q : Int) = dE (blockOf l0) (matOf l1) q from rfl)) (by kernel_rfl)) ?_
  refine st_val (.bool true) (by kernel_rfl) (by kernel_rfl) ?_
  refine st_val (.bool true) (by kernel_rfl) (by kernel_rfl) ?_
  refine st_val (.agg (iv (dL (blockOf l0) (matOf l1) q))) (by kernel_rfl) (run_load_row 30 (.tmp 7) rfl g9 (by kernel_rfl) 30 (iv (dL (blockOf l0) (matOf l1) q)) (0, 0) _ (M28.get 1 rfl) Try.underlying30 rfl (info64 _ (dL_length _ _ _))) ?_
  refine st_val (.agg (iv (dL (blockOf l0) (matOf l1) q))) (by kernel_rfl) (run_load_row 30 (.tmp 9) rfl g21 (by kernel_rfl) 30 (iv (dL (blockOf l0) (matOf l1) q)) (0, 0) _ (M28.get 0 rfl) Try.underlying30 rfl (info64 _ (dL_length _ _ _))) ?_
  refine st_val (.bool true) (by kernel_rfl) (run_value_bin .eql 30 _ (.tmp 36) (.tmp 37) rfl (.agg (iv (dL (blockOf l0) (matOf l1) q))) (.agg (iv (dL (blockOf l0) (matOf l1) q))) _ (by kernel_rfl) (by kernel_rfl) (by kernel_rfl) (eql_same W27 (dL (blockOf l0) (matOf l1) q) (dL_length _ _ _))) ?_
  refine st_val (.bool true) (by kernel_rfl) (by kernel_rfl) ?_
  refine st_val (.bool true) (by kernel_rfl) (by kernel_rfl) ?_
  refine wl_nil ?_
  refine hK26 _ _ ?_
  try clear hK26 K26
  refine wp_ret ?_
  exact done1 6 (.bool true) (by kernel_rfl) (by kernel_rfl) (by kernel_rfl) ⟨rfl, M28.toBelow⟩
end Go.Proofs.Ytjclncmpfdfkfaa
