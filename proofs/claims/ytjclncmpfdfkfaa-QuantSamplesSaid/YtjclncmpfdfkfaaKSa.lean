/- The walk of the law QuantSamples. -/
import Derived.Test.YtjclncmpfdfkfaaQp
import Derived.Test.YtjclncmpfdfkfaaQa
import Derived.Test.YtjclncmpfdfkfaaEq
import Derived.Test.YtjclncmpfdfkfaaArgI
import Derived.Test.YtjclncmpfdfkfaaRfw
import Derived.Test.YtjclncmpfdfkfaaRfwBad
namespace Go.Proofs.Ytjclncmpfdfkfaa
open Go.RowKit
set_option maxHeartbeats 4000000 in
set_option maxRecDepth 100000 in
theorem QuantSamples_walk (w : World) (v0 : Value) (l0 : List Int) (hr0 : Rd w v0 (l0.map (Value.int .i64))) (hb0 : ∀ x ∈ l0, -9223372036854775808 ≤ x ∧ x ≤ 9223372036854775807) (v1 : Value) (l1 : List Int) (hr1 : Rd w v1 (l1.map (Value.int .u8))) (hb1 : ∀ x ∈ l1, 0 ≤ x ∧ x < 256) (q : Int) : Calls Try.prog 5 #[v0, v1, .int .i64 q] w fun e w' => e = .returned (.bool true) ∧ Below w.heap.size w w' := by
  refine calls_of_wp Try.func5 rfl ?_
  refine wp_frame (a' := ⟨#[v0, v1, .int .i64 q, undef, undef, undef, undef, undef, undef, undef, undef, undef, undef, undef, undef, undef, undef, undef, undef, undef, undef, undef, undef, undef, undef, undef, undef, undef, undef, undef, undef, undef, undef, undef, undef, undef, undef, undef, undef, undef], []⟩) (by kernel_rfl) ?_
  have M0 : Mem NoS w w [] := Mem.start _ _
  refine wp_seq_k (fun K1 hK1 => ?_)
  refine wl_region ?_
  refine st_val (.bool false) (by kernel_rfl) (by kernel_rfl) ?_
  refine wl_nil ?_
  refine hK1 _ _ ?_
  try clear hK1 K1
  refine wp_seq_k (fun K2 hK2 => ?_)
  refine wl_region ?_
  refine st_val (v0) (by kernel_rfl) (by kernel_rfl) ?_
  refine st_callB M0 (.agg (iv (blockOf l0))) (by kernel_rfl) (args := #[v0]) (run_value_call 20 #[(Operand.tmp 12)] _ rfl Try.func20 (by kernel_rfl) (by kernel_rfl) _ (by kernel_rfl)) (block_walk w v0 l0 (M0.rd hr0 (fun _ _ h => h))) ?_
  intro W3 M4
  rcases Classical.em (Lim 255 (blockOf l0)) with hL | hL
  ·
    refine st_callB M4 (.tuple #[.agg (iv (fwd (blockOf l0))), .int .i64 0]) (by kernel_rfl) (args := #[.agg (iv (blockOf l0))]) (run_value_call 22 #[(Operand.tmp 13)] _ rfl Try.func22 (by kernel_rfl) (by kernel_rfl) _ (by kernel_rfl)) (refForward_good W3 (blockOf l0) (blockOf_length l0) hL) ?_
    intro W5 M6
    refine st_val (.tuple #[.agg (iv (fwd (blockOf l0))), .int .i64 0]) (by kernel_rfl) (by kernel_rfl) ?_
    refine st_val (.agg (iv (fwd (blockOf l0)))) (by kernel_rfl) (by kernel_rfl) ?_
    refine st_val (.int .i64 0) (by kernel_rfl) (by kernel_rfl) ?_
    refine st_alloc M6 (.cells (iv zeros) 30 (0, 0)) (by kernel_rfl) (by kernel_rfl) ?_
    intro g7 W8 M9
    refine st_storeRow M9 0 rfl 30 (.tmp 7) (.tmp 15) (by rfl) (iv (fwd (blockOf l0))) (by kernel_rfl) (by kernel_rfl) (info64 _ (fwd_length _)) (iv_same (fwd_length _) zeros_length) (iv_one _) (by kernel_rfl) [(g7, .cells (iv (fwd (blockOf l0))) 30 (0, 0))] rfl ?_
    intro W10 M11
    refine st_val (.int .i64 0) (by kernel_rfl) (by kernel_rfl) ?_
    refine wl_nil ?_
    refine hK2 _ _ ?_
    try clear hK2 K2
    refine wp_seq_k (fun K12 hK12 => ?_)
    refine wp_seq_k (fun K13 hK13 => ?_)
    refine wl_region ?_
    refine st_val (.int .i64 0) (by kernel_rfl) (by kernel_rfl) ?_
    refine st_val (.bool false) (by kernel_rfl) (by kernel_rfl) ?_
    refine st_val (.bool false) (by kernel_rfl) (by kernel_rfl) ?_
    refine st_val (v1) (by kernel_rfl) (by kernel_rfl) ?_
    refine st_callB M11 (.agg (bv (matOf l1))) (by kernel_rfl) (args := #[v1]) (run_value_call 13 #[(Operand.tmp 20)] _ rfl Try.func13 (by kernel_rfl) (by kernel_rfl) _ (by kernel_rfl)) (matrix_walk_ W10 v1 l1 (M11.rd hr1 (fun _ _ h => h))) ?_
    intro W14 M15
    refine st_val (.int .i64 q) (by kernel_rfl) (by kernel_rfl) ?_
    rcases Classical.em (Fit (matOf l1) q) with hF23 | hF23
    ·
      refine st_callB M15 (.bool true) (by kernel_rfl) (args := #[.agg (bv (matOf l1)), .int .i64 q]) (run_value_call 23 #[(Operand.tmp 21), (Operand.tmp 22)] _ rfl Try.func23 (by kernel_rfl) (by kernel_rfl) _ (by kernel_rfl)) (refMay_t W14 (matOf l1) (matOf_length _) (matOf_BL hb1) q hF23) ?_
      intro W16 M17
      refine st_val (.bool false) (by kernel_rfl) (by kernel_rfl) ?_
      refine st_val (.bool false) (by kernel_rfl) (by kernel_rfl) ?_
      refine wl_nil ?_
      refine hK13 _ _ ?_
      try clear hK13 K13
      refine wp_frame (a' := ⟨#[v0, v1, .int .i64 q, undef, undef, undef, .bool false, .pointer (some ⟨g7, 0, none⟩), .int .i64 0, undef, undef, .tuple #[.agg (iv (fwd (blockOf l0))), .int .i64 0], v0, .agg (iv (blockOf l0)), .tuple #[.agg (iv (fwd (blockOf l0))), .int .i64 0], .agg (iv (fwd (blockOf l0))), .int .i64 0, .int .i64 0, .bool false, .bool false, v1, .agg (bv (matOf l1)), .int .i64 q, .bool true, .bool false, .bool false, undef, undef, undef, undef, undef, undef, undef, undef, undef, undef, undef, undef, undef, undef], []⟩) (by kernel_rfl) ?_
      refine wp_cond_false (by kernel_rfl) ?_
      refine wp_skip ?_
      refine hK12 _ _ ?_
      try clear hK12 K12
      refine wp_seq_k (fun K18 hK18 => ?_)
      refine wl_seqA M17 9 [7] [.agg (iv (fwd (blockOf l0))), v1, .agg (bv (matOf l1)), .int .i64 q, .tuple #[.agg (iv (qL (fwd (blockOf l0)) (matOf l1) q)), .int .i64 0], .tuple #[.agg (iv (qL (fwd (blockOf l0)) (matOf l1) q)), .int .i64 0], .agg (iv (qL (fwd (blockOf l0)) (matOf l1) q)), .int .i64 0, undef] [(8, .cells (iv zeros) 30 (0, 0))] (by decide) (by kernel_rfl) (by kernel_rfl) (fun d _ _ _ _ h => by cases d <;> exact h) rfl rfl (by decide) (fun G19 => ?_)
      refine sqa_run (.agg (iv (fwd (blockOf l0)))) (by decide) rfl rfl rfl (by kernel_rfl) (fun w' M' => (run_load_row 30 (.tmp 7) rfl g7 (by kernel_rfl) 30 (iv (fwd (blockOf l0))) (0, 0) _ (M'.get 0 rfl) Try.underlying30 rfl (info64 _ (fwd_length _)))) ?_
      refine sqa_run (v1) (by decide) rfl rfl rfl (by kernel_rfl) (fun w' M' => (by kernel_rfl)) ?_
      refine sqa_call (.agg (bv (matOf l1))) (f := 13) (args := #[v1]) (by decide) rfl rfl rfl (by kernel_rfl) (fun w' M' => (run_value_call 13 #[(Operand.tmp 29)] _ rfl Try.func13 (by kernel_rfl) (by kernel_rfl) _ (by kernel_rfl))) (fun w' M' => matrix_walk_ w' v1 l1 (M'.rd hr1 (fun _ _ h => h))) ?_
      refine sqa_run (.int .i64 q) (by decide) rfl rfl rfl (by kernel_rfl) (fun w' M' => (by kernel_rfl)) ?_
      refine sqa_call (.tuple #[.agg (iv (qL (fwd (blockOf l0)) (matOf l1) q)), .int .i64 0]) (f := 19) (args := #[.agg (iv (fwd (blockOf l0))), .agg (bv (matOf l1)), .int .i64 q]) (by decide) rfl rfl rfl (by kernel_rfl) (fun w' M' => (run_value_call 19 #[(Operand.tmp 28), (Operand.tmp 30), (Operand.tmp 31)] _ rfl Try.func19 (by kernel_rfl) (by kernel_rfl) _ (by kernel_rfl))) (fun w' M' => (by have := quantise_walk w' (fwd (blockOf l0)) (matOf l1) q (fwd_length _) (matOf_length l1) (matOf_BL hb1) (fun n hn => by have := fwd_bound hL n hn; omega); rw [samples hL hF23 (matOf_BL hb1)] at this; exact this)) ?_
      refine sqa_run (.tuple #[.agg (iv (qL (fwd (blockOf l0)) (matOf l1) q)), .int .i64 0]) (by decide) rfl rfl rfl (by kernel_rfl) (fun w' M' => (by kernel_rfl)) ?_
      refine sqa_run (.agg (iv (qL (fwd (blockOf l0)) (matOf l1) q))) (by decide) rfl rfl rfl (by kernel_rfl) (fun w' M' => (by kernel_rfl)) ?_
      refine sqa_late (.int .i64 0) (by decide) rfl rfl (by kernel_rfl) (fun w' => (by kernel_rfl)) ?_
      refine sqa_alloc (.cells (iv zeros) 30 (0, 0)) (by decide) rfl rfl rfl (fun w' => by kernel_rfl) ?_
      refine sqa_end (by decide) ?_
      intro W20 M21
      refine st_storeRow M21 0 rfl 30 (.tmp 9) (.tmp 33) (by rfl) (iv (qL (fwd (blockOf l0)) (matOf l1) q)) (by kernel_rfl) (by kernel_rfl) (info64 _ (qL_length _ _ _)) (iv_same (qL_length _ _ _) zeros_length) (iv_one _) (by kernel_rfl) [((G19 8), .cells (iv (qL (fwd (blockOf l0)) (matOf l1) q)) 30 (0, 0)), (g7, .cells (iv (fwd (blockOf l0))) 30 (0, 0))] rfl ?_
      intro W22 M23
      refine st_val (.int .i64 0) (by kernel_rfl) (by kernel_rfl) ?_
      refine wl_nil ?_
      refine hK18 _ _ ?_
      try clear hK18 K18
      refine wp_seq_k (fun K24 hK24 => ?_)
      refine wl_region ?_
      refine st_callB M23 (.bool true) (by kernel_rfl) (args := #[]) (run_value_call 14 #[] _ rfl Try.func14 (by kernel_rfl) (by kernel_rfl) _ (by kernel_rfl)) (awake_walk W22) ?_
      intro W25 M26
      refine st_val (.bool true) (by kernel_rfl) (by kernel_rfl) ?_
      refine st_val (.int .i64 0) (by kernel_rfl) (by kernel_rfl) ?_
      refine st_val (.bool true) (by kernel_rfl) (by kernel_rfl) ?_
      refine st_val (.bool true) (by kernel_rfl) (by kernel_rfl) ?_
      refine st_val (.bool true) (by kernel_rfl) (by kernel_rfl) ?_
      refine wl_nil ?_
      refine hK24 _ _ ?_
      try clear hK24 K24
      refine wp_frame (a' := ⟨#[v0, v1, .int .i64 q, undef, undef, undef, .bool true, .pointer (some ⟨g7, 0, none⟩), .int .i64 0, .pointer (some ⟨(G19 8), 0, none⟩), .int .i64 0, .tuple #[.agg (iv (fwd (blockOf l0))), .int .i64 0], v0, .agg (iv (blockOf l0)), .tuple #[.agg (iv (fwd (blockOf l0))), .int .i64 0], .agg (iv (fwd (blockOf l0))), .int .i64 0, .int .i64 0, .bool false, .bool false, v1, .agg (bv (matOf l1)), .int .i64 q, .bool true, .bool false, .bool false, undef, .tuple #[.agg (iv (qL (fwd (blockOf l0)) (matOf l1) q)), .int .i64 0], .agg (iv (fwd (blockOf l0))), v1, .agg (bv (matOf l1)), .int .i64 q, .tuple #[.agg (iv (qL (fwd (blockOf l0)) (matOf l1) q)), .int .i64 0], .agg (iv (qL (fwd (blockOf l0)) (matOf l1) q)), .int .i64 0, .bool true, .bool true, .int .i64 0, .bool true, .bool true], []⟩) (by kernel_rfl) ?_
      refine wp_ret ?_
      exact done1 6 (.bool true) (by kernel_rfl) (by kernel_rfl) (by kernel_rfl) ⟨rfl, M26.toBelow⟩
    ·
      refine st_callB M15 (.bool false) (by kernel_rfl) (args := #[.agg (bv (matOf l1)), .int .i64 q]) (run_value_call 23 #[(Operand.tmp 21), (Operand.tmp 22)] _ rfl Try.func23 (by kernel_rfl) (by kernel_rfl) _ (by kernel_rfl)) (refMay_f W14 (matOf l1) (matOf_length _) (matOf_BL hb1) q hF23) ?_
      intro W27 M28
      refine st_val (.bool true) (by kernel_rfl) (by kernel_rfl) ?_
      refine st_val (.bool true) (by kernel_rfl) (by kernel_rfl) ?_
      refine wl_nil ?_
      refine hK13 _ _ ?_
      try clear hK13 K13
      refine wp_frame (a' := ⟨#[v0, v1, .int .i64 q, undef, undef, undef, .bool false, .pointer (some ⟨g7, 0, none⟩), .int .i64 0, undef, undef, .tuple #[.agg (iv (fwd (blockOf l0))), .int .i64 0], v0, .agg (iv (blockOf l0)), .tuple #[.agg (iv (fwd (blockOf l0))), .int .i64 0], .agg (iv (fwd (blockOf l0))), .int .i64 0, .int .i64 0, .bool false, .bool false, v1, .agg (bv (matOf l1)), .int .i64 q, .bool false, .bool true, .bool true, undef, undef, undef, undef, undef, undef, undef, undef, undef, undef, undef, undef, undef, undef], []⟩) (by kernel_rfl) ?_
      refine wp_cond_true (by kernel_rfl) ?_
      refine wp_seq_k (fun K29 hK29 => ?_)
      refine wl_region ?_
      refine st_callB M28 (.bool true) (by kernel_rfl) (args := #[]) (run_value_call 14 #[] _ rfl Try.func14 (by kernel_rfl) (by kernel_rfl) _ (by kernel_rfl)) (awake_walk W27) ?_
      intro W30 M31
      refine st_val (.bool true) (by kernel_rfl) (by kernel_rfl) ?_
      refine wl_nil ?_
      refine hK29 _ _ ?_
      try clear hK29 K29
      refine wp_ret ?_
      refine th_ret ?_
      exact done1 6 (.bool true) (by kernel_rfl) (by kernel_rfl) (by kernel_rfl) ⟨rfl, M31.toBelow⟩
  ·
    refine st_callB M4 (.tuple #[.agg (iv zeros), .int .i64 2]) (by kernel_rfl) (args := #[.agg (iv (blockOf l0))]) (run_value_call 22 #[(Operand.tmp 13)] _ rfl Try.func22 (by kernel_rfl) (by kernel_rfl) _ (by kernel_rfl)) (refForward_bad W3 (blockOf l0) (blockOf_length l0) hL) ?_
    intro W32 M33
    refine st_val (.tuple #[.agg (iv zeros), .int .i64 2]) (by kernel_rfl) (by kernel_rfl) ?_
    refine st_val (.agg (iv zeros)) (by kernel_rfl) (by kernel_rfl) ?_
    refine st_val (.int .i64 2) (by kernel_rfl) (by kernel_rfl) ?_
    refine st_alloc M33 (.cells (iv zeros) 30 (0, 0)) (by kernel_rfl) (by kernel_rfl) ?_
    intro g34 W35 M36
    refine st_storeRow M36 0 rfl 30 (.tmp 7) (.tmp 15) (by rfl) (iv zeros) (by kernel_rfl) (by kernel_rfl) (info64 _ zeros_length) (iv_same zeros_length zeros_length) (iv_one _) (by kernel_rfl) [(g34, .cells (iv zeros) 30 (0, 0))] rfl ?_
    intro W37 M38
    refine st_val (.int .i64 2) (by kernel_rfl) (by kernel_rfl) ?_
    refine wl_nil ?_
    refine hK2 _ _ ?_
    try clear hK2 K2
    refine wp_seq_k (fun K39 hK39 => ?_)
    refine wp_seq_k (fun K40 hK40 => ?_)
    refine wl_region ?_
    refine st_val (.int .i64 2) (by kernel_rfl) (by kernel_rfl) ?_
    refine st_val (.bool true) (by kernel_rfl) (by kernel_rfl) ?_
    refine st_val (.bool true) (by kernel_rfl) (by kernel_rfl) ?_
    refine st_skip (by kernel_rfl) ?_
    refine st_skip (by kernel_rfl) ?_
    refine st_skip (by kernel_rfl) ?_
    refine st_skip (by kernel_rfl) ?_
    refine st_skip (by kernel_rfl) ?_
    refine st_val (.bool true) (by kernel_rfl) (by kernel_rfl) ?_
    refine wl_nil ?_
    refine hK40 _ _ ?_
    try clear hK40 K40
    refine wp_frame (a' := ⟨#[v0, v1, .int .i64 q, undef, undef, undef, .bool false, .pointer (some ⟨g34, 0, none⟩), .int .i64 2, undef, undef, .tuple #[.agg (iv zeros), .int .i64 2], v0, .agg (iv (blockOf l0)), .tuple #[.agg (iv zeros), .int .i64 2], .agg (iv zeros), .int .i64 2, .int .i64 2, .bool true, .bool true, undef, undef, undef, undef, undef, .bool true, undef, undef, undef, undef, undef, undef, undef, undef, undef, undef, undef, undef, undef, undef], []⟩) (by kernel_rfl) ?_
    refine wp_cond_true (by kernel_rfl) ?_
    refine wp_seq_k (fun K41 hK41 => ?_)
    refine wl_region ?_
    refine st_callB M38 (.bool true) (by kernel_rfl) (args := #[]) (run_value_call 14 #[] _ rfl Try.func14 (by kernel_rfl) (by kernel_rfl) _ (by kernel_rfl)) (awake_walk W37) ?_
    intro W42 M43
    refine st_val (.bool true) (by kernel_rfl) (by kernel_rfl) ?_
    refine wl_nil ?_
    refine hK41 _ _ ?_
    try clear hK41 K41
    refine wp_ret ?_
    refine th_ret ?_
    exact done1 6 (.bool true) (by kernel_rfl) (by kernel_rfl) (by kernel_rfl) ⟨rfl, M43.toBelow⟩
end Go.Proofs.Ytjclncmpfdfkfaa
