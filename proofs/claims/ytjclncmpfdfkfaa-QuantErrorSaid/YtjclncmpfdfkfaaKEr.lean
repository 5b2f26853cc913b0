/- The walk of the law QuantError. -/
import Derived.Test.YtjclncmpfdfkfaaQp
import Derived.Test.YtjclncmpfdfkfaaQa
import Derived.Test.YtjclncmpfdfkfaaEq
import Derived.Test.YtjclncmpfdfkfaaArgI
import Derived.Test.YtjclncmpfdfkfaaFwd
import Derived.Test.YtjclncmpfdfkfaaFwdBad
import Derived.Test.YtjclncmpfdfkfaaInv
namespace Go.Proofs.Ytjclncmpfdfkfaa
open Go.RowKit
set_option maxHeartbeats 4000000 in
set_option maxRecDepth 100000 in
theorem QuantError_walk (w : World) (v0 : Value) (l0 : List Int) (hr0 : Rd w v0 (l0.map (Value.int .i64))) (hb0 : ∀ x ∈ l0, -9223372036854775808 ≤ x ∧ x ≤ 9223372036854775807) (v1 : Value) (l1 : List Int) (hr1 : Rd w v1 (l1.map (Value.int .u8))) (hb1 : ∀ x ∈ l1, 0 ≤ x ∧ x < 256) (q : Int) : Calls Try.prog 11 #[v0, v1, .int .i64 q] w fun e w' => e = .returned (.bool true) ∧ Below w.heap.size w w' := by
  refine calls_of_wp Try.func11 rfl ?_
  refine wp_frame (a' := ⟨#[v0, v1, .int .i64 q, undef, undef, undef, undef, undef, undef, undef, undef, undef, undef, undef, undef, undef, undef, undef, undef, undef, undef, undef, undef, undef, undef, undef, undef, undef, undef, undef, undef, undef, undef, undef, undef, undef, undef, undef, undef, undef, undef, undef, undef, undef, undef, undef, undef, undef, undef, undef, undef, undef, undef, undef, undef, undef, undef, undef, undef, undef, undef, undef, undef, undef, undef, undef, undef, undef, undef, undef, undef, undef, undef, undef, undef, undef, undef, undef, undef, undef, undef, undef, undef, undef, undef], []⟩) (by kernel_rfl) ?_
  have M0 : Mem NoS w w [] := Mem.start _ _
  refine wp_seq_k (fun K1 hK1 => ?_)
  refine wl_region ?_
  refine st_val (.bool false) (by kernel_rfl) (by kernel_rfl) ?_
  refine wl_nil ?_
  refine hK1 _ _ ?_
  try clear hK1 K1
  refine wp_seq_k (fun K2 hK2 => ?_)
  refine wl_region ?_
  refine st_val (v0) (by kernel_rfl) (by kernel_rfl) ?_
  refine st_callB M0 (.agg (iv (blockOf l0))) (by kernel_rfl) (args := #[v0]) (run_value_call 20 #[(Operand.tmp 18)] _ rfl Try.func20 (by kernel_rfl) (by kernel_rfl) _ (by kernel_rfl)) (block_walk w v0 l0 (M0.rd hr0 (fun _ _ h => h))) ?_
  intro W3 M4
  refine st_val (v1) (by kernel_rfl) (by kernel_rfl) ?_
  refine st_callB M4 (.agg (bv (matOf l1))) (by kernel_rfl) (args := #[v1]) (run_value_call 13 #[(Operand.tmp 20)] _ rfl Try.func13 (by kernel_rfl) (by kernel_rfl) _ (by kernel_rfl)) (matrix_walk_ W3 v1 l1 (M4.rd hr1 (fun _ _ h => h))) ?_
  intro W5 M6
  refine st_alloc M6 (.cells (iv zeros) 30 (0, 0)) (by kernel_rfl) (by kernel_rfl) ?_
  intro g7 W8 M9
  refine st_alloc M9 (.cells (bv zeros) 23 (0, 0)) (by kernel_rfl) (by kernel_rfl) ?_
  intro g10 W11 M12
  refine st_storeRow M12 1 rfl 30 (.tmp 7) (.tmp 19) (by rfl) (iv (blockOf l0)) (by kernel_rfl) (by kernel_rfl) (info64 _ (blockOf_length _)) (iv_same (blockOf_length _) zeros_length) (iv_one _) (by kernel_rfl) [(g10, .cells (bv zeros) 23 (0, 0)), (g7, .cells (iv (blockOf l0)) 30 (0, 0))] rfl ?_
  intro W13 M14
  refine st_storeRow M14 0 rfl 23 (.tmp 8) (.tmp 21) (by rfl) (bv (matOf l1)) (by kernel_rfl) (by kernel_rfl) (infoB64 _ (matOf_length _)) (bv_same (matOf_length _) zeros_length) (bv_one _) (by kernel_rfl) [(g10, .cells (bv (matOf l1)) 23 (0, 0)), (g7, .cells (iv (blockOf l0)) 30 (0, 0))] rfl ?_
  intro W15 M16
  refine wl_nil ?_
  refine hK2 _ _ ?_
  try clear hK2 K2
  refine wp_seq_k (fun K17 hK17 => ?_)
  refine wp_seq_k (fun K18 hK18 => ?_)
  refine wl_region ?_
  refine st_val (.agg (bv (matOf l1))) (by kernel_rfl) (run_load_row 23 (.tmp 8) rfl g10 (by kernel_rfl) 23 (bv (matOf l1)) (0, 0) _ (M16.get 0 rfl) Try.underlying23 rfl (infoB64 _ (matOf_length _))) ?_
  refine st_val (.int .i64 q) (by kernel_rfl) (by kernel_rfl) ?_
  rcases Classical.em (Fit (matOf l1) q) with hF24 | hF24
  ·
    refine st_callB M16 (.bool true) (by kernel_rfl) (args := #[.agg (bv (matOf l1)), .int .i64 q]) (run_value_call 23 #[(Operand.tmp 22), (Operand.tmp 23)] _ rfl Try.func23 (by kernel_rfl) (by kernel_rfl) _ (by kernel_rfl)) (refMay_t W15 (matOf l1) (matOf_length _) (matOf_BL hb1) q hF24) ?_
    intro W19 M20
    refine st_val (.bool false) (by kernel_rfl) (by kernel_rfl) ?_
    refine wl_nil ?_
    refine hK18 _ _ ?_
    try clear hK18 K18
    refine wp_cond_false (by kernel_rfl) ?_
    refine wp_skip ?_
    refine hK17 _ _ ?_
    try clear hK17 K17
    refine wp_seq_k (fun K21 hK21 => ?_)
    refine wl_region ?_
    refine st_val (.agg (iv (blockOf l0))) (by kernel_rfl) (run_load_row 30 (.tmp 7) rfl g7 (by kernel_rfl) 30 (iv (blockOf l0)) (0, 0) _ (M20.get 1 rfl) Try.underlying30 rfl (info64 _ (blockOf_length _))) ?_
    rcases Classical.em (Lim 255 (blockOf l0)) with hL | hL
    ·
      refine st_callB M20 (.tuple #[.agg (iv (fwd (blockOf l0))), .int .i64 0]) (by kernel_rfl) (args := #[.agg (iv (blockOf l0))]) (run_value_call 28 #[(Operand.tmp 28)] _ rfl Try.func28 (by kernel_rfl) (by kernel_rfl) _ (by kernel_rfl)) (forward_good W19 (blockOf l0) (blockOf_length l0) hL) ?_
      intro W22 M23
      refine st_val (.tuple #[.agg (iv (fwd (blockOf l0))), .int .i64 0]) (by kernel_rfl) (by kernel_rfl) ?_
      refine st_val (.agg (iv (fwd (blockOf l0)))) (by kernel_rfl) (by kernel_rfl) ?_
      refine st_val (.int .i64 0) (by kernel_rfl) (by kernel_rfl) ?_
      refine st_alloc M23 (.cells (iv zeros) 30 (0, 0)) (by kernel_rfl) (by kernel_rfl) ?_
      intro g24 W25 M26
      refine st_storeRow M26 0 rfl 30 (.tmp 9) (.tmp 30) (by rfl) (iv (fwd (blockOf l0))) (by kernel_rfl) (by kernel_rfl) (info64 _ (fwd_length _)) (iv_same (fwd_length _) zeros_length) (iv_one _) (by kernel_rfl) [(g24, .cells (iv (fwd (blockOf l0))) 30 (0, 0)), (g10, .cells (bv (matOf l1)) 23 (0, 0)), (g7, .cells (iv (blockOf l0)) 30 (0, 0))] rfl ?_
      intro W27 M28
      refine st_val (.int .i64 0) (by kernel_rfl) (by kernel_rfl) ?_
      refine wl_nil ?_
      refine hK21 _ _ ?_
      try clear hK21 K21
      refine wp_frame (a' := ⟨#[v0, v1, .int .i64 q, undef, undef, undef, .bool false, .pointer (some ⟨g7, 0, none⟩), .pointer (some ⟨g10, 0, none⟩), .pointer (some ⟨g24, 0, none⟩), .int .i64 0, undef, undef, undef, undef, undef, undef, undef, v0, .agg (iv (blockOf l0)), v1, .agg (bv (matOf l1)), .agg (bv (matOf l1)), .int .i64 q, .bool true, .bool false, undef, .tuple #[.agg (iv (fwd (blockOf l0))), .int .i64 0], .agg (iv (blockOf l0)), .tuple #[.agg (iv (fwd (blockOf l0))), .int .i64 0], .agg (iv (fwd (blockOf l0))), .int .i64 0, undef, undef, undef, undef, undef, undef, undef, undef, undef, undef, undef, undef, undef, undef, undef, undef, undef, undef, undef, undef, undef, undef, undef, undef, undef, undef, undef, undef, undef, undef, undef, undef, undef, undef, undef, undef, undef, undef, undef, undef, undef, undef, undef, undef, undef, undef, undef, undef, undef, undef, undef, undef, undef], []⟩) (by kernel_rfl) ?_
      refine wp_seq_k (fun K29 hK29 => ?_)
      refine wp_seq_k (fun K30 hK30 => ?_)
      refine wl_region ?_
      refine st_val (.int .i64 0) (by kernel_rfl) (by kernel_rfl) ?_
      refine st_val (.bool false) (by kernel_rfl) (by kernel_rfl) ?_
      refine wl_nil ?_
      refine hK30 _ _ ?_
      try clear hK30 K30
      refine wp_cond_false (by kernel_rfl) ?_
      refine wp_skip ?_
      refine hK29 _ _ ?_
      try clear hK29 K29
      refine wp_seq_k (fun K31 hK31 => ?_)
      refine wl_region ?_
      refine st_val (.agg (iv (fwd (blockOf l0)))) (by kernel_rfl) (run_load_row 30 (.tmp 9) rfl g24 (by kernel_rfl) 30 (iv (fwd (blockOf l0))) (0, 0) _ (M28.get 0 rfl) Try.underlying30 rfl (info64 _ (fwd_length _))) ?_
      refine st_val (.agg (bv (matOf l1))) (by kernel_rfl) (run_load_row 23 (.tmp 8) rfl g10 (by kernel_rfl) 23 (bv (matOf l1)) (0, 0) _ (M28.get 1 rfl) Try.underlying23 rfl (infoB64 _ (matOf_length _))) ?_
      refine st_val (.int .i64 q) (by kernel_rfl) (by kernel_rfl) ?_
      refine st_callB M28 (.tuple #[.agg (iv (qL (fwd (blockOf l0)) (matOf l1) q)), .int .i64 0]) (by kernel_rfl) (args := #[.agg (iv (fwd (blockOf l0))), .agg (bv (matOf l1)), .int .i64 q]) (run_value_call 19 #[(Operand.tmp 36), (Operand.tmp 37), (Operand.tmp 38)] _ rfl Try.func19 (by kernel_rfl) (by kernel_rfl) _ (by kernel_rfl)) ((by have := quantise_walk W27 (fwd (blockOf l0)) (matOf l1) q (fwd_length _) (matOf_length l1) (matOf_BL hb1) (fun n hn => by have := fwd_bound hL n hn; omega); rw [samples hL hF24 (matOf_BL hb1)] at this; exact this)) ?_
      intro W32 M33
      refine st_val (.tuple #[.agg (iv (qL (fwd (blockOf l0)) (matOf l1) q)), .int .i64 0]) (by kernel_rfl) (by kernel_rfl) ?_
      refine st_val (.agg (iv (qL (fwd (blockOf l0)) (matOf l1) q))) (by kernel_rfl) (by kernel_rfl) ?_
      refine st_val (.int .i64 0) (by kernel_rfl) (by kernel_rfl) ?_
      refine st_alloc M33 (.cells (iv zeros) 30 (0, 0)) (by kernel_rfl) (by kernel_rfl) ?_
      intro g34 W35 M36
      refine st_storeRow M36 0 rfl 30 (.tmp 11) (.tmp 40) (by rfl) (iv (qL (fwd (blockOf l0)) (matOf l1) q)) (by kernel_rfl) (by kernel_rfl) (info64 _ (qL_length _ _ _)) (iv_same (qL_length _ _ _) zeros_length) (iv_one _) (by kernel_rfl) [(g34, .cells (iv (qL (fwd (blockOf l0)) (matOf l1) q)) 30 (0, 0)), (g24, .cells (iv (fwd (blockOf l0))) 30 (0, 0)), (g10, .cells (bv (matOf l1)) 23 (0, 0)), (g7, .cells (iv (blockOf l0)) 30 (0, 0))] rfl ?_
      intro W37 M38
      refine st_val (.int .i64 0) (by kernel_rfl) (by kernel_rfl) ?_
      refine wl_nil ?_
      refine hK31 _ _ ?_
      try clear hK31 K31
      refine wp_seq_k (fun K39 hK39 => ?_)
      refine wl_region ?_
      refine st_val (.agg (iv (qL (fwd (blockOf l0)) (matOf l1) q))) (by kernel_rfl) (run_load_row 30 (.tmp 11) rfl g34 (by kernel_rfl) 30 (iv (qL (fwd (blockOf l0)) (matOf l1) q)) (0, 0) _ (M38.get 0 rfl) Try.underlying30 rfl (info64 _ (qL_length _ _ _))) ?_
      refine st_val (.agg (bv (matOf l1))) (by kernel_rfl) (run_load_row 23 (.tmp 8) rfl g10 (by kernel_rfl) 23 (bv (matOf l1)) (0, 0) _ (M38.get 2 rfl) Try.underlying23 rfl (infoB64 _ (matOf_length _))) ?_
      refine st_val (.int .i64 q) (by kernel_rfl) (by kernel_rfl) ?_
      refine st_callB M38 (.tuple #[.agg (iv (dL (qL (fwd (blockOf l0)) (matOf l1) q) (matOf l1) q)), .int .i64 0]) (by kernel_rfl) (args := #[.agg (iv (qL (fwd (blockOf l0)) (matOf l1) q)), .agg (bv (matOf l1)), .int .i64 q]) (run_value_call 24 #[(Operand.tmp 43), (Operand.tmp 44), (Operand.tmp 45)] _ rfl Try.func24 (by kernel_rfl) (by kernel_rfl) _ (by kernel_rfl)) ((by have := dequantise_walk W37 (qL (fwd (blockOf l0)) (matOf l1) q) (matOf l1) q (qL_length _ _ _) (matOf_length l1) (matOf_BL hb1); rw [(deq_of (samples hL hF24 (matOf_BL hb1))).1] at this; exact this)) ?_
      intro W40 M41
      refine st_val (.tuple #[.agg (iv (dL (qL (fwd (blockOf l0)) (matOf l1) q) (matOf l1) q)), .int .i64 0]) (by kernel_rfl) (by kernel_rfl) ?_
      refine st_val (.agg (iv (dL (qL (fwd (blockOf l0)) (matOf l1) q) (matOf l1) q))) (by kernel_rfl) (by kernel_rfl) ?_
      refine st_val (.int .i64 0) (by kernel_rfl) (by kernel_rfl) ?_
      refine st_alloc M41 (.cells (iv zeros) 30 (0, 0)) (by kernel_rfl) (by kernel_rfl) ?_
      intro g42 W43 M44
      refine st_storeRow M44 0 rfl 30 (.tmp 13) (.tmp 47) (by rfl) (iv (dL (qL (fwd (blockOf l0)) (matOf l1) q) (matOf l1) q)) (by kernel_rfl) (by kernel_rfl) (info64 _ (dL_length _ _ _)) (iv_same (dL_length _ _ _) zeros_length) (iv_one _) (by kernel_rfl) [(g42, .cells (iv (dL (qL (fwd (blockOf l0)) (matOf l1) q) (matOf l1) q)) 30 (0, 0)), (g34, .cells (iv (qL (fwd (blockOf l0)) (matOf l1) q)) 30 (0, 0)), (g24, .cells (iv (fwd (blockOf l0))) 30 (0, 0)), (g10, .cells (bv (matOf l1)) 23 (0, 0)), (g7, .cells (iv (blockOf l0)) 30 (0, 0))] rfl ?_
      intro W45 M46
      refine st_val (.int .i64 0) (by kernel_rfl) (by kernel_rfl) ?_
      refine wl_nil ?_
      refine hK39 _ _ ?_
      try clear hK39 K39
      refine wp_frame (a' := ⟨#[v0, v1, .int .i64 q, undef, undef, undef, .bool false, .pointer (some ⟨g7, 0, none⟩), .pointer (some ⟨g10, 0, none⟩), .pointer (some ⟨g24, 0, none⟩), .int .i64 0, .pointer (some ⟨g34, 0, none⟩), .int .i64 0, .pointer (some ⟨g42, 0, none⟩), .int .i64 0, undef, undef, undef, v0, .agg (iv (blockOf l0)), v1, .agg (bv (matOf l1)), .agg (bv (matOf l1)), .int .i64 q, .bool true, .bool false, undef, .tuple #[.agg (iv (fwd (blockOf l0))), .int .i64 0], .agg (iv (blockOf l0)), .tuple #[.agg (iv (fwd (blockOf l0))), .int .i64 0], .agg (iv (fwd (blockOf l0))), .int .i64 0, .int .i64 0, .bool false, undef, .tuple #[.agg (iv (qL (fwd (blockOf l0)) (matOf l1) q)), .int .i64 0], .agg (iv (fwd (blockOf l0))), .agg (bv (matOf l1)), .int .i64 q, .tuple #[.agg (iv (qL (fwd (blockOf l0)) (matOf l1) q)), .int .i64 0], .agg (iv (qL (fwd (blockOf l0)) (matOf l1) q)), .int .i64 0, .tuple #[.agg (iv (dL (qL (fwd (blockOf l0)) (matOf l1) q) (matOf l1) q)), .int .i64 0], .agg (iv (qL (fwd (blockOf l0)) (matOf l1) q)), .agg (bv (matOf l1)), .int .i64 q, .tuple #[.agg (iv (dL (qL (fwd (blockOf l0)) (matOf l1) q) (matOf l1) q)), .int .i64 0], .agg (iv (dL (qL (fwd (blockOf l0)) (matOf l1) q) (matOf l1) q)), .int .i64 0, undef, undef, undef, undef, undef, undef, undef, undef, undef, undef, undef, undef, undef, undef, undef, undef, undef, undef, undef, undef, undef, undef, undef, undef, undef, undef, undef, undef, undef, undef, undef, undef, undef, undef, undef, undef], []⟩) (by kernel_rfl) ?_
      refine wp_seq_k (fun K47 hK47 => ?_)
      refine wp_seq_k (fun K48 hK48 => ?_)
      refine wl_region ?_
      refine st_val (.int .i64 0) (by kernel_rfl) (by kernel_rfl) ?_
      refine st_val (.bool false) (by kernel_rfl) (by kernel_rfl) ?_
      refine st_val (.bool false) (by kernel_rfl) (by kernel_rfl) ?_
      refine st_val (.int .i64 0) (by kernel_rfl) (by kernel_rfl) ?_
      refine st_val (.bool false) (by kernel_rfl) (by kernel_rfl) ?_
      refine st_val (.bool false) (by kernel_rfl) (by kernel_rfl) ?_
      refine wl_nil ?_
      refine hK48 _ _ ?_
      try clear hK48 K48
      refine wp_cond_false (by kernel_rfl) ?_
      refine wp_skip ?_
      refine hK47 _ _ ?_
      try clear hK47 K47
      refine wp_seq_k (fun K49 hK49 => ?_)
      refine wl_seqA M46 6 [] [.agg (iv (dL (qL (fwd (blockOf l0)) (matOf l1) q) (matOf l1) q)), .agg (iv (inv (dL (qL (fwd (blockOf l0)) (matOf l1) q) (matOf l1) q))), .agg (bv (matOf l1)), .int .i64 q, .int .i64 (bnd (matOf l1) q), undef] [(5, .cells (iv zeros) 30 (0, 0))] (by decide) (by kernel_rfl) (by kernel_rfl) (fun d _ _ _ _ h => by cases d <;> exact h) rfl rfl (by decide) (fun G50 => ?_)
      refine sqa_run (.agg (iv (dL (qL (fwd (blockOf l0)) (matOf l1) q) (matOf l1) q))) (by decide) rfl rfl rfl (by kernel_rfl) (fun w' M' => (run_load_row 30 (.tmp 13) rfl g42 (by kernel_rfl) 30 (iv (dL (qL (fwd (blockOf l0)) (matOf l1) q) (matOf l1) q)) (0, 0) _ (M'.get 0 rfl) Try.underlying30 rfl (info64 _ (dL_length _ _ _)))) ?_
      refine sqa_call (.agg (iv (inv (dL (qL (fwd (blockOf l0)) (matOf l1) q) (matOf l1) q)))) (f := 29) (args := #[.agg (iv (dL (qL (fwd (blockOf l0)) (matOf l1) q) (matOf l1) q))]) (by decide) rfl rfl rfl (by kernel_rfl) (fun w' M' => (run_value_call 29 #[(Operand.tmp 55)] _ rfl Try.func29 (by kernel_rfl) (by kernel_rfl) _ (by kernel_rfl))) (fun w' M' => inverse_walk w' (dL (qL (fwd (blockOf l0)) (matOf l1) q) (matOf l1) q) (dL_length _ _ _)) ?_
      refine sqa_run (.agg (bv (matOf l1))) (by decide) rfl rfl rfl (by kernel_rfl) (fun w' M' => (run_load_row 23 (.tmp 8) rfl g10 (by kernel_rfl) 23 (bv (matOf l1)) (0, 0) _ (M'.get 3 rfl) Try.underlying23 rfl (infoB64 _ (matOf_length _)))) ?_
      refine sqa_run (.int .i64 q) (by decide) rfl rfl rfl (by kernel_rfl) (fun w' M' => (by kernel_rfl)) ?_
      refine sqa_call (.int .i64 (bnd (matOf l1) q)) (f := 26) (args := #[.agg (bv (matOf l1)), .int .i64 q]) (by decide) rfl rfl rfl (by kernel_rfl) (fun w' M' => (run_value_call 26 #[(Operand.tmp 57), (Operand.tmp 58)] _ rfl Try.func26 (by kernel_rfl) (by kernel_rfl) _ (by kernel_rfl))) (fun w' M' => bound_walk w' (matOf l1) q (matOf_length _) (matOf_BL hb1)) ?_
      refine sqa_alloc (.cells (iv zeros) 30 (0, 0)) (by decide) rfl rfl rfl (fun w' => by kernel_rfl) ?_
      refine sqa_end (by decide) ?_
      intro W51 M52
      refine st_storeRow M52 0 rfl 30 (.tmp 15) (.tmp 56) (by rfl) (iv (inv (dL (qL (fwd (blockOf l0)) (matOf l1) q) (matOf l1) q))) (by kernel_rfl) (by kernel_rfl) (info64 _ (inv_length _)) (iv_same (inv_length _) zeros_length) (iv_one _) (by kernel_rfl) [((G50 5), .cells (iv (inv (dL (qL (fwd (blockOf l0)) (matOf l1) q) (matOf l1) q))) 30 (0, 0)), (g42, .cells (iv (dL (qL (fwd (blockOf l0)) (matOf l1) q) (matOf l1) q)) 30 (0, 0)), (g34, .cells (iv (qL (fwd (blockOf l0)) (matOf l1) q)) 30 (0, 0)), (g24, .cells (iv (fwd (blockOf l0))) 30 (0, 0)), (g10, .cells (bv (matOf l1)) 23 (0, 0)), (g7, .cells (iv (blockOf l0)) 30 (0, 0))] rfl ?_
      intro W53 M54
      refine st_val (.int .i64 (bnd (matOf l1) q)) (by kernel_rfl) (by kernel_rfl) ?_
      refine wl_nil ?_
      refine hK49 _ _ ?_
      try clear hK49 K49
      refine wp_frame (a' := ⟨#[v0, v1, .int .i64 q, undef, undef, undef, .bool false, .pointer (some ⟨g7, 0, none⟩), .pointer (some ⟨g10, 0, none⟩), .pointer (some ⟨g24, 0, none⟩), .int .i64 0, .pointer (some ⟨g34, 0, none⟩), .int .i64 0, .pointer (some ⟨g42, 0, none⟩), .int .i64 0, .pointer (some ⟨(G50 5), 0, none⟩), .int .i64 (bnd (matOf l1) q), undef, v0, .agg (iv (blockOf l0)), v1, .agg (bv (matOf l1)), .agg (bv (matOf l1)), .int .i64 q, .bool true, .bool false, undef, .tuple #[.agg (iv (fwd (blockOf l0))), .int .i64 0], .agg (iv (blockOf l0)), .tuple #[.agg (iv (fwd (blockOf l0))), .int .i64 0], .agg (iv (fwd (blockOf l0))), .int .i64 0, .int .i64 0, .bool false, undef, .tuple #[.agg (iv (qL (fwd (blockOf l0)) (matOf l1) q)), .int .i64 0], .agg (iv (fwd (blockOf l0))), .agg (bv (matOf l1)), .int .i64 q, .tuple #[.agg (iv (qL (fwd (blockOf l0)) (matOf l1) q)), .int .i64 0], .agg (iv (qL (fwd (blockOf l0)) (matOf l1) q)), .int .i64 0, .tuple #[.agg (iv (dL (qL (fwd (blockOf l0)) (matOf l1) q) (matOf l1) q)), .int .i64 0], .agg (iv (qL (fwd (blockOf l0)) (matOf l1) q)), .agg (bv (matOf l1)), .int .i64 q, .tuple #[.agg (iv (dL (qL (fwd (blockOf l0)) (matOf l1) q) (matOf l1) q)), .int .i64 0], .agg (iv (dL (qL (fwd (blockOf l0)) (matOf l1) q) (matOf l1) q)), .int .i64 0, .int .i64 0, .bool false, .bool false, .int .i64 0, .bool false, .bool false, .agg (iv (dL (qL (fwd (blockOf l0)) (matOf l1) q) (matOf l1) q)), .agg (iv (inv (dL (qL (fwd (blockOf l0)) (matOf l1) q) (matOf l1) q))), .agg (bv (matOf l1)), .int .i64 q, .int .i64 (bnd (matOf l1) q), undef, undef, undef, undef, undef, undef, undef, undef, undef, undef, undef, undef, undef, undef, undef, undef, undef, undef, undef, undef, undef, undef, undef, undef, undef], []⟩) (by kernel_rfl) ?_
      refine wp_seq_k (fun K55 hK55 => ?_)
      refine wp_seq_k (fun K56 hK56 => ?_)
      refine wl_region ?_
      refine st_val (.int .i64 0) (by kernel_rfl) (by kernel_rfl) ?_
      refine wl_nil ?_
      refine hK56 _ _ ?_
      try clear hK56 K56
      refine wp_block ?_
      refine wp_loop_ghost (fun gn a' w' => ∃ (n : Nat) (u57 : Nat → Value), ((n ≤ 64) ∧ Mem NoS w w' [((G50 5), .cells (iv (inv (dL (qL (fwd (blockOf l0)) (matOf l1) q) (matOf l1) q))) 30 (0, 0)), (g42, .cells (iv (dL (qL (fwd (blockOf l0)) (matOf l1) q) (matOf l1) q)) 30 (0, 0)), (g34, .cells (iv (qL (fwd (blockOf l0)) (matOf l1) q)) 30 (0, 0)), (g24, .cells (iv (fwd (blockOf l0))) 30 (0, 0)), (g10, .cells (bv (matOf l1)) 23 (0, 0)), (g7, .cells (iv (blockOf l0)) 30 (0, 0))]) ∧ gn = 64 - n ∧ a' = ⟨#[v0, v1, .int .i64 q, undef, undef, undef, (u57 6), .pointer (some ⟨g7, 0, none⟩), .pointer (some ⟨g10, 0, none⟩), .pointer (some ⟨g24, 0, none⟩), .int .i64 0, .pointer (some ⟨g34, 0, none⟩), .int .i64 0, .pointer (some ⟨g42, 0, none⟩), .int .i64 0, .pointer (some ⟨(G50 5), 0, none⟩), .int .i64 (bnd (matOf l1) q), .int .i64 (n : Int), v0, .agg (iv (blockOf l0)), v1, .agg (bv (matOf l1)), .agg (bv (matOf l1)), .int .i64 q, .bool true, .bool false, undef, .tuple #[.agg (iv (fwd (blockOf l0))), .int .i64 0], .agg (iv (blockOf l0)), .tuple #[.agg (iv (fwd (blockOf l0))), .int .i64 0], .agg (iv (fwd (blockOf l0))), .int .i64 0, .int .i64 0, .bool false, undef, .tuple #[.agg (iv (qL (fwd (blockOf l0)) (matOf l1) q)), .int .i64 0], .agg (iv (fwd (blockOf l0))), .agg (bv (matOf l1)), .int .i64 q, .tuple #[.agg (iv (qL (fwd (blockOf l0)) (matOf l1) q)), .int .i64 0], .agg (iv (qL (fwd (blockOf l0)) (matOf l1) q)), .int .i64 0, .tuple #[.agg (iv (dL (qL (fwd (blockOf l0)) (matOf l1) q) (matOf l1) q)), .int .i64 0], .agg (iv (qL (fwd (blockOf l0)) (matOf l1) q)), .agg (bv (matOf l1)), .int .i64 q, .tuple #[.agg (iv (dL (qL (fwd (blockOf l0)) (matOf l1) q) (matOf l1) q)), .int .i64 0], .agg (iv (dL (qL (fwd (blockOf l0)) (matOf l1) q) (matOf l1) q)), .int .i64 0, .int .i64 0, .bool false, .bool false, .int .i64 0, .bool false, .bool false, .agg (iv (dL (qL (fwd (blockOf l0)) (matOf l1) q) (matOf l1) q)), .agg (iv (inv (dL (qL (fwd (blockOf l0)) (matOf l1) q) (matOf l1) q))), .agg (bv (matOf l1)), .int .i64 q, .int .i64 (bnd (matOf l1) q), (u57 60), (u57 61), (u57 62), (u57 63), (u57 64), (u57 65), (u57 66), (u57 67), (u57 68), (u57 69), (u57 70), (u57 71), (u57 72), (u57 73), (u57 74), (u57 75), (u57 76), (u57 77), (u57 78), (u57 79), (u57 80), (u57 81), (u57 82), (u57 83), undef], []⟩) _ ⟨0, (fun zz => Array.getD #[v0, v1, .int .i64 q, undef, undef, undef, .bool false, .pointer (some ⟨g7, 0, none⟩), .pointer (some ⟨g10, 0, none⟩), .pointer (some ⟨g24, 0, none⟩), .int .i64 0, .pointer (some ⟨g34, 0, none⟩), .int .i64 0, .pointer (some ⟨g42, 0, none⟩), .int .i64 0, .pointer (some ⟨(G50 5), 0, none⟩), .int .i64 (bnd (matOf l1) q), .int .i64 0, v0, .agg (iv (blockOf l0)), v1, .agg (bv (matOf l1)), .agg (bv (matOf l1)), .int .i64 q, .bool true, .bool false, undef, .tuple #[.agg (iv (fwd (blockOf l0))), .int .i64 0], .agg (iv (blockOf l0)), .tuple #[.agg (iv (fwd (blockOf l0))), .int .i64 0], .agg (iv (fwd (blockOf l0))), .int .i64 0, .int .i64 0, .bool false, undef, .tuple #[.agg (iv (qL (fwd (blockOf l0)) (matOf l1) q)), .int .i64 0], .agg (iv (fwd (blockOf l0))), .agg (bv (matOf l1)), .int .i64 q, .tuple #[.agg (iv (qL (fwd (blockOf l0)) (matOf l1) q)), .int .i64 0], .agg (iv (qL (fwd (blockOf l0)) (matOf l1) q)), .int .i64 0, .tuple #[.agg (iv (dL (qL (fwd (blockOf l0)) (matOf l1) q) (matOf l1) q)), .int .i64 0], .agg (iv (qL (fwd (blockOf l0)) (matOf l1) q)), .agg (bv (matOf l1)), .int .i64 q, .tuple #[.agg (iv (dL (qL (fwd (blockOf l0)) (matOf l1) q) (matOf l1) q)), .int .i64 0], .agg (iv (dL (qL (fwd (blockOf l0)) (matOf l1) q) (matOf l1) q)), .int .i64 0, .int .i64 0, .bool false, .bool false, .int .i64 0, .bool false, .bool false, .agg (iv (dL (qL (fwd (blockOf l0)) (matOf l1) q) (matOf l1) q)), .agg (iv (inv (dL (qL (fwd (blockOf l0)) (matOf l1) q) (matOf l1) q))), .agg (bv (matOf l1)), .int .i64 q, .int .i64 (bnd (matOf l1) q), undef, undef, undef, undef, undef, undef, undef, undef, undef, undef, undef, undef, undef, undef, undef, undef, undef, undef, undef, undef, undef, undef, undef, undef, undef] zz undef), ⟨by omega, M54⟩, rfl, (by kernel_rfl)⟩ ?_
      rintro gn _ W58 ⟨n, u57, ⟨rn, M59⟩, rfl, rfl⟩
      refine wp_seq_k (fun K60 hK60 => ?_)
      refine wp_seq_k (fun K61 hK61 => ?_)
      refine wl_region ?_
      refine st_val (.int .i64 (n : Int)) (by kernel_rfl) (by kernel_rfl) ?_
      rcases Decidable.em (((n : Int) : Int) < 64) with c61 | c61
      ·
        have h1 := error_of hL hF24 (matOf_BL hb1) n (by omega)
        have h2 := bnd_le hF24 (matOf_BL hb1)
        refine st_val (.bool true) (by kernel_rfl) (bool_of (dec_t c61) (by kernel_rfl)) ?_
        refine wl_nil ?_
        refine hK61 _ _ ?_
        try clear hK61 K61
        refine wp_cond_true (by kernel_rfl) ?_
        refine wp_skip ?_
        refine hK60 _ _ ?_
        try clear hK60 K60
        refine wp_seq_k (fun K62 hK62 => ?_)
        refine wp_block ?_
        refine wp_seq_k (fun K63 hK63 => ?_)
        refine wl_seq 20 (fun w' => Mem NoS w w' [((G50 5), .cells (iv (inv (dL (qL (fwd (blockOf l0)) (matOf l1) q) (matOf l1) q))) 30 (0, 0)), (g42, .cells (iv (dL (qL (fwd (blockOf l0)) (matOf l1) q) (matOf l1) q)) 30 (0, 0)), (g34, .cells (iv (qL (fwd (blockOf l0)) (matOf l1) q)) 30 (0, 0)), (g24, .cells (iv (fwd (blockOf l0))) 30 (0, 0)), (g10, .cells (bv (matOf l1)) 23 (0, 0)), (g7, .cells (iv (blockOf l0)) 30 (0, 0))]) (by decide) (by kernel_rfl) (by kernel_rfl) M59.drew ?_
        refine seq_run (v := .int .i64 (n : Int)) (by decide) (by kernel_rfl) (fun w' M' => (by kernel_rfl)) ?_
        refine seq_run (v := .pointer (some ⟨(G50 5), n, none⟩)) (by decide) (by kernel_rfl) (fun w' M' => (run_indexAddr 30 (.tmp 15) (.tmp 64) rfl ⟨(G50 5), 0, none⟩ .i64 n (by kernel_rfl) (by kernel_rfl) Try.underlying30 1 (by kernel_rfl) (by omega) ⟨(G50 5), n, none⟩ (addr_at0 _ _))) ?_
        refine seq_run (v := .int .i64 ((inv (dL (qL (fwd (blockOf l0)) (matOf l1) q) (matOf l1) q)).getD n 0)) (by decide) (by kernel_rfl) (fun w' M' => (run_load_cell 3 (.tmp 65) rfl ⟨(G50 5), n, none⟩ (by kernel_rfl) _ (M'.cell 0 rfl n _ (iv_get (inv (dL (qL (fwd (blockOf l0)) (matOf l1) q) (matOf l1) q)) n (by rw [(inv_length _)]; omega))) (by kernel_rfl))) ?_
        refine seq_run (v := .int .i64 (n : Int)) (by decide) (by kernel_rfl) (fun w' M' => (by kernel_rfl)) ?_
        refine seq_run (v := .pointer (some ⟨g7, n, none⟩)) (by decide) (by kernel_rfl) (fun w' M' => (run_indexAddr 30 (.tmp 7) (.tmp 67) rfl ⟨g7, 0, none⟩ .i64 n (by kernel_rfl) (by kernel_rfl) Try.underlying30 1 (by kernel_rfl) (by omega) ⟨g7, n, none⟩ (addr_at0 _ _))) ?_
        refine seq_run (v := .int .i64 ((blockOf l0).getD n 0)) (by decide) (by kernel_rfl) (fun w' M' => (run_load_cell 3 (.tmp 68) rfl ⟨g7, n, none⟩ (by kernel_rfl) _ (M'.cell 5 rfl n _ (iv_get (blockOf l0) n (by rw [(blockOf_length _)]; omega))) (by kernel_rfl))) ?_
        refine seq_run (v := .int .i64 (((inv (dL (qL (fwd (blockOf l0)) (matOf l1) q) (matOf l1) q)).getD n 0) - ((blockOf l0).getD n 0))) (by decide) (by kernel_rfl) (fun w' M' => (i64_of (by omega) (by kernel_rfl))) ?_
        refine seq_run (v := .int .i64 (bnd (matOf l1) q)) (by decide) (by kernel_rfl) (fun w' M' => (by kernel_rfl)) ?_
        refine seq_run (v := .bool false) (by decide) (by kernel_rfl) (fun w' M' => (bool_of (dec_f (show ¬ ((((inv (dL (qL (fwd (blockOf l0)) (matOf l1) q) (matOf l1) q)).getD n 0) - ((blockOf l0).getD n 0) : Int) > bnd (matOf l1) q) from by omega)) (by kernel_rfl))) ?_
        refine seq_run (v := .bool false) (by decide) (by kernel_rfl) (fun w' M' => (by kernel_rfl)) ?_
        refine seq_run (v := .int .i64 (n : Int)) (by decide) (by kernel_rfl) (fun w' M' => (by kernel_rfl)) ?_
        refine seq_run (v := .pointer (some ⟨g7, n, none⟩)) (by decide) (by kernel_rfl) (fun w' M' => (run_indexAddr 30 (.tmp 7) (.tmp 74) rfl ⟨g7, 0, none⟩ .i64 n (by kernel_rfl) (by kernel_rfl) Try.underlying30 1 (by kernel_rfl) (by omega) ⟨g7, n, none⟩ (addr_at0 _ _))) ?_
        refine seq_run (v := .int .i64 ((blockOf l0).getD n 0)) (by decide) (by kernel_rfl) (fun w' M' => (run_load_cell 3 (.tmp 75) rfl ⟨g7, n, none⟩ (by kernel_rfl) _ (M'.cell 5 rfl n _ (iv_get (blockOf l0) n (by rw [(blockOf_length _)]; omega))) (by kernel_rfl))) ?_
        refine seq_run (v := .int .i64 (n : Int)) (by decide) (by kernel_rfl) (fun w' M' => (by kernel_rfl)) ?_
        refine seq_run (v := .pointer (some ⟨(G50 5), n, none⟩)) (by decide) (by kernel_rfl) (fun w' M' => (run_indexAddr 30 (.tmp 15) (.tmp 77) rfl ⟨(G50 5), 0, none⟩ .i64 n (by kernel_rfl) (by kernel_rfl) Try.underlying30 1 (by kernel_rfl) (by omega) ⟨(G50 5), n, none⟩ (addr_at0 _ _))) ?_
        refine seq_run (v := .int .i64 ((inv (dL (qL (fwd (blockOf l0)) (matOf l1) q) (matOf l1) q)).getD n 0)) (by decide) (by kernel_rfl) (fun w' M' => (run_load_cell 3 (.tmp 78) rfl ⟨(G50 5), n, none⟩ (by kernel_rfl) _ (M'.cell 0 rfl n _ (iv_get (inv (dL (qL (fwd (blockOf l0)) (matOf l1) q) (matOf l1) q)) n (by rw [(inv_length _)]; omega))) (by kernel_rfl))) ?_
        refine seq_run (v := .int .i64 (((blockOf l0).getD n 0) - ((inv (dL (qL (fwd (blockOf l0)) (matOf l1) q) (matOf l1) q)).getD n 0))) (by decide) (by kernel_rfl) (fun w' M' => (i64_of (by omega) (by kernel_rfl))) ?_
        refine seq_run (v := .int .i64 (bnd (matOf l1) q)) (by decide) (by kernel_rfl) (fun w' M' => (by kernel_rfl)) ?_
        refine seq_run (v := .bool false) (by decide) (by kernel_rfl) (fun w' M' => (bool_of (dec_f (show ¬ ((((blockOf l0).getD n 0) - ((inv (dL (qL (fwd (blockOf l0)) (matOf l1) q) (matOf l1) q)).getD n 0) : Int) > bnd (matOf l1) q) from by omega)) (by kernel_rfl))) ?_
        refine seq_run (v := .bool false) (by decide) (by kernel_rfl) (fun w' M' => (by kernel_rfl)) ?_
        refine seq_end (by decide) ?_
        intro W64 M65
        refine wl_nil ?_
        refine hK63 _ _ ?_
        try clear hK63 K63
        refine wp_frame (a' := ⟨#[v0, v1, .int .i64 q, undef, undef, undef, (u57 6), .pointer (some ⟨g7, 0, none⟩), .pointer (some ⟨g10, 0, none⟩), .pointer (some ⟨g24, 0, none⟩), .int .i64 0, .pointer (some ⟨g34, 0, none⟩), .int .i64 0, .pointer (some ⟨g42, 0, none⟩), .int .i64 0, .pointer (some ⟨(G50 5), 0, none⟩), .int .i64 (bnd (matOf l1) q), .int .i64 (n : Int), v0, .agg (iv (blockOf l0)), v1, .agg (bv (matOf l1)), .agg (bv (matOf l1)), .int .i64 q, .bool true, .bool false, undef, .tuple #[.agg (iv (fwd (blockOf l0))), .int .i64 0], .agg (iv (blockOf l0)), .tuple #[.agg (iv (fwd (blockOf l0))), .int .i64 0], .agg (iv (fwd (blockOf l0))), .int .i64 0, .int .i64 0, .bool false, undef, .tuple #[.agg (iv (qL (fwd (blockOf l0)) (matOf l1) q)), .int .i64 0], .agg (iv (fwd (blockOf l0))), .agg (bv (matOf l1)), .int .i64 q, .tuple #[.agg (iv (qL (fwd (blockOf l0)) (matOf l1) q)), .int .i64 0], .agg (iv (qL (fwd (blockOf l0)) (matOf l1) q)), .int .i64 0, .tuple #[.agg (iv (dL (qL (fwd (blockOf l0)) (matOf l1) q) (matOf l1) q)), .int .i64 0], .agg (iv (qL (fwd (blockOf l0)) (matOf l1) q)), .agg (bv (matOf l1)), .int .i64 q, .tuple #[.agg (iv (dL (qL (fwd (blockOf l0)) (matOf l1) q) (matOf l1) q)), .int .i64 0], .agg (iv (dL (qL (fwd (blockOf l0)) (matOf l1) q) (matOf l1) q)), .int .i64 0, .int .i64 0, .bool false, .bool false, .int .i64 0, .bool false, .bool false, .agg (iv (dL (qL (fwd (blockOf l0)) (matOf l1) q) (matOf l1) q)), .agg (iv (inv (dL (qL (fwd (blockOf l0)) (matOf l1) q) (matOf l1) q))), .agg (bv (matOf l1)), .int .i64 q, .int .i64 (bnd (matOf l1) q), .int .i64 (n : Int), .bool true, (u57 62), (u57 63), .int .i64 (n : Int), .pointer (some ⟨(G50 5), n, none⟩), .int .i64 ((inv (dL (qL (fwd (blockOf l0)) (matOf l1) q) (matOf l1) q)).getD n 0), .int .i64 (n : Int), .pointer (some ⟨g7, n, none⟩), .int .i64 ((blockOf l0).getD n 0), .int .i64 (((inv (dL (qL (fwd (blockOf l0)) (matOf l1) q) (matOf l1) q)).getD n 0) - ((blockOf l0).getD n 0)), .int .i64 (bnd (matOf l1) q), .bool false, .bool false, .int .i64 (n : Int), .pointer (some ⟨g7, n, none⟩), .int .i64 ((blockOf l0).getD n 0), .int .i64 (n : Int), .pointer (some ⟨(G50 5), n, none⟩), .int .i64 ((inv (dL (qL (fwd (blockOf l0)) (matOf l1) q) (matOf l1) q)).getD n 0), .int .i64 (((blockOf l0).getD n 0) - ((inv (dL (qL (fwd (blockOf l0)) (matOf l1) q) (matOf l1) q)).getD n 0)), .int .i64 (bnd (matOf l1) q), .bool false, .bool false, undef], []⟩) (by kernel_rfl) ?_
        refine wp_cond_false (by kernel_rfl) ?_
        refine wp_skip ?_
        refine blk_normal ?_
        refine hK62 _ _ ?_
        try clear hK62 K62
        refine wl_region ?_
        refine st_val (.int .i64 (n : Int)) (by kernel_rfl) (by kernel_rfl) ?_
        refine st_val (.int .i64 ((n : Int) + 1)) (by kernel_rfl) (i64_of (by omega) (by kernel_rfl)) ?_
        refine st_val (.int .i64 ((n : Int) + 1)) (by kernel_rfl) (by kernel_rfl) ?_
        refine wl_nil ?_
        refine th_normal ?_
        exact ⟨_, by omega, (n + 1), (fun zz => Array.getD #[v0, v1, .int .i64 q, undef, undef, undef, (u57 6), .pointer (some ⟨g7, 0, none⟩), .pointer (some ⟨g10, 0, none⟩), .pointer (some ⟨g24, 0, none⟩), .int .i64 0, .pointer (some ⟨g34, 0, none⟩), .int .i64 0, .pointer (some ⟨g42, 0, none⟩), .int .i64 0, .pointer (some ⟨(G50 5), 0, none⟩), .int .i64 (bnd (matOf l1) q), .int .i64 ((n : Int) + 1), v0, .agg (iv (blockOf l0)), v1, .agg (bv (matOf l1)), .agg (bv (matOf l1)), .int .i64 q, .bool true, .bool false, undef, .tuple #[.agg (iv (fwd (blockOf l0))), .int .i64 0], .agg (iv (blockOf l0)), .tuple #[.agg (iv (fwd (blockOf l0))), .int .i64 0], .agg (iv (fwd (blockOf l0))), .int .i64 0, .int .i64 0, .bool false, undef, .tuple #[.agg (iv (qL (fwd (blockOf l0)) (matOf l1) q)), .int .i64 0], .agg (iv (fwd (blockOf l0))), .agg (bv (matOf l1)), .int .i64 q, .tuple #[.agg (iv (qL (fwd (blockOf l0)) (matOf l1) q)), .int .i64 0], .agg (iv (qL (fwd (blockOf l0)) (matOf l1) q)), .int .i64 0, .tuple #[.agg (iv (dL (qL (fwd (blockOf l0)) (matOf l1) q) (matOf l1) q)), .int .i64 0], .agg (iv (qL (fwd (blockOf l0)) (matOf l1) q)), .agg (bv (matOf l1)), .int .i64 q, .tuple #[.agg (iv (dL (qL (fwd (blockOf l0)) (matOf l1) q) (matOf l1) q)), .int .i64 0], .agg (iv (dL (qL (fwd (blockOf l0)) (matOf l1) q) (matOf l1) q)), .int .i64 0, .int .i64 0, .bool false, .bool false, .int .i64 0, .bool false, .bool false, .agg (iv (dL (qL (fwd (blockOf l0)) (matOf l1) q) (matOf l1) q)), .agg (iv (inv (dL (qL (fwd (blockOf l0)) (matOf l1) q) (matOf l1) q))), .agg (bv (matOf l1)), .int .i64 q, .int .i64 (bnd (matOf l1) q), .int .i64 (n : Int), .bool true, .int .i64 (n : Int), .int .i64 ((n : Int) + 1), .int .i64 (n : Int), .pointer (some ⟨(G50 5), n, none⟩), .int .i64 ((inv (dL (qL (fwd (blockOf l0)) (matOf l1) q) (matOf l1) q)).getD n 0), .int .i64 (n : Int), .pointer (some ⟨g7, n, none⟩), .int .i64 ((blockOf l0).getD n 0), .int .i64 (((inv (dL (qL (fwd (blockOf l0)) (matOf l1) q) (matOf l1) q)).getD n 0) - ((blockOf l0).getD n 0)), .int .i64 (bnd (matOf l1) q), .bool false, .bool false, .int .i64 (n : Int), .pointer (some ⟨g7, n, none⟩), .int .i64 ((blockOf l0).getD n 0), .int .i64 (n : Int), .pointer (some ⟨(G50 5), n, none⟩), .int .i64 ((inv (dL (qL (fwd (blockOf l0)) (matOf l1) q) (matOf l1) q)).getD n 0), .int .i64 (((blockOf l0).getD n 0) - ((inv (dL (qL (fwd (blockOf l0)) (matOf l1) q) (matOf l1) q)).getD n 0)), .int .i64 (bnd (matOf l1) q), .bool false, .bool false, undef] zz undef), ⟨by omega, M65⟩, rfl, (by kernel_rfl)⟩
      ·
        refine st_val (.bool false) (by kernel_rfl) (bool_of (dec_f c61) (by kernel_rfl)) ?_
        refine wl_nil ?_
        refine hK61 _ _ ?_
        try clear hK61 K61
        refine wp_cond_false (by kernel_rfl) ?_
        refine wp_exit ?_
        refine th_exit ?_
        refine th_exit ?_
        refine blk_exit ?_
        refine hK55 _ _ ?_
        try clear hK55 K55
        refine wp_seq_k (fun K66 hK66 => ?_)
        refine wl_region ?_
        refine st_callB M59 (.bool true) (by kernel_rfl) (args := #[]) (run_value_call 14 #[] _ rfl Try.func14 (by kernel_rfl) (by kernel_rfl) _ (by kernel_rfl)) (awake_walk W58) ?_
        intro W67 M68
        refine st_val (.bool true) (by kernel_rfl) (by kernel_rfl) ?_
        refine wl_nil ?_
        refine hK66 _ _ ?_
        try clear hK66 K66
        refine wp_ret ?_
        exact done1 6 (.bool true) (by kernel_rfl) (by kernel_rfl) (by kernel_rfl) ⟨rfl, M68.toBelow⟩
    ·
      refine st_callB M20 (.tuple #[.agg (iv zeros), .int .i64 2]) (by kernel_rfl) (args := #[.agg (iv (blockOf l0))]) (run_value_call 28 #[(Operand.tmp 28)] _ rfl Try.func28 (by kernel_rfl) (by kernel_rfl) _ (by kernel_rfl)) (forward_bad W19 (blockOf l0) (blockOf_length l0) hL) ?_
      intro W69 M70
      refine st_val (.tuple #[.agg (iv zeros), .int .i64 2]) (by kernel_rfl) (by kernel_rfl) ?_
      refine st_val (.agg (iv zeros)) (by kernel_rfl) (by kernel_rfl) ?_
      refine st_val (.int .i64 2) (by kernel_rfl) (by kernel_rfl) ?_
      refine st_alloc M70 (.cells (iv zeros) 30 (0, 0)) (by kernel_rfl) (by kernel_rfl) ?_
      intro g71 W72 M73
      refine st_storeRow M73 0 rfl 30 (.tmp 9) (.tmp 30) (by rfl) (iv zeros) (by kernel_rfl) (by kernel_rfl) (info64 _ zeros_length) (iv_same zeros_length zeros_length) (iv_one _) (by kernel_rfl) [(g71, .cells (iv zeros) 30 (0, 0)), (g10, .cells (bv (matOf l1)) 23 (0, 0)), (g7, .cells (iv (blockOf l0)) 30 (0, 0))] rfl ?_
      intro W74 M75
      refine st_val (.int .i64 2) (by kernel_rfl) (by kernel_rfl) ?_
      refine wl_nil ?_
      refine hK21 _ _ ?_
      try clear hK21 K21
      refine wp_frame (a' := ⟨#[v0, v1, .int .i64 q, undef, undef, undef, .bool false, .pointer (some ⟨g7, 0, none⟩), .pointer (some ⟨g10, 0, none⟩), .pointer (some ⟨g71, 0, none⟩), .int .i64 2, undef, undef, undef, undef, undef, undef, undef, v0, .agg (iv (blockOf l0)), v1, .agg (bv (matOf l1)), .agg (bv (matOf l1)), .int .i64 q, .bool true, .bool false, undef, .tuple #[.agg (iv zeros), .int .i64 2], .agg (iv (blockOf l0)), .tuple #[.agg (iv zeros), .int .i64 2], .agg (iv zeros), .int .i64 2, undef, undef, undef, undef, undef, undef, undef, undef, undef, undef, undef, undef, undef, undef, undef, undef, undef, undef, undef, undef, undef, undef, undef, undef, undef, undef, undef, undef, undef, undef, undef, undef, undef, undef, undef, undef, undef, undef, undef, undef, undef, undef, undef, undef, undef, undef, undef, undef, undef, undef, undef, undef, undef], []⟩) (by kernel_rfl) ?_
      refine wp_seq_k (fun K76 hK76 => ?_)
      refine wp_seq_k (fun K77 hK77 => ?_)
      refine wl_region ?_
      refine st_val (.int .i64 2) (by kernel_rfl) (by kernel_rfl) ?_
      refine st_val (.bool true) (by kernel_rfl) (by kernel_rfl) ?_
      refine wl_nil ?_
      refine hK77 _ _ ?_
      try clear hK77 K77
      refine wp_cond_true (by kernel_rfl) ?_
      refine wp_seq_k (fun K78 hK78 => ?_)
      refine wl_region ?_
      refine st_callB M75 (.bool true) (by kernel_rfl) (args := #[]) (run_value_call 14 #[] _ rfl Try.func14 (by kernel_rfl) (by kernel_rfl) _ (by kernel_rfl)) (awake_walk W74) ?_
      intro W79 M80
      refine st_val (.bool true) (by kernel_rfl) (by kernel_rfl) ?_
      refine wl_nil ?_
      refine hK78 _ _ ?_
      try clear hK78 K78
      refine wp_ret ?_
      refine th_ret ?_
      exact done1 6 (.bool true) (by kernel_rfl) (by kernel_rfl) (by kernel_rfl) ⟨rfl, M80.toBelow⟩
  ·
    refine st_callB M16 (.bool false) (by kernel_rfl) (args := #[.agg (bv (matOf l1)), .int .i64 q]) (run_value_call 23 #[(Operand.tmp 22), (Operand.tmp 23)] _ rfl Try.func23 (by kernel_rfl) (by kernel_rfl) _ (by kernel_rfl)) (refMay_f W15 (matOf l1) (matOf_length _) (matOf_BL hb1) q hF24) ?_
    intro W81 M82
    refine st_val (.bool true) (by kernel_rfl) (by kernel_rfl) ?_
    refine wl_nil ?_
    refine hK18 _ _ ?_
    try clear hK18 K18
    refine wp_cond_true (by kernel_rfl) ?_
    refine wp_seq_k (fun K83 hK83 => ?_)
    refine wl_region ?_
    refine st_callB M82 (.bool true) (by kernel_rfl) (args := #[]) (run_value_call 14 #[] _ rfl Try.func14 (by kernel_rfl) (by kernel_rfl) _ (by kernel_rfl)) (awake_walk W81) ?_
    intro W84 M85
    refine st_val (.bool true) (by kernel_rfl) (by kernel_rfl) ?_
    refine wl_nil ?_
    refine hK83 _ _ ?_
    try clear hK83 K83
    refine wp_frame (a' := ⟨#[v0, v1, .int .i64 q, undef, undef, undef, .bool true, .pointer (some ⟨g7, 0, none⟩), .pointer (some ⟨g10, 0, none⟩), undef, undef, undef, undef, undef, undef, undef, undef, undef, v0, .agg (iv (blockOf l0)), v1, .agg (bv (matOf l1)), .agg (bv (matOf l1)), .int .i64 q, .bool false, .bool true, .bool true, undef, undef, undef, undef, undef, undef, undef, undef, undef, undef, undef, undef, undef, undef, undef, undef, undef, undef, undef, undef, undef, undef, undef, undef, undef, undef, undef, undef, undef, undef, undef, undef, undef, undef, undef, undef, undef, undef, undef, undef, undef, undef, undef, undef, undef, undef, undef, undef, undef, undef, undef, undef, undef, undef, undef, undef, undef, undef], []⟩) (by kernel_rfl) ?_
    refine wp_ret ?_
    refine th_ret ?_
    exact done1 6 (.bool true) (by kernel_rfl) (by kernel_rfl) (by kernel_rfl) ⟨rfl, M85.toBelow⟩
end Go.Proofs.Ytjclncmpfdfkfaa
