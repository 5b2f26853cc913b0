/- The walk of the law QuantNearest. -/
import Derived.Test.YtjclncmpfdfkfaaQp
import Derived.Test.YtjclncmpfdfkfaaQa
import Derived.Test.YtjclncmpfdfkfaaEq
import Derived.Test.YtjclncmpfdfkfaaArgI
namespace Go.Proofs.Ytjclncmpfdfkfaa
open Go.RowKit
set_option maxHeartbeats 4000000 in
set_option maxRecDepth 100000 in
theorem QuantNearest_walk (w : World) (v0 : Value) (l0 : List Int) (hr0 : Rd w v0 (l0.map (Value.int .i64))) (hb0 : ∀ x ∈ l0, -9223372036854775808 ≤ x ∧ x ≤ 9223372036854775807) (v1 : Value) (l1 : List Int) (hr1 : Rd w v1 (l1.map (Value.int .u8))) (hb1 : ∀ x ∈ l1, 0 ≤ x ∧ x < 256) (q : Int) : Calls Try.prog 8 #[v0, v1, .int .i64 q] w fun e w' => e = .returned (.bool true) ∧ Below w.heap.size w w' := by
  refine calls_of_wp Try.func8 rfl ?_
  refine wp_frame (a' := ⟨#[v0, v1, .int .i64 q, undef, undef, undef, undef, undef, undef, undef, undef, undef, undef, undef, undef, undef, undef, undef, undef, undef, undef, undef, undef, undef, undef, undef, undef, undef, undef, undef, undef, undef, undef, undef, undef, undef, undef, undef, undef, undef, undef, undef, undef, undef, undef, undef, undef, undef, undef, undef, undef, undef, undef, undef, undef, undef, undef, undef, undef, undef, undef, undef, undef, undef, undef, undef, undef, undef, undef, undef, undef, undef, undef, undef, undef, undef], []⟩) (by kernel_rfl) ?_
  have M0 : Mem NoS w w [] := Mem.start _ _
  refine wp_seq_k (fun K1 hK1 => ?_)
  refine wl_region ?_
  refine st_val (.bool false) (by kernel_rfl) (by kernel_rfl) ?_
  refine wl_nil ?_
  refine hK1 _ _ ?_
  try clear hK1 K1
  refine wp_seq_k (fun K2 hK2 => ?_)
  refine wl_region ?_
  refine st_val (v0) (by kernel_rfl) (by kernel_rfl) ?_
  refine st_callB M0 (.agg (iv (blockOf l0))) (by kernel_rfl) (args := #[v0]) (run_value_call 20 #[(Operand.tmp 15)] _ rfl Try.func20 (by kernel_rfl) (by kernel_rfl) _ (by kernel_rfl)) (block_walk w v0 l0 (M0.rd hr0 (fun _ _ h => h))) ?_
  intro W3 M4
  refine st_val (v1) (by kernel_rfl) (by kernel_rfl) ?_
  refine st_callB M4 (.agg (bv (matOf l1))) (by kernel_rfl) (args := #[v1]) (run_value_call 13 #[(Operand.tmp 17)] _ rfl Try.func13 (by kernel_rfl) (by kernel_rfl) _ (by kernel_rfl)) (matrix_walk_ W3 v1 l1 (M4.rd hr1 (fun _ _ h => h))) ?_
  intro W5 M6
  refine st_alloc M6 (.cells (iv zeros) 30 (0, 0)) (by kernel_rfl) (by kernel_rfl) ?_
  intro g7 W8 M9
  refine st_alloc M9 (.cells (bv zeros) 23 (0, 0)) (by kernel_rfl) (by kernel_rfl) ?_
  intro g10 W11 M12
  refine st_storeRow M12 1 rfl 30 (.tmp 7) (.tmp 16) (by rfl) (iv (blockOf l0)) (by kernel_rfl) (by kernel_rfl) (info64 _ (blockOf_length _)) (iv_same (blockOf_length _) zeros_length) (iv_one _) (by kernel_rfl) [(g10, .cells (bv zeros) 23 (0, 0)), (g7, .cells (iv (blockOf l0)) 30 (0, 0))] rfl ?_
  intro W13 M14
  refine st_storeRow M14 0 rfl 23 (.tmp 8) (.tmp 18) (by rfl) (bv (matOf l1)) (by kernel_rfl) (by kernel_rfl) (infoB64 _ (matOf_length _)) (bv_same (matOf_length _) zeros_length) (bv_one _) (by kernel_rfl) [(g10, .cells (bv (matOf l1)) 23 (0, 0)), (g7, .cells (iv (blockOf l0)) 30 (0, 0))] rfl ?_
  intro W15 M16
  refine wl_nil ?_
  refine hK2 _ _ ?_
  try clear hK2 K2
  refine wp_seq_k (fun K17 hK17 => ?_)
  refine wl_region ?_
  refine st_val (.agg (iv (blockOf l0))) (by kernel_rfl) (run_load_row 30 (.tmp 7) rfl g7 (by kernel_rfl) 30 (iv (blockOf l0)) (0, 0) _ (M16.get 1 rfl) Try.underlying30 rfl (info64 _ (blockOf_length _))) ?_
  refine st_val (.agg (bv (matOf l1))) (by kernel_rfl) (run_load_row 23 (.tmp 8) rfl g10 (by kernel_rfl) 23 (bv (matOf l1)) (0, 0) _ (M16.get 0 rfl) Try.underlying23 rfl (infoB64 _ (matOf_length _))) ?_
  refine st_val (.int .i64 q) (by kernel_rfl) (by kernel_rfl) ?_
  refine st_callB M16 (.tuple #[.agg (iv (qL (blockOf l0) (matOf l1) q)), .int .i64 (qE (blockOf l0) (matOf l1) q)]) (by kernel_rfl) (args := #[.agg (iv (blockOf l0)), .agg (bv (matOf l1)), .int .i64 q]) (run_value_call 19 #[(Operand.tmp 20), (Operand.tmp 21), (Operand.tmp 22)] _ rfl Try.func19 (by kernel_rfl) (by kernel_rfl) _ (by kernel_rfl)) (quantise_walk W15 (blockOf l0) (matOf l1) q (blockOf_length _) (matOf_length _) (matOf_BL hb1) (blockOf_in hb0)) ?_
  intro W18 M19
  refine st_val (.tuple #[.agg (iv (qL (blockOf l0) (matOf l1) q)), .int .i64 (qE (blockOf l0) (matOf l1) q)]) (by kernel_rfl) (by kernel_rfl) ?_
  refine st_val (.agg (iv (qL (blockOf l0) (matOf l1) q))) (by kernel_rfl) (by kernel_rfl) ?_
  refine st_val (.int .i64 (qE (blockOf l0) (matOf l1) q)) (by kernel_rfl) (by kernel_rfl) ?_
  refine st_alloc M19 (.cells (iv zeros) 30 (0, 0)) (by kernel_rfl) (by kernel_rfl) ?_
  intro g20 W21 M22
  refine st_storeRow M22 0 rfl 30 (.tmp 9) (.tmp 24) (by rfl) (iv (qL (blockOf l0) (matOf l1) q)) (by kernel_rfl) (by kernel_rfl) (info64 _ (qL_length _ _ _)) (iv_same (qL_length _ _ _) zeros_length) (iv_one _) (by kernel_rfl) [(g20, .cells (iv (qL (blockOf l0) (matOf l1) q)) 30 (0, 0)), (g10, .cells (bv (matOf l1)) 23 (0, 0)), (g7, .cells (iv (blockOf l0)) 30 (0, 0))] rfl ?_
  intro W23 M24
  refine st_val (.int .i64 (qE (blockOf l0) (matOf l1) q)) (by kernel_rfl) (by kernel_rfl) ?_
  refine wl_nil ?_
  refine hK17 _ _ ?_
  try clear hK17 K17
  refine wp_frame (a' := ⟨#[v0, v1, .int .i64 q, undef, undef, undef, .bool false, .pointer (some ⟨g7, 0, none⟩), .pointer (some ⟨g10, 0, none⟩), .pointer (some ⟨g20, 0, none⟩), .int .i64 (qE (blockOf l0) (matOf l1) q), undef, undef, undef, undef, v0, .agg (iv (blockOf l0)), v1, .agg (bv (matOf l1)), .tuple #[.agg (iv (qL (blockOf l0) (matOf l1) q)), .int .i64 (qE (blockOf l0) (matOf l1) q)], .agg (iv (blockOf l0)), .agg (bv (matOf l1)), .int .i64 q, .tuple #[.agg (iv (qL (blockOf l0) (matOf l1) q)), .int .i64 (qE (blockOf l0) (matOf l1) q)], .agg (iv (qL (blockOf l0) (matOf l1) q)), .int .i64 (qE (blockOf l0) (matOf l1) q), undef, undef, undef, undef, undef, undef, undef, undef, undef, undef, undef, undef, undef, undef, undef, undef, undef, undef, undef, undef, undef, undef, undef, undef, undef, undef, undef, undef, undef, undef, undef, undef, undef, undef, undef, undef, undef, undef, undef, undef, undef, undef, undef, undef, undef, undef, undef, undef, undef, undef], []⟩) (by kernel_rfl) ?_
  refine wp_seq_k (fun K25 hK25 => ?_)
  refine wp_seq_k (fun K26 hK26 => ?_)
  refine wl_region ?_
  refine st_val (.int .i64 (qE (blockOf l0) (matOf l1) q)) (by kernel_rfl) (by kernel_rfl) ?_
  rcases Decidable.em ((qE (blockOf l0) (matOf l1) q : Int) = 0) with hE | hE
  ·
    refine st_val (.bool false) (by kernel_rfl) (bool_of (neq_f hE) (by kernel_rfl)) ?_
    refine wl_nil ?_
    refine hK26 _ _ ?_
    try clear hK26 K26
    refine wp_cond_false (by kernel_rfl) ?_
    refine wp_skip ?_
    refine hK25 _ _ ?_
    try clear hK25 K25
    refine wp_seq_k (fun K27 hK27 => ?_)
    refine wl_region ?_
    refine st_val (.agg (iv (qL (blockOf l0) (matOf l1) q))) (by kernel_rfl) (run_load_row 30 (.tmp 9) rfl g20 (by kernel_rfl) 30 (iv (qL (blockOf l0) (matOf l1) q)) (0, 0) _ (M24.get 0 rfl) Try.underlying30 rfl (info64 _ (qL_length _ _ _))) ?_
    refine st_val (.agg (bv (matOf l1))) (by kernel_rfl) (run_load_row 23 (.tmp 8) rfl g10 (by kernel_rfl) 23 (bv (matOf l1)) (0, 0) _ (M24.get 1 rfl) Try.underlying23 rfl (infoB64 _ (matOf_length _))) ?_
    refine st_val (.int .i64 q) (by kernel_rfl) (by kernel_rfl) ?_
    refine st_callB M24 (.tuple #[.agg (iv (dL (qL (blockOf l0) (matOf l1) q) (matOf l1) q)), .int .i64 (dE (qL (blockOf l0) (matOf l1) q) (matOf l1) q)]) (by kernel_rfl) (args := #[.agg (iv (qL (blockOf l0) (matOf l1) q)), .agg (bv (matOf l1)), .int .i64 q]) (run_value_call 24 #[(Operand.tmp 30), (Operand.tmp 31), (Operand.tmp 32)] _ rfl Try.func24 (by kernel_rfl) (by kernel_rfl) _ (by kernel_rfl)) (dequantise_walk W23 (qL (blockOf l0) (matOf l1) q) (matOf l1) q (qL_length _ _ _) (matOf_length _) (matOf_BL hb1)) ?_
    intro W28 M29
    refine st_val (.tuple #[.agg (iv (dL (qL (blockOf l0) (matOf l1) q) (matOf l1) q)), .int .i64 (dE (qL (blockOf l0) (matOf l1) q) (matOf l1) q)]) (by kernel_rfl) (by kernel_rfl) ?_
    refine st_val (.agg (iv (dL (qL (blockOf l0) (matOf l1) q) (matOf l1) q))) (by kernel_rfl) (by kernel_rfl) ?_
    refine st_val (.int .i64 (dE (qL (blockOf l0) (matOf l1) q) (matOf l1) q)) (by kernel_rfl) (by kernel_rfl) ?_
    refine st_alloc M29 (.cells (iv zeros) 30 (0, 0)) (by kernel_rfl) (by kernel_rfl) ?_
    intro g30 W31 M32
    refine st_storeRow M32 0 rfl 30 (.tmp 11) (.tmp 34) (by rfl) (iv (dL (qL (blockOf l0) (matOf l1) q) (matOf l1) q)) (by kernel_rfl) (by kernel_rfl) (info64 _ (dL_length _ _ _)) (iv_same (dL_length _ _ _) zeros_length) (iv_one _) (by kernel_rfl) [(g30, .cells (iv (dL (qL (blockOf l0) (matOf l1) q) (matOf l1) q)) 30 (0, 0)), (g20, .cells (iv (qL (blockOf l0) (matOf l1) q)) 30 (0, 0)), (g10, .cells (bv (matOf l1)) 23 (0, 0)), (g7, .cells (iv (blockOf l0)) 30 (0, 0))] rfl ?_
    intro W33 M34
    refine st_val (.int .i64 (dE (qL (blockOf l0) (matOf l1) q) (matOf l1) q)) (by kernel_rfl) (by kernel_rfl) ?_
    refine wl_nil ?_
    refine hK27 _ _ ?_
    try clear hK27 K27
    refine wp_seq_k (fun K35 hK35 => ?_)
    refine wp_seq_k (fun K36 hK36 => ?_)
    refine wl_region ?_
    refine st_val (.int .i64 (dE (qL (blockOf l0) (matOf l1) q) (matOf l1) q)) (by kernel_rfl) (by kernel_rfl) ?_
    refine st_val (.bool false) (by kernel_rfl) (bool_of (neq_f (show (dE (qL (blockOf l0) (matOf l1) q) (matOf l1) q : Int) = 0 from (deq_of hE).1)) (by kernel_rfl)) ?_
    refine wl_nil ?_
    refine hK36 _ _ ?_
    try clear hK36 K36
    refine wp_frame (a' := ⟨#[v0, v1, .int .i64 q, undef, undef, undef, .bool false, .pointer (some ⟨g7, 0, none⟩), .pointer (some ⟨g10, 0, none⟩), .pointer (some ⟨g20, 0, none⟩), .int .i64 (qE (blockOf l0) (matOf l1) q), .pointer (some ⟨g30, 0, none⟩), .int .i64 (dE (qL (blockOf l0) (matOf l1) q) (matOf l1) q), undef, undef, v0, .agg (iv (blockOf l0)), v1, .agg (bv (matOf l1)), .tuple #[.agg (iv (qL (blockOf l0) (matOf l1) q)), .int .i64 (qE (blockOf l0) (matOf l1) q)], .agg (iv (blockOf l0)), .agg (bv (matOf l1)), .int .i64 q, .tuple #[.agg (iv (qL (blockOf l0) (matOf l1) q)), .int .i64 (qE (blockOf l0) (matOf l1) q)], .agg (iv (qL (blockOf l0) (matOf l1) q)), .int .i64 (qE (blockOf l0) (matOf l1) q), .int .i64 (qE (blockOf l0) (matOf l1) q), .bool false, undef, .tuple #[.agg (iv (dL (qL (blockOf l0) (matOf l1) q) (matOf l1) q)), .int .i64 (dE (qL (blockOf l0) (matOf l1) q) (matOf l1) q)], .agg (iv (qL (blockOf l0) (matOf l1) q)), .agg (bv (matOf l1)), .int .i64 q, .tuple #[.agg (iv (dL (qL (blockOf l0) (matOf l1) q) (matOf l1) q)), .int .i64 (dE (qL (blockOf l0) (matOf l1) q) (matOf l1) q)], .agg (iv (dL (qL (blockOf l0) (matOf l1) q) (matOf l1) q)), .int .i64 (dE (qL (blockOf l0) (matOf l1) q) (matOf l1) q), .int .i64 (dE (qL (blockOf l0) (matOf l1) q) (matOf l1) q), .bool false, undef, undef, undef, undef, undef, undef, undef, undef, undef, undef, undef, undef, undef, undef, undef, undef, undef, undef, undef, undef, undef, undef, undef, undef, undef, undef, undef, undef, undef, undef, undef, undef, undef, undef, undef, undef, undef, undef], []⟩) (by kernel_rfl) ?_
    refine wp_cond_false (by kernel_rfl) ?_
    refine wp_skip ?_
    refine hK35 _ _ ?_
    try clear hK35 K35
    refine wp_seq_k (fun K37 hK37 => ?_)
    refine wp_seq_k (fun K38 hK38 => ?_)
    refine wl_region ?_
    refine st_val (.int .i64 0) (by kernel_rfl) (by kernel_rfl) ?_
    refine wl_nil ?_
    refine hK38 _ _ ?_
    try clear hK38 K38
    refine wp_block ?_
    refine wp_loop_ghost (fun gn a' w' => ∃ (n : Nat) (u39 : Nat → Value), ((n ≤ 64) ∧ Mem NoS w w' [(g30, .cells (iv (dL (qL (blockOf l0) (matOf l1) q) (matOf l1) q)) 30 (0, 0)), (g20, .cells (iv (qL (blockOf l0) (matOf l1) q)) 30 (0, 0)), (g10, .cells (bv (matOf l1)) 23 (0, 0)), (g7, .cells (iv (blockOf l0)) 30 (0, 0))]) ∧ gn = 64 - n ∧ a' = ⟨#[v0, v1, .int .i64 q, undef, undef, undef, (u39 6), .pointer (some ⟨g7, 0, none⟩), .pointer (some ⟨g10, 0, none⟩), .pointer (some ⟨g20, 0, none⟩), .int .i64 (qE (blockOf l0) (matOf l1) q), .pointer (some ⟨g30, 0, none⟩), .int .i64 (dE (qL (blockOf l0) (matOf l1) q) (matOf l1) q), .int .i64 (n : Int), (u39 14), v0, .agg (iv (blockOf l0)), v1, .agg (bv (matOf l1)), .tuple #[.agg (iv (qL (blockOf l0) (matOf l1) q)), .int .i64 (qE (blockOf l0) (matOf l1) q)], .agg (iv (blockOf l0)), .agg (bv (matOf l1)), .int .i64 q, .tuple #[.agg (iv (qL (blockOf l0) (matOf l1) q)), .int .i64 (qE (blockOf l0) (matOf l1) q)], .agg (iv (qL (blockOf l0) (matOf l1) q)), .int .i64 (qE (blockOf l0) (matOf l1) q), .int .i64 (qE (blockOf l0) (matOf l1) q), .bool false, undef, .tuple #[.agg (iv (dL (qL (blockOf l0) (matOf l1) q) (matOf l1) q)), .int .i64 (dE (qL (blockOf l0) (matOf l1) q) (matOf l1) q)], .agg (iv (qL (blockOf l0) (matOf l1) q)), .agg (bv (matOf l1)), .int .i64 q, .tuple #[.agg (iv (dL (qL (blockOf l0) (matOf l1) q) (matOf l1) q)), .int .i64 (dE (qL (blockOf l0) (matOf l1) q) (matOf l1) q)], .agg (iv (dL (qL (blockOf l0) (matOf l1) q) (matOf l1) q)), .int .i64 (dE (qL (blockOf l0) (matOf l1) q) (matOf l1) q), .int .i64 (dE (qL (blockOf l0) (matOf l1) q) (matOf l1) q), .bool false, (u39 38), (u39 39), (u39 40), (u39 41), (u39 42), (u39 43), (u39 44), (u39 45), (u39 46), (u39 47), (u39 48), (u39 49), (u39 50), (u39 51), (u39 52), (u39 53), (u39 54), (u39 55), (u39 56), (u39 57), (u39 58), (u39 59), (u39 60), (u39 61), (u39 62), (u39 63), (u39 64), (u39 65), (u39 66), (u39 67), (u39 68), (u39 69), (u39 70), (u39 71), (u39 72), (u39 73), (u39 74), undef], []⟩) _ ⟨0, (fun zz => Array.getD #[v0, v1, .int .i64 q, undef, undef, undef, .bool false, .pointer (some ⟨g7, 0, none⟩), .pointer (some ⟨g10, 0, none⟩), .pointer (some ⟨g20, 0, none⟩), .int .i64 (qE (blockOf l0) (matOf l1) q), .pointer (some ⟨g30, 0, none⟩), .int .i64 (dE (qL (blockOf l0) (matOf l1) q) (matOf l1) q), .int .i64 0, undef, v0, .agg (iv (blockOf l0)), v1, .agg (bv (matOf l1)), .tuple #[.agg (iv (qL (blockOf l0) (matOf l1) q)), .int .i64 (qE (blockOf l0) (matOf l1) q)], .agg (iv (blockOf l0)), .agg (bv (matOf l1)), .int .i64 q, .tuple #[.agg (iv (qL (blockOf l0) (matOf l1) q)), .int .i64 (qE (blockOf l0) (matOf l1) q)], .agg (iv (qL (blockOf l0) (matOf l1) q)), .int .i64 (qE (blockOf l0) (matOf l1) q), .int .i64 (qE (blockOf l0) (matOf l1) q), .bool false, undef, .tuple #[.agg (iv (dL (qL (blockOf l0) (matOf l1) q) (matOf l1) q)), .int .i64 (dE (qL (blockOf l0) (matOf l1) q) (matOf l1) q)], .agg (iv (qL (blockOf l0) (matOf l1) q)), .agg (bv (matOf l1)), .int .i64 q, .tuple #[.agg (iv (dL (qL (blockOf l0) (matOf l1) q) (matOf l1) q)), .int .i64 (dE (qL (blockOf l0) (matOf l1) q) (matOf l1) q)], .agg (iv (dL (qL (blockOf l0) (matOf l1) q) (matOf l1) q)), .int .i64 (dE (qL (blockOf l0) (matOf l1) q) (matOf l1) q), .int .i64 (dE (qL (blockOf l0) (matOf l1) q) (matOf l1) q), .bool false, undef, undef, undef, undef, undef, undef, undef, undef, undef, undef, undef, undef, undef, undef, undef, undef, undef, undef, undef, undef, undef, undef, undef, undef, undef, undef, undef, undef, undef, undef, undef, undef, undef, undef, undef, undef, undef, undef] zz undef), ⟨by omega, M34⟩, rfl, (by kernel_rfl)⟩ ?_
    rintro gn _ W40 ⟨n, u39, ⟨rn, M41⟩, rfl, rfl⟩
    refine wp_seq_k (fun K42 hK42 => ?_)
    refine wp_seq_k (fun K43 hK43 => ?_)
    refine wl_region ?_
    refine st_val (.int .i64 (n : Int)) (by kernel_rfl) (by kernel_rfl) ?_
    rcases Decidable.em (((n : Int) : Int) < 64) with c39 | c39
    ·
      have h1 := nearest_at (y := blockOf l0) (matOf_BL hb1) hE n (by omega)
      have h2 := stp_le (qE_zero hE).1 (matOf_BL hb1) n (by omega)
      have h3 := dL_in (matOf_BL hb1) (deq_of hE).1 n (by omega)
      have h4 := (qE_zero hE).1.2
      refine st_val (.bool true) (by kernel_rfl) (bool_of (dec_t c39) (by kernel_rfl)) ?_
      refine wl_nil ?_
      refine hK43 _ _ ?_
      try clear hK43 K43
      refine wp_cond_true (by kernel_rfl) ?_
      refine wp_skip ?_
      refine hK42 _ _ ?_
      try clear hK42 K42
      refine wp_seq_k (fun K44 hK44 => ?_)
      refine wp_block ?_
      refine wp_seq_k (fun K45 hK45 => ?_)
      refine wl_region ?_
      refine st_val (.int .i64 (n : Int)) (by kernel_rfl) (by kernel_rfl) ?_
      refine st_val (.pointer (some ⟨g10, n, none⟩)) (by kernel_rfl) (run_indexAddr 23 (.tmp 8) (.tmp 42) rfl ⟨g10, 0, none⟩ .i64 n (by kernel_rfl) (by kernel_rfl) Try.underlying23 1 (by kernel_rfl) (by omega) ⟨g10, n, none⟩ (addr_at0 _ _)) ?_
      refine st_val (.int .u8 ((matOf l1).getD n 0)) (by kernel_rfl) (run_load_cell 5 (.tmp 43) rfl ⟨g10, n, none⟩ (by kernel_rfl) _ (M41.cell 2 rfl n _ (bv_get (matOf l1) n (by rw [(matOf_length _)]; omega))) (by kernel_rfl)) ?_
      refine st_val (.int .i64 ((matOf l1).getD n 0)) (by kernel_rfl) (i64_of (by omega) (by kernel_rfl)) ?_
      refine st_val (.int .i64 q) (by kernel_rfl) (by kernel_rfl) ?_
      refine st_val (.int .i64 (n : Int)) (by kernel_rfl) (by kernel_rfl) ?_
      refine st_callB M41 (.int .i64 (stp ((matOf l1).getD n 0) q n)) (by kernel_rfl) (args := #[.int .i64 ((matOf l1).getD n 0), .int .i64 q, .int .i64 (n : Int)]) (run_value_call 15 #[(Operand.tmp 45), (Operand.tmp 46), (Operand.tmp 47)] _ rfl Try.func15 (by kernel_rfl) (by kernel_rfl) _ (by kernel_rfl)) (step_in W40 ((matOf l1).getD n 0) q n (by omega) (by omega) (by omega) (by omega) (by omega)) ?_
      intro W46 M47
      refine st_val (.int .i64 (stp ((matOf l1).getD n 0) q n)) (by kernel_rfl) (by kernel_rfl) ?_
      refine wl_nil ?_
      refine hK45 _ _ ?_
      try clear hK45 K45
      refine wp_seq_k (fun K48 hK48 => ?_)
      refine wl_seq 26 (fun w' => Mem NoS w w' [(g30, .cells (iv (dL (qL (blockOf l0) (matOf l1) q) (matOf l1) q)) 30 (0, 0)), (g20, .cells (iv (qL (blockOf l0) (matOf l1) q)) 30 (0, 0)), (g10, .cells (bv (matOf l1)) 23 (0, 0)), (g7, .cells (iv (blockOf l0)) 30 (0, 0))]) (by decide) (by kernel_rfl) (by kernel_rfl) M47.drew ?_
      refine seq_run (v := .int .i64 (stp ((matOf l1).getD n 0) q n)) (by decide) (by kernel_rfl) (fun w' M' => (by kernel_rfl)) ?_
      refine seq_run (v := .bool false) (by decide) (by kernel_rfl) (fun w' M' => (bool_of (dec_f (show ¬ ((stp ((matOf l1).getD n 0) q n : Int) < 1) from by omega)) (by kernel_rfl))) ?_
      refine seq_run (v := .bool false) (by decide) (by kernel_rfl) (fun w' M' => (by kernel_rfl)) ?_
      refine seq_run (v := .int .i64 (n : Int)) (by decide) (by kernel_rfl) (fun w' M' => (by kernel_rfl)) ?_
      refine seq_run (v := .pointer (some ⟨g30, n, none⟩)) (by decide) (by kernel_rfl) (fun w' M' => (run_indexAddr 30 (.tmp 11) (.tmp 52) rfl ⟨g30, 0, none⟩ .i64 n (by kernel_rfl) (by kernel_rfl) Try.underlying30 1 (by kernel_rfl) (by omega) ⟨g30, n, none⟩ (addr_at0 _ _))) ?_
      refine seq_run (v := .int .i64 ((dL (qL (blockOf l0) (matOf l1) q) (matOf l1) q).getD n 0)) (by decide) (by kernel_rfl) (fun w' M' => (run_load_cell 3 (.tmp 53) rfl ⟨g30, n, none⟩ (by kernel_rfl) _ (M'.cell 0 rfl n _ (iv_get (dL (qL (blockOf l0) (matOf l1) q) (matOf l1) q) n (by rw [(dL_length _ _ _)]; omega))) (by kernel_rfl))) ?_
      refine seq_run (v := .int .i64 (n : Int)) (by decide) (by kernel_rfl) (fun w' M' => (by kernel_rfl)) ?_
      refine seq_run (v := .pointer (some ⟨g7, n, none⟩)) (by decide) (by kernel_rfl) (fun w' M' => (run_indexAddr 30 (.tmp 7) (.tmp 55) rfl ⟨g7, 0, none⟩ .i64 n (by kernel_rfl) (by kernel_rfl) Try.underlying30 1 (by kernel_rfl) (by omega) ⟨g7, n, none⟩ (addr_at0 _ _))) ?_
      refine seq_run (v := .int .i64 ((blockOf l0).getD n 0)) (by decide) (by kernel_rfl) (fun w' M' => (run_load_cell 3 (.tmp 56) rfl ⟨g7, n, none⟩ (by kernel_rfl) _ (M'.cell 3 rfl n _ (iv_get (blockOf l0) n (by rw [(blockOf_length _)]; omega))) (by kernel_rfl))) ?_
      refine seq_run (v := .int .i64 (((dL (qL (blockOf l0) (matOf l1) q) (matOf l1) q).getD n 0) - ((blockOf l0).getD n 0))) (by decide) (by kernel_rfl) (fun w' M' => (i64_of (by omega) (by kernel_rfl))) ?_
      refine seq_run (v := .int .i64 (2 * (((dL (qL (blockOf l0) (matOf l1) q) (matOf l1) q).getD n 0) - ((blockOf l0).getD n 0)))) (by decide) (by kernel_rfl) (fun w' M' => (i64_of (by omega) (by kernel_rfl))) ?_
      refine seq_run (v := .int .i64 (stp ((matOf l1).getD n 0) q n)) (by decide) (by kernel_rfl) (fun w' M' => (by kernel_rfl)) ?_
      refine seq_run (v := .bool false) (by decide) (by kernel_rfl) (fun w' M' => (bool_of (dec_f (show ¬ ((2 * (((dL (qL (blockOf l0) (matOf l1) q) (matOf l1) q).getD n 0) - ((blockOf l0).getD n 0)) : Int) > stp ((matOf l1).getD n 0) q n) from by omega)) (by kernel_rfl))) ?_
      refine seq_run (v := .bool false) (by decide) (by kernel_rfl) (fun w' M' => (by kernel_rfl)) ?_
      refine seq_run (v := .bool false) (by decide) (by kernel_rfl) (fun w' M' => (by kernel_rfl)) ?_
      refine seq_run (v := .int .i64 (n : Int)) (by decide) (by kernel_rfl) (fun w' M' => (by kernel_rfl)) ?_
      refine seq_run (v := .pointer (some ⟨g7, n, none⟩)) (by decide) (by kernel_rfl) (fun w' M' => (run_indexAddr 30 (.tmp 7) (.tmp 64) rfl ⟨g7, 0, none⟩ .i64 n (by kernel_rfl) (by kernel_rfl) Try.underlying30 1 (by kernel_rfl) (by omega) ⟨g7, n, none⟩ (addr_at0 _ _))) ?_
      refine seq_run (v := .int .i64 ((blockOf l0).getD n 0)) (by decide) (by kernel_rfl) (fun w' M' => (run_load_cell 3 (.tmp 65) rfl ⟨g7, n, none⟩ (by kernel_rfl) _ (M'.cell 3 rfl n _ (iv_get (blockOf l0) n (by rw [(blockOf_length _)]; omega))) (by kernel_rfl))) ?_
      refine seq_run (v := .int .i64 (n : Int)) (by decide) (by kernel_rfl) (fun w' M' => (by kernel_rfl)) ?_
      refine seq_run (v := .pointer (some ⟨g30, n, none⟩)) (by decide) (by kernel_rfl) (fun w' M' => (run_indexAddr 30 (.tmp 11) (.tmp 67) rfl ⟨g30, 0, none⟩ .i64 n (by kernel_rfl) (by kernel_rfl) Try.underlying30 1 (by kernel_rfl) (by omega) ⟨g30, n, none⟩ (addr_at0 _ _))) ?_
      refine seq_run (v := .int .i64 ((dL (qL (blockOf l0) (matOf l1) q) (matOf l1) q).getD n 0)) (by decide) (by kernel_rfl) (fun w' M' => (run_load_cell 3 (.tmp 68) rfl ⟨g30, n, none⟩ (by kernel_rfl) _ (M'.cell 0 rfl n _ (iv_get (dL (qL (blockOf l0) (matOf l1) q) (matOf l1) q) n (by rw [(dL_length _ _ _)]; omega))) (by kernel_rfl))) ?_
      refine seq_run (v := .int .i64 (((blockOf l0).getD n 0) - ((dL (qL (blockOf l0) (matOf l1) q) (matOf l1) q).getD n 0))) (by decide) (by kernel_rfl) (fun w' M' => (i64_of (by omega) (by kernel_rfl))) ?_
      refine seq_run (v := .int .i64 (2 * (((blockOf l0).getD n 0) - ((dL (qL (blockOf l0) (matOf l1) q) (matOf l1) q).getD n 0)))) (by decide) (by kernel_rfl) (fun w' M' => (i64_of (by omega) (by kernel_rfl))) ?_
      refine seq_run (v := .int .i64 (stp ((matOf l1).getD n 0) q n)) (by decide) (by kernel_rfl) (fun w' M' => (by kernel_rfl)) ?_
      refine seq_run (v := .bool false) (by decide) (by kernel_rfl) (fun w' M' => (bool_of (dec_f (show ¬ ((2 * (((blockOf l0).getD n 0) - ((dL (qL (blockOf l0) (matOf l1) q) (matOf l1) q).getD n 0)) : Int) > stp ((matOf l1).getD n 0) q n) from by omega)) (by kernel_rfl))) ?_
      refine seq_run (v := .bool false) (by decide) (by kernel_rfl) (fun w' M' => (by kernel_rfl)) ?_
      refine seq_end (by decide) ?_
      intro W49 M50
      refine wl_nil ?_
      refine hK48 _ _ ?_
      try clear hK48 K48
      refine wp_frame (a' := ⟨#[v0, v1, .int .i64 q, undef, undef, undef, (u39 6), .pointer (some ⟨g7, 0, none⟩), .pointer (some ⟨g10, 0, none⟩), .pointer (some ⟨g20, 0, none⟩), .int .i64 (qE (blockOf l0) (matOf l1) q), .pointer (some ⟨g30, 0, none⟩), .int .i64 (dE (qL (blockOf l0) (matOf l1) q) (matOf l1) q), .int .i64 (n : Int), .int .i64 (stp ((matOf l1).getD n 0) q n), v0, .agg (iv (blockOf l0)), v1, .agg (bv (matOf l1)), .tuple #[.agg (iv (qL (blockOf l0) (matOf l1) q)), .int .i64 (qE (blockOf l0) (matOf l1) q)], .agg (iv (blockOf l0)), .agg (bv (matOf l1)), .int .i64 q, .tuple #[.agg (iv (qL (blockOf l0) (matOf l1) q)), .int .i64 (qE (blockOf l0) (matOf l1) q)], .agg (iv (qL (blockOf l0) (matOf l1) q)), .int .i64 (qE (blockOf l0) (matOf l1) q), .int .i64 (qE (blockOf l0) (matOf l1) q), .bool false, undef, .tuple #[.agg (iv (dL (qL (blockOf l0) (matOf l1) q) (matOf l1) q)), .int .i64 (dE (qL (blockOf l0) (matOf l1) q) (matOf l1) q)], .agg (iv (qL (blockOf l0) (matOf l1) q)), .agg (bv (matOf l1)), .int .i64 q, .tuple #[.agg (iv (dL (qL (blockOf l0) (matOf l1) q) (matOf l1) q)), .int .i64 (dE (qL (blockOf l0) (matOf l1) q) (matOf l1) q)], .agg (iv (dL (qL (blockOf l0) (matOf l1) q) (matOf l1) q)), .int .i64 (dE (qL (blockOf l0) (matOf l1) q) (matOf l1) q), .int .i64 (dE (qL (blockOf l0) (matOf l1) q) (matOf l1) q), .bool false, .int .i64 (n : Int), .bool true, (u39 40), (u39 41), .int .i64 (n : Int), .pointer (some ⟨g10, n, none⟩), .int .u8 ((matOf l1).getD n 0), .int .i64 ((matOf l1).getD n 0), .int .i64 q, .int .i64 (n : Int), .int .i64 (stp ((matOf l1).getD n 0) q n), .int .i64 (stp ((matOf l1).getD n 0) q n), .bool false, .bool false, .int .i64 (n : Int), .pointer (some ⟨g30, n, none⟩), .int .i64 ((dL (qL (blockOf l0) (matOf l1) q) (matOf l1) q).getD n 0), .int .i64 (n : Int), .pointer (some ⟨g7, n, none⟩), .int .i64 ((blockOf l0).getD n 0), .int .i64 (((dL (qL (blockOf l0) (matOf l1) q) (matOf l1) q).getD n 0) - ((blockOf l0).getD n 0)), .int .i64 (2 * (((dL (qL (blockOf l0) (matOf l1) q) (matOf l1) q).getD n 0) - ((blockOf l0).getD n 0))), .int .i64 (stp ((matOf l1).getD n 0) q n), .bool false, .bool false, .bool false, .int .i64 (n : Int), .pointer (some ⟨g7, n, none⟩), .int .i64 ((blockOf l0).getD n 0), .int .i64 (n : Int), .pointer (some ⟨g30, n, none⟩), .int .i64 ((dL (qL (blockOf l0) (matOf l1) q) (matOf l1) q).getD n 0), .int .i64 (((blockOf l0).getD n 0) - ((dL (qL (blockOf l0) (matOf l1) q) (matOf l1) q).getD n 0)), .int .i64 (2 * (((blockOf l0).getD n 0) - ((dL (qL (blockOf l0) (matOf l1) q) (matOf l1) q).getD n 0))), .int .i64 (stp ((matOf l1).getD n 0) q n), .bool false, .bool false, undef], []⟩) (by kernel_rfl) ?_
      refine wp_cond_false (by kernel_rfl) ?_
      refine wp_skip ?_
      refine blk_normal ?_
      refine hK44 _ _ ?_
      try clear hK44 K44
      refine wl_region ?_
      refine st_val (.int .i64 (n : Int)) (by kernel_rfl) (by kernel_rfl) ?_
      refine st_val (.int .i64 ((n : Int) + 1)) (by kernel_rfl) (i64_of (by omega) (by kernel_rfl)) ?_
      refine st_val (.int .i64 ((n : Int) + 1)) (by kernel_rfl) (by kernel_rfl) ?_
      refine wl_nil ?_
      refine th_normal ?_
      exact ⟨_, by omega, (n + 1), (fun zz => Array.getD #[v0, v1, .int .i64 q, undef, undef, undef, (u39 6), .pointer (some ⟨g7, 0, none⟩), .pointer (some ⟨g10, 0, none⟩), .pointer (some ⟨g20, 0, none⟩), .int .i64 (qE (blockOf l0) (matOf l1) q), .pointer (some ⟨g30, 0, none⟩), .int .i64 (dE (qL (blockOf l0) (matOf l1) q) (matOf l1) q), .int .i64 ((n : Int) + 1), .int .i64 (stp ((matOf l1).getD n 0) q n), v0, .agg (iv (blockOf l0)), v1, .agg (bv (matOf l1)), .tuple #[.agg (iv (qL (blockOf l0) (matOf l1) q)), .int .i64 (qE (blockOf l0) (matOf l1) q)], .agg (iv (blockOf l0)), .agg (bv (matOf l1)), .int .i64 q, .tuple #[.agg (iv (qL (blockOf l0) (matOf l1) q)), .int .i64 (qE (blockOf l0) (matOf l1) q)], .agg (iv (qL (blockOf l0) (matOf l1) q)), .int .i64 (qE (blockOf l0) (matOf l1) q), .int .i64 (qE (blockOf l0) (matOf l1) q), .bool false, undef, .tuple #[.agg (iv (dL (qL (blockOf l0) (matOf l1) q) (matOf l1) q)), .int .i64 (dE (qL (blockOf l0) (matOf l1) q) (matOf l1) q)], .agg (iv (qL (blockOf l0) (matOf l1) q)), .agg (bv (matOf l1)), .int .i64 q, .tuple #[.agg (iv (dL (qL (blockOf l0) (matOf l1) q) (matOf l1) q)), .int .i64 (dE (qL (blockOf l0) (matOf l1) q) (matOf l1) q)], .agg (iv (dL (qL (blockOf l0) (matOf l1) q) (matOf l1) q)), .int .i64 (dE (qL (blockOf l0) (matOf l1) q) (matOf l1) q), .int .i64 (dE (qL (blockOf l0) (matOf l1) q) (matOf l1) q), .bool false, .int .i64 (n : Int), .bool true, .int .i64 (n : Int), .int .i64 ((n : Int) + 1), .int .i64 (n : Int), .pointer (some ⟨g10, n, none⟩), .int .u8 ((matOf l1).getD n 0), .int .i64 ((matOf l1).getD n 0), .int .i64 q, .int .i64 (n : Int), .int .i64 (stp ((matOf l1).getD n 0) q n), .int .i64 (stp ((matOf l1).getD n 0) q n), .bool false, .bool false, .int .i64 (n : Int), .pointer (some ⟨g30, n, none⟩), .int .i64 ((dL (qL (blockOf l0) (matOf l1) q) (matOf l1) q).getD n 0), .int .i64 (n : Int), .pointer (some ⟨g7, n, none⟩), .int .i64 ((blockOf l0).getD n 0), .int .i64 (((dL (qL (blockOf l0) (matOf l1) q) (matOf l1) q).getD n 0) - ((blockOf l0).getD n 0)), .int .i64 (2 * (((dL (qL (blockOf l0) (matOf l1) q) (matOf l1) q).getD n 0) - ((blockOf l0).getD n 0))), .int .i64 (stp ((matOf l1).getD n 0) q n), .bool false, .bool false, .bool false, .int .i64 (n : Int), .pointer (some ⟨g7, n, none⟩), .int .i64 ((blockOf l0).getD n 0), .int .i64 (n : Int), .pointer (some ⟨g30, n, none⟩), .int .i64 ((dL (qL (blockOf l0) (matOf l1) q) (matOf l1) q).getD n 0), .int .i64 (((blockOf l0).getD n 0) - ((dL (qL (blockOf l0) (matOf l1) q) (matOf l1) q).getD n 0)), .int .i64 (2 * (((blockOf l0).getD n 0) - ((dL (qL (blockOf l0) (matOf l1) q) (matOf l1) q).getD n 0))), .int .i64 (stp ((matOf l1).getD n 0) q n), .bool false, .bool false, undef] zz undef), ⟨by omega, M50⟩, rfl, (by kernel_rfl)⟩
    ·
      refine st_val (.bool false) (by kernel_rfl) (bool_of (dec_f c39) (by kernel_rfl)) ?_
      refine wl_nil ?_
      refine hK43 _ _ ?_
      try clear hK43 K43
      refine wp_cond_false (by kernel_rfl) ?_
      refine wp_exit ?_
      refine th_exit ?_
      refine th_exit ?_
      refine blk_exit ?_
      refine hK37 _ _ ?_
      try clear hK37 K37
      refine wp_seq_k (fun K51 hK51 => ?_)
      refine wl_region ?_
      refine st_callB M41 (.bool true) (by kernel_rfl) (args := #[]) (run_value_call 14 #[] _ rfl Try.func14 (by kernel_rfl) (by kernel_rfl) _ (by kernel_rfl)) (awake_walk W40) ?_
      intro W52 M53
      refine st_val (.bool true) (by kernel_rfl) (by kernel_rfl) ?_
      refine wl_nil ?_
      refine hK51 _ _ ?_
      try clear hK51 K51
      refine wp_ret ?_
      exact done1 6 (.bool true) (by kernel_rfl) (by kernel_rfl) (by kernel_rfl) ⟨rfl, M53.toBelow⟩
  ·
    refine st_val (.bool true) (by kernel_rfl) (bool_of (neq_t hE) (by kernel_rfl)) ?_
    refine wl_nil ?_
    refine hK26 _ _ ?_
    try clear hK26 K26
    refine wp_cond_true (by kernel_rfl) ?_
    refine wp_seq_k (fun K54 hK54 => ?_)
    refine wl_region ?_
    refine st_callB M24 (.bool true) (by kernel_rfl) (args := #[]) (run_value_call 14 #[] _ rfl Try.func14 (by kernel_rfl) (by kernel_rfl) _ (by kernel_rfl)) (awake_walk W23) ?_
    intro W55 M56
    refine st_val (.bool true) (by kernel_rfl) (by kernel_rfl) ?_
    refine wl_nil ?_
    refine hK54 _ _ ?_
    try clear hK54 K54
    refine wp_ret ?_
    refine th_ret ?_
    exact done1 6 (.bool true) (by kernel_rfl) (by kernel_rfl) (by kernel_rfl) ⟨rfl, M56.toBelow⟩
end Go.Proofs.Ytjclncmpfdfkfaa
