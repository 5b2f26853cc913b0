/- QuantScans. -/
import Derived.Test.YtjclncmpfdfkfaaSh
import Derived.Test.YtjclncmpfdfkfaaQa
namespace Go.Proofs.Ytjclncmpfdfkfaa
open Go.RowKit
set_option maxHeartbeats 4000000 in
set_option maxRecDepth 100000 in
theorem QuantScans_walk (w : World) (v0 : Value) (l0 : List Int) (hr0 : Rd w v0 (l0.map (Value.int .i64))) (hb0 : ∀ x ∈ l0, -9223372036854775808 ≤ x ∧ x ≤ 9223372036854775807) : Calls Try.prog 12 #[v0] w fun e w' => e = .returned (.bool true) ∧ Below w.heap.size w w' := by
  refine calls_of_wp Try.func12 rfl ?_
  refine wp_frame (a' := ⟨#[v0, undef, undef, undef, undef, undef, undef, undef, undef, undef, undef, undef, undef, undef, undef, undef, undef, undef, undef, undef, undef, undef, undef, undef, undef, undef, undef, undef, undef, undef, undef, undef, undef, undef, undef, undef, undef, undef, undef, undef, undef, undef, undef, undef, undef, undef, undef, undef, undef, undef, undef, undef, undef, undef, undef, undef, undef], []⟩) (by kernel_rfl) ?_
  have M0 : Mem NoS w w [] := Mem.start _ _
  refine wp_seq_k (fun K1 hK1 => ?_)
  refine wl_region ?_
  refine st_val (.bool false) (by kernel_rfl) (by kernel_rfl) ?_
  refine wl_nil ?_
  refine hK1 _ _ ?_
  try clear hK1 K1
  refine wp_seq_k (fun K2 hK2 => ?_)
  refine wl_region ?_
  refine st_val (v0) (by kernel_rfl) (by kernel_rfl) ?_
  refine st_callB M0 (.agg (iv (blockOf l0))) (by kernel_rfl) (args := #[v0]) (run_value_call 20 #[(Operand.tmp 7)] _ rfl Try.func20 (by kernel_rfl) (by kernel_rfl) _ (by kernel_rfl)) (block_walk w v0 l0 ((hr0.keep M0.keep (fun _ _ h => h)))) ?_
  intro W3 M4
  refine st_alloc M4 (.cells (iv zeros) 30 (0, 0)) (by kernel_rfl) (by kernel_rfl) ?_
  intro g5 W6 M7
  refine st_storeRow M7 0 rfl 30 (.tmp 3) (.tmp 8) (by rfl) (iv (blockOf l0)) (by kernel_rfl) (by kernel_rfl) (info64 _ (blockOf_length _)) (iv_same (blockOf_length _) zeros_length) (iv_one _) (by kernel_rfl) [(g5, .cells (iv (blockOf l0)) 30 (0, 0))] rfl ?_
  intro W8 M9
  refine wl_nil ?_
  refine hK2 _ _ ?_
  try clear hK2 K2
  refine wp_seq_k (fun K10 hK10 => ?_)
  refine wp_seq_k (fun K11 hK11 => ?_)
  refine wl_region ?_
  refine st_val (.int .i64 0) (by kernel_rfl) (by kernel_rfl) ?_
  refine wl_nil ?_
  refine hK11 _ _ ?_
  try clear hK11 K11
  refine wp_block ?_
  refine wp_loop_ghost (fun gn a' w' => ∃ (n : Nat) (u12 : Nat → Value), ((n ≤ 2) ∧ Mem NoS w w' [(g5, .cells (iv (blockOf l0)) 30 (0, 0))]) ∧ gn = 2 - n ∧ a' = ⟨#[v0, undef, (u12 2), .pointer (some ⟨g5, 0, none⟩), .int .i64 (n : Int), (u12 5), (u12 6), v0, .agg (iv (blockOf l0)), (u12 9), (u12 10), (u12 11), (u12 12), (u12 13), (u12 14), (u12 15), (u12 16), (u12 17), (u12 18), (u12 19), (u12 20), (u12 21), (u12 22), (u12 23), (u12 24), (u12 25), (u12 26), (u12 27), (u12 28), (u12 29), (u12 30), (u12 31), (u12 32), (u12 33), (u12 34), (u12 35), (u12 36), (u12 37), (u12 38), (u12 39), (u12 40), (u12 41), (u12 42), (u12 43), (u12 44), (u12 45), undef, undef, undef, undef, undef, undef, undef, undef, undef, undef, undef], []⟩) _ ⟨0, (fun zz => Array.getD #[undef, undef, .bool false, undef, undef, undef, undef, undef, undef, undef, undef, undef, undef, undef, undef, undef, undef, undef, undef, undef, undef, undef, undef, undef, undef, undef, undef, undef, undef, undef, undef, undef, undef, undef, undef, undef, undef, undef, undef, undef, undef, undef, undef, undef, undef, undef] zz undef), ⟨by omega, M9⟩, rfl, (by kernel_rfl)⟩ ?_
  rintro gn _ W13 ⟨n, u12, ⟨rn, M14⟩, rfl, rfl⟩
  refine wp_seq_k (fun K15 hK15 => ?_)
  refine wp_seq_k (fun K16 hK16 => ?_)
  refine wl_region ?_
  refine st_val (.int .i64 (n : Int)) (by kernel_rfl) (by kernel_rfl) ?_
  rcases Decidable.em (((n : Int) : Int) < 2) with c10 | c10
  ·
    refine st_val (.bool true) (by kernel_rfl) (bool_of (dec_t c10) (by kernel_rfl)) ?_
    refine wl_nil ?_
    refine hK16 _ _ ?_
    try clear hK16 K16
    refine wp_cond_true (by kernel_rfl) ?_
    refine wp_skip ?_
    refine hK15 _ _ ?_
    try clear hK15 K15
    refine wp_seq_k (fun K17 hK17 => ?_)
    refine wp_block ?_
    refine wp_seq_k (fun K18 hK18 => ?_)
    refine wl_region ?_
    refine st_val (.int .i64 (n : Int)) (by kernel_rfl) (by kernel_rfl) ?_
    rcases Decidable.em (((n : Int) : Int) = 1) with c14 | c14
    ·
      refine st_val (.bool true) (by kernel_rfl) (bool_of (dec_t c14) (by kernel_rfl)) ?_
      refine st_val (.bool true) (by kernel_rfl) (by kernel_rfl) ?_
      refine wl_nil ?_
      refine hK18 _ _ ?_
      try clear hK18 K18
      refine wp_seq_k (fun K19 hK19 => ?_)
      refine wl_region ?_
      refine st_val (.agg (iv (blockOf l0))) (by kernel_rfl) (run_load_row 30 (.tmp 3) rfl g5 (by kernel_rfl) 30 (iv (blockOf l0)) (0, 0) _ (M14.get 0 rfl) Try.underlying30 rfl (info64 _ (blockOf_length _))) ?_
      refine st_val (.bool true) (by kernel_rfl) (by kernel_rfl) ?_
      refine st_callB M14 (.agg (iv (toS true (blockOf l0)))) (by kernel_rfl) (args := #[.agg (iv (blockOf l0)), .bool true]) (run_value_call 30 #[(Operand.tmp 15), (Operand.tmp 16)] _ rfl Try.func30 (by kernel_rfl) (by kernel_rfl) _ (by kernel_rfl)) (toScan_true W13 (blockOf l0) (blockOf_length _)) ?_
      intro W20 M21
      refine st_alloc M21 (.cells (iv zeros) 30 (0, 0)) (by kernel_rfl) (by kernel_rfl) ?_
      intro g22 W23 M24
      refine st_storeRow M24 0 rfl 30 (.tmp 6) (.tmp 17) (by rfl) (iv (toS true (blockOf l0))) (by kernel_rfl) (by kernel_rfl) (info64 _ (tab_length _ _)) (iv_same (tab_length _ _) zeros_length) (iv_one _) (by kernel_rfl) [(g22, .cells (iv (toS true (blockOf l0))) 30 (0, 0)), (g5, .cells (iv (blockOf l0)) 30 (0, 0))] rfl ?_
      intro W25 M26
      refine wl_nil ?_
      refine hK19 _ _ ?_
      try clear hK19 K19
      refine wp_seq_k (fun K27 hK27 => ?_)
      refine wl_seq 28 (fun w' => Mem NoS w w' [(g22, .cells (iv (toS true (blockOf l0))) 30 (0, 0)), (g5, .cells (iv (blockOf l0)) 30 (0, 0))]) (by decide) (by kernel_rfl) (by kernel_rfl) M26.drew ?_
      refine seq_run (v := .bool true) (by decide) (by kernel_rfl) (fun w' M' => (by kernel_rfl)) ?_
      refine seq_call (v := .agg (iv (scL true))) (f := 31) (args := #[.bool true]) (by decide) (by kernel_rfl) (fun w' M' => (run_value_call 31 #[(Operand.tmp 18)] _ rfl Try.func31 (by kernel_rfl) (by kernel_rfl) _ (by kernel_rfl))) (fun w' M' => callB_mem M' (scan_true w')) ?_
      refine seq_run (v := .bool true) (by decide) (by kernel_rfl) (fun w' M' => (by kernel_rfl)) ?_
      refine seq_call (v := .agg (iv (scL true))) (f := 32) (args := #[.bool true]) (by decide) (by kernel_rfl) (fun w' M' => (run_value_call 32 #[(Operand.tmp 20)] _ rfl Try.func32 (by kernel_rfl) (by kernel_rfl) _ (by kernel_rfl))) (fun w' M' => callB_mem M' (refScan_true w')) ?_
      refine seq_run (v := .bool false) (by decide) (by kernel_rfl) (fun w' M' => (run_value_bin .neq 30 _ (.tmp 19) (.tmp 21) rfl (.agg (iv (scL true))) (.agg (iv (scL true))) _ (by kernel_rfl) (by kernel_rfl) (by kernel_rfl) (neq_same w' (scL true) (scL_length _)))) ?_
      refine seq_run (v := .bool false) (by decide) (by kernel_rfl) (fun w' M' => (by kernel_rfl)) ?_
      refine seq_run (v := .agg (iv (toS true (blockOf l0)))) (by decide) (by kernel_rfl) (fun w' M' => (run_load_row 30 (.tmp 6) rfl g22 (by kernel_rfl) 30 (iv (toS true (blockOf l0))) (0, 0) _ (M'.get 0 rfl) Try.underlying30 rfl (info64 _ (tab_length _ _)))) ?_
      refine seq_run (v := .agg (iv (blockOf l0))) (by decide) (by kernel_rfl) (fun w' M' => (run_load_row 30 (.tmp 3) rfl g5 (by kernel_rfl) 30 (iv (blockOf l0)) (0, 0) _ (M'.get 1 rfl) Try.underlying30 rfl (info64 _ (blockOf_length _)))) ?_
      refine seq_run (v := .bool true) (by decide) (by kernel_rfl) (fun w' M' => (by kernel_rfl)) ?_
      refine seq_call (v := .agg (iv (toS true (blockOf l0)))) (f := 33) (args := #[.agg (iv (blockOf l0)), .bool true]) (by decide) (by kernel_rfl) (fun w' M' => (run_value_call 33 #[(Operand.tmp 25), (Operand.tmp 26)] _ rfl Try.func33 (by kernel_rfl) (by kernel_rfl) _ (by kernel_rfl))) (fun w' M' => callB_mem M' (refToScan_true w' (blockOf l0) (blockOf_length _))) ?_
      refine seq_run (v := .bool false) (by decide) (by kernel_rfl) (fun w' M' => (run_value_bin .neq 30 _ (.tmp 24) (.tmp 27) rfl (.agg (iv (toS true (blockOf l0)))) (.agg (iv (toS true (blockOf l0)))) _ (by kernel_rfl) (by kernel_rfl) (by kernel_rfl) (neq_same w' (toS true (blockOf l0)) (tab_length _ _)))) ?_
      refine seq_run (v := .bool false) (by decide) (by kernel_rfl) (fun w' M' => (by kernel_rfl)) ?_
      refine seq_run (v := .bool false) (by decide) (by kernel_rfl) (fun w' M' => (by kernel_rfl)) ?_
      refine seq_run (v := .agg (iv (toS true (blockOf l0)))) (by decide) (by kernel_rfl) (fun w' M' => (run_load_row 30 (.tmp 6) rfl g22 (by kernel_rfl) 30 (iv (toS true (blockOf l0))) (0, 0) _ (M'.get 0 rfl) Try.underlying30 rfl (info64 _ (tab_length _ _)))) ?_
      refine seq_run (v := .bool true) (by decide) (by kernel_rfl) (fun w' M' => (by kernel_rfl)) ?_
      refine seq_call (v := .agg (iv (blockOf l0))) (f := 34) (args := #[.agg (iv (toS true (blockOf l0))), .bool true]) (by decide) (by kernel_rfl) (fun w' M' => (run_value_call 34 #[(Operand.tmp 31), (Operand.tmp 32)] _ rfl Try.func34 (by kernel_rfl) (by kernel_rfl) _ (by kernel_rfl))) (fun w' M' => callB_mem M' ((by have := fromScan_true w' (toS true (blockOf l0)) (tab_length _ _); rw [fr_to true (blockOf_length _)] at this; exact this))) ?_
      refine seq_run (v := .agg (iv (blockOf l0))) (by decide) (by kernel_rfl) (fun w' M' => (run_load_row 30 (.tmp 3) rfl g5 (by kernel_rfl) 30 (iv (blockOf l0)) (0, 0) _ (M'.get 1 rfl) Try.underlying30 rfl (info64 _ (blockOf_length _)))) ?_
      refine seq_run (v := .bool false) (by decide) (by kernel_rfl) (fun w' M' => (run_value_bin .neq 30 _ (.tmp 33) (.tmp 34) rfl (.agg (iv (blockOf l0))) (.agg (iv (blockOf l0))) _ (by kernel_rfl) (by kernel_rfl) (by kernel_rfl) (neq_same w' (blockOf l0) (blockOf_length _)))) ?_
      refine seq_run (v := .bool false) (by decide) (by kernel_rfl) (fun w' M' => (by kernel_rfl)) ?_
      refine seq_run (v := .bool false) (by decide) (by kernel_rfl) (fun w' M' => (by kernel_rfl)) ?_
      refine seq_run (v := .agg (iv (blockOf l0))) (by decide) (by kernel_rfl) (fun w' M' => (run_load_row 30 (.tmp 3) rfl g5 (by kernel_rfl) 30 (iv (blockOf l0)) (0, 0) _ (M'.get 1 rfl) Try.underlying30 rfl (info64 _ (blockOf_length _)))) ?_
      refine seq_run (v := .bool true) (by decide) (by kernel_rfl) (fun w' M' => (by kernel_rfl)) ?_
      refine seq_call (v := .agg (iv (frS true (blockOf l0)))) (f := 34) (args := #[.agg (iv (blockOf l0)), .bool true]) (by decide) (by kernel_rfl) (fun w' M' => (run_value_call 34 #[(Operand.tmp 38), (Operand.tmp 39)] _ rfl Try.func34 (by kernel_rfl) (by kernel_rfl) _ (by kernel_rfl))) (fun w' M' => callB_mem M' (fromScan_true w' (blockOf l0) (blockOf_length _))) ?_
      refine seq_run (v := .agg (iv (blockOf l0))) (by decide) (by kernel_rfl) (fun w' M' => (run_load_row 30 (.tmp 3) rfl g5 (by kernel_rfl) 30 (iv (blockOf l0)) (0, 0) _ (M'.get 1 rfl) Try.underlying30 rfl (info64 _ (blockOf_length _)))) ?_
      refine seq_run (v := .bool true) (by decide) (by kernel_rfl) (fun w' M' => (by kernel_rfl)) ?_
      refine seq_call (v := .agg (iv (frS true (blockOf l0)))) (f := 35) (args := #[.agg (iv (blockOf l0)), .bool true]) (by decide) (by kernel_rfl) (fun w' M' => (run_value_call 35 #[(Operand.tmp 41), (Operand.tmp 42)] _ rfl Try.func35 (by kernel_rfl) (by kernel_rfl) _ (by kernel_rfl))) (fun w' M' => callB_mem M' (refFromScan_true w' (blockOf l0) (blockOf_length _))) ?_
      refine seq_run (v := .bool false) (by decide) (by kernel_rfl) (fun w' M' => (run_value_bin .neq 30 _ (.tmp 40) (.tmp 43) rfl (.agg (iv (frS true (blockOf l0)))) (.agg (iv (frS true (blockOf l0)))) _ (by kernel_rfl) (by kernel_rfl) (by kernel_rfl) (neq_same w' (frS true (blockOf l0)) (tab_length _ _)))) ?_
      refine seq_run (v := .bool false) (by decide) (by kernel_rfl) (fun w' M' => (by kernel_rfl)) ?_
      refine seq_end (by decide) ?_
      intro W28 M29
      refine wl_nil ?_
      refine hK27 _ _ ?_
      try clear hK27 K27
      refine wp_frame (a' := ⟨#[v0, undef, (u12 2), .pointer (some ⟨g5, 0, none⟩), .int .i64 (n : Int), .bool true, .pointer (some ⟨g22, 0, none⟩), v0, .agg (iv (blockOf l0)), .int .i64 (n : Int), .bool true, (u12 11), (u12 12), .int .i64 (n : Int), .bool true, .agg (iv (blockOf l0)), .bool true, .agg (iv (toS true (blockOf l0))), .bool true, .agg (iv (scL true)), .bool true, .agg (iv (scL true)), .bool false, .bool false, .agg (iv (toS true (blockOf l0))), .agg (iv (blockOf l0)), .bool true, .agg (iv (toS true (blockOf l0))), .bool false, .bool false, .bool false, .agg (iv (toS true (blockOf l0))), .bool true, .agg (iv (blockOf l0)), .agg (iv (blockOf l0)), .bool false, .bool false, .bool false, .agg (iv (blockOf l0)), .bool true, .agg (iv (frS true (blockOf l0))), .agg (iv (blockOf l0)), .bool true, .agg (iv (frS true (blockOf l0))), .bool false, .bool false, undef, undef, undef, undef, undef, undef, undef, undef, undef, undef, undef], []⟩) (by kernel_rfl) ?_
      refine wp_cond_false (by kernel_rfl) ?_
      refine wp_skip ?_
      refine blk_normal ?_
      refine hK17 _ _ ?_
      try clear hK17 K17
      refine wl_region ?_
      refine st_val (.int .i64 (n : Int)) (by kernel_rfl) (by kernel_rfl) ?_
      refine st_val (.int .i64 ((n : Int) + 1)) (by kernel_rfl) (i64_of (by omega) (by kernel_rfl)) ?_
      refine st_val (.int .i64 ((n : Int) + 1)) (by kernel_rfl) (by kernel_rfl) ?_
      refine wl_nil ?_
      refine th_normal ?_
      have M30 : Mem NoS w W28 [(g5, .cells (iv (blockOf l0)) 30 (0, 0))] := M29.sub (((List.Sublist.refl []).cons_cons _).cons _)
      exact ⟨_, by omega, (n + 1), (fun zz => Array.getD #[undef, undef, (u12 2), undef, undef, .bool true, .pointer (some ⟨g22, 0, none⟩), undef, undef, .int .i64 (n : Int), .bool true, .int .i64 (n : Int), .int .i64 ((n : Int) + 1), .int .i64 (n : Int), .bool true, .agg (iv (blockOf l0)), .bool true, .agg (iv (toS true (blockOf l0))), .bool true, .agg (iv (scL true)), .bool true, .agg (iv (scL true)), .bool false, .bool false, .agg (iv (toS true (blockOf l0))), .agg (iv (blockOf l0)), .bool true, .agg (iv (toS true (blockOf l0))), .bool false, .bool false, .bool false, .agg (iv (toS true (blockOf l0))), .bool true, .agg (iv (blockOf l0)), .agg (iv (blockOf l0)), .bool false, .bool false, .bool false, .agg (iv (blockOf l0)), .bool true, .agg (iv (frS true (blockOf l0))), .agg (iv (blockOf l0)), .bool true, .agg (iv (frS true (blockOf l0))), .bool false, .bool false] zz undef), ⟨by omega, M30⟩, rfl, (by kernel_rfl)⟩
    ·
      refine st_val (.bool false) (by kernel_rfl) (bool_of (dec_f c14) (by kernel_rfl)) ?_
      refine st_val (.bool false) (by kernel_rfl) (by kernel_rfl) ?_
      refine wl_nil ?_
      refine hK18 _ _ ?_
      try clear hK18 K18
      refine wp_seq_k (fun K31 hK31 => ?_)
      refine wl_region ?_
      refine st_val (.agg (iv (blockOf l0))) (by kernel_rfl) (run_load_row 30 (.tmp 3) rfl g5 (by kernel_rfl) 30 (iv (blockOf l0)) (0, 0) _ (M14.get 0 rfl) Try.underlying30 rfl (info64 _ (blockOf_length _))) ?_
      refine st_val (.bool false) (by kernel_rfl) (by kernel_rfl) ?_
      refine st_callB M14 (.agg (iv (toS false (blockOf l0)))) (by kernel_rfl) (args := #[.agg (iv (blockOf l0)), .bool false]) (run_value_call 30 #[(Operand.tmp 15), (Operand.tmp 16)] _ rfl Try.func30 (by kernel_rfl) (by kernel_rfl) _ (by kernel_rfl)) (toScan_false W13 (blockOf l0) (blockOf_length _)) ?_
      intro W32 M33
      refine st_alloc M33 (.cells (iv zeros) 30 (0, 0)) (by kernel_rfl) (by kernel_rfl) ?_
      intro g34 W35 M36
      refine st_storeRow M36 0 rfl 30 (.tmp 6) (.tmp 17) (by rfl) (iv (toS false (blockOf l0))) (by kernel_rfl) (by kernel_rfl) (info64 _ (tab_length _ _)) (iv_same (tab_length _ _) zeros_length) (iv_one _) (by kernel_rfl) [(g34, .cells (iv (toS false (blockOf l0))) 30 (0, 0)), (g5, .cells (iv (blockOf l0)) 30 (0, 0))] rfl ?_
      intro W37 M38
      refine wl_nil ?_
      refine hK31 _ _ ?_
      try clear hK31 K31
      refine wp_seq_k (fun K39 hK39 => ?_)
      refine wl_seq 28 (fun w' => Mem NoS w w' [(g34, .cells (iv (toS false (blockOf l0))) 30 (0, 0)), (g5, .cells (iv (blockOf l0)) 30 (0, 0))]) (by decide) (by kernel_rfl) (by kernel_rfl) M38.drew ?_
      refine seq_run (v := .bool false) (by decide) (by kernel_rfl) (fun w' M' => (by kernel_rfl)) ?_
      refine seq_call (v := .agg (iv (scL false))) (f := 31) (args := #[.bool false]) (by decide) (by kernel_rfl) (fun w' M' => (run_value_call 31 #[(Operand.tmp 18)] _ rfl Try.func31 (by kernel_rfl) (by kernel_rfl) _ (by kernel_rfl))) (fun w' M' => callB_mem M' (scan_false w')) ?_
      refine seq_run (v := .bool false) (by decide) (by kernel_rfl) (fun w' M' => (by kernel_rfl)) ?_
      refine seq_call (v := .agg (iv (scL false))) (f := 32) (args := #[.bool false]) (by decide) (by kernel_rfl) (fun w' M' => (run_value_call 32 #[(Operand.tmp 20)] _ rfl Try.func32 (by kernel_rfl) (by kernel_rfl) _ (by kernel_rfl))) (fun w' M' => callB_mem M' (refScan_false w')) ?_
      refine seq_run (v := .bool false) (by decide) (by kernel_rfl) (fun w' M' => (run_value_bin .neq 30 _ (.tmp 19) (.tmp 21) rfl (.agg (iv (scL false))) (.agg (iv (scL false))) _ (by kernel_rfl) (by kernel_rfl) (by kernel_rfl) (neq_same w' (scL false) (scL_length _)))) ?_
      refine seq_run (v := .bool false) (by decide) (by kernel_rfl) (fun w' M' => (by kernel_rfl)) ?_
      refine seq_run (v := .agg (iv (toS false (blockOf l0)))) (by decide) (by kernel_rfl) (fun w' M' => (run_load_row 30 (.tmp 6) rfl g34 (by kernel_rfl) 30 (iv (toS false (blockOf l0))) (0, 0) _ (M'.get 0 rfl) Try.underlying30 rfl (info64 _ (tab_length _ _)))) ?_
      refine seq_run (v := .agg (iv (blockOf l0))) (by decide) (by kernel_rfl) (fun w' M' => (run_load_row 30 (.tmp 3) rfl g5 (by kernel_rfl) 30 (iv (blockOf l0)) (0, 0) _ (M'.get 1 rfl) Try.underlying30 rfl (info64 _ (blockOf_length _)))) ?_
      refine seq_run (v := .bool false) (by decide) (by kernel_rfl) (fun w' M' => (by kernel_rfl)) ?_
      refine seq_call (v := .agg (iv (toS false (blockOf l0)))) (f := 33) (args := #[.agg (iv (blockOf l0)), .bool false]) (by decide) (by kernel_rfl) (fun w' M' => (run_value_call 33 #[(Operand.tmp 25), (Operand.tmp 26)] _ rfl Try.func33 (by kernel_rfl) (by kernel_rfl) _ (by kernel_rfl))) (fun w' M' => callB_mem M' (refToScan_false w' (blockOf l0) (blockOf_length _))) ?_
      refine seq_run (v := .bool false) (by decide) (by kernel_rfl) (fun w' M' => (run_value_bin .neq 30 _ (.tmp 24) (.tmp 27) rfl (.agg (iv (toS false (blockOf l0)))) (.agg (iv (toS false (blockOf l0)))) _ (by kernel_rfl) (by kernel_rfl) (by kernel_rfl) (neq_same w' (toS false (blockOf l0)) (tab_length _ _)))) ?_
      refine seq_run (v := .bool false) (by decide) (by kernel_rfl) (fun w' M' => (by kernel_rfl)) ?_
      refine seq_run (v := .bool false) (by decide) (by kernel_rfl) (fun w' M' => (by kernel_rfl)) ?_
      refine seq_run (v := .agg (iv (toS false (blockOf l0)))) (by decide) (by kernel_rfl) (fun w' M' => (run_load_row 30 (.tmp 6) rfl g34 (by kernel_rfl) 30 (iv (toS false (blockOf l0))) (0, 0) _ (M'.get 0 rfl) Try.underlying30 rfl (info64 _ (tab_length _ _)))) ?_
      refine seq_run (v := .bool false) (by decide) (by kernel_rfl) (fun w' M' => (by kernel_rfl)) ?_
      refine seq_call (v := .agg (iv (blockOf l0))) (f := 34) (args := #[.agg (iv (toS false (blockOf l0))), .bool false]) (by decide) (by kernel_rfl) (fun w' M' => (run_value_call 34 #[(Operand.tmp 31), (Operand.tmp 32)] _ rfl Try.func34 (by kernel_rfl) (by kernel_rfl) _ (by kernel_rfl))) (fun w' M' => callB_mem M' ((by have := fromScan_false w' (toS false (blockOf l0)) (tab_length _ _); rw [fr_to false (blockOf_length _)] at this; exact this))) ?_
      refine seq_run (v := .agg (iv (blockOf l0))) (by decide) (by kernel_rfl) (fun w' M' => (run_load_row 30 (.tmp 3) rfl g5 (by kernel_rfl) 30 (iv (blockOf l0)) (0, 0) _ (M'.get 1 rfl) Try.underlying30 rfl (info64 _ (blockOf_length _)))) ?_
      refine seq_run (v := .bool false) (by decide) (by kernel_rfl) (fun w' M' => (run_value_bin .neq 30 _ (.tmp 33) (.tmp 34) rfl (.agg (iv (blockOf l0))) (.agg (iv (blockOf l0))) _ (by kernel_rfl) (by kernel_rfl) (by kernel_rfl) (neq_same w' (blockOf l0) (blockOf_length _)))) ?_
      refine seq_run (v := .bool false) (by decide) (by kernel_rfl) (fun w' M' => (by kernel_rfl)) ?_
      refine seq_run (v := .bool false) (by decide) (by kernel_rfl) (fun w' M' => (by kernel_rfl)) ?_
      refine seq_run (v := .agg (iv (blockOf l0))) (by decide) (by kernel_rfl) (fun w' M' => (run_load_row 30 (.tmp 3) rfl g5 (by kernel_rfl) 30 (iv (blockOf l0)) (0, 0) _ (M'.get 1 rfl) Try.underlying30 rfl (info64 _ (blockOf_length _)))) ?_
      refine seq_run (v := .bool false) (by decide) (by kernel_rfl) (fun w' M' => (by kernel_rfl)) ?_
      refine seq_call (v := .agg (iv (frS false (blockOf l0)))) (f := 34) (args := #[.agg (iv (blockOf l0)), .bool false]) (by decide) (by kernel_rfl) (fun w' M' => (run_value_call 34 #[(Operand.tmp 38), (Operand.tmp 39)] _ rfl Try.func34 (by kernel_rfl) (by kernel_rfl) _ (by kernel_rfl))) (fun w' M' => callB_mem M' (fromScan_false w' (blockOf l0) (blockOf_length _))) ?_
      refine seq_run (v := .agg (iv (blockOf l0))) (by decide) (by kernel_rfl) (fun w' M' => (run_load_row 30 (.tmp 3) rfl g5 (by kernel_rfl) 30 (iv (blockOf l0)) (0, 0) _ (M'.get 1 rfl) Try.underlying30 rfl (info64 _ (blockOf_length _)))) ?_
      refine seq_run (v := .bool false) (by decide) (by kernel_rfl) (fun w' M' => (by kernel_rfl)) ?_
      refine seq_call (v := .agg (iv (frS false (blockOf l0)))) (f := 35) (args := #[.agg (iv (blockOf l0)), .bool false]) (by decide) (by kernel_rfl) (fun w' M' => (run_value_call 35 #[(Operand.tmp 41), (Operand.tmp 42)] _ rfl Try.func35 (by kernel_rfl) (by kernel_rfl) _ (by kernel_rfl))) (fun w' M' => callB_mem M' (refFromScan_false w' (blockOf l0) (blockOf_length _))) ?_
      refine seq_run (v := .bool false) (by decide) (by kernel_rfl) (fun w' M' => (run_value_bin .neq 30 _ (.tmp 40) (.tmp 43) rfl (.agg (iv (frS false (blockOf l0)))) (.agg (iv (frS false (blockOf l0)))) _ (by kernel_rfl) (by kernel_rfl) (by kernel_rfl) (neq_same w' (frS false (blockOf l0)) (tab_length _ _)))) ?_
      refine seq_run (v := .bool false) (by decide) (by kernel_rfl) (fun w' M' => (by kernel_rfl)) ?_
      refine seq_end (by decide) ?_
      intro W40 M41
      refine wl_nil ?_
      refine hK39 _ _ ?_
      try clear hK39 K39
      refine wp_frame (a' := ⟨#[v0, undef, (u12 2), .pointer (some ⟨g5, 0, none⟩), .int .i64 (n : Int), .bool false, .pointer (some ⟨g34, 0, none⟩), v0, .agg (iv (blockOf l0)), .int .i64 (n : Int), .bool true, (u12 11), (u12 12), .int .i64 (n : Int), .bool false, .agg (iv (blockOf l0)), .bool false, .agg (iv (toS false (blockOf l0))), .bool false, .agg (iv (scL false)), .bool false, .agg (iv (scL false)), .bool false, .bool false, .agg (iv (toS false (blockOf l0))), .agg (iv (blockOf l0)), .bool false, .agg (iv (toS false (blockOf l0))), .bool false, .bool false, .bool false, .agg (iv (toS false (blockOf l0))), .bool false, .agg (iv (blockOf l0)), .agg (iv (blockOf l0)), .bool false, .bool false, .bool false, .agg (iv (blockOf l0)), .bool false, .agg (iv (frS false (blockOf l0))), .agg (iv (blockOf l0)), .bool false, .agg (iv (frS false (blockOf l0))), .bool false, .bool false, undef, undef, undef, undef, undef, undef, undef, undef, undef, undef, undef], []⟩) (by kernel_rfl) ?_
      refine wp_cond_false (by kernel_rfl) ?_
      refine wp_skip ?_
      refine blk_normal ?_
      refine hK17 _ _ ?_
      try clear hK17 K17
      refine wl_region ?_
      refine st_val (.int .i64 (n : Int)) (by kernel_rfl) (by kernel_rfl) ?_
      refine st_val (.int .i64 ((n : Int) + 1)) (by kernel_rfl) (i64_of (by omega) (by kernel_rfl)) ?_
      refine st_val (.int .i64 ((n : Int) + 1)) (by kernel_rfl) (by kernel_rfl) ?_
      refine wl_nil ?_
      refine th_normal ?_
      have M42 : Mem NoS w W40 [(g5, .cells (iv (blockOf l0)) 30 (0, 0))] := M41.sub (((List.Sublist.refl []).cons_cons _).cons _)
      exact ⟨_, by omega, (n + 1), (fun zz => Array.getD #[undef, undef, (u12 2), undef, undef, .bool false, .pointer (some ⟨g34, 0, none⟩), undef, undef, .int .i64 (n : Int), .bool true, .int .i64 (n : Int), .int .i64 ((n : Int) + 1), .int .i64 (n : Int), .bool false, .agg (iv (blockOf l0)), .bool false, .agg (iv (toS false (blockOf l0))), .bool false, .agg (iv (scL false)), .bool false, .agg (iv (scL false)), .bool false, .bool false, .agg (iv (toS false (blockOf l0))), .agg (iv (blockOf l0)), .bool false, .agg (iv (toS false (blockOf l0))), .bool false, .bool false, .bool false, .agg (iv (toS false (blockOf l0))), .bool false, .agg (iv (blockOf l0)), .agg (iv (blockOf l0)), .bool false, .bool false, .bool false, .agg (iv (blockOf l0)), .bool false, .agg (iv (frS false (blockOf l0))), .agg (iv (blockOf l0)), .bool false, .agg (iv (frS false (blockOf l0))), .bool false, .bool false] zz undef), ⟨by omega, M42⟩, rfl, (by kernel_rfl)⟩
  ·
    refine st_val (.bool false) (by kernel_rfl) (bool_of (dec_f c10) (by kernel_rfl)) ?_
    refine wl_nil ?_
    refine hK16 _ _ ?_
    try clear hK16 K16
    refine wp_cond_false (by kernel_rfl) ?_
    refine wp_exit ?_
    refine th_exit ?_
    refine th_exit ?_
    refine blk_exit ?_
    refine hK10 _ _ ?_
    try clear hK10 K10
    refine wp_seq_k (fun K43 hK43 => ?_)
    refine wl_region ?_
    refine st_callB M14 (.bool true) (by kernel_rfl) (args := #[]) (run_value_call 14 #[] _ rfl Try.func14 (by kernel_rfl) (by kernel_rfl) _ (by kernel_rfl)) (awake_walk W13) ?_
    intro W44 M45
    refine st_val (.bool true) (by kernel_rfl) (by kernel_rfl) ?_
    refine st_callB M45 (.agg (bv intraL)) (by kernel_rfl) (args := #[]) (run_value_call 36 #[] _ rfl Try.func36 (by kernel_rfl) (by kernel_rfl) _ (by kernel_rfl)) (intra_walk W44) ?_
    intro W46 M47
    refine st_callB M47 (.agg (bv intraL)) (by kernel_rfl) (args := #[]) (run_value_call 37 #[] _ rfl Try.func37 (by kernel_rfl) (by kernel_rfl) _ (by kernel_rfl)) (refIntra_walk W46) ?_
    intro W48 M49
    refine st_val (.bool true) (by kernel_rfl) (run_value_bin .eql 23 _ (.tmp 48) (.tmp 49) rfl (.agg (bv intraL)) (.agg (bv intraL)) _ (by kernel_rfl) (by kernel_rfl) (by kernel_rfl) (eqlB_same W48 intraL intraL_length)) ?_
    refine st_val (.bool true) (by kernel_rfl) (by kernel_rfl) ?_
    refine st_val (.bool true) (by kernel_rfl) (by kernel_rfl) ?_
    refine st_callB M49 (.agg (bv flat)) (by kernel_rfl) (args := #[]) (run_value_call 38 #[] _ rfl Try.func38 (by kernel_rfl) (by kernel_rfl) _ (by kernel_rfl)) (defInter_walk W48) ?_
    intro W50 M51
    refine st_callB M51 (.agg (bv flat)) (by kernel_rfl) (args := #[]) (run_value_call 39 #[] _ rfl Try.func39 (by kernel_rfl) (by kernel_rfl) _ (by kernel_rfl)) (refInter_walk W50) ?_
    intro W52 M53
    refine st_val (.bool true) (by kernel_rfl) (run_value_bin .eql 23 _ (.tmp 53) (.tmp 54) rfl (.agg (bv flat)) (.agg (bv flat)) _ (by kernel_rfl) (by kernel_rfl) (by kernel_rfl) (eqlB_same W52 flat (tab_length _ _))) ?_
    refine st_val (.bool true) (by kernel_rfl) (by kernel_rfl) ?_
    refine st_val (.bool true) (by kernel_rfl) (by kernel_rfl) ?_
    refine wl_nil ?_
    refine hK43 _ _ ?_
    try clear hK43 K43
    refine wp_frame (a' := ⟨#[v0, undef, .bool true, .pointer (some ⟨g5, 0, none⟩), .int .i64 (n : Int), (u12 5), (u12 6), v0, .agg (iv (blockOf l0)), .int .i64 (n : Int), .bool false, (u12 11), (u12 12), (u12 13), (u12 14), (u12 15), (u12 16), (u12 17), (u12 18), (u12 19), (u12 20), (u12 21), (u12 22), (u12 23), (u12 24), (u12 25), (u12 26), (u12 27), (u12 28), (u12 29), (u12 30), (u12 31), (u12 32), (u12 33), (u12 34), (u12 35), (u12 36), (u12 37), (u12 38), (u12 39), (u12 40), (u12 41), (u12 42), (u12 43), (u12 44), (u12 45), .bool true, .bool true, .agg (bv intraL), .agg (bv intraL), .bool true, .bool true, .bool true, .agg (bv flat), .agg (bv flat), .bool true, .bool true], []⟩) (by kernel_rfl) ?_
    refine wp_ret ?_
    exact done1 2 (.bool true) (by kernel_rfl) (by kernel_rfl) (by kernel_rfl) ⟨rfl, M53.toBelow⟩
end Go.Proofs.Ytjclncmpfdfkfaa
