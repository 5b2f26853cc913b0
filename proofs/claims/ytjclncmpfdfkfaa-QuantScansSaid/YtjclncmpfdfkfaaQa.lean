/- The sanity check of the laws of quantisation. -/
import Derived.Test.YtjclncmpfdfkfaaQd
import Derived.Test.YtjclncmpfdfkfaaQm
namespace Go.Proofs.Ytjclncmpfdfkfaa
open Go.RowKit

def y0 : List Int := zeros.set 0 256
theorem y0_length : y0.length = 64 := by unfold y0; rw [List.length_set]; exact zeros_length
theorem flat_BL : BL flat := by
  intro n hn
  unfold flat
  rw [tab_getD _ _ _ hn]; omega
theorem y0_in : ∀ n, n < 64 → -9223372036854775808 ≤ y0.getD n 0 ∧ y0.getD n 0 ≤ 9223372036854775807 := by
  have h : ((List.range 64).all fun n => decide (-9223372036854775808 ≤ y0.getD n 0 ∧ y0.getD n 0 ≤ 9223372036854775807)) = true := by decide +kernel
  rw [List.all_eq_true] at h
  exact fun n hn => of_decide_eq_true (h n (List.mem_range.2 hn))
theorem fit_flat : Fit flat 1 := ⟨by decide +kernel, by omega, by omega⟩
theorem awk : qE y0 flat 1 = 0 ∧ (qL y0 flat 1).getD 0 0 = 1 := by
  have h : ((List.range 64).all fun k => decide (-4095 ≤ qlev y0 flat 1 k ∧ qlev y0 flat 1 k ≤ 4095)) = true := by decide +kernel
  rw [List.all_eq_true] at h
  have hg := q_good (y := y0) fit_flat (fun k hk => by have := of_decide_eq_true (h k (List.mem_range.2 hk)); exact this)
  refine ⟨hg.2, ?_⟩
  rw [hg.1, tab_getD _ _ _ (by omega)]
  decide +kernel
set_option maxHeartbeats 4000000 in
set_option maxRecDepth 100000 in
theorem awake_walk (w : World) : Calls Try.prog 14 #[] w fun e w' => e = .returned (.bool true) ∧ Below w.heap.size w w' := by
  refine calls_of_wp Try.func14 rfl ?_
  refine wp_frame (a' := ⟨#[undef, undef, undef, undef, undef, undef, undef, undef, undef, undef, undef, undef, undef, undef, undef, undef, undef, undef, undef, undef, undef, undef], []⟩) (by kernel_rfl) ?_
  have M0 : Mem NoS w w [] := Mem.start _ _
  refine wp_seq_k (fun K1 hK1 => ?_)
  refine wl_region ?_
  refine st_val (.bool false) (by kernel_rfl) (by kernel_rfl) ?_
  refine wl_nil ?_
  refine hK1 _ _ ?_
  try clear hK1 K1
  refine wp_seq_k (fun K2 hK2 => ?_)
  refine wl_region ?_
  refine st_alloc M0 (.cells (iv zeros) 30 (0, 0)) (by kernel_rfl) (by kernel_rfl) ?_
  intro g3 W4 M5
  refine wl_nil ?_
  refine hK2 _ _ ?_
  try clear hK2 K2
  refine wp_seq_k (fun K6 hK6 => ?_)
  refine wl_region ?_
  refine st_val (.pointer (some ⟨g3, 0, none⟩)) (by kernel_rfl) (run_indexAddr 30 (.tmp 1) _ rfl ⟨g3, 0, none⟩ .i64 0 (by kernel_rfl) (by kernel_rfl) Try.underlying30 1 (by kernel_rfl) (by omega) ⟨g3, 0, none⟩ (addr_at0 _ _)) ?_
  refine st_storeCell M5 0 rfl 3 (.tmp 4) _ (by rfl) 0 (.int .i64 256) (iv y0) (by kernel_rfl) (by kernel_rfl) (by rw [iv_size, zeros_length]; omega) (by kernel_rfl) rfl (by kernel_rfl) (iv_set _ _ _) (by kernel_rfl) [(g3, .cells (iv y0) 30 (0, 0))] rfl ?_
  intro W7 M8
  refine wl_nil ?_
  refine hK6 _ _ ?_
  try clear hK6 K6
  refine wp_seq_k (fun K9 hK9 => ?_)
  refine wl_seqA M8 7 [5] [.agg (iv y0), .agg (bv flat), .tuple #[.agg (iv (qL y0 flat 1)), .int .i64 0], .tuple #[.agg (iv (qL y0 flat 1)), .int .i64 0], .agg (iv (qL y0 flat 1)), .int .i64 0, undef] [(6, .cells (iv zeros) 30 (0, 0))] (by decide) (by kernel_rfl) (by kernel_rfl) (fun d _ _ _ _ h => by cases d <;> exact h) rfl rfl (by decide) (fun G10 => ?_)
  refine sqa_run (.agg (iv y0)) (by decide) rfl rfl rfl (by kernel_rfl) (fun w' M' => (run_load_row 30 (.tmp 1) rfl g3 (by kernel_rfl) 30 (iv y0) (0, 0) _ (M'.get 0 rfl) Try.underlying30 rfl (info64 _ y0_length))) ?_
  refine sqa_call (.agg (bv flat)) (f := 38) (args := #[]) (by decide) rfl rfl rfl (by kernel_rfl) (fun w' M' => (run_value_call 38 #[] _ rfl Try.func38 (by kernel_rfl) (by kernel_rfl) _ (by kernel_rfl))) (fun w' M' => defInter_walk w') ?_
  refine sqa_call (.tuple #[.agg (iv (qL y0 flat 1)), .int .i64 0]) (f := 19) (args := #[.agg (iv y0), .agg (bv flat), .int .i64 1]) (by decide) rfl rfl rfl (by kernel_rfl) (fun w' M' => (run_value_call 19 #[(Operand.tmp 6), (Operand.tmp 7), (Operand.const (Value.int IntKind.i64 1))] _ rfl Try.func19 (by kernel_rfl) (by kernel_rfl) _ (by kernel_rfl))) (fun w' M' => (by have := quantise_walk w' y0 flat 1 y0_length (tab_length _ _) flat_BL y0_in; rw [awk.1] at this; exact this)) ?_
  refine sqa_run (.tuple #[.agg (iv (qL y0 flat 1)), .int .i64 0]) (by decide) rfl rfl rfl (by kernel_rfl) (fun w' M' => (by kernel_rfl)) ?_
  refine sqa_run (.agg (iv (qL y0 flat 1))) (by decide) rfl rfl rfl (by kernel_rfl) (fun w' M' => (by kernel_rfl)) ?_
  refine sqa_late (.int .i64 0) (by decide) rfl rfl (by kernel_rfl) (fun w' => (by kernel_rfl)) ?_
  refine sqa_alloc (.cells (iv zeros) 30 (0, 0)) (by decide) rfl rfl rfl (fun w' => by kernel_rfl) ?_
  refine sqa_end (by decide) ?_
  intro W11 M12
  refine st_storeRow M12 0 rfl 30 (.tmp 2) (.tmp 9) (by rfl) (iv (qL y0 flat 1)) (by kernel_rfl) (by kernel_rfl) (info64 _ (qL_length _ _ _)) (iv_same (qL_length _ _ _) zeros_length) (iv_one _) (by kernel_rfl) [((G10 6), .cells (iv (qL y0 flat 1)) 30 (0, 0)), (g3, .cells (iv y0) 30 (0, 0))] rfl ?_
  intro W13 M14
  refine st_val (.int .i64 0) (by kernel_rfl) (by kernel_rfl) ?_
  refine wl_nil ?_
  refine hK9 _ _ ?_
  try clear hK9 K9
  refine wp_seq_k (fun K15 hK15 => ?_)
  refine wl_region ?_
  refine st_val (.int .i64 0) (by kernel_rfl) (by kernel_rfl) ?_
  refine st_val (.bool true) (by kernel_rfl) (by kernel_rfl) ?_
  refine st_val (.bool true) (by kernel_rfl) (by kernel_rfl) ?_
  refine st_val (.pointer (some ⟨(G10 6), 0, none⟩)) (by kernel_rfl) (run_indexAddr 30 (.tmp 2) _ rfl ⟨(G10 6), 0, none⟩ .i64 0 (by kernel_rfl) (by kernel_rfl) Try.underlying30 1 (by kernel_rfl) (by omega) ⟨(G10 6), 0, none⟩ (addr_at0 _ _)) ?_
  refine st_val (.int .i64 ((qL y0 flat 1).getD 0 0)) (by kernel_rfl) (run_load_cell 3 (.tmp 14) rfl ⟨(G10 6), 0, none⟩ (by kernel_rfl) _ (M14.cell 0 rfl 0 _ (iv_get (qL y0 flat 1) 0 (by rw [(qL_length _ _ _)]; omega))) (by kernel_rfl)) ?_
  refine st_val (.bool true) (by kernel_rfl) (bool_of (dec_t (show ((qL y0 flat 1).getD 0 0 : Int) = 1 from awk.2)) (by kernel_rfl)) ?_
  refine st_val (.bool true) (by kernel_rfl) (by kernel_rfl) ?_
  refine st_val (.bool true) (by kernel_rfl) (by kernel_rfl) ?_
  refine st_callB M14 (.int .i64 1152) (by kernel_rfl) (args := #[.int .i64 16, .int .i64 2, .int .i64 9]) (run_value_call 15 #[(Operand.const (Value.int IntKind.i64 16)), (Operand.const (Value.int IntKind.i64 2)), (Operand.const (Value.int IntKind.i64 9))] _ rfl Try.func15 (by kernel_rfl) (by kernel_rfl) _ (by kernel_rfl)) (step_in W13 16 2 9 (by omega) (by omega) (by omega) (by omega) (by omega)) ?_
  intro W16 M17
  refine st_val (.bool true) (by kernel_rfl) (by kernel_rfl) ?_
  refine st_val (.bool true) (by kernel_rfl) (by kernel_rfl) ?_
  refine st_val (.bool true) (by kernel_rfl) (by kernel_rfl) ?_
  refine wl_nil ?_
  refine hK15 _ _ ?_
  try clear hK15 K15
  refine wp_frame (a' := ⟨#[.bool true, .pointer (some ⟨g3, 0, none⟩), .pointer (some ⟨(G10 6), 0, none⟩), .int .i64 0, .pointer (some ⟨g3, 0, none⟩), .tuple #[.agg (iv (qL y0 flat 1)), .int .i64 0], .agg (iv y0), .agg (bv flat), .tuple #[.agg (iv (qL y0 flat 1)), .int .i64 0], .agg (iv (qL y0 flat 1)), .int .i64 0, .int .i64 0, .bool true, .bool true, .pointer (some ⟨(G10 6), 0, none⟩), .int .i64 ((qL y0 flat 1).getD 0 0), .bool true, .bool true, .bool true, .int .i64 1152, .bool true, .bool true], []⟩) (by kernel_rfl) ?_
  refine wp_ret ?_
  exact done1 0 (.bool true) (by kernel_rfl) (by kernel_rfl) (by kernel_rfl) ⟨rfl, M17.toBelow⟩
end Go.Proofs.Ytjclncmpfdfkfaa
