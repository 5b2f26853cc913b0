/- Take with arguments that are refused. -/
import Derived.Test.YtmchfkkifeioeaaB9t
namespace Go.Proofs.Ytmchfkkifeioeaa
open Go.RowKit Bt
set_option maxHeartbeats 4000000 in
set_option maxRecDepth 100000 in
theorem btake_nil (w : World) (fr : Int) : Calls Try.prog 18 #[.pointer none, .int .i64 fr] w fun e w' => e = .returned (.tuple #[.agg (iv zeros), .int .i64 1]) ∧ Below w.heap.size w w' := by
  refine calls_of_wp Try.func18 rfl ?_
  refine wp_frame (a' := ⟨#[.pointer none, .int .i64 fr, undef, undef, undef, undef, undef, undef, undef, undef, undef, undef, undef, undef, undef, undef, undef, undef, undef, undef, undef, undef, undef, undef, undef, undef, undef, undef, undef, undef, undef, undef, undef, undef, undef, undef, undef, undef, undef, undef, undef, undef, undef, undef, undef, undef, undef, undef, undef, undef, undef, undef, undef, undef, undef, undef, undef, undef], []⟩) (by kernel_rfl) ?_
  have M0 : Mem NoS w w [] := Mem.start _ _
  refine wp_seq_k (fun K1 hK1 => ?_)
  refine wl_region ?_
  refine st_alloc M0 (.cells (iv zeros) 23 (0, 0)) (by kernel_rfl) (by kernel_rfl) ?_
  intro g2 W3 M4
  refine st_alloc M4 (.cells #[.int .i64 0] 27 (0, 0)) (by kernel_rfl) (by kernel_rfl) ?_
  intro g5 W6 M7
  refine wl_nil ?_
  refine hK1 _ _ ?_
  try clear hK1 K1
  refine wp_seq_k (fun K8 hK8 => ?_)
  refine wp_seq_k (fun K9 hK9 => ?_)
  refine wl_region ?_
  refine st_val (.pointer none) (by kernel_rfl) (by kernel_rfl) ?_
  refine st_val (.bool true) (by kernel_rfl) (by kernel_rfl) ?_
  refine st_val (.bool true) (by kernel_rfl) (by kernel_rfl) ?_
  refine st_skip (by kernel_rfl) ?_
  refine st_skip (by kernel_rfl) ?_
  refine st_skip (by kernel_rfl) ?_
  refine st_val (.bool true) (by kernel_rfl) (by kernel_rfl) ?_
  refine wl_nil ?_
  refine hK9 _ _ ?_
  try clear hK9 K9
  refine wp_cond_true (by kernel_rfl) ?_
  refine wp_seq_k (fun K10 hK10 => ?_)
  refine wl_region ?_
  refine st_val (.agg (iv zeros)) (by kernel_rfl) (run_load_row 23 (.tmp 4) rfl g2 (by kernel_rfl) 23 (iv zeros) (0, 0) _ (M7.get 1 rfl) Try.underlying23 rfl (info64 _ zeros_length)) ?_
  refine st_storeRow M7 1 rfl 23 (.tmp 4) (.tmp 17) (by rfl) (iv zeros) (by kernel_rfl) (by kernel_rfl) (info64 _ zeros_length) (iv_same zeros_length zeros_length) (iv_one _) (by kernel_rfl) [(g5, .cells #[.int .i64 0] 27 (0, 0)), (g2, .cells (iv zeros) 23 (0, 0))] rfl ?_
  intro W11 M12
  refine st_storeCell M12 0 rfl 27 (.tmp 5) _ (by rfl) 0 (.int .i64 1) #[.int .i64 1] (by kernel_rfl) (by kernel_rfl) (show 0 < 1 by decide) (by kernel_rfl) rfl (by kernel_rfl) rfl (by kernel_rfl) [(g5, .cells #[.int .i64 1] 27 (0, 0)), (g2, .cells (iv zeros) 23 (0, 0))] rfl ?_
  intro W13 M14
  refine wl_nil ?_
  refine hK10 _ _ ?_
  try clear hK10 K10
  refine wp_ret ?_
  refine th_ret ?_
  exact ⟨rfl, _, results_row_cell rfl _ _ g2 23 (iv zeros) (0, 0) _ (by kernel_rfl) (M14.get 1 rfl) Try.underlying23 rfl (info64 _ zeros_length) ⟨g5, 0, none⟩ (.int .i64 1) (by kernel_rfl) (M14.cell 0 rfl 0 _ rfl) (by kernel_rfl), rfl, M14.toBelow⟩
set_option maxHeartbeats 4000000 in
set_option maxRecDepth 100000 in
theorem btake_arg (w : World) (g : Nat) (fr : Int) (hfr : ¬ (fr = 0 ∨ fr = 1)) : Calls Try.prog 18 #[.pointer (some ⟨g, 0, none⟩), .int .i64 fr] w fun e w' => e = .returned (.tuple #[.agg (iv zeros), .int .i64 1]) ∧ Below w.heap.size w w' := by
  refine calls_of_wp Try.func18 rfl ?_
  refine wp_frame (a' := ⟨#[.pointer (some ⟨g, 0, none⟩), .int .i64 fr, undef, undef, undef, undef, undef, undef, undef, undef, undef, undef, undef, undef, undef, undef, undef, undef, undef, undef, undef, undef, undef, undef, undef, undef, undef, undef, undef, undef, undef, undef, undef, undef, undef, undef, undef, undef, undef, undef, undef, undef, undef, undef, undef, undef, undef, undef, undef, undef, undef, undef, undef, undef, undef, undef, undef, undef], []⟩) (by kernel_rfl) ?_
  have M0 : Mem NoS w w [] := Mem.start _ _
  refine wp_seq_k (fun K1 hK1 => ?_)
  refine wl_region ?_
  refine st_alloc M0 (.cells (iv zeros) 23 (0, 0)) (by kernel_rfl) (by kernel_rfl) ?_
  intro g2 W3 M4
  refine st_alloc M4 (.cells #[.int .i64 0] 27 (0, 0)) (by kernel_rfl) (by kernel_rfl) ?_
  intro g5 W6 M7
  refine wl_nil ?_
  refine hK1 _ _ ?_
  try clear hK1 K1
  refine wp_seq_k (fun K8 hK8 => ?_)
  refine wp_seq_k (fun K9 hK9 => ?_)
  refine wl_region ?_
  refine st_val (.pointer (some ⟨g, 0, none⟩)) (by kernel_rfl) (by kernel_rfl) ?_
  refine st_val (.bool false) (by kernel_rfl) (by kernel_rfl) ?_
  refine st_val (.bool false) (by kernel_rfl) (by kernel_rfl) ?_
  refine st_val (.int .i64 fr) (by kernel_rfl) (by kernel_rfl) ?_
  refine st_callB M7 (.bool false) (by kernel_rfl) (args := #[.int .i64 fr]) (run_value_call 24 #[(Operand.tmp 13)] _ rfl Try.func24 (by kernel_rfl) (by kernel_rfl) _ (by kernel_rfl)) ((by have := start_walk W6 fr; rw [decide_eq_false hfr] at this; exact this)) ?_
  intro W10 M11
  refine st_val (.bool true) (by kernel_rfl) (by kernel_rfl) ?_
  refine st_val (.bool true) (by kernel_rfl) (by kernel_rfl) ?_
  refine wl_nil ?_
  refine hK9 _ _ ?_
  try clear hK9 K9
  refine wp_cond_true (by kernel_rfl) ?_
  refine wp_seq_k (fun K12 hK12 => ?_)
  refine wl_region ?_
  refine st_val (.agg (iv zeros)) (by kernel_rfl) (run_load_row 23 (.tmp 4) rfl g2 (by kernel_rfl) 23 (iv zeros) (0, 0) _ (M11.get 1 rfl) Try.underlying23 rfl (info64 _ zeros_length)) ?_
  refine st_storeRow M11 1 rfl 23 (.tmp 4) (.tmp 17) (by rfl) (iv zeros) (by kernel_rfl) (by kernel_rfl) (info64 _ zeros_length) (iv_same zeros_length zeros_length) (iv_one _) (by kernel_rfl) [(g5, .cells #[.int .i64 0] 27 (0, 0)), (g2, .cells (iv zeros) 23 (0, 0))] rfl ?_
  intro W13 M14
  refine st_storeCell M14 0 rfl 27 (.tmp 5) _ (by rfl) 0 (.int .i64 1) #[.int .i64 1] (by kernel_rfl) (by kernel_rfl) (show 0 < 1 by decide) (by kernel_rfl) rfl (by kernel_rfl) rfl (by kernel_rfl) [(g5, .cells #[.int .i64 1] 27 (0, 0)), (g2, .cells (iv zeros) 23 (0, 0))] rfl ?_
  intro W15 M16
  refine wl_nil ?_
  refine hK12 _ _ ?_
  try clear hK12 K12
  refine wp_ret ?_
  refine th_ret ?_
  exact ⟨rfl, _, results_row_cell rfl _ _ g2 23 (iv zeros) (0, 0) _ (by kernel_rfl) (M16.get 1 rfl) Try.underlying23 rfl (info64 _ zeros_length) ⟨g5, 0, none⟩ (.int .i64 1) (by kernel_rfl) (M16.cell 0 rfl 0 _ rfl) (by kernel_rfl), rfl, M16.toBelow⟩
theorem btake_bad {L : List Nat} {pos n f : Nat} {x : List Int} : True := trivial
end Go.Proofs.Ytmchfkkifeioeaa
