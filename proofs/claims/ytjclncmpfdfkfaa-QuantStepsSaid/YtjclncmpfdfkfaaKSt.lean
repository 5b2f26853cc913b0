/- The walk of the law QuantSteps. -/
import Derived.Test.YtjclncmpfdfkfaaQp
import Derived.Test.YtjclncmpfdfkfaaQa
import Derived.Test.YtjclncmpfdfkfaaEq
import Derived.Test.YtjclncmpfdfkfaaArgI
namespace Go.Proofs.Ytjclncmpfdfkfaa
open Go.RowKit
set_option maxHeartbeats 4000000 in
set_option maxRecDepth 100000 in
theorem QuantSteps_walk (w : World) (v0 : Value) (l0 : List Int) (hr0 : Rd w v0 (l0.map (Value.int .u8))) (hb0 : ∀ x ∈ l0, 0 ≤ x ∧ x < 256) (a : Int) (q : Int) (k : Int) : Calls Try.prog 3 #[v0, .int .i64 a, .int .i64 q, .int .i64 k] w fun e w' => e = .returned (.bool true) ∧ Below w.heap.size w w' := by
  refine calls_of_wp Try.func3 rfl ?_
  refine wp_frame (a' := ⟨#[v0, .int .i64 a, .int .i64 q, .int .i64 k, undef, undef, undef, undef, undef, undef, undef, undef, undef, undef, undef, undef, undef, undef, undef, undef, undef, undef, undef, undef, undef, undef, undef, undef, undef, undef, undef], []⟩) (by kernel_rfl) ?_
  have M0 : Mem NoS w w [] := Mem.start _ _
  refine wp_seq_k (fun K1 hK1 => ?_)
  refine wl_region ?_
  refine st_val (.bool false) (by kernel_rfl) (by kernel_rfl) ?_
  refine wl_nil ?_
  refine hK1 _ _ ?_
  try clear hK1 K1
  refine wp_seq_k (fun K2 hK2 => ?_)
  refine wl_region ?_
  refine st_val (v0) (by kernel_rfl) (by kernel_rfl) ?_
  refine st_callB M0 (.agg (bv (matOf l0))) (by kernel_rfl) (args := #[v0]) (run_value_call 13 #[(Operand.tmp 10)] _ rfl Try.func13 (by kernel_rfl) (by kernel_rfl) _ (by kernel_rfl)) (matrix_walk_ w v0 l0 (M0.rd hr0 (fun _ _ h => h))) ?_
  intro W3 M4
  refine st_alloc M4 (.cells (bv zeros) 23 (0, 0)) (by kernel_rfl) (by kernel_rfl) ?_
  intro g5 W6 M7
  refine st_storeRow M7 0 rfl 23 (.tmp 9) (.tmp 11) (by rfl) (bv (matOf l0)) (by kernel_rfl) (by kernel_rfl) (infoB64 _ (matOf_length _)) (bv_same (matOf_length _) zeros_length) (bv_one _) (by kernel_rfl) [(g5, .cells (bv (matOf l0)) 23 (0, 0))] rfl ?_
  intro W8 M9
  refine wl_nil ?_
  refine hK2 _ _ ?_
  try clear hK2 K2
  refine wp_seq_k (fun K10 hK10 => ?_)
  refine wl_seq 20 (fun w' => Mem NoS w w' [(g5, .cells (bv (matOf l0)) 23 (0, 0))]) (by decide) (by kernel_rfl) (by kernel_rfl) M9.drew ?_
  refine seq_call (v := .bool true) (f := 14) (args := #[]) (by decide) (by kernel_rfl) (fun w' M' => (run_value_call 14 #[] _ rfl Try.func14 (by kernel_rfl) (by kernel_rfl) _ (by kernel_rfl))) (fun w' M' => callB_mem M' (awake_walk w')) ?_
  refine seq_run (v := .bool true) (by decide) (by kernel_rfl) (fun w' M' => (by kernel_rfl)) ?_
  refine seq_run (v := .int .i64 a) (by decide) (by kernel_rfl) (fun w' M' => (by kernel_rfl)) ?_
  refine seq_run (v := .int .i64 q) (by decide) (by kernel_rfl) (fun w' M' => (by kernel_rfl)) ?_
  refine seq_run (v := .int .i64 k) (by decide) (by kernel_rfl) (fun w' M' => (by kernel_rfl)) ?_
  refine seq_call (v := .int .i64 (stpI a q k)) (f := 15) (args := #[.int .i64 a, .int .i64 q, .int .i64 k]) (by decide) (by kernel_rfl) (fun w' M' => (run_value_call 15 #[(Operand.tmp 14), (Operand.tmp 15), (Operand.tmp 16)] _ rfl Try.func15 (by kernel_rfl) (by kernel_rfl) _ (by kernel_rfl))) (fun w' M' => callB_mem M' (step_walk w' a q k)) ?_
  refine seq_run (v := .int .i64 a) (by decide) (by kernel_rfl) (fun w' M' => (by kernel_rfl)) ?_
  refine seq_run (v := .int .i64 q) (by decide) (by kernel_rfl) (fun w' M' => (by kernel_rfl)) ?_
  refine seq_run (v := .int .i64 k) (by decide) (by kernel_rfl) (fun w' M' => (by kernel_rfl)) ?_
  refine seq_call (v := .int .i64 (stpI a q k)) (f := 16) (args := #[.int .i64 a, .int .i64 q, .int .i64 k]) (by decide) (by kernel_rfl) (fun w' M' => (run_value_call 16 #[(Operand.tmp 18), (Operand.tmp 19), (Operand.tmp 20)] _ rfl Try.func16 (by kernel_rfl) (by kernel_rfl) _ (by kernel_rfl))) (fun w' M' => callB_mem M' (refStep_walk w' a q k)) ?_
  refine seq_run (v := .bool true) (by decide) (by kernel_rfl) (fun w' M' => (bool_of (dec_t (show (stpI a q k : Int) = stpI a q k from rfl)) (by kernel_rfl))) ?_
  refine seq_run (v := .bool true) (by decide) (by kernel_rfl) (fun w' M' => (by kernel_rfl)) ?_
  refine seq_run (v := .bool true) (by decide) (by kernel_rfl) (fun w' M' => (by kernel_rfl)) ?_
  refine seq_run (v := .agg (bv (matOf l0))) (by decide) (by kernel_rfl) (fun w' M' => (run_load_row 23 (.tmp 9) rfl g5 (by kernel_rfl) 23 (bv (matOf l0)) (0, 0) _ (M'.get 0 rfl) Try.underlying23 rfl (infoB64 _ (matOf_length _)))) ?_
  refine seq_call (v := .bool (vB (matOf l0))) (f := 17) (args := #[.agg (bv (matOf l0))]) (by decide) (by kernel_rfl) (fun w' M' => (run_value_call 17 #[(Operand.tmp 25)] _ rfl Try.func17 (by kernel_rfl) (by kernel_rfl) _ (by kernel_rfl))) (fun w' M' => callB_mem M' (valid_walk w' (matOf l0) (matOf_length _) (matOf_BL hb0))) ?_
  refine seq_run (v := .agg (bv (matOf l0))) (by decide) (by kernel_rfl) (fun w' M' => (run_load_row 23 (.tmp 9) rfl g5 (by kernel_rfl) 23 (bv (matOf l0)) (0, 0) _ (M'.get 0 rfl) Try.underlying23 rfl (infoB64 _ (matOf_length _)))) ?_
  refine seq_call (v := .bool (vB (matOf l0))) (f := 18) (args := #[.agg (bv (matOf l0))]) (by decide) (by kernel_rfl) (fun w' M' => (run_value_call 18 #[(Operand.tmp 27)] _ rfl Try.func18 (by kernel_rfl) (by kernel_rfl) _ (by kernel_rfl))) (fun w' M' => callB_mem M' (refValid_walk w' (matOf l0) (matOf_length _))) ?_
  refine seq_run (v := .bool true) (by decide) (by kernel_rfl) (fun w' M' => (bool_of (show ((vB (matOf l0)) == (vB (matOf l0))) = true from beq_self_eq_true _) (by kernel_rfl))) ?_
  refine seq_run (v := .bool true) (by decide) (by kernel_rfl) (fun w' M' => (by kernel_rfl)) ?_
  refine seq_run (v := .bool true) (by decide) (by kernel_rfl) (fun w' M' => (by kernel_rfl)) ?_
  refine seq_end (by decide) ?_
  intro W11 M12
  refine wl_nil ?_
  refine hK10 _ _ ?_
  try clear hK10 K10
  refine wp_frame (a' := ⟨#[v0, .int .i64 a, .int .i64 q, .int .i64 k, undef, undef, undef, undef, .bool true, .pointer (some ⟨g5, 0, none⟩), v0, .agg (bv (matOf l0)), .bool true, .bool true, .int .i64 a, .int .i64 q, .int .i64 k, .int .i64 (stpI a q k), .int .i64 a, .int .i64 q, .int .i64 k, .int .i64 (stpI a q k), .bool true, .bool true, .bool true, .agg (bv (matOf l0)), .bool (vB (matOf l0)), .agg (bv (matOf l0)), .bool (vB (matOf l0)), .bool true, .bool true], []⟩) (by kernel_rfl) ?_
  refine wp_ret ?_
  exact done1 8 (.bool true) (by kernel_rfl) (by kernel_rfl) (by kernel_rfl) ⟨rfl, M12.toBelow⟩
end Go.Proofs.Ytjclncmpfdfkfaa
