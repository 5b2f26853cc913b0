/- The walk of the law TransformClamped. -/
import Derived.Test.YtpjhehpgpfomjaaAw
import Derived.Test.YtpjhehpgpfomjaaAlg
namespace Go.Proofs.Ytpjhehpgpfomjaa
open Go.RowKit

def clmid (l : List Int) (k : Nat) (n : Nat) : Int := if n < k then max (-2097152) (min ((blockOf l).getD n 0) 2097152) else (blockOf l).getD n 0
theorem clmid_zero (l : List Int) : tab 64 (clmid l 0) = blockOf l := by
  refine Eq.trans (tab_congr fun n hn => ?_) (tab_self (blockOf l) 64 (blockOf_length l))
  unfold clmid
  rw [if_neg (by omega)]
theorem clmid_next (l : List Int) (k : Nat) (hk : k < 64) : (tab 64 (clmid l k)).set k (max (-2097152) (min ((blockOf l).getD k 0) 2097152)) = tab 64 (clmid l (k + 1)) := by
  rw [tab_set]
  refine tab_congr fun n hn => ?_
  unfold clmid
  by_cases e : n = k
  · subst e; rw [if_pos rfl, if_pos (by omega)]
  · rw [if_neg e]
    by_cases e2 : n < k
    · rw [if_pos e2, if_pos (by omega)]
    · rw [if_neg e2, if_neg (by omega)]
theorem clmid_end (l : List Int) (k : Nat) (hk : k = 64) : ∀ n, n < 64 → cl ((tab 64 (clmid l k)).getD n 0) = cl ((blockOf l).getD n 0) := by
  intro n hn
  subst hk
  rw [tab_getD _ _ _ hn]
  unfold clmid cl
  rw [if_pos hn]
  omega

set_option maxHeartbeats 4000000 in
set_option maxRecDepth 100000 in
theorem TransformClamped_walk (w : World) (v0 : Value) (l0 : List Int) (hr0 : Rd w v0 (l0.map (Value.int .i64))) : Calls Try.prog 9 #[v0] w fun e w' => e = .returned (.bool true) ∧ Below w.heap.size w w' := by
  refine calls_of_wp Try.func9 rfl ?_
  refine wp_frame (a' := ⟨#[v0, undef, undef, undef, undef, undef, undef, undef, undef, undef, undef, undef, undef, undef, undef, undef, undef, undef, undef, undef, undef, undef, undef, undef, undef, undef, undef], []⟩) (by kernel_rfl) ?_
  have M0 : Mem NoS w w [] := Mem.start _ _
  refine wp_seq_k (fun K1 hK1 => ?_)
  refine wl_region ?_
  refine st_val (.bool false) (by kernel_rfl) (by kernel_rfl) ?_
  refine wl_nil ?_
  refine hK1 _ _ ?_
  try clear hK1 K1
  refine wp_seq_k (fun K2 hK2 => ?_)
  refine wl_region ?_
  refine st_val (v0) (by kernel_rfl) (by kernel_rfl) ?_
  refine st_callB M0 (.agg (iv (blockOf l0))) (by kernel_rfl) (args := #[v0]) (run_value_call 13 #[(Operand.tmp 6)] _ rfl Try.func13 (by kernel_rfl) (by kernel_rfl) _ (by kernel_rfl)) (block_walk w v0 l0 (M0.rd hr0 (fun _ _ h => h))) ?_
  intro W3 M4
  refine st_alloc M4 (.cells (iv zeros) 23 (0, 0)) (by kernel_rfl) (by kernel_rfl) ?_
  intro g5 W6 M7
  refine st_storeRow M7 0 rfl 23 (.tmp 3) (.tmp 7) (by rfl) (iv (blockOf l0)) (by kernel_rfl) (by kernel_rfl) (info64 _ (blockOf_length _)) (iv_same (blockOf_length _) zeros_length) (iv_one _) (by kernel_rfl) [(g5, .cells (iv (blockOf l0)) 23 (0, 0))] rfl ?_
  intro W8 M9
  refine wl_nil ?_
  refine hK2 _ _ ?_
  try clear hK2 K2
  refine wp_seq_k (fun K10 hK10 => ?_)
  refine wl_region ?_
  refine st_val (.agg (iv (blockOf l0))) (by kernel_rfl) (run_load_row 23 (.tmp 3) rfl g5 (by kernel_rfl) 23 (iv (blockOf l0)) (0, 0) _ (M9.get 0 rfl) Try.underlying23 rfl (info64 _ (blockOf_length _))) ?_
  refine st_alloc M9 (.cells (iv zeros) 23 (0, 0)) (by kernel_rfl) (by kernel_rfl) ?_
  intro g11 W12 M13
  refine st_storeRow M13 0 rfl 23 (.tmp 4) (.tmp 8) (by rfl) (iv (blockOf l0)) (by kernel_rfl) (by kernel_rfl) (info64 _ (blockOf_length _)) (iv_same (blockOf_length _) zeros_length) (iv_one _) (by kernel_rfl) [(g11, .cells (iv (blockOf l0)) 23 (0, 0)), (g5, .cells (iv (blockOf l0)) 23 (0, 0))] rfl ?_
  intro W14 M15
  refine wl_nil ?_
  refine hK10 _ _ ?_
  try clear hK10 K10
  refine wp_seq_k (fun K16 hK16 => ?_)
  refine wp_seq_k (fun K17 hK17 => ?_)
  refine wl_region ?_
  refine st_val (.int .i64 0) (by kernel_rfl) (by kernel_rfl) ?_
  refine wl_nil ?_
  refine hK17 _ _ ?_
  try clear hK17 K17
  refine wp_block ?_
  refine wp_loop_ghost (fun gn a' w' => ∃ (k : Nat) (u18 : Nat → Value), ((k ≤ 64) ∧ Mem NoS w w' [(g11, .cells (iv (tab 64 (clmid l0 k))) 23 (0, 0)), (g5, .cells (iv (blockOf l0)) 23 (0, 0))]) ∧ gn = 64 - k ∧ a' = ⟨#[v0, undef, .bool false, .pointer (some ⟨g5, 0, none⟩), .pointer (some ⟨g11, 0, none⟩), .int .i64 (k : Int), v0, .agg (iv (blockOf l0)), .agg (iv (blockOf l0)), (u18 9), (u18 10), (u18 11), (u18 12), (u18 13), (u18 14), (u18 15), (u18 16), (u18 17), (u18 18), undef, undef, undef, undef, undef, undef, undef, undef], []⟩) _ ⟨0, (fun zz => Array.getD #[v0, undef, .bool false, .pointer (some ⟨g5, 0, none⟩), .pointer (some ⟨g11, 0, none⟩), .int .i64 0, v0, .agg (iv (blockOf l0)), .agg (iv (blockOf l0)), undef, undef, undef, undef, undef, undef, undef, undef, undef, undef, undef, undef, undef, undef, undef, undef, undef, undef] zz undef), ⟨by omega, (by rw [clmid_zero]; exact M15)⟩, rfl, (by kernel_rfl)⟩ ?_
  rintro gn _ W19 ⟨k, u18, ⟨r1, M20⟩, rfl, rfl⟩
  refine wp_seq_k (fun K21 hK21 => ?_)
  refine wp_seq_k (fun K22 hK22 => ?_)
  refine wl_region ?_
  refine st_val (.int .i64 (k : Int)) (by kernel_rfl) (by kernel_rfl) ?_
  rcases Decidable.em (((k : Int) : Int) < 64) with c10 | c10
  ·
    refine st_val (.bool true) (by kernel_rfl) (bool_of (dec_t c10) (by kernel_rfl)) ?_
    refine wl_nil ?_
    refine hK22 _ _ ?_
    try clear hK22 K22
    refine wp_cond_true (by kernel_rfl) ?_
    refine wp_skip ?_
    refine hK21 _ _ ?_
    try clear hK21 K21
    refine wp_seq_k (fun K23 hK23 => ?_)
    refine wp_block ?_
    refine wl_region ?_
    refine st_val (.int .i64 (k : Int)) (by kernel_rfl) (by kernel_rfl) ?_
    refine st_val (.int .i64 (k : Int)) (by kernel_rfl) (by kernel_rfl) ?_
    refine st_val (.pointer (some ⟨g5, k, none⟩)) (by kernel_rfl) (run_indexAddr 23 (.tmp 3) (.tmp 14) rfl ⟨g5, 0, none⟩ .i64 k (by kernel_rfl) (by kernel_rfl) Try.underlying23 1 (by kernel_rfl) (by omega) ⟨g5, k, none⟩ (addr_at0 _ _)) ?_
    refine st_val (.int .i64 ((blockOf l0).getD k 0)) (by kernel_rfl) (run_load_cell 3 (.tmp 15) rfl ⟨g5, k, none⟩ (by kernel_rfl) _ (M20.cell 1 rfl k _ (iv_get (blockOf l0) k (by rw [(blockOf_length _)]; omega))) (by kernel_rfl)) ?_
    refine st_callE (.int .i64 (max (-2097152) (min ((blockOf l0).getD k 0) 2097152))) (by kernel_rfl) (args := #[.int .i64 ((blockOf l0).getD k 0)]) (run_value_call 20 #[(Operand.tmp 16)] _ rfl Try.func20 (by kernel_rfl) (by kernel_rfl) _ (by kernel_rfl)) ((clamp_walk W19 ((blockOf l0).getD k 0)).mono (fun e w' h => ⟨h.1, h.2.symm⟩)) ?_
    refine st_val (.pointer (some ⟨g11, k, none⟩)) (by kernel_rfl) (run_indexAddr 23 (.tmp 4) (.tmp 13) rfl ⟨g11, 0, none⟩ .i64 k (by kernel_rfl) (by kernel_rfl) Try.underlying23 1 (by kernel_rfl) (by omega) ⟨g11, k, none⟩ (addr_at0 _ _)) ?_
    refine st_storeCell M20 0 rfl 3 (.tmp 18) (.tmp 17) (by rfl) k (.int .i64 (max (-2097152) (min ((blockOf l0).getD k 0) 2097152))) (iv ((tab 64 (clmid l0 k)).set k (max (-2097152) (min ((blockOf l0).getD k 0) 2097152)))) (by kernel_rfl) (by kernel_rfl) (by rw [iv_size, tab_length]; omega) (by kernel_rfl) rfl (by kernel_rfl) (iv_set _ _ _) (by kernel_rfl) [(g11, .cells (iv ((tab 64 (clmid l0 k)).set k (max (-2097152) (min ((blockOf l0).getD k 0) 2097152)))) 23 (0, 0)), (g5, .cells (iv (blockOf l0)) 23 (0, 0))] rfl ?_
    intro W24 M25
    refine wl_nil ?_
    refine blk_normal ?_
    refine hK23 _ _ ?_
    try clear hK23 K23
    refine wl_region ?_
    refine st_val (.int .i64 (k : Int)) (by kernel_rfl) (by kernel_rfl) ?_
    refine st_val (.int .i64 ((k : Int) + 1)) (by kernel_rfl) (i64_of (by omega) (by kernel_rfl)) ?_
    refine st_val (.int .i64 ((k : Int) + 1)) (by kernel_rfl) (by kernel_rfl) ?_
    refine wl_nil ?_
    refine th_normal ?_
    exact ⟨_, by omega, (k + 1), (fun zz => Array.getD #[v0, undef, .bool false, .pointer (some ⟨g5, 0, none⟩), .pointer (some ⟨g11, 0, none⟩), .int .i64 ((k : Int) + 1), v0, .agg (iv (blockOf l0)), .agg (iv (blockOf l0)), .int .i64 (k : Int), .bool true, .int .i64 (k : Int), .int .i64 ((k : Int) + 1), .int .i64 (k : Int), .int .i64 (k : Int), .pointer (some ⟨g5, k, none⟩), .int .i64 ((blockOf l0).getD k 0), .int .i64 (max (-2097152) (min ((blockOf l0).getD k 0) 2097152)), .pointer (some ⟨g11, k, none⟩), undef, undef, undef, undef, undef, undef, undef, undef] zz undef), ⟨by omega, (by rw [← clmid_next l0 k (by omega)]; exact M25)⟩, rfl, (by kernel_rfl)⟩
  ·
    refine st_val (.bool false) (by kernel_rfl) (bool_of (dec_f c10) (by kernel_rfl)) ?_
    refine wl_nil ?_
    refine hK22 _ _ ?_
    try clear hK22 K22
    refine wp_cond_false (by kernel_rfl) ?_
    refine wp_exit ?_
    refine th_exit ?_
    refine th_exit ?_
    refine blk_exit ?_
    refine hK16 _ _ ?_
    try clear hK16 K16
    refine wp_seq_k (fun K26 hK26 => ?_)
    refine wl_seq 9 (fun w' => Mem NoS w w' [(g11, .cells (iv (tab 64 (clmid l0 k))) 23 (0, 0)), (g5, .cells (iv (blockOf l0)) 23 (0, 0))]) (by decide) (by kernel_rfl) (by kernel_rfl) M20.drew ?_
    refine seq_call (v := .bool true) (f := 15) (args := #[]) (by decide) (by kernel_rfl) (fun w' M' => (run_value_call 15 #[] _ rfl Try.func15 (by kernel_rfl) (by kernel_rfl) _ (by kernel_rfl))) (fun w' M' => callB_mem M' (awake_walk w')) ?_
    refine seq_run (v := .bool true) (by decide) (by kernel_rfl) (fun w' M' => (by kernel_rfl)) ?_
    refine seq_run (v := .agg (iv (blockOf l0))) (by decide) (by kernel_rfl) (fun w' M' => (run_load_row 23 (.tmp 3) rfl g5 (by kernel_rfl) 23 (iv (blockOf l0)) (0, 0) _ (M'.get 1 rfl) Try.underlying23 rfl (info64 _ (blockOf_length _)))) ?_
    refine seq_call (v := .agg (iv (inv (blockOf l0)))) (f := 16) (args := #[.agg (iv (blockOf l0))]) (by decide) (by kernel_rfl) (fun w' M' => (run_value_call 16 #[(Operand.tmp 21)] _ rfl Try.func16 (by kernel_rfl) (by kernel_rfl) _ (by kernel_rfl))) (fun w' M' => callB_mem M' (inverse_walk w' (blockOf l0) (blockOf_length _))) ?_
    refine seq_run (v := .agg (iv (tab 64 (clmid l0 k)))) (by decide) (by kernel_rfl) (fun w' M' => (run_load_row 23 (.tmp 4) rfl g11 (by kernel_rfl) 23 (iv (tab 64 (clmid l0 k))) (0, 0) _ (M'.get 0 rfl) Try.underlying23 rfl (info64 _ (tab_length _ _)))) ?_
    refine seq_call (v := .agg (iv (inv (blockOf l0)))) (f := 16) (args := #[.agg (iv (tab 64 (clmid l0 k)))]) (by decide) (by kernel_rfl) (fun w' M' => (run_value_call 16 #[(Operand.tmp 23)] _ rfl Try.func16 (by kernel_rfl) (by kernel_rfl) _ (by kernel_rfl))) (fun w' M' => callB_mem M' ((by have := inverse_walk w' (tab 64 (clmid l0 k)) (tab_length _ _); rw [inv_cl (xs := blockOf l0) (clmid_end l0 k (by omega))] at this; exact this))) ?_
    refine seq_run (v := .bool true) (by decide) (by kernel_rfl) (fun w' M' => (run_value_bin .eql 23 _ (.tmp 22) (.tmp 24) rfl (.agg (iv (inv (blockOf l0)))) (.agg (iv (inv (blockOf l0)))) _ (by kernel_rfl) (by kernel_rfl) (by kernel_rfl) (eql_same w' (inv (blockOf l0)) (inv_length _)))) ?_
    refine seq_run (v := .bool true) (by decide) (by kernel_rfl) (fun w' M' => (by kernel_rfl)) ?_
    refine seq_run (v := .bool true) (by decide) (by kernel_rfl) (fun w' M' => (by kernel_rfl)) ?_
    refine seq_end (by decide) ?_
    intro W27 M28
    refine wl_nil ?_
    refine hK26 _ _ ?_
    try clear hK26 K26
    refine wp_ret ?_
    exact done1 2 (.bool true) (by kernel_rfl) (by kernel_rfl) (by kernel_rfl) ⟨rfl, M28.toBelow⟩
end Go.Proofs.Ytpjhehpgpfomjaa
