/- The walk of the law TransformLinear. -/
import Derived.Test.YtpjhehpgpfomjaaAw
import Derived.Test.YtpjhehpgpfomjaaAlg
namespace Go.Proofs.Ytpjhehpgpfomjaa
open Go.RowKit

def sumTo (l m : List Int) (k n : Nat) : Int := if n < k then (blockOf l).getD n 0 + (blockOf m).getD n 0 else 0
def sumL (l m : List Int) : List Int := tab 64 (fun n => (blockOf l).getD n 0 + (blockOf m).getD n 0)
theorem sumTo_zero (l m : List Int) : tab 64 (sumTo l m 0) = zeros := tab_congr fun n hn => by unfold sumTo; rw [if_neg (by omega)]
theorem sumTo_end (l m : List Int) (k : Nat) (hk : 64 ≤ k) : tab 64 (sumTo l m k) = sumL l m := tab_congr fun n hn => by unfold sumTo; rw [if_pos (by omega)]
theorem sumTo_next (l m : List Int) (k : Nat) : (tab 64 (sumTo l m k)).set k ((blockOf l).getD k 0 + (blockOf m).getD k 0) = tab 64 (sumTo l m (k + 1)) := by
  rw [tab_set]
  refine tab_congr fun n hn => ?_
  unfold sumTo
  by_cases e : n = k
  · subst e; rw [if_pos rfl, if_pos (by omega)]
  · rw [if_neg e]
    by_cases e2 : n < k
    · rw [if_pos e2, if_pos (by omega)]
    · rw [if_neg e2, if_neg (by omega)]
theorem sumL_lim {l m : List Int} (h : Lim 127 (blockOf l)) (h' : Lim 127 (blockOf m)) : Lim 255 (sumL l m) := by
  intro n hn
  unfold sumL
  rw [tab_getD _ _ _ hn]
  have := h n hn
  have := h' n hn
  omega
theorem fwd_add (l m : List Int) (n : Nat) (hn : n < 64) : (fwd (sumL l m)).getD n 0 = (fwd (blockOf l)).getD n 0 + (fwd (blockOf m)).getD n 0 := by
  rw [fwd_at _ _ hn, fwd_at _ _ hn, fwd_at _ _ hn]
  exact Y1_add _ _ _ (fun k hk => tab_getD _ _ _ hk) n hn

set_option maxHeartbeats 4000000 in
set_option maxRecDepth 100000 in
theorem TransformLinear_walk (w : World) (v0 : Value) (l0 : List Int) (hr0 : Rd w v0 (l0.map (Value.int .i64))) (v1 : Value) (l1 : List Int) (hr1 : Rd w v1 (l1.map (Value.int .i64))) : Calls Try.prog 6 #[v0, v1] w fun e w' => e = .returned (.bool true) ∧ Below w.heap.size w w' := by
  refine calls_of_wp Try.func6 rfl ?_
  refine wp_frame (a' := ⟨#[v0, v1, undef, undef, undef, undef, undef, undef, undef, undef, undef, undef, undef, undef, undef, undef, undef, undef, undef, undef, undef, undef, undef, undef, undef, undef, undef, undef, undef, undef, undef, undef, undef, undef, undef, undef, undef, undef, undef, undef, undef, undef, undef, undef, undef, undef, undef, undef, undef, undef, undef, undef, undef, undef, undef, undef, undef, undef, undef, undef, undef, undef, undef, undef, undef, undef, undef, undef, undef, undef, undef, undef, undef, undef, undef, undef, undef, undef, undef, undef, undef, undef, undef], []⟩) (by kernel_rfl) ?_
  have M0 : Mem NoS w w [] := Mem.start _ _
  refine wp_seq_k (fun K1 hK1 => ?_)
  refine wl_region ?_
  refine st_val (.bool false) (by kernel_rfl) (by kernel_rfl) ?_
  refine wl_nil ?_
  refine hK1 _ _ ?_
  try clear hK1 K1
  refine wp_seq_k (fun K2 hK2 => ?_)
  refine wl_region ?_
  refine st_val (v0) (by kernel_rfl) (by kernel_rfl) ?_
  refine st_callB M0 (.agg (iv (blockOf l0))) (by kernel_rfl) (args := #[v0]) (run_value_call 13 #[(Operand.tmp 16)] _ rfl Try.func13 (by kernel_rfl) (by kernel_rfl) _ (by kernel_rfl)) (block_walk w v0 l0 (M0.rd hr0 (fun _ _ h => h))) ?_
  intro W3 M4
  refine st_val (v1) (by kernel_rfl) (by kernel_rfl) ?_
  refine st_callB M4 (.agg (iv (blockOf l1))) (by kernel_rfl) (args := #[v1]) (run_value_call 13 #[(Operand.tmp 18)] _ rfl Try.func13 (by kernel_rfl) (by kernel_rfl) _ (by kernel_rfl)) (block_walk W3 v1 l1 (M4.rd hr1 (fun _ _ h => h))) ?_
  intro W5 M6
  refine st_alloc M6 (.cells (iv zeros) 23 (0, 0)) (by kernel_rfl) (by kernel_rfl) ?_
  intro g7 W8 M9
  refine st_alloc M9 (.cells (iv zeros) 23 (0, 0)) (by kernel_rfl) (by kernel_rfl) ?_
  intro g10 W11 M12
  refine st_storeRow M12 1 rfl 23 (.tmp 5) (.tmp 17) (by rfl) (iv (blockOf l0)) (by kernel_rfl) (by kernel_rfl) (info64 _ (blockOf_length _)) (iv_same (blockOf_length _) zeros_length) (iv_one _) (by kernel_rfl) [(g10, .cells (iv zeros) 23 (0, 0)), (g7, .cells (iv (blockOf l0)) 23 (0, 0))] rfl ?_
  intro W13 M14
  refine st_storeRow M14 0 rfl 23 (.tmp 6) (.tmp 19) (by rfl) (iv (blockOf l1)) (by kernel_rfl) (by kernel_rfl) (info64 _ (blockOf_length _)) (iv_same (blockOf_length _) zeros_length) (iv_one _) (by kernel_rfl) [(g10, .cells (iv (blockOf l1)) 23 (0, 0)), (g7, .cells (iv (blockOf l0)) 23 (0, 0))] rfl ?_
  intro W15 M16
  refine wl_nil ?_
  refine hK2 _ _ ?_
  try clear hK2 K2
  refine wp_seq_k (fun K17 hK17 => ?_)
  refine wp_seq_k (fun K18 hK18 => ?_)
  refine wl_region ?_
  refine st_val (.agg (iv (blockOf l0))) (by kernel_rfl) (run_load_row 23 (.tmp 5) rfl g7 (by kernel_rfl) 23 (iv (blockOf l0)) (0, 0) _ (M16.get 1 rfl) Try.underlying23 rfl (info64 _ (blockOf_length _))) ?_
  rcases Bool.eq_false_or_eq_true (withinB (blockOf l0) 127) with hB21 | hB21
  ·
    refine st_callB M16 (.bool true) (by kernel_rfl) (args := #[.agg (iv (blockOf l0)), .int .i64 127]) (run_value_call 18 #[(Operand.tmp 20), (Operand.const (Value.int IntKind.i64 127))] _ rfl Try.func18 (by kernel_rfl) (by kernel_rfl) _ (by kernel_rfl)) ((by have := within_walk W15 (blockOf l0) (blockOf_length _) 127 (by omega); rw [hB21] at this; exact this)) ?_
    intro W19 M20
    refine st_val (.bool false) (by kernel_rfl) (by kernel_rfl) ?_
    refine st_val (.bool false) (by kernel_rfl) (by kernel_rfl) ?_
    refine st_val (.agg (iv (blockOf l1))) (by kernel_rfl) (run_load_row 23 (.tmp 6) rfl g10 (by kernel_rfl) 23 (iv (blockOf l1)) (0, 0) _ (M20.get 0 rfl) Try.underlying23 rfl (info64 _ (blockOf_length _))) ?_
    rcases Bool.eq_false_or_eq_true (withinB (blockOf l1) 127) with hB25 | hB25
    ·
      refine st_callB M20 (.bool true) (by kernel_rfl) (args := #[.agg (iv (blockOf l1)), .int .i64 127]) (run_value_call 18 #[(Operand.tmp 24), (Operand.const (Value.int IntKind.i64 127))] _ rfl Try.func18 (by kernel_rfl) (by kernel_rfl) _ (by kernel_rfl)) ((by have := within_walk W19 (blockOf l1) (blockOf_length _) 127 (by omega); rw [hB25] at this; exact this)) ?_
      intro W21 M22
      refine st_val (.bool false) (by kernel_rfl) (by kernel_rfl) ?_
      refine st_val (.bool false) (by kernel_rfl) (by kernel_rfl) ?_
      refine wl_nil ?_
      refine hK18 _ _ ?_
      try clear hK18 K18
      refine wp_frame (a' := ⟨#[v0, v1, undef, undef, .bool false, .pointer (some ⟨g7, 0, none⟩), .pointer (some ⟨g10, 0, none⟩), undef, undef, undef, undef, undef, undef, undef, undef, undef, v0, .agg (iv (blockOf l0)), v1, .agg (iv (blockOf l1)), .agg (iv (blockOf l0)), .bool true, .bool false, .bool false, .agg (iv (blockOf l1)), .bool true, .bool false, .bool false, undef, undef, undef, undef, undef, undef, undef, undef, undef, undef, undef, undef, undef, undef, undef, undef, undef, undef, undef, undef, undef, undef, undef, undef, undef, undef, undef, undef, undef, undef, undef, undef, undef, undef, undef, undef, undef, undef, undef, undef, undef, undef, undef, undef, undef, undef, undef, undef, undef, undef, undef, undef, undef, undef, undef], []⟩) (by kernel_rfl) ?_
      refine wp_cond_false (by kernel_rfl) ?_
      refine wp_skip ?_
      refine hK17 _ _ ?_
      try clear hK17 K17
      refine wp_seq_k (fun K23 hK23 => ?_)
      refine wl_region ?_
      refine st_alloc M22 (.cells (iv zeros) 23 (0, 0)) (by kernel_rfl) (by kernel_rfl) ?_
      intro g24 W25 M26
      refine wl_nil ?_
      refine hK23 _ _ ?_
      try clear hK23 K23
      refine wp_seq_k (fun K27 hK27 => ?_)
      refine wp_seq_k (fun K28 hK28 => ?_)
      refine wl_region ?_
      refine st_val (.int .i64 0) (by kernel_rfl) (by kernel_rfl) ?_
      refine wl_nil ?_
      refine hK28 _ _ ?_
      try clear hK28 K28
      refine wp_block ?_
      refine wp_loop_ghost (fun gn a' w' => ∃ (k : Nat) (u29 : Nat → Value), ((k ≤ 64) ∧ Mem NoS w w' [(g24, .cells (iv (tab 64 (sumTo l0 l1 k))) 23 (0, 0)), (g10, .cells (iv (blockOf l1)) 23 (0, 0)), (g7, .cells (iv (blockOf l0)) 23 (0, 0))]) ∧ gn = 64 - k ∧ a' = ⟨#[v0, v1, undef, undef, .bool false, .pointer (some ⟨g7, 0, none⟩), .pointer (some ⟨g10, 0, none⟩), .pointer (some ⟨g24, 0, none⟩), .int .i64 (k : Int), undef, undef, undef, undef, undef, undef, undef, v0, .agg (iv (blockOf l0)), v1, .agg (iv (blockOf l1)), .agg (iv (blockOf l0)), .bool true, .bool false, .bool false, .agg (iv (blockOf l1)), .bool true, .bool false, .bool false, undef, (u29 29), (u29 30), (u29 31), (u29 32), (u29 33), (u29 34), (u29 35), (u29 36), (u29 37), (u29 38), (u29 39), (u29 40), (u29 41), undef, undef, undef, undef, undef, undef, undef, undef, undef, undef, undef, undef, undef, undef, undef, undef, undef, undef, undef, undef, undef, undef, undef, undef, undef, undef, undef, undef, undef, undef, undef, undef, undef, undef, undef, undef, undef, undef, undef, undef, undef], []⟩) _ ⟨0, (fun zz => Array.getD #[v0, v1, undef, undef, .bool false, .pointer (some ⟨g7, 0, none⟩), .pointer (some ⟨g10, 0, none⟩), .pointer (some ⟨g24, 0, none⟩), .int .i64 0, undef, undef, undef, undef, undef, undef, undef, v0, .agg (iv (blockOf l0)), v1, .agg (iv (blockOf l1)), .agg (iv (blockOf l0)), .bool true, .bool false, .bool false, .agg (iv (blockOf l1)), .bool true, .bool false, .bool false, undef, undef, undef, undef, undef, undef, undef, undef, undef, undef, undef, undef, undef, undef, undef, undef, undef, undef, undef, undef, undef, undef, undef, undef, undef, undef, undef, undef, undef, undef, undef, undef, undef, undef, undef, undef, undef, undef, undef, undef, undef, undef, undef, undef, undef, undef, undef, undef, undef, undef, undef, undef, undef, undef, undef] zz undef), ⟨by omega, (by rw [sumTo_zero]; exact M26)⟩, rfl, (by kernel_rfl)⟩ ?_
      rintro gn _ W30 ⟨k, u29, ⟨r1, M31⟩, rfl, rfl⟩
      refine wp_seq_k (fun K32 hK32 => ?_)
      refine wp_seq_k (fun K33 hK33 => ?_)
      refine wl_region ?_
      refine st_val (.int .i64 (k : Int)) (by kernel_rfl) (by kernel_rfl) ?_
      rcases Decidable.em (((k : Int) : Int) < 64) with c30 | c30
      ·
        have bx := lim_of hB21 k (by omega)
        have bz := lim_of hB25 k (by omega)
        refine st_val (.bool true) (by kernel_rfl) (bool_of (dec_t c30) (by kernel_rfl)) ?_
        refine wl_nil ?_
        refine hK33 _ _ ?_
        try clear hK33 K33
        refine wp_cond_true (by kernel_rfl) ?_
        refine wp_skip ?_
        refine hK32 _ _ ?_
        try clear hK32 K32
        refine wp_seq_k (fun K34 hK34 => ?_)
        refine wp_block ?_
        refine wl_seq 9 (fun w' => Mem NoS w w' [(g24, .cells (iv (tab 64 (sumTo l0 l1 k))) 23 (0, 0)), (g10, .cells (iv (blockOf l1)) 23 (0, 0)), (g7, .cells (iv (blockOf l0)) 23 (0, 0))]) (by decide) (by kernel_rfl) (by kernel_rfl) M31.drew ?_
        refine seq_run (v := .int .i64 (k : Int)) (by decide) (by kernel_rfl) (fun w' M' => (by kernel_rfl)) ?_
        refine seq_run (v := .int .i64 (k : Int)) (by decide) (by kernel_rfl) (fun w' M' => (by kernel_rfl)) ?_
        refine seq_run (v := .pointer (some ⟨g7, k, none⟩)) (by decide) (by kernel_rfl) (fun w' M' => (run_indexAddr 23 (.tmp 5) (.tmp 34) rfl ⟨g7, 0, none⟩ .i64 k (by kernel_rfl) (by kernel_rfl) Try.underlying23 1 (by kernel_rfl) (by omega) ⟨g7, k, none⟩ (addr_at0 _ _))) ?_
        refine seq_run (v := .int .i64 ((blockOf l0).getD k 0)) (by decide) (by kernel_rfl) (fun w' M' => (run_load_cell 3 (.tmp 35) rfl ⟨g7, k, none⟩ (by kernel_rfl) _ (M'.cell 2 rfl k _ (iv_get (blockOf l0) k (by rw [(blockOf_length _)]; omega))) (by kernel_rfl))) ?_
        refine seq_run (v := .int .i64 (k : Int)) (by decide) (by kernel_rfl) (fun w' M' => (by kernel_rfl)) ?_
        refine seq_run (v := .pointer (some ⟨g10, k, none⟩)) (by decide) (by kernel_rfl) (fun w' M' => (run_indexAddr 23 (.tmp 6) (.tmp 37) rfl ⟨g10, 0, none⟩ .i64 k (by kernel_rfl) (by kernel_rfl) Try.underlying23 1 (by kernel_rfl) (by omega) ⟨g10, k, none⟩ (addr_at0 _ _))) ?_
        refine seq_run (v := .int .i64 ((blockOf l1).getD k 0)) (by decide) (by kernel_rfl) (fun w' M' => (run_load_cell 3 (.tmp 38) rfl ⟨g10, k, none⟩ (by kernel_rfl) _ (M'.cell 1 rfl k _ (iv_get (blockOf l1) k (by rw [(blockOf_length _)]; omega))) (by kernel_rfl))) ?_
        refine seq_run (v := .int .i64 (((blockOf l0).getD k 0) + ((blockOf l1).getD k 0))) (by decide) (by kernel_rfl) (fun w' M' => (i64_of (by omega) (by kernel_rfl))) ?_
        refine seq_run (v := .pointer (some ⟨g24, k, none⟩)) (by decide) (by kernel_rfl) (fun w' M' => (run_indexAddr 23 (.tmp 7) (.tmp 33) rfl ⟨g24, 0, none⟩ .i64 k (by kernel_rfl) (by kernel_rfl) Try.underlying23 1 (by kernel_rfl) (by omega) ⟨g24, k, none⟩ (addr_at0 _ _))) ?_
        refine seq_end (by decide) ?_
        intro W35 M36
        refine st_storeCell M36 0 rfl 3 (.tmp 41) (.tmp 40) (by rfl) k (.int .i64 (((blockOf l0).getD k 0) + ((blockOf l1).getD k 0))) (iv ((tab 64 (sumTo l0 l1 k)).set k (((blockOf l0).getD k 0) + ((blockOf l1).getD k 0)))) (by kernel_rfl) (by kernel_rfl) (by rw [iv_size, tab_length]; omega) (by kernel_rfl) rfl (by kernel_rfl) (iv_set _ _ _) (by kernel_rfl) [(g24, .cells (iv ((tab 64 (sumTo l0 l1 k)).set k (((blockOf l0).getD k 0) + ((blockOf l1).getD k 0)))) 23 (0, 0)), (g10, .cells (iv (blockOf l1)) 23 (0, 0)), (g7, .cells (iv (blockOf l0)) 23 (0, 0))] rfl ?_
        intro W37 M38
        refine wl_nil ?_
        refine blk_normal ?_
        refine hK34 _ _ ?_
        try clear hK34 K34
        refine wl_region ?_
        refine st_val (.int .i64 (k : Int)) (by kernel_rfl) (by kernel_rfl) ?_
        refine st_val (.int .i64 ((k : Int) + 1)) (by kernel_rfl) (i64_of (by omega) (by kernel_rfl)) ?_
        refine st_val (.int .i64 ((k : Int) + 1)) (by kernel_rfl) (by kernel_rfl) ?_
        refine wl_nil ?_
        refine th_normal ?_
        exact ⟨_, by omega, (k + 1), (fun zz => Array.getD #[v0, v1, undef, undef, .bool false, .pointer (some ⟨g7, 0, none⟩), .pointer (some ⟨g10, 0, none⟩), .pointer (some ⟨g24, 0, none⟩), .int .i64 ((k : Int) + 1), undef, undef, undef, undef, undef, undef, undef, v0, .agg (iv (blockOf l0)), v1, .agg (iv (blockOf l1)), .agg (iv (blockOf l0)), .bool true, .bool false, .bool false, .agg (iv (blockOf l1)), .bool true, .bool false, .bool false, undef, .int .i64 (k : Int), .bool true, .int .i64 (k : Int), .int .i64 ((k : Int) + 1), .int .i64 (k : Int), .int .i64 (k : Int), .pointer (some ⟨g7, k, none⟩), .int .i64 ((blockOf l0).getD k 0), .int .i64 (k : Int), .pointer (some ⟨g10, k, none⟩), .int .i64 ((blockOf l1).getD k 0), .int .i64 (((blockOf l0).getD k 0) + ((blockOf l1).getD k 0)), .pointer (some ⟨g24, k, none⟩), undef, undef, undef, undef, undef, undef, undef, undef, undef, undef, undef, undef, undef, undef, undef, undef, undef, undef, undef, undef, undef, undef, undef, undef, undef, undef, undef, undef, undef, undef, undef, undef, undef, undef, undef, undef, undef, undef, undef, undef, undef] zz undef), ⟨by omega, (by rw [← sumTo_next l0 l1 k]; exact M38)⟩, rfl, (by kernel_rfl)⟩
      ·
        refine st_val (.bool false) (by kernel_rfl) (bool_of (dec_f c30) (by kernel_rfl)) ?_
        refine wl_nil ?_
        refine hK33 _ _ ?_
        try clear hK33 K33
        refine wp_cond_false (by kernel_rfl) ?_
        refine wp_exit ?_
        refine th_exit ?_
        refine th_exit ?_
        refine blk_exit ?_
        refine hK27 _ _ ?_
        try clear hK27 K27
        refine wp_seq_k (fun K39 hK39 => ?_)
        have hx := (lim_of hB21).up (show (127 : Int) ≤ 255 by omega)
        have hz := (lim_of hB25).up (show (127 : Int) ≤ 255 by omega)
        have hs := sumL_lim (lim_of hB21) (lim_of hB25)
        have M40 : Mem NoS w W30 [(g24, .cells (iv (sumL l0 l1)) 23 (0, 0)), (g10, .cells (iv (blockOf l1)) 23 (0, 0)), (g7, .cells (iv (blockOf l0)) 23 (0, 0))] := by
          rw [← sumTo_end l0 l1 k (by omega)]; exact M31
        refine wl_region ?_
        refine st_val (.agg (iv (blockOf l0))) (by kernel_rfl) (run_load_row 23 (.tmp 5) rfl g7 (by kernel_rfl) 23 (iv (blockOf l0)) (0, 0) _ (M40.get 2 rfl) Try.underlying23 rfl (info64 _ (blockOf_length _))) ?_
        refine st_callB M40 (.tuple #[.agg (iv (fwd (blockOf l0))), .int .i64 0]) (by kernel_rfl) (args := #[.agg (iv (blockOf l0))]) (run_value_call 12 #[(Operand.tmp 43)] _ rfl Try.func12 (by kernel_rfl) (by kernel_rfl) _ (by kernel_rfl)) (forward_good W30 (blockOf l0) (blockOf_length _) hx) ?_
        intro W41 M42
        refine st_val (.tuple #[.agg (iv (fwd (blockOf l0))), .int .i64 0]) (by kernel_rfl) (by kernel_rfl) ?_
        refine st_val (.agg (iv (fwd (blockOf l0)))) (by kernel_rfl) (by kernel_rfl) ?_
        refine st_val (.int .i64 0) (by kernel_rfl) (by kernel_rfl) ?_
        refine st_alloc M42 (.cells (iv zeros) 23 (0, 0)) (by kernel_rfl) (by kernel_rfl) ?_
        intro g43 W44 M45
        refine st_storeRow M45 0 rfl 23 (.tmp 9) (.tmp 45) (by rfl) (iv (fwd (blockOf l0))) (by kernel_rfl) (by kernel_rfl) (info64 _ (fwd_length _)) (iv_same (fwd_length _) zeros_length) (iv_one _) (by kernel_rfl) [(g43, .cells (iv (fwd (blockOf l0))) 23 (0, 0)), (g24, .cells (iv (sumL l0 l1)) 23 (0, 0)), (g10, .cells (iv (blockOf l1)) 23 (0, 0)), (g7, .cells (iv (blockOf l0)) 23 (0, 0))] rfl ?_
        intro W46 M47
        refine st_val (.int .i64 0) (by kernel_rfl) (by kernel_rfl) ?_
        refine wl_nil ?_
        refine hK39 _ _ ?_
        try clear hK39 K39
        refine wp_seq_k (fun K48 hK48 => ?_)
        refine wl_region ?_
        refine st_val (.agg (iv (blockOf l1))) (by kernel_rfl) (run_load_row 23 (.tmp 6) rfl g10 (by kernel_rfl) 23 (iv (blockOf l1)) (0, 0) _ (M47.get 2 rfl) Try.underlying23 rfl (info64 _ (blockOf_length _))) ?_
        refine st_callB M47 (.tuple #[.agg (iv (fwd (blockOf l1))), .int .i64 0]) (by kernel_rfl) (args := #[.agg (iv (blockOf l1))]) (run_value_call 12 #[(Operand.tmp 48)] _ rfl Try.func12 (by kernel_rfl) (by kernel_rfl) _ (by kernel_rfl)) (forward_good W46 (blockOf l1) (blockOf_length _) hz) ?_
        intro W49 M50
        refine st_val (.tuple #[.agg (iv (fwd (blockOf l1))), .int .i64 0]) (by kernel_rfl) (by kernel_rfl) ?_
        refine st_val (.agg (iv (fwd (blockOf l1)))) (by kernel_rfl) (by kernel_rfl) ?_
        refine st_val (.int .i64 0) (by kernel_rfl) (by kernel_rfl) ?_
        refine st_alloc M50 (.cells (iv zeros) 23 (0, 0)) (by kernel_rfl) (by kernel_rfl) ?_
        intro g51 W52 M53
        refine st_storeRow M53 0 rfl 23 (.tmp 11) (.tmp 50) (by rfl) (iv (fwd (blockOf l1))) (by kernel_rfl) (by kernel_rfl) (info64 _ (fwd_length _)) (iv_same (fwd_length _) zeros_length) (iv_one _) (by kernel_rfl) [(g51, .cells (iv (fwd (blockOf l1))) 23 (0, 0)), (g43, .cells (iv (fwd (blockOf l0))) 23 (0, 0)), (g24, .cells (iv (sumL l0 l1)) 23 (0, 0)), (g10, .cells (iv (blockOf l1)) 23 (0, 0)), (g7, .cells (iv (blockOf l0)) 23 (0, 0))] rfl ?_
        intro W54 M55
        refine st_val (.int .i64 0) (by kernel_rfl) (by kernel_rfl) ?_
        refine wl_nil ?_
        refine hK48 _ _ ?_
        try clear hK48 K48
        refine wp_frame (a' := ⟨#[v0, v1, undef, undef, .bool false, .pointer (some ⟨g7, 0, none⟩), .pointer (some ⟨g10, 0, none⟩), .pointer (some ⟨g24, 0, none⟩), .int .i64 (k : Int), .pointer (some ⟨g43, 0, none⟩), .int .i64 0, .pointer (some ⟨g51, 0, none⟩), .int .i64 0, undef, undef, undef, v0, .agg (iv (blockOf l0)), v1, .agg (iv (blockOf l1)), .agg (iv (blockOf l0)), .bool true, .bool false, .bool false, .agg (iv (blockOf l1)), .bool true, .bool false, .bool false, undef, .int .i64 (k : Int), .bool false, (u29 31), (u29 32), (u29 33), (u29 34), (u29 35), (u29 36), (u29 37), (u29 38), (u29 39), (u29 40), (u29 41), .tuple #[.agg (iv (fwd (blockOf l0))), .int .i64 0], .agg (iv (blockOf l0)), .tuple #[.agg (iv (fwd (blockOf l0))), .int .i64 0], .agg (iv (fwd (blockOf l0))), .int .i64 0, .tuple #[.agg (iv (fwd (blockOf l1))), .int .i64 0], .agg (iv (blockOf l1)), .tuple #[.agg (iv (fwd (blockOf l1))), .int .i64 0], .agg (iv (fwd (blockOf l1))), .int .i64 0, undef, undef, undef, undef, undef, undef, undef, undef, undef, undef, undef, undef, undef, undef, undef, undef, undef, undef, undef, undef, undef, undef, undef, undef, undef, undef, undef, undef, undef, undef, undef], []⟩) (by kernel_rfl) ?_
        refine wp_seq_k (fun K56 hK56 => ?_)
        refine wl_region ?_
        refine st_val (.agg (iv (sumL l0 l1))) (by kernel_rfl) (run_load_row 23 (.tmp 7) rfl g24 (by kernel_rfl) 23 (iv (sumL l0 l1)) (0, 0) _ (M55.get 2 rfl) Try.underlying23 rfl (info64 _ (tab_length _ _))) ?_
        refine st_callB M55 (.tuple #[.agg (iv (fwd (sumL l0 l1))), .int .i64 0]) (by kernel_rfl) (args := #[.agg (iv (sumL l0 l1))]) (run_value_call 12 #[(Operand.tmp 53)] _ rfl Try.func12 (by kernel_rfl) (by kernel_rfl) _ (by kernel_rfl)) (forward_good W54 (sumL l0 l1) (tab_length _ _) hs) ?_
        intro W57 M58
        refine st_val (.tuple #[.agg (iv (fwd (sumL l0 l1))), .int .i64 0]) (by kernel_rfl) (by kernel_rfl) ?_
        refine st_val (.agg (iv (fwd (sumL l0 l1)))) (by kernel_rfl) (by kernel_rfl) ?_
        refine st_val (.int .i64 0) (by kernel_rfl) (by kernel_rfl) ?_
        refine st_alloc M58 (.cells (iv zeros) 23 (0, 0)) (by kernel_rfl) (by kernel_rfl) ?_
        intro g59 W60 M61
        refine st_storeRow M61 0 rfl 23 (.tmp 13) (.tmp 55) (by rfl) (iv (fwd (sumL l0 l1))) (by kernel_rfl) (by kernel_rfl) (info64 _ (fwd_length _)) (iv_same (fwd_length _) zeros_length) (iv_one _) (by kernel_rfl) [(g59, .cells (iv (fwd (sumL l0 l1))) 23 (0, 0)), (g51, .cells (iv (fwd (blockOf l1))) 23 (0, 0)), (g43, .cells (iv (fwd (blockOf l0))) 23 (0, 0)), (g24, .cells (iv (sumL l0 l1)) 23 (0, 0)), (g10, .cells (iv (blockOf l1)) 23 (0, 0)), (g7, .cells (iv (blockOf l0)) 23 (0, 0))] rfl ?_
        intro W62 M63
        refine st_val (.int .i64 0) (by kernel_rfl) (by kernel_rfl) ?_
        refine wl_nil ?_
        refine hK56 _ _ ?_
        try clear hK56 K56
        refine wp_seq_k (fun K64 hK64 => ?_)
        refine wp_seq_k (fun K65 hK65 => ?_)
        refine wl_region ?_
        refine st_val (.int .i64 0) (by kernel_rfl) (by kernel_rfl) ?_
        refine st_val (.bool false) (by kernel_rfl) (by kernel_rfl) ?_
        refine st_val (.bool false) (by kernel_rfl) (by kernel_rfl) ?_
        refine st_val (.int .i64 0) (by kernel_rfl) (by kernel_rfl) ?_
        refine st_val (.bool false) (by kernel_rfl) (by kernel_rfl) ?_
        refine st_val (.bool false) (by kernel_rfl) (by kernel_rfl) ?_
        refine st_val (.bool false) (by kernel_rfl) (by kernel_rfl) ?_
        refine st_val (.int .i64 0) (by kernel_rfl) (by kernel_rfl) ?_
        refine st_val (.bool false) (by kernel_rfl) (by kernel_rfl) ?_
        refine st_val (.bool false) (by kernel_rfl) (by kernel_rfl) ?_
        refine wl_nil ?_
        refine hK65 _ _ ?_
        try clear hK65 K65
        refine wp_frame (a' := ⟨#[v0, v1, undef, undef, .bool false, .pointer (some ⟨g7, 0, none⟩), .pointer (some ⟨g10, 0, none⟩), .pointer (some ⟨g24, 0, none⟩), .int .i64 (k : Int), .pointer (some ⟨g43, 0, none⟩), .int .i64 0, .pointer (some ⟨g51, 0, none⟩), .int .i64 0, .pointer (some ⟨g59, 0, none⟩), .int .i64 0, undef, v0, .agg (iv (blockOf l0)), v1, .agg (iv (blockOf l1)), .agg (iv (blockOf l0)), .bool true, .bool false, .bool false, .agg (iv (blockOf l1)), .bool true, .bool false, .bool false, undef, .int .i64 (k : Int), .bool false, (u29 31), (u29 32), (u29 33), (u29 34), (u29 35), (u29 36), (u29 37), (u29 38), (u29 39), (u29 40), (u29 41), .tuple #[.agg (iv (fwd (blockOf l0))), .int .i64 0], .agg (iv (blockOf l0)), .tuple #[.agg (iv (fwd (blockOf l0))), .int .i64 0], .agg (iv (fwd (blockOf l0))), .int .i64 0, .tuple #[.agg (iv (fwd (blockOf l1))), .int .i64 0], .agg (iv (blockOf l1)), .tuple #[.agg (iv (fwd (blockOf l1))), .int .i64 0], .agg (iv (fwd (blockOf l1))), .int .i64 0, .tuple #[.agg (iv (fwd (sumL l0 l1))), .int .i64 0], .agg (iv (sumL l0 l1)), .tuple #[.agg (iv (fwd (sumL l0 l1))), .int .i64 0], .agg (iv (fwd (sumL l0 l1))), .int .i64 0, .int .i64 0, .bool false, .bool false, .int .i64 0, .bool false, .bool false, .bool false, .int .i64 0, .bool false, .bool false, undef, undef, undef, undef, undef, undef, undef, undef, undef, undef, undef, undef, undef, undef, undef, undef], []⟩) (by kernel_rfl) ?_
        refine wp_cond_false (by kernel_rfl) ?_
        refine wp_skip ?_
        refine hK64 _ _ ?_
        try clear hK64 K64
        refine wp_seq_k (fun K66 hK66 => ?_)
        refine wp_seq_k (fun K67 hK67 => ?_)
        refine wl_region ?_
        refine st_val (.int .i64 0) (by kernel_rfl) (by kernel_rfl) ?_
        refine wl_nil ?_
        refine hK67 _ _ ?_
        try clear hK67 K67
        refine wp_block ?_
        refine wp_loop_ghost (fun gn a' w' => ∃ (n : Nat) (u68 : Nat → Value), ((n ≤ 64) ∧ Mem NoS w w' [(g59, .cells (iv (fwd (sumL l0 l1))) 23 (0, 0)), (g51, .cells (iv (fwd (blockOf l1))) 23 (0, 0)), (g43, .cells (iv (fwd (blockOf l0))) 23 (0, 0)), (g24, .cells (iv (sumL l0 l1)) 23 (0, 0)), (g10, .cells (iv (blockOf l1)) 23 (0, 0)), (g7, .cells (iv (blockOf l0)) 23 (0, 0))]) ∧ gn = 64 - n ∧ a' = ⟨#[v0, v1, undef, undef, (u68 4), .pointer (some ⟨g7, 0, none⟩), .pointer (some ⟨g10, 0, none⟩), .pointer (some ⟨g24, 0, none⟩), .int .i64 (k : Int), .pointer (some ⟨g43, 0, none⟩), .int .i64 0, .pointer (some ⟨g51, 0, none⟩), .int .i64 0, .pointer (some ⟨g59, 0, none⟩), .int .i64 0, .int .i64 (n : Int), v0, .agg (iv (blockOf l0)), v1, .agg (iv (blockOf l1)), .agg (iv (blockOf l0)), .bool true, .bool false, .bool false, .agg (iv (blockOf l1)), .bool true, .bool false, .bool false, undef, .int .i64 (k : Int), .bool false, (u29 31), (u29 32), (u29 33), (u29 34), (u29 35), (u29 36), (u29 37), (u29 38), (u29 39), (u29 40), (u29 41), .tuple #[.agg (iv (fwd (blockOf l0))), .int .i64 0], .agg (iv (blockOf l0)), .tuple #[.agg (iv (fwd (blockOf l0))), .int .i64 0], .agg (iv (fwd (blockOf l0))), .int .i64 0, .tuple #[.agg (iv (fwd (blockOf l1))), .int .i64 0], .agg (iv (blockOf l1)), .tuple #[.agg (iv (fwd (blockOf l1))), .int .i64 0], .agg (iv (fwd (blockOf l1))), .int .i64 0, .tuple #[.agg (iv (fwd (sumL l0 l1))), .int .i64 0], .agg (iv (sumL l0 l1)), .tuple #[.agg (iv (fwd (sumL l0 l1))), .int .i64 0], .agg (iv (fwd (sumL l0 l1))), .int .i64 0, .int .i64 0, .bool false, .bool false, .int .i64 0, .bool false, .bool false, .bool false, .int .i64 0, .bool false, .bool false, (u68 67), (u68 68), (u68 69), (u68 70), (u68 71), (u68 72), (u68 73), (u68 74), (u68 75), (u68 76), (u68 77), (u68 78), (u68 79), (u68 80), (u68 81), undef], []⟩) _ ⟨0, (fun zz => Array.getD #[v0, v1, undef, undef, .bool false, .pointer (some ⟨g7, 0, none⟩), .pointer (some ⟨g10, 0, none⟩), .pointer (some ⟨g24, 0, none⟩), .int .i64 (k : Int), .pointer (some ⟨g43, 0, none⟩), .int .i64 0, .pointer (some ⟨g51, 0, none⟩), .int .i64 0, .pointer (some ⟨g59, 0, none⟩), .int .i64 0, .int .i64 0, v0, .agg (iv (blockOf l0)), v1, .agg (iv (blockOf l1)), .agg (iv (blockOf l0)), .bool true, .bool false, .bool false, .agg (iv (blockOf l1)), .bool true, .bool false, .bool false, undef, .int .i64 (k : Int), .bool false, (u29 31), (u29 32), (u29 33), (u29 34), (u29 35), (u29 36), (u29 37), (u29 38), (u29 39), (u29 40), (u29 41), .tuple #[.agg (iv (fwd (blockOf l0))), .int .i64 0], .agg (iv (blockOf l0)), .tuple #[.agg (iv (fwd (blockOf l0))), .int .i64 0], .agg (iv (fwd (blockOf l0))), .int .i64 0, .tuple #[.agg (iv (fwd (blockOf l1))), .int .i64 0], .agg (iv (blockOf l1)), .tuple #[.agg (iv (fwd (blockOf l1))), .int .i64 0], .agg (iv (fwd (blockOf l1))), .int .i64 0, .tuple #[.agg (iv (fwd (sumL l0 l1))), .int .i64 0], .agg (iv (sumL l0 l1)), .tuple #[.agg (iv (fwd (sumL l0 l1))), .int .i64 0], .agg (iv (fwd (sumL l0 l1))), .int .i64 0, .int .i64 0, .bool false, .bool false, .int .i64 0, .bool false, .bool false, .bool false, .int .i64 0, .bool false, .bool false, undef, undef, undef, undef, undef, undef, undef, undef, undef, undef, undef, undef, undef, undef, undef, undef] zz undef), ⟨by omega, M63⟩, rfl, (by kernel_rfl)⟩ ?_
        rintro gn _ W69 ⟨n, u68, ⟨r2, M70⟩, rfl, rfl⟩
        refine wp_seq_k (fun K71 hK71 => ?_)
        refine wp_seq_k (fun K72 hK72 => ?_)
        refine wl_region ?_
        refine st_val (.int .i64 (n : Int)) (by kernel_rfl) (by kernel_rfl) ?_
        rcases Decidable.em (((n : Int) : Int) < 64) with c68 | c68
        ·
          have f1 := fwd_bound hx n (by omega)
          have f2 := fwd_bound hz n (by omega)
          have f3 := fwd_add l0 l1 n (by omega)
          refine st_val (.bool true) (by kernel_rfl) (bool_of (dec_t c68) (by kernel_rfl)) ?_
          refine wl_nil ?_
          refine hK72 _ _ ?_
          try clear hK72 K72
          refine wp_cond_true (by kernel_rfl) ?_
          refine wp_skip ?_
          refine hK71 _ _ ?_
          try clear hK71 K71
          refine wp_seq_k (fun K73 hK73 => ?_)
          refine wp_block ?_
          refine wp_seq_k (fun K74 hK74 => ?_)
          refine wl_seq 11 (fun w' => Mem NoS w w' [(g59, .cells (iv (fwd (sumL l0 l1))) 23 (0, 0)), (g51, .cells (iv (fwd (blockOf l1))) 23 (0, 0)), (g43, .cells (iv (fwd (blockOf l0))) 23 (0, 0)), (g24, .cells (iv (sumL l0 l1)) 23 (0, 0)), (g10, .cells (iv (blockOf l1)) 23 (0, 0)), (g7, .cells (iv (blockOf l0)) 23 (0, 0))]) (by decide) (by kernel_rfl) (by kernel_rfl) M70.drew ?_
          refine seq_run (v := .int .i64 (n : Int)) (by decide) (by kernel_rfl) (fun w' M' => (by kernel_rfl)) ?_
          refine seq_run (v := .pointer (some ⟨g59, n, none⟩)) (by decide) (by kernel_rfl) (fun w' M' => (run_indexAddr 23 (.tmp 13) (.tmp 71) rfl ⟨g59, 0, none⟩ .i64 n (by kernel_rfl) (by kernel_rfl) Try.underlying23 1 (by kernel_rfl) (by omega) ⟨g59, n, none⟩ (addr_at0 _ _))) ?_
          refine seq_run (v := .int .i64 ((fwd (sumL l0 l1)).getD n 0)) (by decide) (by kernel_rfl) (fun w' M' => (run_load_cell 3 (.tmp 72) rfl ⟨g59, n, none⟩ (by kernel_rfl) _ (M'.cell 0 rfl n _ (iv_get (fwd (sumL l0 l1)) n (by rw [(fwd_length _)]; omega))) (by kernel_rfl))) ?_
          refine seq_run (v := .int .i64 (n : Int)) (by decide) (by kernel_rfl) (fun w' M' => (by kernel_rfl)) ?_
          refine seq_run (v := .pointer (some ⟨g43, n, none⟩)) (by decide) (by kernel_rfl) (fun w' M' => (run_indexAddr 23 (.tmp 9) (.tmp 74) rfl ⟨g43, 0, none⟩ .i64 n (by kernel_rfl) (by kernel_rfl) Try.underlying23 1 (by kernel_rfl) (by omega) ⟨g43, n, none⟩ (addr_at0 _ _))) ?_
          refine seq_run (v := .int .i64 ((fwd (blockOf l0)).getD n 0)) (by decide) (by kernel_rfl) (fun w' M' => (run_load_cell 3 (.tmp 75) rfl ⟨g43, n, none⟩ (by kernel_rfl) _ (M'.cell 2 rfl n _ (iv_get (fwd (blockOf l0)) n (by rw [(fwd_length _)]; omega))) (by kernel_rfl))) ?_
          refine seq_run (v := .int .i64 (n : Int)) (by decide) (by kernel_rfl) (fun w' M' => (by kernel_rfl)) ?_
          refine seq_run (v := .pointer (some ⟨g51, n, none⟩)) (by decide) (by kernel_rfl) (fun w' M' => (run_indexAddr 23 (.tmp 11) (.tmp 77) rfl ⟨g51, 0, none⟩ .i64 n (by kernel_rfl) (by kernel_rfl) Try.underlying23 1 (by kernel_rfl) (by omega) ⟨g51, n, none⟩ (addr_at0 _ _))) ?_
          refine seq_run (v := .int .i64 ((fwd (blockOf l1)).getD n 0)) (by decide) (by kernel_rfl) (fun w' M' => (run_load_cell 3 (.tmp 78) rfl ⟨g51, n, none⟩ (by kernel_rfl) _ (M'.cell 1 rfl n _ (iv_get (fwd (blockOf l1)) n (by rw [(fwd_length _)]; omega))) (by kernel_rfl))) ?_
          refine seq_run (v := .int .i64 (((fwd (blockOf l0)).getD n 0) + ((fwd (blockOf l1)).getD n 0))) (by decide) (by kernel_rfl) (fun w' M' => (i64_of (by omega) (by kernel_rfl))) ?_
          refine seq_run (v := .bool false) (by decide) (by kernel_rfl) (fun w' M' => (bool_of (neq_f (show ((fwd (sumL l0 l1)).getD n 0 : Int) = ((fwd (blockOf l0)).getD n 0) + ((fwd (blockOf l1)).getD n 0) from f3)) (by kernel_rfl))) ?_
          refine seq_end (by decide) ?_
          intro W75 M76
          refine wl_nil ?_
          refine hK74 _ _ ?_
          try clear hK74 K74
          refine wp_frame (a' := ⟨#[v0, v1, undef, undef, (u68 4), .pointer (some ⟨g7, 0, none⟩), .pointer (some ⟨g10, 0, none⟩), .pointer (some ⟨g24, 0, none⟩), .int .i64 (k : Int), .pointer (some ⟨g43, 0, none⟩), .int .i64 0, .pointer (some ⟨g51, 0, none⟩), .int .i64 0, .pointer (some ⟨g59, 0, none⟩), .int .i64 0, .int .i64 (n : Int), v0, .agg (iv (blockOf l0)), v1, .agg (iv (blockOf l1)), .agg (iv (blockOf l0)), .bool true, .bool false, .bool false, .agg (iv (blockOf l1)), .bool true, .bool false, .bool false, undef, .int .i64 (k : Int), .bool false, (u29 31), (u29 32), (u29 33), (u29 34), (u29 35), (u29 36), (u29 37), (u29 38), (u29 39), (u29 40), (u29 41), .tuple #[.agg (iv (fwd (blockOf l0))), .int .i64 0], .agg (iv (blockOf l0)), .tuple #[.agg (iv (fwd (blockOf l0))), .int .i64 0], .agg (iv (fwd (blockOf l0))), .int .i64 0, .tuple #[.agg (iv (fwd (blockOf l1))), .int .i64 0], .agg (iv (blockOf l1)), .tuple #[.agg (iv (fwd (blockOf l1))), .int .i64 0], .agg (iv (fwd (blockOf l1))), .int .i64 0, .tuple #[.agg (iv (fwd (sumL l0 l1))), .int .i64 0], .agg (iv (sumL l0 l1)), .tuple #[.agg (iv (fwd (sumL l0 l1))), .int .i64 0], .agg (iv (fwd (sumL l0 l1))), .int .i64 0, .int .i64 0, .bool false, .bool false, .int .i64 0, .bool false, .bool false, .bool false, .int .i64 0, .bool false, .bool false, .int .i64 (n : Int), .bool true, (u68 69), (u68 70), .int .i64 (n : Int), .pointer (some ⟨g59, n, none⟩), .int .i64 ((fwd (sumL l0 l1)).getD n 0), .int .i64 (n : Int), .pointer (some ⟨g43, n, none⟩), .int .i64 ((fwd (blockOf l0)).getD n 0), .int .i64 (n : Int), .pointer (some ⟨g51, n, none⟩), .int .i64 ((fwd (blockOf l1)).getD n 0), .int .i64 (((fwd (blockOf l0)).getD n 0) + ((fwd (blockOf l1)).getD n 0)), .bool false, undef], []⟩) (by kernel_rfl) ?_
          refine wp_cond_false (by kernel_rfl) ?_
          refine wp_skip ?_
          refine blk_normal ?_
          refine hK73 _ _ ?_
          try clear hK73 K73
          refine wl_region ?_
          refine st_val (.int .i64 (n : Int)) (by kernel_rfl) (by kernel_rfl) ?_
          refine st_val (.int .i64 ((n : Int) + 1)) (by kernel_rfl) (i64_of (by omega) (by kernel_rfl)) ?_
          refine st_val (.int .i64 ((n : Int) + 1)) (by kernel_rfl) (by kernel_rfl) ?_
          refine wl_nil ?_
          refine th_normal ?_
          exact ⟨_, by omega, (n + 1), (fun zz => Array.getD #[v0, v1, undef, undef, (u68 4), .pointer (some ⟨g7, 0, none⟩), .pointer (some ⟨g10, 0, none⟩), .pointer (some ⟨g24, 0, none⟩), .int .i64 (k : Int), .pointer (some ⟨g43, 0, none⟩), .int .i64 0, .pointer (some ⟨g51, 0, none⟩), .int .i64 0, .pointer (some ⟨g59, 0, none⟩), .int .i64 0, .int .i64 ((n : Int) + 1), v0, .agg (iv (blockOf l0)), v1, .agg (iv (blockOf l1)), .agg (iv (blockOf l0)), .bool true, .bool false, .bool false, .agg (iv (blockOf l1)), .bool true, .bool false, .bool false, undef, .int .i64 (k : Int), .bool false, (u29 31), (u29 32), (u29 33), (u29 34), (u29 35), (u29 36), (u29 37), (u29 38), (u29 39), (u29 40), (u29 41), .tuple #[.agg (iv (fwd (blockOf l0))), .int .i64 0], .agg (iv (blockOf l0)), .tuple #[.agg (iv (fwd (blockOf l0))), .int .i64 0], .agg (iv (fwd (blockOf l0))), .int .i64 0, .tuple #[.agg (iv (fwd (blockOf l1))), .int .i64 0], .agg (iv (blockOf l1)), .tuple #[.agg (iv (fwd (blockOf l1))), .int .i64 0], .agg (iv (fwd (blockOf l1))), .int .i64 0, .tuple #[.agg (iv (fwd (sumL l0 l1))), .int .i64 0], .agg (iv (sumL l0 l1)), .tuple #[.agg (iv (fwd (sumL l0 l1))), .int .i64 0], .agg (iv (fwd (sumL l0 l1))), .int .i64 0, .int .i64 0, .bool false, .bool false, .int .i64 0, .bool false, .bool false, .bool false, .int .i64 0, .bool false, .bool false, .int .i64 (n : Int), .bool true, .int .i64 (n : Int), .int .i64 ((n : Int) + 1), .int .i64 (n : Int), .pointer (some ⟨g59, n, none⟩), .int .i64 ((fwd (sumL l0 l1)).getD n 0), .int .i64 (n : Int), .pointer (some ⟨g43, n, none⟩), .int .i64 ((fwd (blockOf l0)).getD n 0), .int .i64 (n : Int), .pointer (some ⟨g51, n, none⟩), .int .i64 ((fwd (blockOf l1)).getD n 0), .int .i64 (((fwd (blockOf l0)).getD n 0) + ((fwd (blockOf l1)).getD n 0)), .bool false, undef] zz undef), ⟨by omega, M76⟩, rfl, (by kernel_rfl)⟩
        ·
          refine st_val (.bool false) (by kernel_rfl) (bool_of (dec_f c68) (by kernel_rfl)) ?_
          refine wl_nil ?_
          refine hK72 _ _ ?_
          try clear hK72 K72
          refine wp_cond_false (by kernel_rfl) ?_
          refine wp_exit ?_
          refine th_exit ?_
          refine th_exit ?_
          refine blk_exit ?_
          refine hK66 _ _ ?_
          try clear hK66 K66
          refine wp_seq_k (fun K77 hK77 => ?_)
          refine wl_region ?_
          refine st_callB M70 (.bool true) (by kernel_rfl) (args := #[]) (run_value_call 15 #[] _ rfl Try.func15 (by kernel_rfl) (by kernel_rfl) _ (by kernel_rfl)) (awake_walk W69) ?_
          intro W78 M79
          refine st_val (.bool true) (by kernel_rfl) (by kernel_rfl) ?_
          refine wl_nil ?_
          refine hK77 _ _ ?_
          try clear hK77 K77
          refine wp_ret ?_
          exact done1 4 (.bool true) (by kernel_rfl) (by kernel_rfl) (by kernel_rfl) ⟨rfl, M79.toBelow⟩
    ·
      refine st_callB M20 (.bool false) (by kernel_rfl) (args := #[.agg (iv (blockOf l1)), .int .i64 127]) (run_value_call 18 #[(Operand.tmp 24), (Operand.const (Value.int IntKind.i64 127))] _ rfl Try.func18 (by kernel_rfl) (by kernel_rfl) _ (by kernel_rfl)) ((by have := within_walk W19 (blockOf l1) (blockOf_length _) 127 (by omega); rw [hB25] at this; exact this)) ?_
      intro W80 M81
      refine st_val (.bool true) (by kernel_rfl) (by kernel_rfl) ?_
      refine st_val (.bool true) (by kernel_rfl) (by kernel_rfl) ?_
      refine wl_nil ?_
      refine hK18 _ _ ?_
      try clear hK18 K18
      refine wp_frame (a' := ⟨#[v0, v1, undef, undef, .bool false, .pointer (some ⟨g7, 0, none⟩), .pointer (some ⟨g10, 0, none⟩), undef, undef, undef, undef, undef, undef, undef, undef, undef, v0, .agg (iv (blockOf l0)), v1, .agg (iv (blockOf l1)), .agg (iv (blockOf l0)), .bool true, .bool false, .bool false, .agg (iv (blockOf l1)), .bool false, .bool true, .bool true, undef, undef, undef, undef, undef, undef, undef, undef, undef, undef, undef, undef, undef, undef, undef, undef, undef, undef, undef, undef, undef, undef, undef, undef, undef, undef, undef, undef, undef, undef, undef, undef, undef, undef, undef, undef, undef, undef, undef, undef, undef, undef, undef, undef, undef, undef, undef, undef, undef, undef, undef, undef, undef, undef, undef], []⟩) (by kernel_rfl) ?_
      refine wp_cond_true (by kernel_rfl) ?_
      refine wp_seq_k (fun K82 hK82 => ?_)
      refine wl_region ?_
      refine st_callB M81 (.bool true) (by kernel_rfl) (args := #[]) (run_value_call 15 #[] _ rfl Try.func15 (by kernel_rfl) (by kernel_rfl) _ (by kernel_rfl)) (awake_walk W80) ?_
      intro W83 M84
      refine st_val (.bool true) (by kernel_rfl) (by kernel_rfl) ?_
      refine wl_nil ?_
      refine hK82 _ _ ?_
      try clear hK82 K82
      refine wp_ret ?_
      refine th_ret ?_
      exact done1 4 (.bool true) (by kernel_rfl) (by kernel_rfl) (by kernel_rfl) ⟨rfl, M84.toBelow⟩
  ·
    refine st_callB M16 (.bool false) (by kernel_rfl) (args := #[.agg (iv (blockOf l0)), .int .i64 127]) (run_value_call 18 #[(Operand.tmp 20), (Operand.const (Value.int IntKind.i64 127))] _ rfl Try.func18 (by kernel_rfl) (by kernel_rfl) _ (by kernel_rfl)) ((by have := within_walk W15 (blockOf l0) (blockOf_length _) 127 (by omega); rw [hB21] at this; exact this)) ?_
    intro W85 M86
    refine st_val (.bool true) (by kernel_rfl) (by kernel_rfl) ?_
    refine st_val (.bool true) (by kernel_rfl) (by kernel_rfl) ?_
    refine st_skip (by kernel_rfl) ?_
    refine st_skip (by kernel_rfl) ?_
    refine st_skip (by kernel_rfl) ?_
    refine st_val (.bool true) (by kernel_rfl) (by kernel_rfl) ?_
    refine wl_nil ?_
    refine hK18 _ _ ?_
    try clear hK18 K18
    refine wp_frame (a' := ⟨#[v0, v1, undef, undef, .bool false, .pointer (some ⟨g7, 0, none⟩), .pointer (some ⟨g10, 0, none⟩), undef, undef, undef, undef, undef, undef, undef, undef, undef, v0, .agg (iv (blockOf l0)), v1, .agg (iv (blockOf l1)), .agg (iv (blockOf l0)), .bool false, .bool true, .bool true, undef, undef, undef, .bool true, undef, undef, undef, undef, undef, undef, undef, undef, undef, undef, undef, undef, undef, undef, undef, undef, undef, undef, undef, undef, undef, undef, undef, undef, undef, undef, undef, undef, undef, undef, undef, undef, undef, undef, undef, undef, undef, undef, undef, undef, undef, undef, undef, undef, undef, undef, undef, undef, undef, undef, undef, undef, undef, undef, undef], []⟩) (by kernel_rfl) ?_
    refine wp_cond_true (by kernel_rfl) ?_
    refine wp_seq_k (fun K87 hK87 => ?_)
    refine wl_region ?_
    refine st_callB M86 (.bool true) (by kernel_rfl) (args := #[]) (run_value_call 15 #[] _ rfl Try.func15 (by kernel_rfl) (by kernel_rfl) _ (by kernel_rfl)) (awake_walk W85) ?_
    intro W88 M89
    refine st_val (.bool true) (by kernel_rfl) (by kernel_rfl) ?_
    refine wl_nil ?_
    refine hK87 _ _ ?_
    try clear hK87 K87
    refine wp_ret ?_
    refine th_ret ?_
    exact done1 4 (.bool true) (by kernel_rfl) (by kernel_rfl) (by kernel_rfl) ⟨rfl, M89.toBelow⟩
end Go.Proofs.Ytpjhehpgpfomjaa
