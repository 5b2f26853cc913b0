/- The sanity check and the walk of VbvParts. -/
import Derived.Test.YtolfkaljbgpkhaaCp
namespace Go.Proofs.Ytolfkaljbgpkhaa
open Go.RowKit

/-- the header of 'awake' -/
def awS : SeqD := ⟨16, 16, 25, 1, false, 1000, 200, zeros, zeros⟩
def awN (n : Nat) : SeqD := ⟨16, 16, 25, 1, false, 1000, 200, tab 64 (fun i => if i < n then 16 else 0), tab 64 (fun i => if i < n then 16 else 0)⟩
theorem awN_zero : awN 0 = awS := rfl
theorem tab16 (n : Nat) : (tab 64 (fun i => if i < n then 16 else 0)).set n 16 = tab 64 (fun i => if i < n + 1 then 16 else 0) := by
  rw [tab_set]
  apply tab_congr
  intro i _
  by_cases h : i = n
  · rw [if_pos h, if_pos (by omega)]
  · rw [if_neg h]
    by_cases h2 : i < n
    · rw [if_pos h2, if_pos (by omega)]
    · rw [if_neg h2, if_neg (by omega)]
theorem awN_next (n : Nat) : ({ { awN n with a := (awN n).a.set n 16 } with b := (awN n).b.set n 16 } : SeqD) = awN (n + 1) := by
  simp only [awN, tab16]
theorem awN_la (n : Nat) : (awN n).a.length = 64 := tab_length _ _
theorem awN_lb (n : Nat) : (awN n).b.length = 64 := tab_length _ _
theorem aw_BL : BL (awN 64).a := fun n hn => by
  have e : (awN 64).a.getD n 0 = 16 := by simp only [awN]; rw [tab_getD _ _ _ hn, if_pos hn]
  rw [e]; omega
theorem awOk : SOk (awN 64) := ⟨by decide, by decide, by decide, by decide, by decide, by decide, awN_la 64, awN_lb 64, aw_BL, aw_BL⟩
theorem awV : sB (awN 64) = true := by decide
theorem awCap : capS (awN 64) = 10000 := by rw [capS_t awV]; rfl
theorem awArr : arrS (awN 64) 2 = 2000 := by rw [arrS_t awV (by omega)]; rfl
theorem awCost : costS (awN 64) 40 = 2000 := by rw [costS_t awV (by omega)]; rfl
set_option maxHeartbeats 4000000 in
set_option maxRecDepth 100000 in
theorem awake_walk (w : World) : Calls Try.prog 11 #[] w fun e w' => e = .returned (.bool true) ∧ Below w.heap.size w w' := by
  refine calls_of_wp Try.func11 rfl ?_
  refine wp_frame (a' := ⟨#[undef, undef, undef, undef, undef, undef, undef, undef, undef, undef, undef, undef, undef, undef, undef, undef, undef, undef, undef, undef, undef, undef, undef, undef, undef, undef, undef, undef], []⟩) (by kernel_rfl) ?_
  have M0 : Mem NoS w w [] := Mem.start _ _
  refine wp_seq_k (fun K1 hK1 => ?_)
  refine wl_region ?_
  refine st_val (.bool false) (by kernel_rfl) (by kernel_rfl) ?_
  refine wl_nil ?_
  refine hK1 _ _ ?_
  try clear hK1 K1
  refine wp_seq_k (fun K2 hK2 => ?_)
  refine wl_region ?_
  refine st_val (.agg #[.int .i64 25, .int .i64 1]) (by kernel_rfl) (by kernel_rfl) ?_
  refine st_val (.agg (sqv awS)) (by kernel_rfl) (by kernel_rfl) ?_
  refine st_alloc M0 (.cells (sqv zS) 26 (0, 0)) (by kernel_rfl) (by kernel_rfl) ?_
  intro g3 W4 M5
  refine st_storeRow M5 0 rfl 26 (.tmp 1) (.tmp 4) (by rfl) (sqv awS) (by kernel_rfl) (by kernel_rfl) (infoSq rfl rfl) (sqv_same (sqv_size rfl rfl) (sqv_size rfl rfl) rfl) (sqv_one _) (by kernel_rfl) [(g3, .cells (sqv awS) 26 (0, 0))] rfl ?_
  intro W6 M7
  refine wl_nil ?_
  refine hK2 _ _ ?_
  try clear hK2 K2
  refine wp_seq_k (fun K8 hK8 => ?_)
  refine wp_seq_k (fun K9 hK9 => ?_)
  refine wl_region ?_
  refine st_val (.int .i64 0) (by kernel_rfl) (by kernel_rfl) ?_
  refine wl_nil ?_
  refine hK9 _ _ ?_
  try clear hK9 K9
  refine wp_block ?_
  refine wp_loop_ghost (fun gn a' w' => ∃ (n : Nat) (u10 : Nat → Value), ((n ≤ 64) ∧ Mem NoS w w' [(g3, .cells (sqv (awN n)) 26 (0, 0))]) ∧ gn = 64 - n ∧ a' = ⟨#[.bool false, .pointer (some ⟨g3, 0, none⟩), .int .i64 (n : Int), .agg #[.int .i64 25, .int .i64 1], .agg (sqv awS), (u10 5), (u10 6), (u10 7), (u10 8), (u10 9), (u10 10), (u10 11), (u10 12), (u10 13), (u10 14), undef, undef, undef, undef, undef, undef, undef, undef, undef, undef, undef, undef, undef], []⟩) _ ⟨0, (fun zz => Array.getD #[.bool false, .pointer (some ⟨g3, 0, none⟩), .int .i64 0, .agg #[.int .i64 25, .int .i64 1], .agg (sqv awS), undef, undef, undef, undef, undef, undef, undef, undef, undef, undef, undef, undef, undef, undef, undef, undef, undef, undef, undef, undef, undef, undef, undef] zz undef), ⟨by omega, (by rw [awN_zero]; exact M7)⟩, rfl, (by kernel_rfl)⟩ ?_
  rintro gn _ W11 ⟨n, u10, ⟨rn, M12⟩, rfl, rfl⟩
  refine wp_seq_k (fun K13 hK13 => ?_)
  refine wp_seq_k (fun K14 hK14 => ?_)
  refine wl_region ?_
  refine st_val (.int .i64 (n : Int)) (by kernel_rfl) (by kernel_rfl) ?_
  rcases Decidable.em (((n : Int) : Int) < 64) with c6 | c6
  ·
    refine st_val (.bool true) (by kernel_rfl) (bool_of (dec_t c6) (by kernel_rfl)) ?_
    refine wl_nil ?_
    refine hK14 _ _ ?_
    try clear hK14 K14
    refine wp_cond_true (by kernel_rfl) ?_
    refine wp_skip ?_
    refine hK13 _ _ ?_
    try clear hK13 K13
    refine wp_seq_k (fun K15 hK15 => ?_)
    refine wp_block ?_
    refine wl_region ?_
    refine st_val (.int .i64 (n : Int)) (by kernel_rfl) (by kernel_rfl) ?_
    refine st_val (.int .i64 (n : Int)) (by kernel_rfl) (by kernel_rfl) ?_
    refine st_val (.pointer (some ⟨g3, 7, none⟩)) (by kernel_rfl) (by kernel_rfl) ?_
    refine st_val (.pointer (some ⟨g3, 7 + n, none⟩)) (by kernel_rfl) (run_indexAddr 24 (.tmp 11) (.tmp 9) rfl ⟨g3, 7, none⟩ .i64 n (by kernel_rfl) (by kernel_rfl) Try.underlying24 1 (by kernel_rfl) (by omega) ⟨g3, 7 + n, none⟩ (addr_at _ _ _)) ?_
    refine st_storeCell M12 0 rfl 5 (.tmp 12) _ (by rfl) (7 + n) (.int .u8 16) (sqv ({ awN n with a := (awN n).a.set n 16 })) (by kernel_rfl) (by kernel_rfl) (by rw [sqv_size (s := awN n) (awN_la n) (awN_lb n)]; omega) (by kernel_rfl) rfl (by kernel_rfl) (sqv_setA (awN n) n 16 (by rw [awN_la]; omega)) (by kernel_rfl) [(g3, .cells (sqv ({ awN n with a := (awN n).a.set n 16 })) 26 (0, 0))] rfl ?_
    intro W16 M17
    refine st_val (.pointer (some ⟨g3, 71, none⟩)) (by kernel_rfl) (by kernel_rfl) ?_
    refine st_val (.pointer (some ⟨g3, 71 + n, none⟩)) (by kernel_rfl) (run_indexAddr 24 (.tmp 13) (.tmp 10) rfl ⟨g3, 71, none⟩ .i64 n (by kernel_rfl) (by kernel_rfl) Try.underlying24 1 (by kernel_rfl) (by omega) ⟨g3, 71 + n, none⟩ (addr_at _ _ _)) ?_
    refine st_storeCell M17 0 rfl 5 (.tmp 14) _ (by rfl) (71 + n) (.int .u8 16) (sqv ({ { awN n with a := (awN n).a.set n 16 } with b := (awN n).b.set n 16 })) (by kernel_rfl) (by kernel_rfl) (by rw [sqv_size (s := { awN n with a := (awN n).a.set n 16 }) (by rw [List.length_set]; exact awN_la n) (awN_lb n)]; omega) (by kernel_rfl) rfl (by kernel_rfl) (sqv_setB ({ awN n with a := (awN n).a.set n 16 }) n 16 (by show (List.set _ _ _).length = 64; rw [List.length_set]; exact awN_la n)) (by kernel_rfl) [(g3, .cells (sqv ({ { awN n with a := (awN n).a.set n 16 } with b := (awN n).b.set n 16 })) 26 (0, 0))] rfl ?_
    intro W18 M19
    refine wl_nil ?_
    refine blk_normal ?_
    refine hK15 _ _ ?_
    try clear hK15 K15
    refine wl_region ?_
    refine st_val (.int .i64 (n : Int)) (by kernel_rfl) (by kernel_rfl) ?_
    refine st_val (.int .i64 ((n : Int) + 1)) (by kernel_rfl) (i64_of (by omega) (by kernel_rfl)) ?_
    refine st_val (.int .i64 ((n : Int) + 1)) (by kernel_rfl) (by kernel_rfl) ?_
    refine wl_nil ?_
    refine th_normal ?_
    exact ⟨_, by omega, (n + 1), (fun zz => Array.getD #[.bool false, .pointer (some ⟨g3, 0, none⟩), .int .i64 ((n : Int) + 1), .agg #[.int .i64 25, .int .i64 1], .agg (sqv awS), .int .i64 (n : Int), .bool true, .int .i64 (n : Int), .int .i64 ((n : Int) + 1), .int .i64 (n : Int), .int .i64 (n : Int), .pointer (some ⟨g3, 7, none⟩), .pointer (some ⟨g3, 7 + n, none⟩), .pointer (some ⟨g3, 71, none⟩), .pointer (some ⟨g3, 71 + n, none⟩), undef, undef, undef, undef, undef, undef, undef, undef, undef, undef, undef, undef, undef] zz undef), ⟨by omega, (by rw [← awN_next n]; exact M19)⟩, rfl, (by kernel_rfl)⟩
  ·
    refine st_val (.bool false) (by kernel_rfl) (bool_of (dec_f c6) (by kernel_rfl)) ?_
    refine wl_nil ?_
    refine hK14 _ _ ?_
    try clear hK14 K14
    refine wp_cond_false (by kernel_rfl) ?_
    refine wp_exit ?_
    refine th_exit ?_
    refine th_exit ?_
    refine blk_exit ?_
    refine hK8 _ _ ?_
    try clear hK8 K8
    refine wp_seq_k (fun K20 hK20 => ?_)
    have M21 : Mem NoS w W11 [(g3, .cells (sqv (awN 64)) 26 (0, 0))] := by
      have hh := M12; rw [show n = 64 by omega] at hh; exact hh
    refine wl_region ?_
    refine st_val (.agg (sqv (awN 64))) (by kernel_rfl) (run_load_row 26 (.tmp 1) rfl g3 (by kernel_rfl) 26 (sqv (awN 64)) (0, 0) _ (M21.get 0 rfl) Try.underlying26 rfl (infoSq (awN_la 64) (awN_lb 64))) ?_
    refine st_callB M21 (.int .i64 (capS (awN 64))) (by kernel_rfl) (args := #[.agg (sqv (awN 64))]) (run_value_call 12 #[(Operand.tmp 15)] _ rfl Try.func12 (by kernel_rfl) (by kernel_rfl) _ (by kernel_rfl)) (cap_walk W11 (awN 64) awOk) ?_
    intro W22 M23
    refine st_val (.bool true) (by kernel_rfl) (bool_of (dec_t (show (capS (awN 64) : Int) = 10000 from awCap)) (by kernel_rfl)) ?_
    refine st_val (.bool true) (by kernel_rfl) (by kernel_rfl) ?_
    refine st_val (.agg (sqv (awN 64))) (by kernel_rfl) (run_load_row 26 (.tmp 1) rfl g3 (by kernel_rfl) 26 (sqv (awN 64)) (0, 0) _ (M23.get 0 rfl) Try.underlying26 rfl (infoSq (awN_la 64) (awN_lb 64))) ?_
    refine st_callB M23 (.int .i64 (arrS (awN 64) 2)) (by kernel_rfl) (args := #[.agg (sqv (awN 64)), .int .i64 2]) (run_value_call 14 #[(Operand.tmp 19), (Operand.const (Value.int IntKind.i64 2))] _ rfl Try.func14 (by kernel_rfl) (by kernel_rfl) _ (by kernel_rfl)) (arr_walk W22 (awN 64) awOk 2) ?_
    intro W24 M25
    refine st_val (.bool true) (by kernel_rfl) (bool_of (dec_t (show (arrS (awN 64) 2 : Int) = 2000 from awArr)) (by kernel_rfl)) ?_
    refine st_val (.bool true) (by kernel_rfl) (by kernel_rfl) ?_
    refine st_val (.bool true) (by kernel_rfl) (by kernel_rfl) ?_
    refine st_val (.agg (sqv (awN 64))) (by kernel_rfl) (run_load_row 26 (.tmp 1) rfl g3 (by kernel_rfl) 26 (sqv (awN 64)) (0, 0) _ (M25.get 0 rfl) Try.underlying26 rfl (infoSq (awN_la 64) (awN_lb 64))) ?_
    refine st_callB M25 (.int .i64 (costS (awN 64) 40)) (by kernel_rfl) (args := #[.agg (sqv (awN 64)), .int .i64 40]) (run_value_call 16 #[(Operand.tmp 24), (Operand.const (Value.int IntKind.i64 40))] _ rfl Try.func16 (by kernel_rfl) (by kernel_rfl) _ (by kernel_rfl)) (cost_walk W24 (awN 64) awOk 40) ?_
    intro W26 M27
    refine st_val (.bool true) (by kernel_rfl) (bool_of (dec_t (show (costS (awN 64) 40 : Int) = 2000 from awCost)) (by kernel_rfl)) ?_
    refine st_val (.bool true) (by kernel_rfl) (by kernel_rfl) ?_
    refine st_val (.bool true) (by kernel_rfl) (by kernel_rfl) ?_
    refine wl_nil ?_
    refine hK20 _ _ ?_
    try clear hK20 K20
    refine wp_frame (a' := ⟨#[.bool true, .pointer (some ⟨g3, 0, none⟩), .int .i64 (n : Int), .agg #[.int .i64 25, .int .i64 1], .agg (sqv awS), .int .i64 (n : Int), .bool false, (u10 7), (u10 8), (u10 9), (u10 10), (u10 11), (u10 12), (u10 13), (u10 14), .agg (sqv (awN 64)), .int .i64 (capS (awN 64)), .bool true, .bool true, .agg (sqv (awN 64)), .int .i64 (arrS (awN 64) 2), .bool true, .bool true, .bool true, .agg (sqv (awN 64)), .int .i64 (costS (awN 64) 40), .bool true, .bool true], []⟩) (by kernel_rfl) ?_
    refine wp_ret ?_
    exact done1 0 (.bool true) (by kernel_rfl) (by kernel_rfl) (by kernel_rfl) ⟨rfl, M27.toBelow⟩
set_option maxHeartbeats 4000000 in
set_option maxRecDepth 100000 in
theorem VbvParts_walk (w : World) (s : SeqD) (hs : SOk s) (f b : Int) : Calls Try.prog 3 #[.agg (sqv s), .int .i64 f, .int .i64 b] w fun e w' => e = .returned (.bool true) ∧ Below w.heap.size w w' := by
  refine calls_of_wp Try.func3 rfl ?_
  refine wp_frame (a' := ⟨#[.agg (sqv s), .int .i64 f, .int .i64 b, undef, undef, undef, undef, undef, undef, undef, undef, undef, undef, undef, undef, undef, undef, undef, undef, undef, undef, undef, undef, undef, undef, undef, undef, undef, undef, undef, undef, undef, undef], []⟩) (by kernel_rfl) ?_
  have M0 : Mem NoS w w [] := Mem.start _ _
  refine wp_seq_k (fun K1 hK1 => ?_)
  refine wl_region ?_
  refine st_alloc M0 (.cells (sqv s) 26 (0, 0)) (by kernel_rfl) (by kernel_rfl) ?_
  intro g2 W3 M4
  refine st_val (.bool false) (by kernel_rfl) (by kernel_rfl) ?_
  refine wl_nil ?_
  refine hK1 _ _ ?_
  try clear hK1 K1
  refine wp_seq_k (fun K5 hK5 => ?_)
  refine wl_seq 27 (fun w' => Mem NoS w w' [(g2, .cells (sqv s) 26 (0, 0))]) (by decide) (by kernel_rfl) (by kernel_rfl) M4.drew ?_
  refine seq_call (v := .bool true) (f := 11) (args := #[]) (by decide) (by kernel_rfl) (fun w' M' => (run_value_call 11 #[] _ rfl Try.func11 (by kernel_rfl) (by kernel_rfl) _ (by kernel_rfl))) (fun w' M' => callB_mem M' (awake_walk w')) ?_
  refine seq_run (v := .bool true) (by decide) (by kernel_rfl) (fun w' M' => (by kernel_rfl)) ?_
  refine seq_run (v := .agg (sqv s)) (by decide) (by kernel_rfl) (fun w' M' => (run_load_row 26 (.tmp 3) rfl g2 (by kernel_rfl) 26 (sqv s) (0, 0) _ (M'.get 0 rfl) Try.underlying26 rfl (infoSq hs.la hs.lb))) ?_
  refine seq_call (v := .int .i64 (capS s)) (f := 12) (args := #[.agg (sqv s)]) (by decide) (by kernel_rfl) (fun w' M' => (run_value_call 12 #[(Operand.tmp 9)] _ rfl Try.func12 (by kernel_rfl) (by kernel_rfl) _ (by kernel_rfl))) (fun w' M' => callB_mem M' (cap_walk w' s hs)) ?_
  refine seq_run (v := .agg (sqv s)) (by decide) (by kernel_rfl) (fun w' M' => (run_load_row 26 (.tmp 3) rfl g2 (by kernel_rfl) 26 (sqv s) (0, 0) _ (M'.get 0 rfl) Try.underlying26 rfl (infoSq hs.la hs.lb))) ?_
  refine seq_call (v := .int .i64 (capS s)) (f := 13) (args := #[.agg (sqv s)]) (by decide) (by kernel_rfl) (fun w' M' => (run_value_call 13 #[(Operand.tmp 11)] _ rfl Try.func13 (by kernel_rfl) (by kernel_rfl) _ (by kernel_rfl))) (fun w' M' => callB_mem M' (refCap_walk w' s hs)) ?_
  refine seq_run (v := .bool true) (by decide) (by kernel_rfl) (fun w' M' => (bool_of (dec_t (show (capS s : Int) = capS s from rfl)) (by kernel_rfl))) ?_
  refine seq_run (v := .bool true) (by decide) (by kernel_rfl) (fun w' M' => (by kernel_rfl)) ?_
  refine seq_run (v := .bool true) (by decide) (by kernel_rfl) (fun w' M' => (by kernel_rfl)) ?_
  refine seq_run (v := .agg (sqv s)) (by decide) (by kernel_rfl) (fun w' M' => (run_load_row 26 (.tmp 3) rfl g2 (by kernel_rfl) 26 (sqv s) (0, 0) _ (M'.get 0 rfl) Try.underlying26 rfl (infoSq hs.la hs.lb))) ?_
  refine seq_run (v := .int .i64 f) (by decide) (by kernel_rfl) (fun w' M' => (by kernel_rfl)) ?_
  refine seq_call (v := .int .i64 (arrS s f)) (f := 14) (args := #[.agg (sqv s), .int .i64 f]) (by decide) (by kernel_rfl) (fun w' M' => (run_value_call 14 #[(Operand.tmp 16), (Operand.tmp 17)] _ rfl Try.func14 (by kernel_rfl) (by kernel_rfl) _ (by kernel_rfl))) (fun w' M' => callB_mem M' (arr_walk w' s hs f)) ?_
  refine seq_run (v := .agg (sqv s)) (by decide) (by kernel_rfl) (fun w' M' => (run_load_row 26 (.tmp 3) rfl g2 (by kernel_rfl) 26 (sqv s) (0, 0) _ (M'.get 0 rfl) Try.underlying26 rfl (infoSq hs.la hs.lb))) ?_
  refine seq_run (v := .int .i64 f) (by decide) (by kernel_rfl) (fun w' M' => (by kernel_rfl)) ?_
  refine seq_call (v := .int .i64 (arrS s f)) (f := 15) (args := #[.agg (sqv s), .int .i64 f]) (by decide) (by kernel_rfl) (fun w' M' => (run_value_call 15 #[(Operand.tmp 19), (Operand.tmp 20)] _ rfl Try.func15 (by kernel_rfl) (by kernel_rfl) _ (by kernel_rfl))) (fun w' M' => callB_mem M' (refArr_walk w' s hs f)) ?_
  refine seq_run (v := .bool true) (by decide) (by kernel_rfl) (fun w' M' => (bool_of (dec_t (show (arrS s f : Int) = arrS s f from rfl)) (by kernel_rfl))) ?_
  refine seq_run (v := .bool true) (by decide) (by kernel_rfl) (fun w' M' => (by kernel_rfl)) ?_
  refine seq_run (v := .bool true) (by decide) (by kernel_rfl) (fun w' M' => (by kernel_rfl)) ?_
  refine seq_run (v := .agg (sqv s)) (by decide) (by kernel_rfl) (fun w' M' => (run_load_row 26 (.tmp 3) rfl g2 (by kernel_rfl) 26 (sqv s) (0, 0) _ (M'.get 0 rfl) Try.underlying26 rfl (infoSq hs.la hs.lb))) ?_
  refine seq_run (v := .int .i64 b) (by decide) (by kernel_rfl) (fun w' M' => (by kernel_rfl)) ?_
  refine seq_call (v := .int .i64 (costS s b)) (f := 16) (args := #[.agg (sqv s), .int .i64 b]) (by decide) (by kernel_rfl) (fun w' M' => (run_value_call 16 #[(Operand.tmp 25), (Operand.tmp 26)] _ rfl Try.func16 (by kernel_rfl) (by kernel_rfl) _ (by kernel_rfl))) (fun w' M' => callB_mem M' (cost_walk w' s hs b)) ?_
  refine seq_run (v := .agg (sqv s)) (by decide) (by kernel_rfl) (fun w' M' => (run_load_row 26 (.tmp 3) rfl g2 (by kernel_rfl) 26 (sqv s) (0, 0) _ (M'.get 0 rfl) Try.underlying26 rfl (infoSq hs.la hs.lb))) ?_
  refine seq_run (v := .int .i64 b) (by decide) (by kernel_rfl) (fun w' M' => (by kernel_rfl)) ?_
  refine seq_call (v := .int .i64 (costS s b)) (f := 17) (args := #[.agg (sqv s), .int .i64 b]) (by decide) (by kernel_rfl) (fun w' M' => (run_value_call 17 #[(Operand.tmp 28), (Operand.tmp 29)] _ rfl Try.func17 (by kernel_rfl) (by kernel_rfl) _ (by kernel_rfl))) (fun w' M' => callB_mem M' (refCost_walk w' s hs b)) ?_
  refine seq_run (v := .bool true) (by decide) (by kernel_rfl) (fun w' M' => (bool_of (dec_t (show (costS s b : Int) = costS s b from rfl)) (by kernel_rfl))) ?_
  refine seq_run (v := .bool true) (by decide) (by kernel_rfl) (fun w' M' => (by kernel_rfl)) ?_
  refine seq_run (v := .bool true) (by decide) (by kernel_rfl) (fun w' M' => (by kernel_rfl)) ?_
  refine seq_end (by decide) ?_
  intro W6 M7
  refine wl_nil ?_
  refine hK5 _ _ ?_
  try clear hK5 K5
  refine wp_frame (a' := ⟨#[.agg (sqv s), .int .i64 f, .int .i64 b, .pointer (some ⟨g2, 0, none⟩), undef, undef, .bool true, .bool true, .bool true, .agg (sqv s), .int .i64 (capS s), .agg (sqv s), .int .i64 (capS s), .bool true, .bool true, .bool true, .agg (sqv s), .int .i64 f, .int .i64 (arrS s f), .agg (sqv s), .int .i64 f, .int .i64 (arrS s f), .bool true, .bool true, .bool true, .agg (sqv s), .int .i64 b, .int .i64 (costS s b), .agg (sqv s), .int .i64 b, .int .i64 (costS s b), .bool true, .bool true], []⟩) (by kernel_rfl) ?_
  refine wp_ret ?_
  exact done1 6 (.bool true) (by kernel_rfl) (by kernel_rfl) (by kernel_rfl) ⟨rfl, M7.toBelow⟩
end Go.Proofs.Ytolfkaljbgpkhaa
