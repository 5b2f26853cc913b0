/- Pad, as the reference has it. -/
import Derived.Test.YtolfkaljbgpkhaaPd
namespace Go.Proofs.Ytolfkaljbgpkhaa
open Go.RowKit
set_option maxHeartbeats 4000000 in
set_option maxRecDepth 100000 in
theorem refPad_walk (w : World) (s : SeqD) (hs : SOk s) (v : Value) (us : List UnitD) (hr : RdK w v us.length (flat us)) (start : Int) (hst : -9223372036854775808 ≤ start ∧ start ≤ 9223372036854775807) : MakesRow Try.prog 22 #[.agg (sqv s), v, .int .i64 start] w (fun v T => ∃ v1, v = .tuple #[v1, .int .i64 (padE s us start)] ∧ Own 2 1 v1 (padL s us start).length (ints (padL s us start)) T) := by
  unfold MakesRow
  obtain ⟨A, c, rfl, hc⟩ := hr.shape
  refine calls_of_wp Try.func22 rfl ?_
  refine wp_frame (a' := ⟨#[.agg (sqv s), .slice A us.length c, .int .i64 start, undef, undef, undef, undef, undef, undef, undef, undef, undef, undef, undef, undef, undef, undef, undef, undef, undef, undef, undef, undef, undef, undef, undef, undef, undef, undef, undef, undef, undef, undef, undef, undef, undef, undef, undef, undef, undef, undef, undef, undef, undef, undef, undef, undef, undef, undef, undef, undef, undef, undef, undef, undef, undef, undef, undef, undef, undef, undef, undef, undef, undef, undef, undef, undef, undef, undef, undef, undef, undef, undef, undef, undef, undef, undef, undef, undef, undef, undef, undef, undef, undef, undef, undef], []⟩) (by kernel_rfl) ?_
  have M0 : Mem NoS w w [] := Mem.start _ _
  refine wp_seq_k (fun K1 hK1 => ?_)
  refine wl_region ?_
  refine st_alloc M0 (.cells (sqv s) 26 (0, 0)) (by kernel_rfl) (by kernel_rfl) ?_
  intro g2 W3 M4
  refine st_val ((Go.Value.slice none 0 0)) (by kernel_rfl) (by kernel_rfl) ?_
  refine st_val (.int .i64 0) (by kernel_rfl) (by kernel_rfl) ?_
  refine wl_nil ?_
  refine hK1 _ _ ?_
  try clear hK1 K1
  refine wp_seq_k (fun K5 hK5 => ?_)
  refine wp_seq_k (fun K6 hK6 => ?_)
  refine wl_region ?_
  refine st_val (.agg (sqv s)) (by kernel_rfl) (run_load_row 26 (.tmp 3) rfl g2 (by kernel_rfl) 26 (sqv s) (0, 0) _ (M4.get 0 rfl) Try.underlying26 rfl (infoSq hs.la hs.lb)) ?_
  refine st_val (.slice A us.length c) (by kernel_rfl) (by kernel_rfl) ?_
  refine st_val (.int .i64 start) (by kernel_rfl) (by kernel_rfl) ?_
  rcases Bool.eq_false_or_eq_true (prB s us start) with hp16 | hp16
  ·
    refine st_callB M4 (.bool true) (by kernel_rfl) (args := #[.agg (sqv s), .slice A us.length c, .int .i64 start]) (run_value_call 36 #[(Operand.tmp 13), (Operand.tmp 14), (Operand.tmp 15)] _ rfl Try.func36 (by kernel_rfl) (by kernel_rfl) _ (by kernel_rfl)) ((by have := refProper_walk W3 s hs (.slice A us.length c) us (hr.keep M4.keep (fun _ _ h => h)) start; rw [hp16] at this; exact this)) ?_
    intro W7 M8
    have hpr := PR_of hp16
    have hv := hpr.1
    obtain ⟨vn1, vn2, vd1, vd2, vb1, vb2, vu1, vu2, vP, vQ, vR⟩ := SV_facts hv
    have hcap := capS_t hv
    have hul := hpr.2.2.2.1
    refine st_val (.bool false) (by kernel_rfl) (by kernel_rfl) ?_
    refine wl_nil ?_
    refine hK6 _ _ ?_
    try clear hK6 K6
    refine wp_cond_false (by kernel_rfl) ?_
    refine wp_skip ?_
    refine hK5 _ _ ?_
    try clear hK5 K5
    refine wp_seq_k (fun K9 hK9 => ?_)
    refine wl_region ?_
    refine st_val ((Go.Value.slice none 0 0)) (by kernel_rfl) (by kernel_rfl) ?_
    refine wl_nil ?_
    refine hK9 _ _ ?_
    try clear hK9 K9
    refine wp_seq_k (fun K10 hK10 => ?_)
    refine wl_region ?_
    refine st_val (.int .i64 start) (by kernel_rfl) (by kernel_rfl) ?_
    refine st_val (.int .i64 start) (by kernel_rfl) (by kernel_rfl) ?_
    refine wl_nil ?_
    refine hK10 _ _ ?_
    try clear hK10 K10
    refine wp_seq_k (fun K11 hK11 => ?_)
    refine wp_seq_k (fun K12 hK12 => ?_)
    refine wl_region ?_
    refine st_val (.int .i64 0) (by kernel_rfl) (by kernel_rfl) ?_
    refine wl_nil ?_
    refine hK12 _ _ ?_
    try clear hK12 K12
    refine wp_block ?_
    have hst1 := hpr.2.1
    have hst2 := hpr.2.2.1
    refine wp_loop_ghost (fun gn a' w' => ∃ (i : Nat) (f : Int) (p : List Int) (A1 : Option Addr) (c1 : Nat) (T1 : List (Nat × Obj)) (u13 : Nat → Value), ((i ≤ us.length ∧ (0 ≤ f ∧ f ≤ 2 * s.num * s.bu + 3 * (s.br * s.den)) ∧ (i < us.length → f ≤ 2 * s.num * s.bu) ∧ Own 2 1 (.slice A1 i c1) i (ints p) T1 ∧ padO (2 * s.num) (s.br * s.den) (2 * s.num * s.bu) start us = (padO (2 * s.num) (s.br * s.den) (2 * s.num * s.bu) f (us.drop i)).map fun q => (p ++ q.1, q.2)) ∧ Mem NoS w w' ((g2, .cells (sqv s) 26 (0, 0)) :: (T1 ++ []))) ∧ gn = us.length - i ∧ a' = ⟨#[.agg (sqv s), .slice A us.length c, .int .i64 start, .pointer (some ⟨g2, 0, none⟩), undef, undef, (u13 6), (u13 7), .slice A1 i c1, .int .i64 f, .int .i64 (i : Int), (u13 11), (u13 12), .agg (sqv s), .slice A us.length c, .int .i64 start, .bool true, .bool false, .int .i64 start, (u13 19), (u13 20), (u13 21), (u13 22), (u13 23), (u13 24), (u13 25), (u13 26), (u13 27), (u13 28), (u13 29), (u13 30), (u13 31), (u13 32), (u13 33), (u13 34), (u13 35), (u13 36), (u13 37), (u13 38), (u13 39), (u13 40), (u13 41), (u13 42), (u13 43), (u13 44), (u13 45), (u13 46), (u13 47), (u13 48), (u13 49), (u13 50), (u13 51), (u13 52), (u13 53), (u13 54), (u13 55), (u13 56), (u13 57), (u13 58), (u13 59), (u13 60), (u13 61), (u13 62), (u13 63), (u13 64), (u13 65), (u13 66), (u13 67), (u13 68), (u13 69), (u13 70), (u13 71), (u13 72), (u13 73), (u13 74), (u13 75), (u13 76), (u13 77), (u13 78), (u13 79), (u13 80), (u13 81), (u13 82), (u13 83), (u13 84), undef], []⟩) _ ⟨0, start, ([]), none, 0, ([]), (fun zz => Array.getD #[.agg (sqv s), .slice A us.length c, .int .i64 start, .pointer (some ⟨g2, 0, none⟩), undef, undef, (Go.Value.slice none 0 0), .int .i64 0, (Go.Value.slice none 0 0), .int .i64 start, .int .i64 0, undef, undef, .agg (sqv s), .slice A us.length c, .int .i64 start, .bool true, .bool false, .int .i64 start, undef, undef, undef, undef, undef, undef, undef, undef, undef, undef, undef, undef, undef, undef, undef, undef, undef, undef, undef, undef, undef, undef, undef, undef, undef, undef, undef, undef, undef, undef, undef, undef, undef, undef, undef, undef, undef, undef, undef, undef, undef, undef, undef, undef, undef, undef, undef, undef, undef, undef, undef, undef, undef, undef, undef, undef, undef, undef, undef, undef, undef, undef, undef, undef, undef, undef, undef] zz undef), ⟨⟨by omega, ⟨by omega, by omega⟩, fun _ => by omega, Own.nil _ _, by rw [List.drop_zero]; cases padO (2 * s.num) (s.br * s.den) (2 * s.num * s.bu) start us <;> simp⟩, M8⟩, rfl, (by kernel_rfl)⟩ ?_
    rintro gn _ W14 ⟨i, f, p, A1, c1, T1, u13, ⟨⟨ri, rf, rc, O1, hP⟩, M15⟩, rfl, rfl⟩
    refine wp_seq_k (fun K16 hK16 => ?_)
    refine wp_seq_k (fun K17 hK17 => ?_)
    refine wl_region ?_
    refine st_val (.int .i64 (i : Int)) (by kernel_rfl) (by kernel_rfl) ?_
    refine st_val (.slice A us.length c) (by kernel_rfl) (by kernel_rfl) ?_
    refine st_val (.int .i64 ((us.length : Nat) : Int)) (by kernel_rfl) (by kernel_rfl) ?_
    rcases Decidable.em (((i : Int) : Int) < ((us.length : Nat) : Int)) with c22 | c22
    ·
      refine st_val (.bool true) (by kernel_rfl) (bool_of (dec_t c22) (by kernel_rfl)) ?_
      refine wl_nil ?_
      refine hK17 _ _ ?_
      try clear hK17 K17
      refine wp_cond_true (by kernel_rfl) ?_
      refine wp_skip ?_
      refine hK16 _ _ ?_
      try clear hK16 K16
      refine wp_seq_k (fun K18 hK18 => ?_)
      refine wp_block ?_
      refine wp_seq_k (fun K19 hK19 => ?_)
      refine wp_seq_k (fun K20 hK20 => ?_)
      have hu := hpr.2.2.2.2 i (by omega)
      unfold PU at hu
      obtain ⟨hu1, hu2, hu3⟩ := hu
      have hc1 := mul_in (m := 2097152) (n := 8388608) (x := 2 * s.num) (y := (us.getD i u0).bits) (by omega) (by omega)
      have hd1 := mul_in (m := 1099511627776) (n := 3) (x := s.br * s.den) (y := (us.getD i u0).fields) (by omega) (by omega)
      have hdb : 0 ≤ 3 * s.den * s.br := Int.mul_nonneg (by omega) (by omega)
      have hd2 : s.br * s.den * (us.getD i u0).fields ≤ 3 * (s.br * s.den) := by rcases hu3 with h | h <;> rw [h] <;> omega
      refine wl_seq 9 (fun w' => Mem NoS w w' ((g2, .cells (sqv s) 26 (0, 0)) :: (T1 ++ []))) (by decide) (by kernel_rfl) (by kernel_rfl) M15.drew ?_
      refine seq_run (v := .int .i64 f) (by decide) (by kernel_rfl) (fun w' M' => (by kernel_rfl)) ?_
      refine seq_run (v := .agg (sqv s)) (by decide) (by kernel_rfl) (fun w' M' => (run_load_row 26 (.tmp 3) rfl g2 (by kernel_rfl) 26 (sqv s) (0, 0) _ (M'.get 0 rfl) Try.underlying26 rfl (infoSq hs.la hs.lb))) ?_
      refine seq_run (v := .slice A us.length c) (by decide) (by kernel_rfl) (fun w' M' => (by kernel_rfl)) ?_
      refine seq_run (v := .int .i64 (i : Int)) (by decide) (by kernel_rfl) (fun w' M' => (by kernel_rfl)) ?_
      obtain ⟨b21, o22, eA23⟩ := RdK.addr (hr.keep M15.keep (fun _ _ h => h)) (j := i * 4) (by rw [flat_len]; omega)
      refine seq_run (v := .pointer (some ⟨b21, o22 + i * 4, none⟩)) (by decide) (by kernel_rfl) (fun w' M' => (run_indexSliceA 32 (.tmp 27) (.tmp 28) rfl A ⟨b21, o22, none⟩ eA23 us.length c .i64 i (by kernel_rfl) (by kernel_rfl) Try.underlying32 4 (by kernel_rfl) (by omega) ⟨b21, o22 + i * 4, none⟩ (addr_atK _ _ _ _))) ?_
      refine seq_run (v := .pointer (some ⟨b21, o22 + i * 4 + 2, none⟩)) (by decide) (by kernel_rfl) (fun w' M' => (by kernel_rfl)) ?_
      refine seq_run (v := .int .i64 ((us.getD i u0).bits)) (by decide) (by kernel_rfl) (fun w' M' => (run_load_cell 2 (.tmp 30) rfl ⟨b21, o22 + i * 4 + 2, none⟩ (by kernel_rfl) _ ((hr.keep M'.keep (fun _ _ h => h)).cellF eA23 (f := 2) (flat_get us i 2 (by omega) (by omega))) (by kernel_rfl))) ?_
      refine seq_call (v := .int .i64 (2 * s.num * ((us.getD i u0).bits))) (f := 17) (args := #[.agg (sqv s), .int .i64 ((us.getD i u0).bits)]) (by decide) (by kernel_rfl) (fun w' M' => (run_value_call 17 #[(Operand.tmp 26), (Operand.tmp 31)] _ rfl Try.func17 (by kernel_rfl) (by kernel_rfl) _ (by kernel_rfl))) (fun w' M' => callB_mem M' ((by have := refCost_walk w' s hs ((us.getD i u0).bits); rw [costS_t hv (by omega)] at this; exact this))) ?_
      rcases Decidable.em ((f : Int) < 2 * s.num * ((us.getD i u0).bits)) with c33 | c33
      ·
        refine seq_run (v := .bool true) (by decide) (by kernel_rfl) (fun w' M' => (bool_of (dec_t c33) (by kernel_rfl))) ?_
        refine seq_end (by decide) ?_
        intro W24 M25
        refine wl_nil ?_
        refine hK20 _ _ ?_
        try clear hK20 K20
        refine wp_frame (a' := ⟨#[.agg (sqv s), .slice A us.length c, .int .i64 start, .pointer (some ⟨g2, 0, none⟩), undef, undef, (u13 6), (u13 7), .slice A1 i c1, .int .i64 f, .int .i64 (i : Int), (u13 11), (u13 12), .agg (sqv s), .slice A us.length c, .int .i64 start, .bool true, .bool false, .int .i64 start, .int .i64 (i : Int), .slice A us.length c, .int .i64 ((us.length : Nat) : Int), .bool true, (u13 23), (u13 24), .int .i64 f, .agg (sqv s), .slice A us.length c, .int .i64 (i : Int), .pointer (some ⟨b21, o22 + i * 4, none⟩), .pointer (some ⟨b21, o22 + i * 4 + 2, none⟩), .int .i64 ((us.getD i u0).bits), .int .i64 (2 * s.num * ((us.getD i u0).bits)), .bool true, (u13 34), (u13 35), (u13 36), (u13 37), (u13 38), (u13 39), (u13 40), (u13 41), (u13 42), (u13 43), (u13 44), (u13 45), (u13 46), (u13 47), (u13 48), (u13 49), (u13 50), (u13 51), (u13 52), (u13 53), (u13 54), (u13 55), (u13 56), (u13 57), (u13 58), (u13 59), (u13 60), (u13 61), (u13 62), (u13 63), (u13 64), (u13 65), (u13 66), (u13 67), (u13 68), (u13 69), (u13 70), (u13 71), (u13 72), (u13 73), (u13 74), (u13 75), (u13 76), (u13 77), (u13 78), (u13 79), (u13 80), (u13 81), (u13 82), (u13 83), (u13 84), undef], []⟩) (by kernel_rfl) ?_
        refine wp_cond_true (by kernel_rfl) ?_
        refine wp_seq_k (fun K26 hK26 => ?_)
        refine wl_region ?_
        refine st_val ((Go.Value.slice none 0 0)) (by kernel_rfl) (by kernel_rfl) ?_
        refine st_val (.int .i64 9) (by kernel_rfl) (by kernel_rfl) ?_
        refine wl_nil ?_
        refine hK26 _ _ ?_
        try clear hK26 K26
        refine wp_ret ?_
        refine th_ret ?_
        refine blk_ret ?_
        refine th_ret ?_
        refine th_ret ?_
        refine blk_ret ?_
        refine th_ret ?_
        have hno := pad_stop (by omega) hP c33
        exact done2 6 7 ((Go.Value.slice none 0 0)) (.int .i64 9) (by kernel_rfl) (by kernel_rfl) (by kernel_rfl) (by kernel_rfl) ⟨_, [], rfl, ⟨_, by rw [(pad_none hpr hno).1], by rw [(pad_none hpr hno).2]; exact Own.nil _ _⟩, M25.sub (List.nil_sublist _)⟩
      ·
        refine seq_run (v := .bool false) (by decide) (by kernel_rfl) (fun w' M' => (bool_of (dec_f c33) (by kernel_rfl))) ?_
        refine seq_end (by decide) ?_
        intro W27 M28
        refine wl_nil ?_
        refine hK20 _ _ ?_
        try clear hK20 K20
        refine wp_frame (a' := ⟨#[.agg (sqv s), .slice A us.length c, .int .i64 start, .pointer (some ⟨g2, 0, none⟩), undef, undef, (u13 6), (u13 7), .slice A1 i c1, .int .i64 f, .int .i64 (i : Int), (u13 11), (u13 12), .agg (sqv s), .slice A us.length c, .int .i64 start, .bool true, .bool false, .int .i64 start, .int .i64 (i : Int), .slice A us.length c, .int .i64 ((us.length : Nat) : Int), .bool true, (u13 23), (u13 24), .int .i64 f, .agg (sqv s), .slice A us.length c, .int .i64 (i : Int), .pointer (some ⟨b21, o22 + i * 4, none⟩), .pointer (some ⟨b21, o22 + i * 4 + 2, none⟩), .int .i64 ((us.getD i u0).bits), .int .i64 (2 * s.num * ((us.getD i u0).bits)), .bool false, (u13 34), (u13 35), (u13 36), (u13 37), (u13 38), (u13 39), (u13 40), (u13 41), (u13 42), (u13 43), (u13 44), (u13 45), (u13 46), (u13 47), (u13 48), (u13 49), (u13 50), (u13 51), (u13 52), (u13 53), (u13 54), (u13 55), (u13 56), (u13 57), (u13 58), (u13 59), (u13 60), (u13 61), (u13 62), (u13 63), (u13 64), (u13 65), (u13 66), (u13 67), (u13 68), (u13 69), (u13 70), (u13 71), (u13 72), (u13 73), (u13 74), (u13 75), (u13 76), (u13 77), (u13 78), (u13 79), (u13 80), (u13 81), (u13 82), (u13 83), (u13 84), undef], []⟩) (by kernel_rfl) ?_
        refine wp_cond_false (by kernel_rfl) ?_
        refine wp_skip ?_
        refine hK19 _ _ ?_
        try clear hK19 K19
        refine wp_seq_k (fun K29 hK29 => ?_)
        refine wl_seq 18 (fun w' => Mem NoS w w' ((g2, .cells (sqv s) 26 (0, 0)) :: (T1 ++ []))) (by decide) (by kernel_rfl) (by kernel_rfl) M28.drew ?_
        refine seq_run (v := .int .i64 f) (by decide) (by kernel_rfl) (fun w' M' => (by kernel_rfl)) ?_
        refine seq_run (v := .agg (sqv s)) (by decide) (by kernel_rfl) (fun w' M' => (run_load_row 26 (.tmp 3) rfl g2 (by kernel_rfl) 26 (sqv s) (0, 0) _ (M'.get 0 rfl) Try.underlying26 rfl (infoSq hs.la hs.lb))) ?_
        refine seq_run (v := .slice A us.length c) (by decide) (by kernel_rfl) (fun w' M' => (by kernel_rfl)) ?_
        refine seq_run (v := .int .i64 (i : Int)) (by decide) (by kernel_rfl) (fun w' M' => (by kernel_rfl)) ?_
        obtain ⟨b30, o31, eA32⟩ := RdK.addr (hr.keep M28.keep (fun _ _ h => h)) (j := i * 4) (by rw [flat_len]; omega)
        refine seq_run (v := .pointer (some ⟨b30, o31 + i * 4, none⟩)) (by decide) (by kernel_rfl) (fun w' M' => (run_indexSliceA 32 (.tmp 36) (.tmp 37) rfl A ⟨b30, o31, none⟩ eA32 us.length c .i64 i (by kernel_rfl) (by kernel_rfl) Try.underlying32 4 (by kernel_rfl) (by omega) ⟨b30, o31 + i * 4, none⟩ (addr_atK _ _ _ _))) ?_
        refine seq_run (v := .pointer (some ⟨b30, o31 + i * 4 + 2, none⟩)) (by decide) (by kernel_rfl) (fun w' M' => (by kernel_rfl)) ?_
        refine seq_run (v := .int .i64 ((us.getD i u0).bits)) (by decide) (by kernel_rfl) (fun w' M' => (run_load_cell 2 (.tmp 39) rfl ⟨b30, o31 + i * 4 + 2, none⟩ (by kernel_rfl) _ ((hr.keep M'.keep (fun _ _ h => h)).cellF eA32 (f := 2) (flat_get us i 2 (by omega) (by omega))) (by kernel_rfl))) ?_
        refine seq_call (v := .int .i64 (2 * s.num * ((us.getD i u0).bits))) (f := 17) (args := #[.agg (sqv s), .int .i64 ((us.getD i u0).bits)]) (by decide) (by kernel_rfl) (fun w' M' => (run_value_call 17 #[(Operand.tmp 35), (Operand.tmp 40)] _ rfl Try.func17 (by kernel_rfl) (by kernel_rfl) _ (by kernel_rfl))) (fun w' M' => callB_mem M' ((by have := refCost_walk w' s hs ((us.getD i u0).bits); rw [costS_t hv (by omega)] at this; exact this))) ?_
        refine seq_run (v := .int .i64 (f - (2 * s.num * ((us.getD i u0).bits)))) (by decide) (by kernel_rfl) (fun w' M' => (i64_of (by omega) (by kernel_rfl))) ?_
        refine seq_run (v := .agg (sqv s)) (by decide) (by kernel_rfl) (fun w' M' => (run_load_row 26 (.tmp 3) rfl g2 (by kernel_rfl) 26 (sqv s) (0, 0) _ (M'.get 0 rfl) Try.underlying26 rfl (infoSq hs.la hs.lb))) ?_
        refine seq_run (v := .slice A us.length c) (by decide) (by kernel_rfl) (fun w' M' => (by kernel_rfl)) ?_
        refine seq_run (v := .int .i64 (i : Int)) (by decide) (by kernel_rfl) (fun w' M' => (by kernel_rfl)) ?_
        obtain ⟨b33, o34, eA35⟩ := RdK.addr (hr.keep M28.keep (fun _ _ h => h)) (j := i * 4) (by rw [flat_len]; omega)
        refine seq_run (v := .pointer (some ⟨b33, o34 + i * 4, none⟩)) (by decide) (by kernel_rfl) (fun w' M' => (run_indexSliceA 32 (.tmp 44) (.tmp 45) rfl A ⟨b33, o34, none⟩ eA35 us.length c .i64 i (by kernel_rfl) (by kernel_rfl) Try.underlying32 4 (by kernel_rfl) (by omega) ⟨b33, o34 + i * 4, none⟩ (addr_atK _ _ _ _))) ?_
        refine seq_run (v := .pointer (some ⟨b33, o34 + i * 4 + 3, none⟩)) (by decide) (by kernel_rfl) (fun w' M' => (by kernel_rfl)) ?_
        refine seq_run (v := .int .i64 ((us.getD i u0).fields)) (by decide) (by kernel_rfl) (fun w' M' => (run_load_cell 3 (.tmp 47) rfl ⟨b33, o34 + i * 4 + 3, none⟩ (by kernel_rfl) _ ((hr.keep M'.keep (fun _ _ h => h)).cellF eA35 (f := 3) (flat_get us i 3 (by omega) (by omega))) (by kernel_rfl))) ?_
        refine seq_call (v := .int .i64 (s.br * s.den * ((us.getD i u0).fields))) (f := 15) (args := #[.agg (sqv s), .int .i64 ((us.getD i u0).fields)]) (by decide) (by kernel_rfl) (fun w' M' => (run_value_call 15 #[(Operand.tmp 43), (Operand.tmp 48)] _ rfl Try.func15 (by kernel_rfl) (by kernel_rfl) _ (by kernel_rfl))) (fun w' M' => callB_mem M' ((by have := refArr_walk w' s hs ((us.getD i u0).fields); rw [arrS_t hv (by omega)] at this; exact this))) ?_
        refine seq_run (v := .int .i64 ((f - (2 * s.num * ((us.getD i u0).bits))) + (s.br * s.den * ((us.getD i u0).fields)))) (by decide) (by kernel_rfl) (fun w' M' => (i64_of (by omega) (by kernel_rfl))) ?_
        refine seq_run (v := .int .i64 ((f - (2 * s.num * ((us.getD i u0).bits))) + (s.br * s.den * ((us.getD i u0).fields)))) (by decide) (by kernel_rfl) (fun w' M' => (by kernel_rfl)) ?_
        refine seq_end (by decide) ?_
        intro W36 M37
        refine wl_nil ?_
        refine hK29 _ _ ?_
        try clear hK29 K29
        refine wp_frame (a' := ⟨#[.agg (sqv s), .slice A us.length c, .int .i64 start, .pointer (some ⟨g2, 0, none⟩), undef, undef, (u13 6), (u13 7), .slice A1 i c1, .int .i64 ((f - (2 * s.num * ((us.getD i u0).bits))) + (s.br * s.den * ((us.getD i u0).fields))), .int .i64 (i : Int), (u13 11), (u13 12), .agg (sqv s), .slice A us.length c, .int .i64 start, .bool true, .bool false, .int .i64 start, .int .i64 (i : Int), .slice A us.length c, .int .i64 ((us.length : Nat) : Int), .bool true, (u13 23), (u13 24), .int .i64 f, .agg (sqv s), .slice A us.length c, .int .i64 (i : Int), .pointer (some ⟨b21, o22 + i * 4, none⟩), .pointer (some ⟨b21, o22 + i * 4 + 2, none⟩), .int .i64 ((us.getD i u0).bits), .int .i64 (2 * s.num * ((us.getD i u0).bits)), .bool false, .int .i64 f, .agg (sqv s), .slice A us.length c, .int .i64 (i : Int), .pointer (some ⟨b30, o31 + i * 4, none⟩), .pointer (some ⟨b30, o31 + i * 4 + 2, none⟩), .int .i64 ((us.getD i u0).bits), .int .i64 (2 * s.num * ((us.getD i u0).bits)), .int .i64 (f - (2 * s.num * ((us.getD i u0).bits))), .agg (sqv s), .slice A us.length c, .int .i64 (i : Int), .pointer (some ⟨b33, o34 + i * 4, none⟩), .pointer (some ⟨b33, o34 + i * 4 + 3, none⟩), .int .i64 ((us.getD i u0).fields), .int .i64 (s.br * s.den * ((us.getD i u0).fields)), .int .i64 ((f - (2 * s.num * ((us.getD i u0).bits))) + (s.br * s.den * ((us.getD i u0).fields))), (u13 51), (u13 52), (u13 53), (u13 54), (u13 55), (u13 56), (u13 57), (u13 58), (u13 59), (u13 60), (u13 61), (u13 62), (u13 63), (u13 64), (u13 65), (u13 66), (u13 67), (u13 68), (u13 69), (u13 70), (u13 71), (u13 72), (u13 73), (u13 74), (u13 75), (u13 76), (u13 77), (u13 78), (u13 79), (u13 80), (u13 81), (u13 82), (u13 83), (u13 84), undef], []⟩) (by kernel_rfl) ?_
        refine wp_seq_k (fun K38 hK38 => ?_)
        refine wl_region ?_
        refine st_val (.int .i64 0) (by kernel_rfl) (by kernel_rfl) ?_
        refine wl_nil ?_
        refine hK38 _ _ ?_
        try clear hK38 K38
        refine wp_seq_k (fun K39 hK39 => ?_)
        refine wp_seq_k (fun K40 hK40 => ?_)
        refine wl_region ?_
        refine st_val (.int .i64 ((f - (2 * s.num * ((us.getD i u0).bits))) + (s.br * s.den * ((us.getD i u0).fields)))) (by kernel_rfl) (by kernel_rfl) ?_
        refine st_val (.agg (sqv s)) (by kernel_rfl) (run_load_row 26 (.tmp 3) rfl g2 (by kernel_rfl) 26 (sqv s) (0, 0) _ (M37.get 0 rfl) Try.underlying26 rfl (infoSq hs.la hs.lb)) ?_
        refine st_callB M37 (.int .i64 (2 * s.num * s.bu)) (by kernel_rfl) (args := #[.agg (sqv s)]) (run_value_call 13 #[(Operand.tmp 52)] _ rfl Try.func13 (by kernel_rfl) (by kernel_rfl) _ (by kernel_rfl)) ((by have := refCap_walk W36 s hs; rw [hcap] at this; exact this)) ?_
        intro W41 M42
        refine st_val (.int .i64 (((f - (2 * s.num * ((us.getD i u0).bits))) + (s.br * s.den * ((us.getD i u0).fields))) - (2 * s.num * s.bu))) (by kernel_rfl) (i64_of (by omega) (by kernel_rfl)) ?_
        refine st_val (.int .i64 (((f - (2 * s.num * ((us.getD i u0).bits))) + (s.br * s.den * ((us.getD i u0).fields))) - (2 * s.num * s.bu))) (by kernel_rfl) (by kernel_rfl) ?_
        refine wl_nil ?_
        refine hK40 _ _ ?_
        try clear hK40 K40
        refine wp_seq_k (fun K43 hK43 => ?_)
        refine wl_region ?_
        refine st_val (.int .i64 (((f - (2 * s.num * ((us.getD i u0).bits))) + (s.br * s.den * ((us.getD i u0).fields))) - (2 * s.num * s.bu))) (by kernel_rfl) (by kernel_rfl) ?_
        rcases Decidable.em ((((f - (2 * s.num * ((us.getD i u0).bits))) + (s.br * s.den * ((us.getD i u0).fields))) - (2 * s.num * s.bu) : Int) > 0) with c56 | c56
        ·
          refine st_val (.bool true) (by kernel_rfl) (bool_of (dec_t c56) (by kernel_rfl)) ?_
          refine st_val (.bool true) (by kernel_rfl) (by kernel_rfl) ?_
          refine st_val (.int .i64 (i : Int)) (by kernel_rfl) (by kernel_rfl) ?_
          refine st_val (.int .i64 ((i : Int) + 1)) (by kernel_rfl) (i64_of (by omega) (by kernel_rfl)) ?_
          refine st_val (.slice A us.length c) (by kernel_rfl) (by kernel_rfl) ?_
          refine st_val (.int .i64 ((us.length : Nat) : Int)) (by kernel_rfl) (by kernel_rfl) ?_
          rcases Decidable.em (((i : Int) + 1 : Int) < ((us.length : Nat) : Int)) with c62 | c62
          ·
            refine st_val (.bool true) (by kernel_rfl) (bool_of (dec_t c62) (by kernel_rfl)) ?_
            refine st_val (.bool true) (by kernel_rfl) (by kernel_rfl) ?_
            refine wl_nil ?_
            refine hK43 _ _ ?_
            try clear hK43 K43
            refine wp_frame (a' := ⟨#[.agg (sqv s), .slice A us.length c, .int .i64 start, .pointer (some ⟨g2, 0, none⟩), undef, undef, (u13 6), (u13 7), .slice A1 i c1, .int .i64 ((f - (2 * s.num * ((us.getD i u0).bits))) + (s.br * s.den * ((us.getD i u0).fields))), .int .i64 (i : Int), .int .i64 0, .int .i64 (((f - (2 * s.num * ((us.getD i u0).bits))) + (s.br * s.den * ((us.getD i u0).fields))) - (2 * s.num * s.bu)), .agg (sqv s), .slice A us.length c, .int .i64 start, .bool true, .bool false, .int .i64 start, .int .i64 (i : Int), .slice A us.length c, .int .i64 ((us.length : Nat) : Int), .bool true, (u13 23), (u13 24), .int .i64 f, .agg (sqv s), .slice A us.length c, .int .i64 (i : Int), .pointer (some ⟨b21, o22 + i * 4, none⟩), .pointer (some ⟨b21, o22 + i * 4 + 2, none⟩), .int .i64 ((us.getD i u0).bits), .int .i64 (2 * s.num * ((us.getD i u0).bits)), .bool false, .int .i64 f, .agg (sqv s), .slice A us.length c, .int .i64 (i : Int), .pointer (some ⟨b30, o31 + i * 4, none⟩), .pointer (some ⟨b30, o31 + i * 4 + 2, none⟩), .int .i64 ((us.getD i u0).bits), .int .i64 (2 * s.num * ((us.getD i u0).bits)), .int .i64 (f - (2 * s.num * ((us.getD i u0).bits))), .agg (sqv s), .slice A us.length c, .int .i64 (i : Int), .pointer (some ⟨b33, o34 + i * 4, none⟩), .pointer (some ⟨b33, o34 + i * 4 + 3, none⟩), .int .i64 ((us.getD i u0).fields), .int .i64 (s.br * s.den * ((us.getD i u0).fields)), .int .i64 ((f - (2 * s.num * ((us.getD i u0).bits))) + (s.br * s.den * ((us.getD i u0).fields))), .int .i64 ((f - (2 * s.num * ((us.getD i u0).bits))) + (s.br * s.den * ((us.getD i u0).fields))), .agg (sqv s), .int .i64 (2 * s.num * s.bu), .int .i64 (((f - (2 * s.num * ((us.getD i u0).bits))) + (s.br * s.den * ((us.getD i u0).fields))) - (2 * s.num * s.bu)), .int .i64 (((f - (2 * s.num * ((us.getD i u0).bits))) + (s.br * s.den * ((us.getD i u0).fields))) - (2 * s.num * s.bu)), .bool true, .bool true, .int .i64 (i : Int), .int .i64 ((i : Int) + 1), .slice A us.length c, .int .i64 ((us.length : Nat) : Int), .bool true, .bool true, (u13 64), (u13 65), (u13 66), (u13 67), (u13 68), (u13 69), (u13 70), (u13 71), (u13 72), (u13 73), (u13 74), (u13 75), (u13 76), (u13 77), (u13 78), (u13 79), (u13 80), (u13 81), (u13 82), (u13 83), (u13 84), undef], []⟩) (by kernel_rfl) ?_
            refine wp_cond_true (by kernel_rfl) ?_
            refine wl_seq 11 (fun w' => Mem NoS w w' ((g2, .cells (sqv s) 26 (0, 0)) :: (T1 ++ []))) (by decide) (by kernel_rfl) (by kernel_rfl) M42.drew ?_
            refine seq_run (v := .int .i64 (((f - (2 * s.num * ((us.getD i u0).bits))) + (s.br * s.den * ((us.getD i u0).fields))) - (2 * s.num * s.bu))) (by decide) (by kernel_rfl) (fun w' M' => (by kernel_rfl)) ?_
            refine seq_run (v := .agg (sqv s)) (by decide) (by kernel_rfl) (fun w' M' => (run_load_row 26 (.tmp 3) rfl g2 (by kernel_rfl) 26 (sqv s) (0, 0) _ (M'.get 0 rfl) Try.underlying26 rfl (infoSq hs.la hs.lb))) ?_
            refine seq_call (v := .int .i64 (2 * s.num)) (f := 32) (args := #[.agg (sqv s)]) (by decide) (by kernel_rfl) (fun w' M' => (run_value_call 32 #[(Operand.tmp 65)] _ rfl Try.func32 (by kernel_rfl) (by kernel_rfl) _ (by kernel_rfl))) (fun w' M' => callB_mem M' (part_walk w' s hs hv)) ?_
            refine seq_run (v := .int .i64 (8 * (2 * s.num))) (by decide) (by kernel_rfl) (fun w' M' => (i64_of (by omega) (by kernel_rfl))) ?_
            refine seq_run (v := .int .i64 ((((f - (2 * s.num * ((us.getD i u0).bits))) + (s.br * s.den * ((us.getD i u0).fields))) - (2 * s.num * s.bu)) + (8 * (2 * s.num)))) (by decide) (by kernel_rfl) (fun w' M' => (i64_of (by omega) (by kernel_rfl))) ?_
            refine seq_run (v := .int .i64 (((((f - (2 * s.num * ((us.getD i u0).bits))) + (s.br * s.den * ((us.getD i u0).fields))) - (2 * s.num * s.bu)) + (8 * (2 * s.num))) - 1)) (by decide) (by kernel_rfl) (fun w' M' => (i64_of (by omega) (by kernel_rfl))) ?_
            refine seq_run (v := .agg (sqv s)) (by decide) (by kernel_rfl) (fun w' M' => (run_load_row 26 (.tmp 3) rfl g2 (by kernel_rfl) 26 (sqv s) (0, 0) _ (M'.get 0 rfl) Try.underlying26 rfl (infoSq hs.la hs.lb))) ?_
            refine seq_call (v := .int .i64 (2 * s.num)) (f := 32) (args := #[.agg (sqv s)]) (by decide) (by kernel_rfl) (fun w' M' => (run_value_call 32 #[(Operand.tmp 70)] _ rfl Try.func32 (by kernel_rfl) (by kernel_rfl) _ (by kernel_rfl))) (fun w' M' => callB_mem M' (part_walk w' s hs hv)) ?_
            refine seq_run (v := .int .i64 (8 * (2 * s.num))) (by decide) (by kernel_rfl) (fun w' M' => (i64_of (by omega) (by kernel_rfl))) ?_
            obtain ⟨nq, hnq⟩ : ∃ q, q = (f + (s.br * s.den * (us.getD i u0).fields - 2 * s.num * (us.getD i u0).bits) - 2 * s.num * s.bu + 2 * s.num * 8 - 1) / (2 * s.num * 8) := ⟨_, rfl⟩
            have hce := ceil_bd (o := f + (s.br * s.den * (us.getD i u0).fields - 2 * s.num * (us.getD i u0).bits) - 2 * s.num * s.bu) (c := 2 * s.num * 8) (by omega) (by omega)
            rw [← hnq] at hce
            have hq1 : 2 * s.num * (8 * nq) = 2 * s.num * 8 * nq := (Int.mul_assoc _ _ _).symm
            have hq2 : 8 * (2 * s.num) * nq = 2 * s.num * 8 * nq := by rw [Int.mul_comm 8]
            refine seq_run (v := .int .i64 nq) (by decide) (by kernel_rfl) (fun w' M' => (run_value_bin .quo 2 2 (.tmp 69) (.tmp 72) rfl (.int .i64 (((((f - (2 * s.num * ((us.getD i u0).bits))) + (s.br * s.den * ((us.getD i u0).fields))) - (2 * s.num * s.bu)) + (8 * (2 * s.num))) - 1)) (.int .i64 (8 * (2 * s.num))) _ (by kernel_rfl) (by kernel_rfl) (by kernel_rfl) (bin_quo (by omega) ((quo_of (((((f - (2 * s.num * ((us.getD i u0).bits))) + (s.br * s.den * ((us.getD i u0).fields))) - (2 * s.num * s.bu)) + (8 * (2 * s.num))) - 1) (8 * (2 * s.num)) (by omega) (by omega) (by omega)).trans (by rw [hnq, show (((((f - (2 * s.num * ((us.getD i u0).bits))) + (s.br * s.den * ((us.getD i u0).fields))) - (2 * s.num * s.bu)) + (8 * (2 * s.num))) - 1) = f + (s.br * s.den * (us.getD i u0).fields - 2 * s.num * (us.getD i u0).bits) - 2 * s.num * s.bu + 2 * s.num * 8 - 1 by omega, show (8 * (2 * s.num)) = 2 * s.num * 8 by omega]))))) ?_
            refine seq_run (v := .int .i64 nq) (by decide) (by kernel_rfl) (fun w' M' => (by kernel_rfl)) ?_
            refine seq_end (by decide) ?_
            intro W44 M45
            refine wl_nil ?_
            refine hK39 _ _ ?_
            try clear hK39 K39
            refine wp_seq_k (fun K46 hK46 => ?_)
            refine wl_region ?_
            refine st_val (.int .i64 ((f - (2 * s.num * ((us.getD i u0).bits))) + (s.br * s.den * ((us.getD i u0).fields)))) (by kernel_rfl) (by kernel_rfl) ?_
            refine st_val (.agg (sqv s)) (by kernel_rfl) (run_load_row 26 (.tmp 3) rfl g2 (by kernel_rfl) 26 (sqv s) (0, 0) _ (M45.get 0 rfl) Try.underlying26 rfl (infoSq hs.la hs.lb)) ?_
            refine st_callB M45 (.int .i64 (2 * s.num)) (by kernel_rfl) (args := #[.agg (sqv s)]) (run_value_call 32 #[(Operand.tmp 75)] _ rfl Try.func32 (by kernel_rfl) (by kernel_rfl) _ (by kernel_rfl)) (part_walk W44 s hs hv) ?_
            intro W47 M48
            refine st_val (.int .i64 (8 * (2 * s.num))) (by kernel_rfl) (i64_of (by omega) (by kernel_rfl)) ?_
            refine st_val (.int .i64 nq) (by kernel_rfl) (by kernel_rfl) ?_
            refine st_val (.int .i64 ((8 * (2 * s.num)) * nq)) (by kernel_rfl) (i64_of (by omega) (by kernel_rfl)) ?_
            refine st_val (.int .i64 (((f - (2 * s.num * ((us.getD i u0).bits))) + (s.br * s.den * ((us.getD i u0).fields))) - ((8 * (2 * s.num)) * nq))) (by kernel_rfl) (i64_of (by omega) (by kernel_rfl)) ?_
            refine st_val (.int .i64 (((f - (2 * s.num * ((us.getD i u0).bits))) + (s.br * s.den * ((us.getD i u0).fields))) - ((8 * (2 * s.num)) * nq))) (by kernel_rfl) (by kernel_rfl) ?_
            refine wl_nil ?_
            refine hK46 _ _ ?_
            try clear hK46 K46
            refine wp_frame (a' := ⟨#[.agg (sqv s), .slice A us.length c, .int .i64 start, .pointer (some ⟨g2, 0, none⟩), undef, undef, (u13 6), (u13 7), .slice A1 i c1, .int .i64 (((f - (2 * s.num * ((us.getD i u0).bits))) + (s.br * s.den * ((us.getD i u0).fields))) - ((8 * (2 * s.num)) * nq)), .int .i64 (i : Int), .int .i64 nq, .int .i64 (((f - (2 * s.num * ((us.getD i u0).bits))) + (s.br * s.den * ((us.getD i u0).fields))) - (2 * s.num * s.bu)), .agg (sqv s), .slice A us.length c, .int .i64 start, .bool true, .bool false, .int .i64 start, .int .i64 (i : Int), .slice A us.length c, .int .i64 ((us.length : Nat) : Int), .bool true, (u13 23), (u13 24), .int .i64 f, .agg (sqv s), .slice A us.length c, .int .i64 (i : Int), .pointer (some ⟨b21, o22 + i * 4, none⟩), .pointer (some ⟨b21, o22 + i * 4 + 2, none⟩), .int .i64 ((us.getD i u0).bits), .int .i64 (2 * s.num * ((us.getD i u0).bits)), .bool false, .int .i64 f, .agg (sqv s), .slice A us.length c, .int .i64 (i : Int), .pointer (some ⟨b30, o31 + i * 4, none⟩), .pointer (some ⟨b30, o31 + i * 4 + 2, none⟩), .int .i64 ((us.getD i u0).bits), .int .i64 (2 * s.num * ((us.getD i u0).bits)), .int .i64 (f - (2 * s.num * ((us.getD i u0).bits))), .agg (sqv s), .slice A us.length c, .int .i64 (i : Int), .pointer (some ⟨b33, o34 + i * 4, none⟩), .pointer (some ⟨b33, o34 + i * 4 + 3, none⟩), .int .i64 ((us.getD i u0).fields), .int .i64 (s.br * s.den * ((us.getD i u0).fields)), .int .i64 ((f - (2 * s.num * ((us.getD i u0).bits))) + (s.br * s.den * ((us.getD i u0).fields))), .int .i64 ((f - (2 * s.num * ((us.getD i u0).bits))) + (s.br * s.den * ((us.getD i u0).fields))), .agg (sqv s), .int .i64 (2 * s.num * s.bu), .int .i64 (((f - (2 * s.num * ((us.getD i u0).bits))) + (s.br * s.den * ((us.getD i u0).fields))) - (2 * s.num * s.bu)), .int .i64 (((f - (2 * s.num * ((us.getD i u0).bits))) + (s.br * s.den * ((us.getD i u0).fields))) - (2 * s.num * s.bu)), .bool true, .bool true, .int .i64 (i : Int), .int .i64 ((i : Int) + 1), .slice A us.length c, .int .i64 ((us.length : Nat) : Int), .bool true, .bool true, .int .i64 (((f - (2 * s.num * ((us.getD i u0).bits))) + (s.br * s.den * ((us.getD i u0).fields))) - (2 * s.num * s.bu)), .agg (sqv s), .int .i64 (2 * s.num), .int .i64 (8 * (2 * s.num)), .int .i64 ((((f - (2 * s.num * ((us.getD i u0).bits))) + (s.br * s.den * ((us.getD i u0).fields))) - (2 * s.num * s.bu)) + (8 * (2 * s.num))), .int .i64 (((((f - (2 * s.num * ((us.getD i u0).bits))) + (s.br * s.den * ((us.getD i u0).fields))) - (2 * s.num * s.bu)) + (8 * (2 * s.num))) - 1), .agg (sqv s), .int .i64 (2 * s.num), .int .i64 (8 * (2 * s.num)), .int .i64 nq, .int .i64 ((f - (2 * s.num * ((us.getD i u0).bits))) + (s.br * s.den * ((us.getD i u0).fields))), .agg (sqv s), .int .i64 (2 * s.num), .int .i64 (8 * (2 * s.num)), .int .i64 nq, .int .i64 ((8 * (2 * s.num)) * nq), .int .i64 (((f - (2 * s.num * ((us.getD i u0).bits))) + (s.br * s.den * ((us.getD i u0).fields))) - ((8 * (2 * s.num)) * nq)), (u13 81), (u13 82), (u13 83), (u13 84), undef], []⟩) (by kernel_rfl) ?_
            refine wl_region ?_
            refine st_val (.slice A1 i c1) (by kernel_rfl) (by kernel_rfl) ?_
            refine st_val (.int .i64 nq) (by kernel_rfl) (by kernel_rfl) ?_
            refine st_new M48 (.cells #[.int .i64 nq] 2 (0, 0)) (fun g => .slice (some ⟨g, 0, none⟩) 1 1) (by kernel_rfl) (by kernel_rfl) ?_
            intro g49 W50 M51
            obtain ⟨v52, T53, W54, hr55, O56, M57⟩ := append_i64 (A := [(g49, .cells #[.int .i64 nq] 2 (0, 0)), (g2, .cells (sqv s) 26 (0, 0))]) (T := T1) (B := []) M51 41 _ _ _ O1 _ 1 ([.int .i64 nq]) (rdk_new (M51.get 0 rfl)) rfl (by intro x hx; simp only [List.mem_cons, List.not_mem_nil, or_false] at hx; rcases hx with rfl <;> rfl) (by omega)
            have M57 : Mem NoS w W54 ((g49, .cells #[.int .i64 nq] 2 (0, 0)) :: (g2, .cells (sqv s) 26 (0, 0)) :: (T53 ++ [])) := M57
            obtain ⟨A58, c59, rfl, hc60⟩ := O56.shape
            refine st_world (.slice A58 (i + 1) c59) W54 (by kernel_rfl) (run_append_op (.tmp 81) (.tmp 83) _ rfl (.slice A1 i c1) (.slice (some ⟨g49, 0, none⟩) 1 1) _ (by kernel_rfl) (by kernel_rfl) hr55) ?_
            refine st_val (.slice A58 (i + 1) c59) (by kernel_rfl) (by kernel_rfl) ?_
            refine wl_nil ?_
            refine blk_normal ?_
            refine hK18 _ _ ?_
            try clear hK18 K18
            refine wl_region ?_
            refine st_val (.int .i64 (i : Int)) (by kernel_rfl) (by kernel_rfl) ?_
            refine st_val (.int .i64 ((i : Int) + 1)) (by kernel_rfl) (i64_of (by omega) (by kernel_rfl)) ?_
            refine st_val (.int .i64 ((i : Int) + 1)) (by kernel_rfl) (by kernel_rfl) ?_
            refine wl_nil ?_
            refine th_normal ?_
            have hE : f + (s.br * s.den * (us.getD i u0).fields - 2 * s.num * (us.getD i u0).bits) - 2 * s.num * (8 * nq) = ((f - (2 * s.num * ((us.getD i u0).bits))) + (s.br * s.den * ((us.getD i u0).fields))) - ((8 * (2 * s.num)) * nq) := by omega
            exact ⟨_, by omega, (i + 1), (((f - (2 * s.num * ((us.getD i u0).bits))) + (s.br * s.den * ((us.getD i u0).fields))) - ((8 * (2 * s.num)) * nq)), (p ++ [nq]), A58, c59, T53, (fun zz => Array.getD #[.agg (sqv s), .slice A us.length c, .int .i64 start, .pointer (some ⟨g2, 0, none⟩), undef, undef, (u13 6), (u13 7), .slice A58 (i + 1) c59, .int .i64 (((f - (2 * s.num * ((us.getD i u0).bits))) + (s.br * s.den * ((us.getD i u0).fields))) - ((8 * (2 * s.num)) * nq)), .int .i64 ((i : Int) + 1), .int .i64 nq, .int .i64 (((f - (2 * s.num * ((us.getD i u0).bits))) + (s.br * s.den * ((us.getD i u0).fields))) - (2 * s.num * s.bu)), .agg (sqv s), .slice A us.length c, .int .i64 start, .bool true, .bool false, .int .i64 start, .int .i64 (i : Int), .slice A us.length c, .int .i64 ((us.length : Nat) : Int), .bool true, .int .i64 (i : Int), .int .i64 ((i : Int) + 1), .int .i64 f, .agg (sqv s), .slice A us.length c, .int .i64 (i : Int), .pointer (some ⟨b21, o22 + i * 4, none⟩), .pointer (some ⟨b21, o22 + i * 4 + 2, none⟩), .int .i64 ((us.getD i u0).bits), .int .i64 (2 * s.num * ((us.getD i u0).bits)), .bool false, .int .i64 f, .agg (sqv s), .slice A us.length c, .int .i64 (i : Int), .pointer (some ⟨b30, o31 + i * 4, none⟩), .pointer (some ⟨b30, o31 + i * 4 + 2, none⟩), .int .i64 ((us.getD i u0).bits), .int .i64 (2 * s.num * ((us.getD i u0).bits)), .int .i64 (f - (2 * s.num * ((us.getD i u0).bits))), .agg (sqv s), .slice A us.length c, .int .i64 (i : Int), .pointer (some ⟨b33, o34 + i * 4, none⟩), .pointer (some ⟨b33, o34 + i * 4 + 3, none⟩), .int .i64 ((us.getD i u0).fields), .int .i64 (s.br * s.den * ((us.getD i u0).fields)), .int .i64 ((f - (2 * s.num * ((us.getD i u0).bits))) + (s.br * s.den * ((us.getD i u0).fields))), .int .i64 ((f - (2 * s.num * ((us.getD i u0).bits))) + (s.br * s.den * ((us.getD i u0).fields))), .agg (sqv s), .int .i64 (2 * s.num * s.bu), .int .i64 (((f - (2 * s.num * ((us.getD i u0).bits))) + (s.br * s.den * ((us.getD i u0).fields))) - (2 * s.num * s.bu)), .int .i64 (((f - (2 * s.num * ((us.getD i u0).bits))) + (s.br * s.den * ((us.getD i u0).fields))) - (2 * s.num * s.bu)), .bool true, .bool true, .int .i64 (i : Int), .int .i64 ((i : Int) + 1), .slice A us.length c, .int .i64 ((us.length : Nat) : Int), .bool true, .bool true, .int .i64 (((f - (2 * s.num * ((us.getD i u0).bits))) + (s.br * s.den * ((us.getD i u0).fields))) - (2 * s.num * s.bu)), .agg (sqv s), .int .i64 (2 * s.num), .int .i64 (8 * (2 * s.num)), .int .i64 ((((f - (2 * s.num * ((us.getD i u0).bits))) + (s.br * s.den * ((us.getD i u0).fields))) - (2 * s.num * s.bu)) + (8 * (2 * s.num))), .int .i64 (((((f - (2 * s.num * ((us.getD i u0).bits))) + (s.br * s.den * ((us.getD i u0).fields))) - (2 * s.num * s.bu)) + (8 * (2 * s.num))) - 1), .agg (sqv s), .int .i64 (2 * s.num), .int .i64 (8 * (2 * s.num)), .int .i64 nq, .int .i64 ((f - (2 * s.num * ((us.getD i u0).bits))) + (s.br * s.den * ((us.getD i u0).fields))), .agg (sqv s), .int .i64 (2 * s.num), .int .i64 (8 * (2 * s.num)), .int .i64 nq, .int .i64 ((8 * (2 * s.num)) * nq), .int .i64 (((f - (2 * s.num * ((us.getD i u0).bits))) + (s.br * s.den * ((us.getD i u0).fields))) - ((8 * (2 * s.num)) * nq)), .slice A1 i c1, .int .i64 nq, .slice (some ⟨g49, 0, none⟩) 1 1, .slice A58 (i + 1) c59, undef] zz undef), ⟨⟨by omega, ⟨by omega, by omega⟩, fun hi => by omega, by rw [ints_snoc]; exact O56, pad_next (by omega) hP c33 ((padN_ceil (by omega) (by omega)).trans hnq.symm) hE⟩, (M57.sub ((((List.Sublist.refl []).append_left T53).cons_cons _).cons _))⟩, rfl, (by kernel_rfl)⟩
          ·
            refine st_val (.bool false) (by kernel_rfl) (bool_of (dec_f c62) (by kernel_rfl)) ?_
            refine st_val (.bool false) (by kernel_rfl) (by kernel_rfl) ?_
            refine wl_nil ?_
            refine hK43 _ _ ?_
            try clear hK43 K43
            refine wp_frame (a' := ⟨#[.agg (sqv s), .slice A us.length c, .int .i64 start, .pointer (some ⟨g2, 0, none⟩), undef, undef, (u13 6), (u13 7), .slice A1 i c1, .int .i64 ((f - (2 * s.num * ((us.getD i u0).bits))) + (s.br * s.den * ((us.getD i u0).fields))), .int .i64 (i : Int), .int .i64 0, .int .i64 (((f - (2 * s.num * ((us.getD i u0).bits))) + (s.br * s.den * ((us.getD i u0).fields))) - (2 * s.num * s.bu)), .agg (sqv s), .slice A us.length c, .int .i64 start, .bool true, .bool false, .int .i64 start, .int .i64 (i : Int), .slice A us.length c, .int .i64 ((us.length : Nat) : Int), .bool true, (u13 23), (u13 24), .int .i64 f, .agg (sqv s), .slice A us.length c, .int .i64 (i : Int), .pointer (some ⟨b21, o22 + i * 4, none⟩), .pointer (some ⟨b21, o22 + i * 4 + 2, none⟩), .int .i64 ((us.getD i u0).bits), .int .i64 (2 * s.num * ((us.getD i u0).bits)), .bool false, .int .i64 f, .agg (sqv s), .slice A us.length c, .int .i64 (i : Int), .pointer (some ⟨b30, o31 + i * 4, none⟩), .pointer (some ⟨b30, o31 + i * 4 + 2, none⟩), .int .i64 ((us.getD i u0).bits), .int .i64 (2 * s.num * ((us.getD i u0).bits)), .int .i64 (f - (2 * s.num * ((us.getD i u0).bits))), .agg (sqv s), .slice A us.length c, .int .i64 (i : Int), .pointer (some ⟨b33, o34 + i * 4, none⟩), .pointer (some ⟨b33, o34 + i * 4 + 3, none⟩), .int .i64 ((us.getD i u0).fields), .int .i64 (s.br * s.den * ((us.getD i u0).fields)), .int .i64 ((f - (2 * s.num * ((us.getD i u0).bits))) + (s.br * s.den * ((us.getD i u0).fields))), .int .i64 ((f - (2 * s.num * ((us.getD i u0).bits))) + (s.br * s.den * ((us.getD i u0).fields))), .agg (sqv s), .int .i64 (2 * s.num * s.bu), .int .i64 (((f - (2 * s.num * ((us.getD i u0).bits))) + (s.br * s.den * ((us.getD i u0).fields))) - (2 * s.num * s.bu)), .int .i64 (((f - (2 * s.num * ((us.getD i u0).bits))) + (s.br * s.den * ((us.getD i u0).fields))) - (2 * s.num * s.bu)), .bool true, .bool true, .int .i64 (i : Int), .int .i64 ((i : Int) + 1), .slice A us.length c, .int .i64 ((us.length : Nat) : Int), .bool false, .bool false, (u13 64), (u13 65), (u13 66), (u13 67), (u13 68), (u13 69), (u13 70), (u13 71), (u13 72), (u13 73), (u13 74), (u13 75), (u13 76), (u13 77), (u13 78), (u13 79), (u13 80), (u13 81), (u13 82), (u13 83), (u13 84), undef], []⟩) (by kernel_rfl) ?_
            refine wp_cond_false (by kernel_rfl) ?_
            refine wp_skip ?_
            refine hK39 _ _ ?_
            try clear hK39 K39
            refine wp_seq_k (fun K61 hK61 => ?_)
            refine wl_region ?_
            refine st_val (.int .i64 ((f - (2 * s.num * ((us.getD i u0).bits))) + (s.br * s.den * ((us.getD i u0).fields)))) (by kernel_rfl) (by kernel_rfl) ?_
            refine st_val (.agg (sqv s)) (by kernel_rfl) (run_load_row 26 (.tmp 3) rfl g2 (by kernel_rfl) 26 (sqv s) (0, 0) _ (M42.get 0 rfl) Try.underlying26 rfl (infoSq hs.la hs.lb)) ?_
            refine st_callB M42 (.int .i64 (2 * s.num)) (by kernel_rfl) (args := #[.agg (sqv s)]) (run_value_call 32 #[(Operand.tmp 75)] _ rfl Try.func32 (by kernel_rfl) (by kernel_rfl) _ (by kernel_rfl)) (part_walk W41 s hs hv) ?_
            intro W62 M63
            refine st_val (.int .i64 (8 * (2 * s.num))) (by kernel_rfl) (i64_of (by omega) (by kernel_rfl)) ?_
            refine st_val (.int .i64 0) (by kernel_rfl) (by kernel_rfl) ?_
            refine st_val (.int .i64 ((8 * (2 * s.num)) * 0)) (by kernel_rfl) (i64_of (by omega) (by kernel_rfl)) ?_
            refine st_val (.int .i64 (((f - (2 * s.num * ((us.getD i u0).bits))) + (s.br * s.den * ((us.getD i u0).fields))) - ((8 * (2 * s.num)) * 0))) (by kernel_rfl) (i64_of (by omega) (by kernel_rfl)) ?_
            refine st_val (.int .i64 (((f - (2 * s.num * ((us.getD i u0).bits))) + (s.br * s.den * ((us.getD i u0).fields))) - ((8 * (2 * s.num)) * 0))) (by kernel_rfl) (by kernel_rfl) ?_
            refine wl_nil ?_
            refine hK61 _ _ ?_
            try clear hK61 K61
            refine wl_region ?_
            refine st_val (.slice A1 i c1) (by kernel_rfl) (by kernel_rfl) ?_
            refine st_val (.int .i64 0) (by kernel_rfl) (by kernel_rfl) ?_
            refine st_new M63 (.cells #[.int .i64 0] 2 (0, 0)) (fun g => .slice (some ⟨g, 0, none⟩) 1 1) (by kernel_rfl) (by kernel_rfl) ?_
            intro g64 W65 M66
            obtain ⟨v67, T68, W69, hr70, O71, M72⟩ := append_i64 (A := [(g64, .cells #[.int .i64 0] 2 (0, 0)), (g2, .cells (sqv s) 26 (0, 0))]) (T := T1) (B := []) M66 41 _ _ _ O1 _ 1 ([.int .i64 0]) (rdk_new (M66.get 0 rfl)) rfl (by intro x hx; simp only [List.mem_cons, List.not_mem_nil, or_false] at hx; rcases hx with rfl <;> rfl) (by omega)
            have M72 : Mem NoS w W69 ((g64, .cells #[.int .i64 0] 2 (0, 0)) :: (g2, .cells (sqv s) 26 (0, 0)) :: (T68 ++ [])) := M72
            obtain ⟨A73, c74, rfl, hc75⟩ := O71.shape
            refine st_world (.slice A73 (i + 1) c74) W69 (by kernel_rfl) (run_append_op (.tmp 81) (.tmp 83) _ rfl (.slice A1 i c1) (.slice (some ⟨g64, 0, none⟩) 1 1) _ (by kernel_rfl) (by kernel_rfl) hr70) ?_
            refine st_val (.slice A73 (i + 1) c74) (by kernel_rfl) (by kernel_rfl) ?_
            refine wl_nil ?_
            refine blk_normal ?_
            refine hK18 _ _ ?_
            try clear hK18 K18
            refine wp_frame (a' := ⟨#[.agg (sqv s), .slice A us.length c, .int .i64 start, .pointer (some ⟨g2, 0, none⟩), undef, undef, (u13 6), (u13 7), .slice A73 (i + 1) c74, .int .i64 (((f - (2 * s.num * ((us.getD i u0).bits))) + (s.br * s.den * ((us.getD i u0).fields))) - ((8 * (2 * s.num)) * 0)), .int .i64 (i : Int), .int .i64 0, .int .i64 (((f - (2 * s.num * ((us.getD i u0).bits))) + (s.br * s.den * ((us.getD i u0).fields))) - (2 * s.num * s.bu)), .agg (sqv s), .slice A us.length c, .int .i64 start, .bool true, .bool false, .int .i64 start, .int .i64 (i : Int), .slice A us.length c, .int .i64 ((us.length : Nat) : Int), .bool true, (u13 23), (u13 24), .int .i64 f, .agg (sqv s), .slice A us.length c, .int .i64 (i : Int), .pointer (some ⟨b21, o22 + i * 4, none⟩), .pointer (some ⟨b21, o22 + i * 4 + 2, none⟩), .int .i64 ((us.getD i u0).bits), .int .i64 (2 * s.num * ((us.getD i u0).bits)), .bool false, .int .i64 f, .agg (sqv s), .slice A us.length c, .int .i64 (i : Int), .pointer (some ⟨b30, o31 + i * 4, none⟩), .pointer (some ⟨b30, o31 + i * 4 + 2, none⟩), .int .i64 ((us.getD i u0).bits), .int .i64 (2 * s.num * ((us.getD i u0).bits)), .int .i64 (f - (2 * s.num * ((us.getD i u0).bits))), .agg (sqv s), .slice A us.length c, .int .i64 (i : Int), .pointer (some ⟨b33, o34 + i * 4, none⟩), .pointer (some ⟨b33, o34 + i * 4 + 3, none⟩), .int .i64 ((us.getD i u0).fields), .int .i64 (s.br * s.den * ((us.getD i u0).fields)), .int .i64 ((f - (2 * s.num * ((us.getD i u0).bits))) + (s.br * s.den * ((us.getD i u0).fields))), .int .i64 ((f - (2 * s.num * ((us.getD i u0).bits))) + (s.br * s.den * ((us.getD i u0).fields))), .agg (sqv s), .int .i64 (2 * s.num * s.bu), .int .i64 (((f - (2 * s.num * ((us.getD i u0).bits))) + (s.br * s.den * ((us.getD i u0).fields))) - (2 * s.num * s.bu)), .int .i64 (((f - (2 * s.num * ((us.getD i u0).bits))) + (s.br * s.den * ((us.getD i u0).fields))) - (2 * s.num * s.bu)), .bool true, .bool true, .int .i64 (i : Int), .int .i64 ((i : Int) + 1), .slice A us.length c, .int .i64 ((us.length : Nat) : Int), .bool false, .bool false, (u13 64), (u13 65), (u13 66), (u13 67), (u13 68), (u13 69), (u13 70), (u13 71), (u13 72), (u13 73), .int .i64 ((f - (2 * s.num * ((us.getD i u0).bits))) + (s.br * s.den * ((us.getD i u0).fields))), .agg (sqv s), .int .i64 (2 * s.num), .int .i64 (8 * (2 * s.num)), .int .i64 0, .int .i64 ((8 * (2 * s.num)) * 0), .int .i64 (((f - (2 * s.num * ((us.getD i u0).bits))) + (s.br * s.den * ((us.getD i u0).fields))) - ((8 * (2 * s.num)) * 0)), .slice A1 i c1, .int .i64 0, .slice (some ⟨g64, 0, none⟩) 1 1, .slice A73 (i + 1) c74, undef], []⟩) (by kernel_rfl) ?_
            refine wl_region ?_
            refine st_val (.int .i64 (i : Int)) (by kernel_rfl) (by kernel_rfl) ?_
            refine st_val (.int .i64 ((i : Int) + 1)) (by kernel_rfl) (i64_of (by omega) (by kernel_rfl)) ?_
            refine st_val (.int .i64 ((i : Int) + 1)) (by kernel_rfl) (by kernel_rfl) ?_
            refine wl_nil ?_
            refine th_normal ?_
            have hE : f + (s.br * s.den * (us.getD i u0).fields - 2 * s.num * (us.getD i u0).bits) - 2 * s.num * (8 * 0) = ((f - (2 * s.num * ((us.getD i u0).bits))) + (s.br * s.den * ((us.getD i u0).fields))) - ((8 * (2 * s.num)) * 0) := by omega
            exact ⟨_, by omega, (i + 1), (((f - (2 * s.num * ((us.getD i u0).bits))) + (s.br * s.den * ((us.getD i u0).fields))) - ((8 * (2 * s.num)) * 0)), (p ++ [0]), A73, c74, T68, (fun zz => Array.getD #[.agg (sqv s), .slice A us.length c, .int .i64 start, .pointer (some ⟨g2, 0, none⟩), undef, undef, (u13 6), (u13 7), .slice A73 (i + 1) c74, .int .i64 (((f - (2 * s.num * ((us.getD i u0).bits))) + (s.br * s.den * ((us.getD i u0).fields))) - ((8 * (2 * s.num)) * 0)), .int .i64 ((i : Int) + 1), .int .i64 0, .int .i64 (((f - (2 * s.num * ((us.getD i u0).bits))) + (s.br * s.den * ((us.getD i u0).fields))) - (2 * s.num * s.bu)), .agg (sqv s), .slice A us.length c, .int .i64 start, .bool true, .bool false, .int .i64 start, .int .i64 (i : Int), .slice A us.length c, .int .i64 ((us.length : Nat) : Int), .bool true, .int .i64 (i : Int), .int .i64 ((i : Int) + 1), .int .i64 f, .agg (sqv s), .slice A us.length c, .int .i64 (i : Int), .pointer (some ⟨b21, o22 + i * 4, none⟩), .pointer (some ⟨b21, o22 + i * 4 + 2, none⟩), .int .i64 ((us.getD i u0).bits), .int .i64 (2 * s.num * ((us.getD i u0).bits)), .bool false, .int .i64 f, .agg (sqv s), .slice A us.length c, .int .i64 (i : Int), .pointer (some ⟨b30, o31 + i * 4, none⟩), .pointer (some ⟨b30, o31 + i * 4 + 2, none⟩), .int .i64 ((us.getD i u0).bits), .int .i64 (2 * s.num * ((us.getD i u0).bits)), .int .i64 (f - (2 * s.num * ((us.getD i u0).bits))), .agg (sqv s), .slice A us.length c, .int .i64 (i : Int), .pointer (some ⟨b33, o34 + i * 4, none⟩), .pointer (some ⟨b33, o34 + i * 4 + 3, none⟩), .int .i64 ((us.getD i u0).fields), .int .i64 (s.br * s.den * ((us.getD i u0).fields)), .int .i64 ((f - (2 * s.num * ((us.getD i u0).bits))) + (s.br * s.den * ((us.getD i u0).fields))), .int .i64 ((f - (2 * s.num * ((us.getD i u0).bits))) + (s.br * s.den * ((us.getD i u0).fields))), .agg (sqv s), .int .i64 (2 * s.num * s.bu), .int .i64 (((f - (2 * s.num * ((us.getD i u0).bits))) + (s.br * s.den * ((us.getD i u0).fields))) - (2 * s.num * s.bu)), .int .i64 (((f - (2 * s.num * ((us.getD i u0).bits))) + (s.br * s.den * ((us.getD i u0).fields))) - (2 * s.num * s.bu)), .bool true, .bool true, .int .i64 (i : Int), .int .i64 ((i : Int) + 1), .slice A us.length c, .int .i64 ((us.length : Nat) : Int), .bool false, .bool false, (u13 64), (u13 65), (u13 66), (u13 67), (u13 68), (u13 69), (u13 70), (u13 71), (u13 72), (u13 73), .int .i64 ((f - (2 * s.num * ((us.getD i u0).bits))) + (s.br * s.den * ((us.getD i u0).fields))), .agg (sqv s), .int .i64 (2 * s.num), .int .i64 (8 * (2 * s.num)), .int .i64 0, .int .i64 ((8 * (2 * s.num)) * 0), .int .i64 (((f - (2 * s.num * ((us.getD i u0).bits))) + (s.br * s.den * ((us.getD i u0).fields))) - ((8 * (2 * s.num)) * 0)), .slice A1 i c1, .int .i64 0, .slice (some ⟨g64, 0, none⟩) 1 1, .slice A73 (i + 1) c74, undef] zz undef), ⟨⟨by omega, ⟨by omega, by omega⟩, fun hi => by omega, by rw [ints_snoc]; exact O71, pad_next (by omega) hP c33 (padN_zero (by omega)) hE⟩, (M72.sub ((((List.Sublist.refl []).append_left T68).cons_cons _).cons _))⟩, rfl, (by kernel_rfl)⟩
        ·
          refine st_val (.bool false) (by kernel_rfl) (bool_of (dec_f c56) (by kernel_rfl)) ?_
          refine st_val (.bool false) (by kernel_rfl) (by kernel_rfl) ?_
          refine st_skip (by kernel_rfl) ?_
          refine st_skip (by kernel_rfl) ?_
          refine st_skip (by kernel_rfl) ?_
          refine st_skip (by kernel_rfl) ?_
          refine st_skip (by kernel_rfl) ?_
          refine st_val (.bool false) (by kernel_rfl) (by kernel_rfl) ?_
          refine wl_nil ?_
          refine hK43 _ _ ?_
          try clear hK43 K43
          refine wp_frame (a' := ⟨#[.agg (sqv s), .slice A us.length c, .int .i64 start, .pointer (some ⟨g2, 0, none⟩), undef, undef, (u13 6), (u13 7), .slice A1 i c1, .int .i64 ((f - (2 * s.num * ((us.getD i u0).bits))) + (s.br * s.den * ((us.getD i u0).fields))), .int .i64 (i : Int), .int .i64 0, .int .i64 (((f - (2 * s.num * ((us.getD i u0).bits))) + (s.br * s.den * ((us.getD i u0).fields))) - (2 * s.num * s.bu)), .agg (sqv s), .slice A us.length c, .int .i64 start, .bool true, .bool false, .int .i64 start, .int .i64 (i : Int), .slice A us.length c, .int .i64 ((us.length : Nat) : Int), .bool true, (u13 23), (u13 24), .int .i64 f, .agg (sqv s), .slice A us.length c, .int .i64 (i : Int), .pointer (some ⟨b21, o22 + i * 4, none⟩), .pointer (some ⟨b21, o22 + i * 4 + 2, none⟩), .int .i64 ((us.getD i u0).bits), .int .i64 (2 * s.num * ((us.getD i u0).bits)), .bool false, .int .i64 f, .agg (sqv s), .slice A us.length c, .int .i64 (i : Int), .pointer (some ⟨b30, o31 + i * 4, none⟩), .pointer (some ⟨b30, o31 + i * 4 + 2, none⟩), .int .i64 ((us.getD i u0).bits), .int .i64 (2 * s.num * ((us.getD i u0).bits)), .int .i64 (f - (2 * s.num * ((us.getD i u0).bits))), .agg (sqv s), .slice A us.length c, .int .i64 (i : Int), .pointer (some ⟨b33, o34 + i * 4, none⟩), .pointer (some ⟨b33, o34 + i * 4 + 3, none⟩), .int .i64 ((us.getD i u0).fields), .int .i64 (s.br * s.den * ((us.getD i u0).fields)), .int .i64 ((f - (2 * s.num * ((us.getD i u0).bits))) + (s.br * s.den * ((us.getD i u0).fields))), .int .i64 ((f - (2 * s.num * ((us.getD i u0).bits))) + (s.br * s.den * ((us.getD i u0).fields))), .agg (sqv s), .int .i64 (2 * s.num * s.bu), .int .i64 (((f - (2 * s.num * ((us.getD i u0).bits))) + (s.br * s.den * ((us.getD i u0).fields))) - (2 * s.num * s.bu)), .int .i64 (((f - (2 * s.num * ((us.getD i u0).bits))) + (s.br * s.den * ((us.getD i u0).fields))) - (2 * s.num * s.bu)), .bool false, .bool false, undef, undef, undef, undef, undef, .bool false, (u13 64), (u13 65), (u13 66), (u13 67), (u13 68), (u13 69), (u13 70), (u13 71), (u13 72), (u13 73), (u13 74), (u13 75), (u13 76), (u13 77), (u13 78), (u13 79), (u13 80), (u13 81), (u13 82), (u13 83), (u13 84), undef], []⟩) (by kernel_rfl) ?_
          refine wp_cond_false (by kernel_rfl) ?_
          refine wp_skip ?_
          refine hK39 _ _ ?_
          try clear hK39 K39
          refine wp_seq_k (fun K76 hK76 => ?_)
          refine wl_region ?_
          refine st_val (.int .i64 ((f - (2 * s.num * ((us.getD i u0).bits))) + (s.br * s.den * ((us.getD i u0).fields)))) (by kernel_rfl) (by kernel_rfl) ?_
          refine st_val (.agg (sqv s)) (by kernel_rfl) (run_load_row 26 (.tmp 3) rfl g2 (by kernel_rfl) 26 (sqv s) (0, 0) _ (M42.get 0 rfl) Try.underlying26 rfl (infoSq hs.la hs.lb)) ?_
          refine st_callB M42 (.int .i64 (2 * s.num)) (by kernel_rfl) (args := #[.agg (sqv s)]) (run_value_call 32 #[(Operand.tmp 75)] _ rfl Try.func32 (by kernel_rfl) (by kernel_rfl) _ (by kernel_rfl)) (part_walk W41 s hs hv) ?_
          intro W77 M78
          refine st_val (.int .i64 (8 * (2 * s.num))) (by kernel_rfl) (i64_of (by omega) (by kernel_rfl)) ?_
          refine st_val (.int .i64 0) (by kernel_rfl) (by kernel_rfl) ?_
          refine st_val (.int .i64 ((8 * (2 * s.num)) * 0)) (by kernel_rfl) (i64_of (by omega) (by kernel_rfl)) ?_
          refine st_val (.int .i64 (((f - (2 * s.num * ((us.getD i u0).bits))) + (s.br * s.den * ((us.getD i u0).fields))) - ((8 * (2 * s.num)) * 0))) (by kernel_rfl) (i64_of (by omega) (by kernel_rfl)) ?_
          refine st_val (.int .i64 (((f - (2 * s.num * ((us.getD i u0).bits))) + (s.br * s.den * ((us.getD i u0).fields))) - ((8 * (2 * s.num)) * 0))) (by kernel_rfl) (by kernel_rfl) ?_
          refine wl_nil ?_
          refine hK76 _ _ ?_
          try clear hK76 K76
          refine wl_region ?_
          refine st_val (.slice A1 i c1) (by kernel_rfl) (by kernel_rfl) ?_
          refine st_val (.int .i64 0) (by kernel_rfl) (by kernel_rfl) ?_
          refine st_new M78 (.cells #[.int .i64 0] 2 (0, 0)) (fun g => .slice (some ⟨g, 0, none⟩) 1 1) (by kernel_rfl) (by kernel_rfl) ?_
          intro g79 W80 M81
          obtain ⟨v82, T83, W84, hr85, O86, M87⟩ := append_i64 (A := [(g79, .cells #[.int .i64 0] 2 (0, 0)), (g2, .cells (sqv s) 26 (0, 0))]) (T := T1) (B := []) M81 41 _ _ _ O1 _ 1 ([.int .i64 0]) (rdk_new (M81.get 0 rfl)) rfl (by intro x hx; simp only [List.mem_cons, List.not_mem_nil, or_false] at hx; rcases hx with rfl <;> rfl) (by omega)
          have M87 : Mem NoS w W84 ((g79, .cells #[.int .i64 0] 2 (0, 0)) :: (g2, .cells (sqv s) 26 (0, 0)) :: (T83 ++ [])) := M87
          obtain ⟨A88, c89, rfl, hc90⟩ := O86.shape
          refine st_world (.slice A88 (i + 1) c89) W84 (by kernel_rfl) (run_append_op (.tmp 81) (.tmp 83) _ rfl (.slice A1 i c1) (.slice (some ⟨g79, 0, none⟩) 1 1) _ (by kernel_rfl) (by kernel_rfl) hr85) ?_
          refine st_val (.slice A88 (i + 1) c89) (by kernel_rfl) (by kernel_rfl) ?_
          refine wl_nil ?_
          refine blk_normal ?_
          refine hK18 _ _ ?_
          try clear hK18 K18
          refine wp_frame (a' := ⟨#[.agg (sqv s), .slice A us.length c, .int .i64 start, .pointer (some ⟨g2, 0, none⟩), undef, undef, (u13 6), (u13 7), .slice A88 (i + 1) c89, .int .i64 (((f - (2 * s.num * ((us.getD i u0).bits))) + (s.br * s.den * ((us.getD i u0).fields))) - ((8 * (2 * s.num)) * 0)), .int .i64 (i : Int), .int .i64 0, .int .i64 (((f - (2 * s.num * ((us.getD i u0).bits))) + (s.br * s.den * ((us.getD i u0).fields))) - (2 * s.num * s.bu)), .agg (sqv s), .slice A us.length c, .int .i64 start, .bool true, .bool false, .int .i64 start, .int .i64 (i : Int), .slice A us.length c, .int .i64 ((us.length : Nat) : Int), .bool true, (u13 23), (u13 24), .int .i64 f, .agg (sqv s), .slice A us.length c, .int .i64 (i : Int), .pointer (some ⟨b21, o22 + i * 4, none⟩), .pointer (some ⟨b21, o22 + i * 4 + 2, none⟩), .int .i64 ((us.getD i u0).bits), .int .i64 (2 * s.num * ((us.getD i u0).bits)), .bool false, .int .i64 f, .agg (sqv s), .slice A us.length c, .int .i64 (i : Int), .pointer (some ⟨b30, o31 + i * 4, none⟩), .pointer (some ⟨b30, o31 + i * 4 + 2, none⟩), .int .i64 ((us.getD i u0).bits), .int .i64 (2 * s.num * ((us.getD i u0).bits)), .int .i64 (f - (2 * s.num * ((us.getD i u0).bits))), .agg (sqv s), .slice A us.length c, .int .i64 (i : Int), .pointer (some ⟨b33, o34 + i * 4, none⟩), .pointer (some ⟨b33, o34 + i * 4 + 3, none⟩), .int .i64 ((us.getD i u0).fields), .int .i64 (s.br * s.den * ((us.getD i u0).fields)), .int .i64 ((f - (2 * s.num * ((us.getD i u0).bits))) + (s.br * s.den * ((us.getD i u0).fields))), .int .i64 ((f - (2 * s.num * ((us.getD i u0).bits))) + (s.br * s.den * ((us.getD i u0).fields))), .agg (sqv s), .int .i64 (2 * s.num * s.bu), .int .i64 (((f - (2 * s.num * ((us.getD i u0).bits))) + (s.br * s.den * ((us.getD i u0).fields))) - (2 * s.num * s.bu)), .int .i64 (((f - (2 * s.num * ((us.getD i u0).bits))) + (s.br * s.den * ((us.getD i u0).fields))) - (2 * s.num * s.bu)), .bool false, .bool false, undef, undef, undef, undef, undef, .bool false, (u13 64), (u13 65), (u13 66), (u13 67), (u13 68), (u13 69), (u13 70), (u13 71), (u13 72), (u13 73), .int .i64 ((f - (2 * s.num * ((us.getD i u0).bits))) + (s.br * s.den * ((us.getD i u0).fields))), .agg (sqv s), .int .i64 (2 * s.num), .int .i64 (8 * (2 * s.num)), .int .i64 0, .int .i64 ((8 * (2 * s.num)) * 0), .int .i64 (((f - (2 * s.num * ((us.getD i u0).bits))) + (s.br * s.den * ((us.getD i u0).fields))) - ((8 * (2 * s.num)) * 0)), .slice A1 i c1, .int .i64 0, .slice (some ⟨g79, 0, none⟩) 1 1, .slice A88 (i + 1) c89, undef], []⟩) (by kernel_rfl) ?_
          refine wl_region ?_
          refine st_val (.int .i64 (i : Int)) (by kernel_rfl) (by kernel_rfl) ?_
          refine st_val (.int .i64 ((i : Int) + 1)) (by kernel_rfl) (i64_of (by omega) (by kernel_rfl)) ?_
          refine st_val (.int .i64 ((i : Int) + 1)) (by kernel_rfl) (by kernel_rfl) ?_
          refine wl_nil ?_
          refine th_normal ?_
          have hE : f + (s.br * s.den * (us.getD i u0).fields - 2 * s.num * (us.getD i u0).bits) - 2 * s.num * (8 * 0) = ((f - (2 * s.num * ((us.getD i u0).bits))) + (s.br * s.den * ((us.getD i u0).fields))) - ((8 * (2 * s.num)) * 0) := by omega
          exact ⟨_, by omega, (i + 1), (((f - (2 * s.num * ((us.getD i u0).bits))) + (s.br * s.den * ((us.getD i u0).fields))) - ((8 * (2 * s.num)) * 0)), (p ++ [0]), A88, c89, T83, (fun zz => Array.getD #[.agg (sqv s), .slice A us.length c, .int .i64 start, .pointer (some ⟨g2, 0, none⟩), undef, undef, (u13 6), (u13 7), .slice A88 (i + 1) c89, .int .i64 (((f - (2 * s.num * ((us.getD i u0).bits))) + (s.br * s.den * ((us.getD i u0).fields))) - ((8 * (2 * s.num)) * 0)), .int .i64 ((i : Int) + 1), .int .i64 0, .int .i64 (((f - (2 * s.num * ((us.getD i u0).bits))) + (s.br * s.den * ((us.getD i u0).fields))) - (2 * s.num * s.bu)), .agg (sqv s), .slice A us.length c, .int .i64 start, .bool true, .bool false, .int .i64 start, .int .i64 (i : Int), .slice A us.length c, .int .i64 ((us.length : Nat) : Int), .bool true, .int .i64 (i : Int), .int .i64 ((i : Int) + 1), .int .i64 f, .agg (sqv s), .slice A us.length c, .int .i64 (i : Int), .pointer (some ⟨b21, o22 + i * 4, none⟩), .pointer (some ⟨b21, o22 + i * 4 + 2, none⟩), .int .i64 ((us.getD i u0).bits), .int .i64 (2 * s.num * ((us.getD i u0).bits)), .bool false, .int .i64 f, .agg (sqv s), .slice A us.length c, .int .i64 (i : Int), .pointer (some ⟨b30, o31 + i * 4, none⟩), .pointer (some ⟨b30, o31 + i * 4 + 2, none⟩), .int .i64 ((us.getD i u0).bits), .int .i64 (2 * s.num * ((us.getD i u0).bits)), .int .i64 (f - (2 * s.num * ((us.getD i u0).bits))), .agg (sqv s), .slice A us.length c, .int .i64 (i : Int), .pointer (some ⟨b33, o34 + i * 4, none⟩), .pointer (some ⟨b33, o34 + i * 4 + 3, none⟩), .int .i64 ((us.getD i u0).fields), .int .i64 (s.br * s.den * ((us.getD i u0).fields)), .int .i64 ((f - (2 * s.num * ((us.getD i u0).bits))) + (s.br * s.den * ((us.getD i u0).fields))), .int .i64 ((f - (2 * s.num * ((us.getD i u0).bits))) + (s.br * s.den * ((us.getD i u0).fields))), .agg (sqv s), .int .i64 (2 * s.num * s.bu), .int .i64 (((f - (2 * s.num * ((us.getD i u0).bits))) + (s.br * s.den * ((us.getD i u0).fields))) - (2 * s.num * s.bu)), .int .i64 (((f - (2 * s.num * ((us.getD i u0).bits))) + (s.br * s.den * ((us.getD i u0).fields))) - (2 * s.num * s.bu)), .bool false, .bool false, undef, undef, undef, undef, undef, .bool false, (u13 64), (u13 65), (u13 66), (u13 67), (u13 68), (u13 69), (u13 70), (u13 71), (u13 72), (u13 73), .int .i64 ((f - (2 * s.num * ((us.getD i u0).bits))) + (s.br * s.den * ((us.getD i u0).fields))), .agg (sqv s), .int .i64 (2 * s.num), .int .i64 (8 * (2 * s.num)), .int .i64 0, .int .i64 ((8 * (2 * s.num)) * 0), .int .i64 (((f - (2 * s.num * ((us.getD i u0).bits))) + (s.br * s.den * ((us.getD i u0).fields))) - ((8 * (2 * s.num)) * 0)), .slice A1 i c1, .int .i64 0, .slice (some ⟨g79, 0, none⟩) 1 1, .slice A88 (i + 1) c89, undef] zz undef), ⟨⟨by omega, ⟨by omega, by omega⟩, fun hi => by omega, by rw [ints_snoc]; exact O86, pad_next (by omega) hP c33 (padN_zero (by omega)) hE⟩, (M87.sub ((((List.Sublist.refl []).append_left T83).cons_cons _).cons _))⟩, rfl, (by kernel_rfl)⟩
    ·
      refine st_val (.bool false) (by kernel_rfl) (bool_of (dec_f c22) (by kernel_rfl)) ?_
      refine wl_nil ?_
      refine hK17 _ _ ?_
      try clear hK17 K17
      refine wp_cond_false (by kernel_rfl) ?_
      refine wp_exit ?_
      refine th_exit ?_
      refine th_exit ?_
      refine blk_exit ?_
      refine hK11 _ _ ?_
      try clear hK11 K11
      refine wp_seq_k (fun K91 hK91 => ?_)
      refine wl_region ?_
      refine st_val (.slice A1 i c1) (by kernel_rfl) (by kernel_rfl) ?_
      refine st_val (.slice A1 i c1) (by kernel_rfl) (by kernel_rfl) ?_
      refine st_val (.int .i64 0) (by kernel_rfl) (by kernel_rfl) ?_
      refine wl_nil ?_
      refine hK91 _ _ ?_
      try clear hK91 K91
      refine wp_ret ?_
      have hfin := pad_end (by omega) hP
      have hl : p.length = i := by have := O1.len; simp only [ints, List.length_map] at this; omega
      exact done2 6 7 (.slice A1 i c1) (.int .i64 0) (by kernel_rfl) (by kernel_rfl) (by kernel_rfl) (by kernel_rfl) ⟨_, T1, rfl, ⟨_, by rw [(pad_some hpr hfin).1], by rw [(pad_some hpr hfin).2]; show Own _ 1 _ p.length (ints p) T1; rw [hl]; exact O1⟩, M15.sub ((List.sublist_append_left T1 []).cons _)⟩
  ·
    have hpn := prB_not hp16
    refine st_callB M4 (.bool false) (by kernel_rfl) (args := #[.agg (sqv s), .slice A us.length c, .int .i64 start]) (run_value_call 36 #[(Operand.tmp 13), (Operand.tmp 14), (Operand.tmp 15)] _ rfl Try.func36 (by kernel_rfl) (by kernel_rfl) _ (by kernel_rfl)) ((by have := refProper_walk W3 s hs (.slice A us.length c) us (hr.keep M4.keep (fun _ _ h => h)) start; rw [hp16] at this; exact this)) ?_
    intro W92 M93
    refine st_val (.bool true) (by kernel_rfl) (by kernel_rfl) ?_
    refine wl_nil ?_
    refine hK6 _ _ ?_
    try clear hK6 K6
    refine wp_cond_true (by kernel_rfl) ?_
    refine wp_seq_k (fun K94 hK94 => ?_)
    refine wl_region ?_
    refine st_val ((Go.Value.slice none 0 0)) (by kernel_rfl) (by kernel_rfl) ?_
    refine st_val (.int .i64 1) (by kernel_rfl) (by kernel_rfl) ?_
    refine wl_nil ?_
    refine hK94 _ _ ?_
    try clear hK94 K94
    refine wp_ret ?_
    refine th_ret ?_
    exact done2 6 7 ((Go.Value.slice none 0 0)) (.int .i64 1) (by kernel_rfl) (by kernel_rfl) (by kernel_rfl) (by kernel_rfl) ⟨_, [], rfl, ⟨_, by rw [(pad_arg hpn).1], by rw [(pad_arg hpn).2]; exact Own.nil _ _⟩, M93.sub (List.nil_sublist _)⟩
end Go.Proofs.Ytolfkaljbgpkhaa
