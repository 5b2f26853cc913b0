/- The walk of VbvLeast. -/
import Derived.Test.YtolfkaljbgpkhaaEd
namespace Go.Proofs.Ytolfkaljbgpkhaa
open Go.RowKit
set_option maxHeartbeats 4000000 in
set_option maxRecDepth 100000 in
theorem VbvLeast_walk (w : World) (s : SeqD) (hs : SOk s) (v0 : Value) (us0 : List UnitD) (hr0 : RdK w v0 us0.length (flat us0)) (hu0 : UOk us0) (w0 : Int) (hw0 : -9223372036854775808 ≤ w0 ∧ w0 ≤ 9223372036854775807) (st : Int) (hst : -9223372036854775808 ≤ st ∧ st ≤ 9223372036854775807) : Calls Try.prog 8 #[.agg (sqv s), v0, .int .i64 w0, .int .i64 st] w fun e w' => e = .returned (.bool true) ∧ Below w.heap.size w w' := by
  obtain ⟨A0, c0, rfl, hc0⟩ := hr0.shape
  refine calls_of_wp Try.func8 rfl ?_
  refine wp_frame (a' := ⟨#[.agg (sqv s), .slice A0 us0.length c0, .int .i64 w0, .int .i64 st, undef, undef, undef, undef, undef, undef, undef, undef, undef, undef, undef, undef, undef, undef, undef, undef, undef, undef, undef, undef, undef, undef, undef, undef, undef, undef, undef, undef, undef, undef, undef, undef, undef, undef, undef, undef, undef, undef, undef, undef, undef, undef, undef, undef, undef, undef, undef, undef, undef, undef, undef, undef, undef, undef, undef, undef], []⟩) (by kernel_rfl) ?_
  have M0 : Mem NoS w w [] := Mem.start _ _
  refine wp_seq_k (fun K1 hK1 => ?_)
  refine wl_region ?_
  refine st_alloc M0 (.cells (sqv s) 26 (0, 0)) (by kernel_rfl) (by kernel_rfl) ?_
  intro g2 W3 M4
  refine st_val (.bool false) (by kernel_rfl) (by kernel_rfl) ?_
  refine wl_nil ?_
  refine hK1 _ _ ?_
  try clear hK1 K1
  refine wp_seq_k (fun K5 hK5 => ?_)
  refine wp_seq_k (fun K6 hK6 => ?_)
  refine wl_region ?_
  refine st_val (.slice A0 us0.length c0) (by kernel_rfl) (by kernel_rfl) ?_
  refine st_val (.int .i64 ((us0.length : Nat) : Int)) (by kernel_rfl) (by kernel_rfl) ?_
  rcases Decidable.em ((((us0.length : Nat) : Int) : Int) > 100) with c16 | c16
  ·
    refine st_val (.bool true) (by kernel_rfl) (bool_of (dec_t c16) (by kernel_rfl)) ?_
    refine wl_nil ?_
    refine hK6 _ _ ?_
    try clear hK6 K6
    refine wp_cond_true (by kernel_rfl) ?_
    refine wp_seq_k (fun K7 hK7 => ?_)
    refine wl_region ?_
    refine st_val (.bool true) (by kernel_rfl) (by kernel_rfl) ?_
    refine wl_nil ?_
    refine hK7 _ _ ?_
    try clear hK7 K7
    refine wp_ret ?_
    refine th_ret ?_
    exact done1 8 (.bool true) (by kernel_rfl) (by kernel_rfl) (by kernel_rfl) ⟨rfl, M4.toBelow⟩
  ·
    refine st_val (.bool false) (by kernel_rfl) (bool_of (dec_f c16) (by kernel_rfl)) ?_
    refine wl_nil ?_
    refine hK6 _ _ ?_
    try clear hK6 K6
    refine wp_cond_false (by kernel_rfl) ?_
    refine wp_skip ?_
    refine hK5 _ _ ?_
    try clear hK5 K5
    refine wp_seq_k (fun K8 hK8 => ?_)
    refine wl_region ?_
    refine st_val (.slice A0 us0.length c0) (by kernel_rfl) (by kernel_rfl) ?_
    refine st_callR (A := [(g2, .cells (sqv s) 26 (0, 0))]) (B := []) M4 (by kernel_rfl) (run_value_call 19 #[(Operand.tmp 17)] _ rfl Try.func19 (by kernel_rfl) (by kernel_rfl) _ (by kernel_rfl)) (given_walk W3 (.slice A0 us0.length c0) us0 (hr0.keep M4.keep (fun _ _ h => h)) (by omega)) ?_
    intro v9 T10 W11 O12 M13
    have M13 : Mem NoS w W11 ((g2, .cells (sqv s) 26 (0, 0)) :: (T10 ++ [])) := M13
    obtain ⟨A14, c15, rfl, hc16⟩ := O12.shape
    refine st_val (.slice A14 us0.length c15) (by kernel_rfl) (by kernel_rfl) ?_
    refine wl_nil ?_
    refine hK8 _ _ ?_
    try clear hK8 K8
    refine wp_seq_k (fun K17 hK17 => ?_)
    refine wl_region ?_
    refine st_val (.agg (sqv s)) (by kernel_rfl) (run_load_row 26 (.tmp 4) rfl g2 (by kernel_rfl) 26 (sqv s) (0, 0) _ (M13.get 0 rfl) Try.underlying26 rfl (infoSq hs.la hs.lb)) ?_
    refine st_val (.slice A14 us0.length c15) (by kernel_rfl) (by kernel_rfl) ?_
    refine st_val (.int .i64 w0) (by kernel_rfl) (by kernel_rfl) ?_
    refine st_callB M13 (.tuple #[.int .i64 ((needR s us0 w0).1), .int .i64 ((needR s us0 w0).2)]) (by kernel_rfl) (args := #[.agg (sqv s), .slice A14 us0.length c15, .int .i64 w0]) (run_value_call 18 #[(Operand.tmp 20), (Operand.tmp 21), (Operand.tmp 22)] _ rfl Try.func18 (by kernel_rfl) (by kernel_rfl) _ (by kernel_rfl)) (need_walk W11 s hs (.slice A14 us0.length c15) us0 (O12.rd (fun p hp => M13.at_ p (List.mem_cons_of_mem _ (List.mem_append_left _ hp)))) w0 hw0) ?_
    intro W18 M19
    refine st_val (.tuple #[.int .i64 ((needR s us0 w0).1), .int .i64 ((needR s us0 w0).2)]) (by kernel_rfl) (by kernel_rfl) ?_
    refine st_val (.int .i64 ((needR s us0 w0).1)) (by kernel_rfl) (by kernel_rfl) ?_
    refine st_val (.int .i64 ((needR s us0 w0).2)) (by kernel_rfl) (by kernel_rfl) ?_
    refine st_val (.int .i64 ((needR s us0 w0).1)) (by kernel_rfl) (by kernel_rfl) ?_
    refine st_val (.int .i64 ((needR s us0 w0).2)) (by kernel_rfl) (by kernel_rfl) ?_
    refine wl_nil ?_
    refine hK17 _ _ ?_
    try clear hK17 K17
    refine wp_frame (a' := ⟨#[.agg (sqv s), .slice A0 us0.length c0, .int .i64 w0, .int .i64 st, .pointer (some ⟨g2, 0, none⟩), undef, undef, undef, .bool false, .slice A14 us0.length c15, .int .i64 ((needR s us0 w0).1), .int .i64 ((needR s us0 w0).2), undef, undef, .slice A0 us0.length c0, .int .i64 ((us0.length : Nat) : Int), .bool false, .slice A0 us0.length c0, .slice A14 us0.length c15, .tuple #[.int .i64 ((needR s us0 w0).1), .int .i64 ((needR s us0 w0).2)], .agg (sqv s), .slice A14 us0.length c15, .int .i64 w0, .tuple #[.int .i64 ((needR s us0 w0).1), .int .i64 ((needR s us0 w0).2)], .int .i64 ((needR s us0 w0).1), .int .i64 ((needR s us0 w0).2), undef, undef, undef, undef, undef, undef, undef, undef, undef, undef, undef, undef, undef, undef, undef, undef, undef, undef, undef, undef, undef, undef, undef, undef, undef, undef, undef, undef, undef, undef, undef, undef, undef, undef], []⟩) (by kernel_rfl) ?_
    refine wp_seq_k (fun K20 hK20 => ?_)
    refine wp_seq_k (fun K21 hK21 => ?_)
    refine wl_region ?_
    refine st_val (.int .i64 ((needR s us0 w0).2)) (by kernel_rfl) (by kernel_rfl) ?_
    rcases Decidable.em (((needR s us0 w0).2 : Int) = 0) with c27 | c27
    ·
      refine st_val (.bool false) (by kernel_rfl) (bool_of (neq_f c27) (by kernel_rfl)) ?_
      refine st_val (.bool false) (by kernel_rfl) (by kernel_rfl) ?_
      refine st_val (.int .i64 st) (by kernel_rfl) (by kernel_rfl) ?_
      rcases Decidable.em ((st : Int) < 0) with c30 | c30
      ·
        refine st_val (.bool true) (by kernel_rfl) (bool_of (dec_t c30) (by kernel_rfl)) ?_
        refine st_val (.bool true) (by kernel_rfl) (by kernel_rfl) ?_
        refine st_val (.bool true) (by kernel_rfl) (by kernel_rfl) ?_
        refine st_skip (by kernel_rfl) ?_
        refine st_skip (by kernel_rfl) ?_
        refine st_skip (by kernel_rfl) ?_
        refine st_skip (by kernel_rfl) ?_
        refine st_val (.bool true) (by kernel_rfl) (by kernel_rfl) ?_
        refine wl_nil ?_
        refine hK21 _ _ ?_
        try clear hK21 K21
        refine wp_cond_true (by kernel_rfl) ?_
        refine wp_seq_k (fun K22 hK22 => ?_)
        refine wl_region ?_
        refine st_callB M19 (.bool true) (by kernel_rfl) (args := #[]) (run_value_call 11 #[] _ rfl Try.func11 (by kernel_rfl) (by kernel_rfl) _ (by kernel_rfl)) (awake_walk W18) ?_
        intro W23 M24
        refine st_val (.bool true) (by kernel_rfl) (by kernel_rfl) ?_
        refine wl_nil ?_
        refine hK22 _ _ ?_
        try clear hK22 K22
        refine wp_frame (a' := ⟨#[.agg (sqv s), .slice A0 us0.length c0, .int .i64 w0, .int .i64 st, .pointer (some ⟨g2, 0, none⟩), undef, undef, undef, .bool true, .slice A14 us0.length c15, .int .i64 ((needR s us0 w0).1), .int .i64 ((needR s us0 w0).2), undef, undef, .slice A0 us0.length c0, .int .i64 ((us0.length : Nat) : Int), .bool false, .slice A0 us0.length c0, .slice A14 us0.length c15, .tuple #[.int .i64 ((needR s us0 w0).1), .int .i64 ((needR s us0 w0).2)], .agg (sqv s), .slice A14 us0.length c15, .int .i64 w0, .tuple #[.int .i64 ((needR s us0 w0).1), .int .i64 ((needR s us0 w0).2)], .int .i64 ((needR s us0 w0).1), .int .i64 ((needR s us0 w0).2), .int .i64 ((needR s us0 w0).2), .bool false, .bool false, .int .i64 st, .bool true, .bool true, .bool true, undef, undef, undef, undef, .bool true, .bool true, undef, undef, undef, undef, undef, undef, undef, undef, undef, undef, undef, undef, undef, undef, undef, undef, undef, undef, undef, undef, undef], []⟩) (by kernel_rfl) ?_
        refine wp_ret ?_
        refine th_ret ?_
        exact done1 8 (.bool true) (by kernel_rfl) (by kernel_rfl) (by kernel_rfl) ⟨rfl, M24.toBelow⟩
      ·
        refine st_val (.bool false) (by kernel_rfl) (bool_of (dec_f c30) (by kernel_rfl)) ?_
        refine st_val (.bool false) (by kernel_rfl) (by kernel_rfl) ?_
        refine st_val (.bool false) (by kernel_rfl) (by kernel_rfl) ?_
        refine st_val (.int .i64 st) (by kernel_rfl) (by kernel_rfl) ?_
        refine st_val (.agg (sqv s)) (by kernel_rfl) (run_load_row 26 (.tmp 4) rfl g2 (by kernel_rfl) 26 (sqv s) (0, 0) _ (M19.get 0 rfl) Try.underlying26 rfl (infoSq hs.la hs.lb)) ?_
        refine st_callB M19 (.int .i64 (capS s)) (by kernel_rfl) (args := #[.agg (sqv s)]) (run_value_call 12 #[(Operand.tmp 34)] _ rfl Try.func12 (by kernel_rfl) (by kernel_rfl) _ (by kernel_rfl)) (cap_walk W18 s hs) ?_
        intro W25 M26
        rcases Decidable.em ((st : Int) > capS s) with c36 | c36
        ·
          refine st_val (.bool true) (by kernel_rfl) (bool_of (dec_t c36) (by kernel_rfl)) ?_
          refine st_val (.bool true) (by kernel_rfl) (by kernel_rfl) ?_
          refine wl_nil ?_
          refine hK21 _ _ ?_
          try clear hK21 K21
          refine wp_cond_true (by kernel_rfl) ?_
          refine wp_seq_k (fun K27 hK27 => ?_)
          refine wl_region ?_
          refine st_callB M26 (.bool true) (by kernel_rfl) (args := #[]) (run_value_call 11 #[] _ rfl Try.func11 (by kernel_rfl) (by kernel_rfl) _ (by kernel_rfl)) (awake_walk W25) ?_
          intro W28 M29
          refine st_val (.bool true) (by kernel_rfl) (by kernel_rfl) ?_
          refine wl_nil ?_
          refine hK27 _ _ ?_
          try clear hK27 K27
          refine wp_frame (a' := ⟨#[.agg (sqv s), .slice A0 us0.length c0, .int .i64 w0, .int .i64 st, .pointer (some ⟨g2, 0, none⟩), undef, undef, undef, .bool true, .slice A14 us0.length c15, .int .i64 ((needR s us0 w0).1), .int .i64 ((needR s us0 w0).2), undef, undef, .slice A0 us0.length c0, .int .i64 ((us0.length : Nat) : Int), .bool false, .slice A0 us0.length c0, .slice A14 us0.length c15, .tuple #[.int .i64 ((needR s us0 w0).1), .int .i64 ((needR s us0 w0).2)], .agg (sqv s), .slice A14 us0.length c15, .int .i64 w0, .tuple #[.int .i64 ((needR s us0 w0).1), .int .i64 ((needR s us0 w0).2)], .int .i64 ((needR s us0 w0).1), .int .i64 ((needR s us0 w0).2), .int .i64 ((needR s us0 w0).2), .bool false, .bool false, .int .i64 st, .bool false, .bool false, .bool false, .int .i64 st, .agg (sqv s), .int .i64 (capS s), .bool true, .bool true, .bool true, undef, undef, undef, undef, undef, undef, undef, undef, undef, undef, undef, undef, undef, undef, undef, undef, undef, undef, undef, undef, undef], []⟩) (by kernel_rfl) ?_
          refine wp_ret ?_
          refine th_ret ?_
          exact done1 8 (.bool true) (by kernel_rfl) (by kernel_rfl) (by kernel_rfl) ⟨rfl, M29.toBelow⟩
        ·
          refine st_val (.bool false) (by kernel_rfl) (bool_of (dec_f c36) (by kernel_rfl)) ?_
          refine st_val (.bool false) (by kernel_rfl) (by kernel_rfl) ?_
          refine wl_nil ?_
          refine hK21 _ _ ?_
          try clear hK21 K21
          refine wp_cond_false (by kernel_rfl) ?_
          refine wp_skip ?_
          refine hK20 _ _ ?_
          try clear hK20 K20
          refine wp_seq_k (fun K30 hK30 => ?_)
          refine wl_region ?_
          refine st_val (.agg (sqv s)) (by kernel_rfl) (run_load_row 26 (.tmp 4) rfl g2 (by kernel_rfl) 26 (sqv s) (0, 0) _ (M26.get 0 rfl) Try.underlying26 rfl (infoSq hs.la hs.lb)) ?_
          refine st_val (.slice A14 us0.length c15) (by kernel_rfl) (by kernel_rfl) ?_
          refine st_val (.int .i64 st) (by kernel_rfl) (by kernel_rfl) ?_
          refine st_callB M26 (.tuple #[.int .i64 ((endR s us0 st).1), .int .i64 ((endR s us0 st).2)]) (by kernel_rfl) (args := #[.agg (sqv s), .slice A14 us0.length c15, .int .i64 st]) (run_value_call 27 #[(Operand.tmp 40), (Operand.tmp 41), (Operand.tmp 42)] _ rfl Try.func27 (by kernel_rfl) (by kernel_rfl) _ (by kernel_rfl)) (end_walk W25 s hs (.slice A14 us0.length c15) us0 (O12.rd (fun p hp => M26.at_ p (List.mem_cons_of_mem _ (List.mem_append_left _ hp)))) st hst) ?_
          intro W31 M32
          refine st_val (.tuple #[.int .i64 ((endR s us0 st).1), .int .i64 ((endR s us0 st).2)]) (by kernel_rfl) (by kernel_rfl) ?_
          refine st_val (.int .i64 ((endR s us0 st).1)) (by kernel_rfl) (by kernel_rfl) ?_
          refine st_val (.int .i64 ((endR s us0 st).2)) (by kernel_rfl) (by kernel_rfl) ?_
          refine st_val (.int .i64 ((endR s us0 st).1)) (by kernel_rfl) (by kernel_rfl) ?_
          refine st_val (.int .i64 ((endR s us0 st).2)) (by kernel_rfl) (by kernel_rfl) ?_
          refine wl_nil ?_
          refine hK30 _ _ ?_
          try clear hK30 K30
          refine wp_frame (a' := ⟨#[.agg (sqv s), .slice A0 us0.length c0, .int .i64 w0, .int .i64 st, .pointer (some ⟨g2, 0, none⟩), undef, undef, undef, .bool false, .slice A14 us0.length c15, .int .i64 ((needR s us0 w0).1), .int .i64 ((needR s us0 w0).2), .int .i64 ((endR s us0 st).1), .int .i64 ((endR s us0 st).2), .slice A0 us0.length c0, .int .i64 ((us0.length : Nat) : Int), .bool false, .slice A0 us0.length c0, .slice A14 us0.length c15, .tuple #[.int .i64 ((needR s us0 w0).1), .int .i64 ((needR s us0 w0).2)], .agg (sqv s), .slice A14 us0.length c15, .int .i64 w0, .tuple #[.int .i64 ((needR s us0 w0).1), .int .i64 ((needR s us0 w0).2)], .int .i64 ((needR s us0 w0).1), .int .i64 ((needR s us0 w0).2), .int .i64 ((needR s us0 w0).2), .bool false, .bool false, .int .i64 st, .bool false, .bool false, .bool false, .int .i64 st, .agg (sqv s), .int .i64 (capS s), .bool false, .bool false, undef, .tuple #[.int .i64 ((endR s us0 st).1), .int .i64 ((endR s us0 st).2)], .agg (sqv s), .slice A14 us0.length c15, .int .i64 st, .tuple #[.int .i64 ((endR s us0 st).1), .int .i64 ((endR s us0 st).2)], .int .i64 ((endR s us0 st).1), .int .i64 ((endR s us0 st).2), undef, undef, undef, undef, undef, undef, undef, undef, undef, undef, undef, undef, undef, undef], []⟩) (by kernel_rfl) ?_
          refine wp_seq_k (fun K33 hK33 => ?_)
          refine wl_region ?_
          refine st_callB M32 (.bool true) (by kernel_rfl) (args := #[]) (run_value_call 11 #[] _ rfl Try.func11 (by kernel_rfl) (by kernel_rfl) _ (by kernel_rfl)) (awake_walk W31) ?_
          intro W34 M35
          refine st_val (.bool true) (by kernel_rfl) (by kernel_rfl) ?_
          refine st_val (.int .i64 st) (by kernel_rfl) (by kernel_rfl) ?_
          refine st_val (.int .i64 ((needR s us0 w0).1)) (by kernel_rfl) (by kernel_rfl) ?_
          rcases Decidable.em ((st : Int) ≥ (needR s us0 w0).1) with c50 | c50
          ·
            refine st_val (.bool true) (by kernel_rfl) (bool_of (dec_t c50) (by kernel_rfl)) ?_
            refine st_val (.int .i64 ((endR s us0 st).2)) (by kernel_rfl) (by kernel_rfl) ?_
            refine st_val (.bool true) (by kernel_rfl) (bool_of (dec_t (show ((endR s us0 st).2 : Int) = 0 from (least_t c27 (by omega) (by omega) (by omega)).1)) (by kernel_rfl)) ?_
            refine st_val (.bool true) (by kernel_rfl) (by kernel_rfl) ?_
            refine st_val (.int .i64 ((endR s us0 st).1)) (by kernel_rfl) (by kernel_rfl) ?_
            refine st_val (.int .i64 w0) (by kernel_rfl) (by kernel_rfl) ?_
            refine st_val (.bool true) (by kernel_rfl) (bool_of (dec_t (show ((endR s us0 st).1 : Int) ≥ w0 from (least_t c27 (by omega) (by omega) (by omega)).2)) (by kernel_rfl)) ?_
            refine st_val (.bool true) (by kernel_rfl) (by kernel_rfl) ?_
            refine st_val (.bool true) (by kernel_rfl) (by kernel_rfl) ?_
            refine st_val (.bool true) (by kernel_rfl) (by kernel_rfl) ?_
            refine st_val (.bool true) (by kernel_rfl) (by kernel_rfl) ?_
            refine wl_nil ?_
            refine hK33 _ _ ?_
            try clear hK33 K33
            refine wp_frame (a' := ⟨#[.agg (sqv s), .slice A0 us0.length c0, .int .i64 w0, .int .i64 st, .pointer (some ⟨g2, 0, none⟩), undef, undef, undef, .bool true, .slice A14 us0.length c15, .int .i64 ((needR s us0 w0).1), .int .i64 ((needR s us0 w0).2), .int .i64 ((endR s us0 st).1), .int .i64 ((endR s us0 st).2), .slice A0 us0.length c0, .int .i64 ((us0.length : Nat) : Int), .bool false, .slice A0 us0.length c0, .slice A14 us0.length c15, .tuple #[.int .i64 ((needR s us0 w0).1), .int .i64 ((needR s us0 w0).2)], .agg (sqv s), .slice A14 us0.length c15, .int .i64 w0, .tuple #[.int .i64 ((needR s us0 w0).1), .int .i64 ((needR s us0 w0).2)], .int .i64 ((needR s us0 w0).1), .int .i64 ((needR s us0 w0).2), .int .i64 ((needR s us0 w0).2), .bool false, .bool false, .int .i64 st, .bool false, .bool false, .bool false, .int .i64 st, .agg (sqv s), .int .i64 (capS s), .bool false, .bool false, undef, .tuple #[.int .i64 ((endR s us0 st).1), .int .i64 ((endR s us0 st).2)], .agg (sqv s), .slice A14 us0.length c15, .int .i64 st, .tuple #[.int .i64 ((endR s us0 st).1), .int .i64 ((endR s us0 st).2)], .int .i64 ((endR s us0 st).1), .int .i64 ((endR s us0 st).2), .bool true, .bool true, .int .i64 st, .int .i64 ((needR s us0 w0).1), .bool true, .int .i64 ((endR s us0 st).2), .bool true, .bool true, .int .i64 ((endR s us0 st).1), .int .i64 w0, .bool true, .bool true, .bool true, .bool true], []⟩) (by kernel_rfl) ?_
            refine wp_ret ?_
            exact done1 8 (.bool true) (by kernel_rfl) (by kernel_rfl) (by kernel_rfl) ⟨rfl, M35.toBelow⟩
          ·
            refine st_val (.bool false) (by kernel_rfl) (bool_of (dec_f c50) (by kernel_rfl)) ?_
            refine st_val (.int .i64 ((endR s us0 st).2)) (by kernel_rfl) (by kernel_rfl) ?_
            rcases Decidable.em (((endR s us0 st).2 : Int) = 0) with c52 | c52
            ·
              refine st_val (.bool true) (by kernel_rfl) (bool_of (dec_t c52) (by kernel_rfl)) ?_
              refine st_val (.bool true) (by kernel_rfl) (by kernel_rfl) ?_
              refine st_val (.int .i64 ((endR s us0 st).1)) (by kernel_rfl) (by kernel_rfl) ?_
              refine st_val (.int .i64 w0) (by kernel_rfl) (by kernel_rfl) ?_
              refine st_val (.bool false) (by kernel_rfl) (bool_of (dec_f (show ¬ (((endR s us0 st).1 : Int) ≥ w0) from (by have := least_f c27 (by omega) c52; omega))) (by kernel_rfl)) ?_
              refine st_val (.bool false) (by kernel_rfl) (by kernel_rfl) ?_
              refine st_val (.bool true) (by kernel_rfl) (by kernel_rfl) ?_
              refine st_val (.bool true) (by kernel_rfl) (by kernel_rfl) ?_
              refine st_val (.bool true) (by kernel_rfl) (by kernel_rfl) ?_
              refine wl_nil ?_
              refine hK33 _ _ ?_
              try clear hK33 K33
              refine wp_frame (a' := ⟨#[.agg (sqv s), .slice A0 us0.length c0, .int .i64 w0, .int .i64 st, .pointer (some ⟨g2, 0, none⟩), undef, undef, undef, .bool true, .slice A14 us0.length c15, .int .i64 ((needR s us0 w0).1), .int .i64 ((needR s us0 w0).2), .int .i64 ((endR s us0 st).1), .int .i64 ((endR s us0 st).2), .slice A0 us0.length c0, .int .i64 ((us0.length : Nat) : Int), .bool false, .slice A0 us0.length c0, .slice A14 us0.length c15, .tuple #[.int .i64 ((needR s us0 w0).1), .int .i64 ((needR s us0 w0).2)], .agg (sqv s), .slice A14 us0.length c15, .int .i64 w0, .tuple #[.int .i64 ((needR s us0 w0).1), .int .i64 ((needR s us0 w0).2)], .int .i64 ((needR s us0 w0).1), .int .i64 ((needR s us0 w0).2), .int .i64 ((needR s us0 w0).2), .bool false, .bool false, .int .i64 st, .bool false, .bool false, .bool false, .int .i64 st, .agg (sqv s), .int .i64 (capS s), .bool false, .bool false, undef, .tuple #[.int .i64 ((endR s us0 st).1), .int .i64 ((endR s us0 st).2)], .agg (sqv s), .slice A14 us0.length c15, .int .i64 st, .tuple #[.int .i64 ((endR s us0 st).1), .int .i64 ((endR s us0 st).2)], .int .i64 ((endR s us0 st).1), .int .i64 ((endR s us0 st).2), .bool true, .bool true, .int .i64 st, .int .i64 ((needR s us0 w0).1), .bool false, .int .i64 ((endR s us0 st).2), .bool true, .bool true, .int .i64 ((endR s us0 st).1), .int .i64 w0, .bool false, .bool false, .bool true, .bool true], []⟩) (by kernel_rfl) ?_
              refine wp_ret ?_
              exact done1 8 (.bool true) (by kernel_rfl) (by kernel_rfl) (by kernel_rfl) ⟨rfl, M35.toBelow⟩
            ·
              refine st_val (.bool false) (by kernel_rfl) (bool_of (dec_f c52) (by kernel_rfl)) ?_
              refine st_val (.bool false) (by kernel_rfl) (by kernel_rfl) ?_
              refine st_skip (by kernel_rfl) ?_
              refine st_skip (by kernel_rfl) ?_
              refine st_skip (by kernel_rfl) ?_
              refine st_val (.bool false) (by kernel_rfl) (by kernel_rfl) ?_
              refine st_val (.bool true) (by kernel_rfl) (by kernel_rfl) ?_
              refine st_val (.bool true) (by kernel_rfl) (by kernel_rfl) ?_
              refine st_val (.bool true) (by kernel_rfl) (by kernel_rfl) ?_
              refine wl_nil ?_
              refine hK33 _ _ ?_
              try clear hK33 K33
              refine wp_frame (a' := ⟨#[.agg (sqv s), .slice A0 us0.length c0, .int .i64 w0, .int .i64 st, .pointer (some ⟨g2, 0, none⟩), undef, undef, undef, .bool true, .slice A14 us0.length c15, .int .i64 ((needR s us0 w0).1), .int .i64 ((needR s us0 w0).2), .int .i64 ((endR s us0 st).1), .int .i64 ((endR s us0 st).2), .slice A0 us0.length c0, .int .i64 ((us0.length : Nat) : Int), .bool false, .slice A0 us0.length c0, .slice A14 us0.length c15, .tuple #[.int .i64 ((needR s us0 w0).1), .int .i64 ((needR s us0 w0).2)], .agg (sqv s), .slice A14 us0.length c15, .int .i64 w0, .tuple #[.int .i64 ((needR s us0 w0).1), .int .i64 ((needR s us0 w0).2)], .int .i64 ((needR s us0 w0).1), .int .i64 ((needR s us0 w0).2), .int .i64 ((needR s us0 w0).2), .bool false, .bool false, .int .i64 st, .bool false, .bool false, .bool false, .int .i64 st, .agg (sqv s), .int .i64 (capS s), .bool false, .bool false, undef, .tuple #[.int .i64 ((endR s us0 st).1), .int .i64 ((endR s us0 st).2)], .agg (sqv s), .slice A14 us0.length c15, .int .i64 st, .tuple #[.int .i64 ((endR s us0 st).1), .int .i64 ((endR s us0 st).2)], .int .i64 ((endR s us0 st).1), .int .i64 ((endR s us0 st).2), .bool true, .bool true, .int .i64 st, .int .i64 ((needR s us0 w0).1), .bool false, .int .i64 ((endR s us0 st).2), .bool false, .bool false, undef, undef, undef, .bool false, .bool true, .bool true], []⟩) (by kernel_rfl) ?_
              refine wp_ret ?_
              exact done1 8 (.bool true) (by kernel_rfl) (by kernel_rfl) (by kernel_rfl) ⟨rfl, M35.toBelow⟩
    ·
      refine st_val (.bool true) (by kernel_rfl) (bool_of (neq_t c27) (by kernel_rfl)) ?_
      refine st_val (.bool true) (by kernel_rfl) (by kernel_rfl) ?_
      refine st_skip (by kernel_rfl) ?_
      refine st_skip (by kernel_rfl) ?_
      refine st_val (.bool true) (by kernel_rfl) (by kernel_rfl) ?_
      refine st_val (.bool true) (by kernel_rfl) (by kernel_rfl) ?_
      refine st_skip (by kernel_rfl) ?_
      refine st_skip (by kernel_rfl) ?_
      refine st_skip (by kernel_rfl) ?_
      refine st_skip (by kernel_rfl) ?_
      refine st_val (.bool true) (by kernel_rfl) (by kernel_rfl) ?_
      refine wl_nil ?_
      refine hK21 _ _ ?_
      try clear hK21 K21
      refine wp_cond_true (by kernel_rfl) ?_
      refine wp_seq_k (fun K36 hK36 => ?_)
      refine wl_region ?_
      refine st_callB M19 (.bool true) (by kernel_rfl) (args := #[]) (run_value_call 11 #[] _ rfl Try.func11 (by kernel_rfl) (by kernel_rfl) _ (by kernel_rfl)) (awake_walk W18) ?_
      intro W37 M38
      refine st_val (.bool true) (by kernel_rfl) (by kernel_rfl) ?_
      refine wl_nil ?_
      refine hK36 _ _ ?_
      try clear hK36 K36
      refine wp_frame (a' := ⟨#[.agg (sqv s), .slice A0 us0.length c0, .int .i64 w0, .int .i64 st, .pointer (some ⟨g2, 0, none⟩), undef, undef, undef, .bool true, .slice A14 us0.length c15, .int .i64 ((needR s us0 w0).1), .int .i64 ((needR s us0 w0).2), undef, undef, .slice A0 us0.length c0, .int .i64 ((us0.length : Nat) : Int), .bool false, .slice A0 us0.length c0, .slice A14 us0.length c15, .tuple #[.int .i64 ((needR s us0 w0).1), .int .i64 ((needR s us0 w0).2)], .agg (sqv s), .slice A14 us0.length c15, .int .i64 w0, .tuple #[.int .i64 ((needR s us0 w0).1), .int .i64 ((needR s us0 w0).2)], .int .i64 ((needR s us0 w0).1), .int .i64 ((needR s us0 w0).2), .int .i64 ((needR s us0 w0).2), .bool true, .bool true, undef, undef, .bool true, .bool true, undef, undef, undef, undef, .bool true, .bool true, undef, undef, undef, undef, undef, undef, undef, undef, undef, undef, undef, undef, undef, undef, undef, undef, undef, undef, undef, undef, undef], []⟩) (by kernel_rfl) ?_
      refine wp_ret ?_
      refine th_ret ?_
      exact done1 8 (.bool true) (by kernel_rfl) (by kernel_rfl) (by kernel_rfl) ⟨rfl, M38.toBelow⟩
end Go.Proofs.Ytolfkaljbgpkhaa
