/- The walk of VbvMore. -/
import Derived.Test.YtolfkaljbgpkhaaEd
namespace Go.Proofs.Ytolfkaljbgpkhaa
open Go.RowKit
set_option maxHeartbeats 4000000 in
set_option maxRecDepth 100000 in
theorem VbvMore_walk (w : World) (s : SeqD) (hs : SOk s) (v0 : Value) (us0 : List UnitD) (hr0 : RdK w v0 us0.length (flat us0)) (hu0 : UOk us0) (st : Int) (hst : -9223372036854775808 ≤ st ∧ st ≤ 9223372036854775807) (m0 : Int) (hm0 : -9223372036854775808 ≤ m0 ∧ m0 ≤ 9223372036854775807) : Calls Try.prog 9 #[.agg (sqv s), v0, .int .i64 st, .int .i64 m0] w fun e w' => e = .returned (.bool true) ∧ Below w.heap.size w w' := by
  obtain ⟨A0, c0, rfl, hc0⟩ := hr0.shape
  refine calls_of_wp Try.func9 rfl ?_
  refine wp_frame (a' := ⟨#[.agg (sqv s), .slice A0 us0.length c0, .int .i64 st, .int .i64 m0, undef, undef, undef, undef, undef, undef, undef, undef, undef, undef, undef, undef, undef, undef, undef, undef, undef, undef, undef, undef, undef, undef, undef, undef, undef, undef, undef, undef, undef, undef, undef, undef, undef, undef, undef, undef, undef, undef, undef, undef, undef, undef, undef, undef, undef, undef, undef, undef, undef, undef, undef, undef, undef, undef, undef, undef, undef, undef, undef, undef, undef, undef, undef, undef, undef, undef, undef, undef, undef, undef, undef, undef, undef, undef, undef, undef, undef, undef, undef, undef, undef, undef, undef, undef, undef, undef, undef, undef, undef, undef, undef, undef, undef, undef, undef, undef, undef, undef], []⟩) (by kernel_rfl) ?_
  have M0 : Mem NoS w w [] := Mem.start _ _
  refine wp_seq_k (fun K1 hK1 => ?_)
  refine wl_region ?_
  refine st_alloc M0 (.cells (sqv s) 26 (0, 0)) (by kernel_rfl) (by kernel_rfl) ?_
  intro g2 W3 M4
  refine st_val (.bool false) (by kernel_rfl) (by kernel_rfl) ?_
  refine wl_nil ?_
  refine hK1 _ _ ?_
  try clear hK1 K1
  refine wp_seq_k (fun K5 hK5 => ?_)
  refine wp_seq_k (fun K6 hK6 => ?_)
  refine wl_region ?_
  refine st_val (.slice A0 us0.length c0) (by kernel_rfl) (by kernel_rfl) ?_
  refine st_val (.int .i64 ((us0.length : Nat) : Int)) (by kernel_rfl) (by kernel_rfl) ?_
  rcases Decidable.em ((((us0.length : Nat) : Int) : Int) > 100) with c18 | c18
  ·
    refine st_val (.bool true) (by kernel_rfl) (bool_of (dec_t c18) (by kernel_rfl)) ?_
    refine st_val (.bool true) (by kernel_rfl) (by kernel_rfl) ?_
    refine st_skip (by kernel_rfl) ?_
    refine st_skip (by kernel_rfl) ?_
    refine st_val (.bool true) (by kernel_rfl) (by kernel_rfl) ?_
    refine st_val (.bool true) (by kernel_rfl) (by kernel_rfl) ?_
    refine st_skip (by kernel_rfl) ?_
    refine st_skip (by kernel_rfl) ?_
    refine st_skip (by kernel_rfl) ?_
    refine st_val (.bool true) (by kernel_rfl) (by kernel_rfl) ?_
    refine st_val (.bool true) (by kernel_rfl) (by kernel_rfl) ?_
    refine st_skip (by kernel_rfl) ?_
    refine st_skip (by kernel_rfl) ?_
    refine st_val (.bool true) (by kernel_rfl) (by kernel_rfl) ?_
    refine st_val (.bool true) (by kernel_rfl) (by kernel_rfl) ?_
    refine st_skip (by kernel_rfl) ?_
    refine st_skip (by kernel_rfl) ?_
    refine st_skip (by kernel_rfl) ?_
    refine st_skip (by kernel_rfl) ?_
    refine st_val (.bool true) (by kernel_rfl) (by kernel_rfl) ?_
    refine st_val (.bool true) (by kernel_rfl) (by kernel_rfl) ?_
    refine st_skip (by kernel_rfl) ?_
    refine st_skip (by kernel_rfl) ?_
    refine st_skip (by kernel_rfl) ?_
    refine st_skip (by kernel_rfl) ?_
    refine st_skip (by kernel_rfl) ?_
    refine st_skip (by kernel_rfl) ?_
    refine st_val (.bool true) (by kernel_rfl) (by kernel_rfl) ?_
    refine wl_nil ?_
    refine hK6 _ _ ?_
    try clear hK6 K6
    refine wp_frame (a' := ⟨#[.agg (sqv s), .slice A0 us0.length c0, .int .i64 st, .int .i64 m0, .pointer (some ⟨g2, 0, none⟩), undef, undef, undef, .bool false, undef, undef, undef, undef, undef, undef, undef, .slice A0 us0.length c0, .int .i64 ((us0.length : Nat) : Int), .bool true, .bool true, undef, undef, .bool true, .bool true, undef, undef, undef, .bool true, .bool true, undef, undef, .bool true, .bool true, undef, undef, undef, undef, .bool true, .bool true, undef, undef, undef, undef, undef, undef, .bool true, undef, undef, undef, undef, undef, undef, undef, undef, undef, undef, undef, undef, undef, undef, undef, undef, undef, undef, undef, undef, undef, undef, undef, undef, undef, undef, undef, undef, undef, undef, undef, undef, undef, undef, undef, undef, undef, undef, undef, undef, undef, undef, undef, undef, undef, undef, undef, undef, undef, undef, undef, undef, undef, undef, undef, undef], []⟩) (by kernel_rfl) ?_
    refine wp_cond_true (by kernel_rfl) ?_
    refine wp_seq_k (fun K7 hK7 => ?_)
    refine wl_region ?_
    refine st_callB M4 (.bool true) (by kernel_rfl) (args := #[]) (run_value_call 11 #[] _ rfl Try.func11 (by kernel_rfl) (by kernel_rfl) _ (by kernel_rfl)) (awake_walk W3) ?_
    intro W8 M9
    refine st_val (.bool true) (by kernel_rfl) (by kernel_rfl) ?_
    refine wl_nil ?_
    refine hK7 _ _ ?_
    try clear hK7 K7
    refine wp_ret ?_
    refine th_ret ?_
    exact done1 8 (.bool true) (by kernel_rfl) (by kernel_rfl) (by kernel_rfl) ⟨rfl, M9.toBelow⟩
  ·
    refine st_val (.bool false) (by kernel_rfl) (bool_of (dec_f c18) (by kernel_rfl)) ?_
    refine st_val (.bool false) (by kernel_rfl) (by kernel_rfl) ?_
    refine st_val (.int .i64 m0) (by kernel_rfl) (by kernel_rfl) ?_
    rcases Decidable.em ((m0 : Int) < 0) with c21 | c21
    ·
      refine st_val (.bool true) (by kernel_rfl) (bool_of (dec_t c21) (by kernel_rfl)) ?_
      refine st_val (.bool true) (by kernel_rfl) (by kernel_rfl) ?_
      refine st_val (.bool true) (by kernel_rfl) (by kernel_rfl) ?_
      refine st_skip (by kernel_rfl) ?_
      refine st_skip (by kernel_rfl) ?_
      refine st_skip (by kernel_rfl) ?_
      refine st_val (.bool true) (by kernel_rfl) (by kernel_rfl) ?_
      refine st_val (.bool true) (by kernel_rfl) (by kernel_rfl) ?_
      refine st_skip (by kernel_rfl) ?_
      refine st_skip (by kernel_rfl) ?_
      refine st_val (.bool true) (by kernel_rfl) (by kernel_rfl) ?_
      refine st_val (.bool true) (by kernel_rfl) (by kernel_rfl) ?_
      refine st_skip (by kernel_rfl) ?_
      refine st_skip (by kernel_rfl) ?_
      refine st_skip (by kernel_rfl) ?_
      refine st_skip (by kernel_rfl) ?_
      refine st_val (.bool true) (by kernel_rfl) (by kernel_rfl) ?_
      refine st_val (.bool true) (by kernel_rfl) (by kernel_rfl) ?_
      refine st_skip (by kernel_rfl) ?_
      refine st_skip (by kernel_rfl) ?_
      refine st_skip (by kernel_rfl) ?_
      refine st_skip (by kernel_rfl) ?_
      refine st_skip (by kernel_rfl) ?_
      refine st_skip (by kernel_rfl) ?_
      refine st_val (.bool true) (by kernel_rfl) (by kernel_rfl) ?_
      refine wl_nil ?_
      refine hK6 _ _ ?_
      try clear hK6 K6
      refine wp_frame (a' := ⟨#[.agg (sqv s), .slice A0 us0.length c0, .int .i64 st, .int .i64 m0, .pointer (some ⟨g2, 0, none⟩), undef, undef, undef, .bool false, undef, undef, undef, undef, undef, undef, undef, .slice A0 us0.length c0, .int .i64 ((us0.length : Nat) : Int), .bool false, .bool false, .int .i64 m0, .bool true, .bool true, .bool true, undef, undef, undef, .bool true, .bool true, undef, undef, .bool true, .bool true, undef, undef, undef, undef, .bool true, .bool true, undef, undef, undef, undef, undef, undef, .bool true, undef, undef, undef, undef, undef, undef, undef, undef, undef, undef, undef, undef, undef, undef, undef, undef, undef, undef, undef, undef, undef, undef, undef, undef, undef, undef, undef, undef, undef, undef, undef, undef, undef, undef, undef, undef, undef, undef, undef, undef, undef, undef, undef, undef, undef, undef, undef, undef, undef, undef, undef, undef, undef, undef, undef, undef], []⟩) (by kernel_rfl) ?_
      refine wp_cond_true (by kernel_rfl) ?_
      refine wp_seq_k (fun K10 hK10 => ?_)
      refine wl_region ?_
      refine st_callB M4 (.bool true) (by kernel_rfl) (args := #[]) (run_value_call 11 #[] _ rfl Try.func11 (by kernel_rfl) (by kernel_rfl) _ (by kernel_rfl)) (awake_walk W3) ?_
      intro W11 M12
      refine st_val (.bool true) (by kernel_rfl) (by kernel_rfl) ?_
      refine wl_nil ?_
      refine hK10 _ _ ?_
      try clear hK10 K10
      refine wp_ret ?_
      refine th_ret ?_
      exact done1 8 (.bool true) (by kernel_rfl) (by kernel_rfl) (by kernel_rfl) ⟨rfl, M12.toBelow⟩
    ·
      refine st_val (.bool false) (by kernel_rfl) (bool_of (dec_f c21) (by kernel_rfl)) ?_
      refine st_val (.bool false) (by kernel_rfl) (by kernel_rfl) ?_
      refine st_val (.bool false) (by kernel_rfl) (by kernel_rfl) ?_
      refine st_val (.agg (sqv s)) (by kernel_rfl) (run_load_row 26 (.tmp 4) rfl g2 (by kernel_rfl) 26 (sqv s) (0, 0) _ (M4.get 0 rfl) Try.underlying26 rfl (infoSq hs.la hs.lb)) ?_
      rcases Bool.eq_false_or_eq_true (sB s) with hv | hv
      ·
        refine st_callB M4 (.bool true) (by kernel_rfl) (args := #[.agg (sqv s)]) (run_value_call 28 #[(Operand.tmp 24)] _ rfl Try.func28 (by kernel_rfl) (by kernel_rfl) _ (by kernel_rfl)) ((by have := refVseq_walk W3 s hs; rw [hv] at this; exact this)) ?_
        intro W13 M14
        obtain ⟨vn1, vn2, vd1, vd2, vb1, vb2, vu1, vu2, vP, vQ, vR⟩ := SV_facts hv
        have hcap := capS_t hv
        refine st_val (.bool false) (by kernel_rfl) (by kernel_rfl) ?_
        refine st_val (.bool false) (by kernel_rfl) (by kernel_rfl) ?_
        refine st_val (.bool false) (by kernel_rfl) (by kernel_rfl) ?_
        refine st_val (.int .i64 st) (by kernel_rfl) (by kernel_rfl) ?_
        rcases Decidable.em ((st : Int) < 0) with c30 | c30
        ·
          refine st_val (.bool true) (by kernel_rfl) (bool_of (dec_t c30) (by kernel_rfl)) ?_
          refine st_val (.bool true) (by kernel_rfl) (by kernel_rfl) ?_
          refine st_val (.bool true) (by kernel_rfl) (by kernel_rfl) ?_
          refine st_skip (by kernel_rfl) ?_
          refine st_skip (by kernel_rfl) ?_
          refine st_skip (by kernel_rfl) ?_
          refine st_skip (by kernel_rfl) ?_
          refine st_val (.bool true) (by kernel_rfl) (by kernel_rfl) ?_
          refine st_val (.bool true) (by kernel_rfl) (by kernel_rfl) ?_
          refine st_skip (by kernel_rfl) ?_
          refine st_skip (by kernel_rfl) ?_
          refine st_skip (by kernel_rfl) ?_
          refine st_skip (by kernel_rfl) ?_
          refine st_skip (by kernel_rfl) ?_
          refine st_skip (by kernel_rfl) ?_
          refine st_val (.bool true) (by kernel_rfl) (by kernel_rfl) ?_
          refine wl_nil ?_
          refine hK6 _ _ ?_
          try clear hK6 K6
          refine wp_frame (a' := ⟨#[.agg (sqv s), .slice A0 us0.length c0, .int .i64 st, .int .i64 m0, .pointer (some ⟨g2, 0, none⟩), undef, undef, undef, .bool false, undef, undef, undef, undef, undef, undef, undef, .slice A0 us0.length c0, .int .i64 ((us0.length : Nat) : Int), .bool false, .bool false, .int .i64 m0, .bool false, .bool false, .bool false, .agg (sqv s), .bool true, .bool false, .bool false, .bool false, .int .i64 st, .bool true, .bool true, .bool true, undef, undef, undef, undef, .bool true, .bool true, undef, undef, undef, undef, undef, undef, .bool true, undef, undef, undef, undef, undef, undef, undef, undef, undef, undef, undef, undef, undef, undef, undef, undef, undef, undef, undef, undef, undef, undef, undef, undef, undef, undef, undef, undef, undef, undef, undef, undef, undef, undef, undef, undef, undef, undef, undef, undef, undef, undef, undef, undef, undef, undef, undef, undef, undef, undef, undef, undef, undef, undef, undef, undef], []⟩) (by kernel_rfl) ?_
          refine wp_cond_true (by kernel_rfl) ?_
          refine wp_seq_k (fun K15 hK15 => ?_)
          refine wl_region ?_
          refine st_callB M14 (.bool true) (by kernel_rfl) (args := #[]) (run_value_call 11 #[] _ rfl Try.func11 (by kernel_rfl) (by kernel_rfl) _ (by kernel_rfl)) (awake_walk W13) ?_
          intro W16 M17
          refine st_val (.bool true) (by kernel_rfl) (by kernel_rfl) ?_
          refine wl_nil ?_
          refine hK15 _ _ ?_
          try clear hK15 K15
          refine wp_ret ?_
          refine th_ret ?_
          exact done1 8 (.bool true) (by kernel_rfl) (by kernel_rfl) (by kernel_rfl) ⟨rfl, M17.toBelow⟩
        ·
          refine st_val (.bool false) (by kernel_rfl) (bool_of (dec_f c30) (by kernel_rfl)) ?_
          refine st_val (.bool false) (by kernel_rfl) (by kernel_rfl) ?_
          refine st_val (.bool false) (by kernel_rfl) (by kernel_rfl) ?_
          refine st_val (.int .i64 st) (by kernel_rfl) (by kernel_rfl) ?_
          refine st_val (.agg (sqv s)) (by kernel_rfl) (run_load_row 26 (.tmp 4) rfl g2 (by kernel_rfl) 26 (sqv s) (0, 0) _ (M14.get 0 rfl) Try.underlying26 rfl (infoSq hs.la hs.lb)) ?_
          refine st_callB M14 (.int .i64 (capS s)) (by kernel_rfl) (args := #[.agg (sqv s)]) (run_value_call 12 #[(Operand.tmp 34)] _ rfl Try.func12 (by kernel_rfl) (by kernel_rfl) _ (by kernel_rfl)) (cap_walk W13 s hs) ?_
          intro W18 M19
          rcases Decidable.em ((st : Int) > capS s) with c36 | c36
          ·
            refine st_val (.bool true) (by kernel_rfl) (bool_of (dec_t c36) (by kernel_rfl)) ?_
            refine st_val (.bool true) (by kernel_rfl) (by kernel_rfl) ?_
            refine st_val (.bool true) (by kernel_rfl) (by kernel_rfl) ?_
            refine st_skip (by kernel_rfl) ?_
            refine st_skip (by kernel_rfl) ?_
            refine st_skip (by kernel_rfl) ?_
            refine st_skip (by kernel_rfl) ?_
            refine st_skip (by kernel_rfl) ?_
            refine st_skip (by kernel_rfl) ?_
            refine st_val (.bool true) (by kernel_rfl) (by kernel_rfl) ?_
            refine wl_nil ?_
            refine hK6 _ _ ?_
            try clear hK6 K6
            refine wp_frame (a' := ⟨#[.agg (sqv s), .slice A0 us0.length c0, .int .i64 st, .int .i64 m0, .pointer (some ⟨g2, 0, none⟩), undef, undef, undef, .bool false, undef, undef, undef, undef, undef, undef, undef, .slice A0 us0.length c0, .int .i64 ((us0.length : Nat) : Int), .bool false, .bool false, .int .i64 m0, .bool false, .bool false, .bool false, .agg (sqv s), .bool true, .bool false, .bool false, .bool false, .int .i64 st, .bool false, .bool false, .bool false, .int .i64 st, .agg (sqv s), .int .i64 (capS s), .bool true, .bool true, .bool true, undef, undef, undef, undef, undef, undef, .bool true, undef, undef, undef, undef, undef, undef, undef, undef, undef, undef, undef, undef, undef, undef, undef, undef, undef, undef, undef, undef, undef, undef, undef, undef, undef, undef, undef, undef, undef, undef, undef, undef, undef, undef, undef, undef, undef, undef, undef, undef, undef, undef, undef, undef, undef, undef, undef, undef, undef, undef, undef, undef, undef, undef, undef, undef], []⟩) (by kernel_rfl) ?_
            refine wp_cond_true (by kernel_rfl) ?_
            refine wp_seq_k (fun K20 hK20 => ?_)
            refine wl_region ?_
            refine st_callB M19 (.bool true) (by kernel_rfl) (args := #[]) (run_value_call 11 #[] _ rfl Try.func11 (by kernel_rfl) (by kernel_rfl) _ (by kernel_rfl)) (awake_walk W18) ?_
            intro W21 M22
            refine st_val (.bool true) (by kernel_rfl) (by kernel_rfl) ?_
            refine wl_nil ?_
            refine hK20 _ _ ?_
            try clear hK20 K20
            refine wp_ret ?_
            refine th_ret ?_
            exact done1 8 (.bool true) (by kernel_rfl) (by kernel_rfl) (by kernel_rfl) ⟨rfl, M22.toBelow⟩
          ·
            refine st_val (.bool false) (by kernel_rfl) (bool_of (dec_f c36) (by kernel_rfl)) ?_
            refine st_val (.bool false) (by kernel_rfl) (by kernel_rfl) ?_
            refine st_val (.bool false) (by kernel_rfl) (by kernel_rfl) ?_
            refine st_val (.int .i64 m0) (by kernel_rfl) (by kernel_rfl) ?_
            refine st_val (.agg (sqv s)) (by kernel_rfl) (run_load_row 26 (.tmp 4) rfl g2 (by kernel_rfl) 26 (sqv s) (0, 0) _ (M19.get 0 rfl) Try.underlying26 rfl (infoSq hs.la hs.lb)) ?_
            refine st_callB M19 (.int .i64 (capS s)) (by kernel_rfl) (args := #[.agg (sqv s)]) (run_value_call 12 #[(Operand.tmp 40)] _ rfl Try.func12 (by kernel_rfl) (by kernel_rfl) _ (by kernel_rfl)) (cap_walk W18 s hs) ?_
            intro W23 M24
            refine st_val (.int .i64 st) (by kernel_rfl) (by kernel_rfl) ?_
            refine st_val (.int .i64 ((capS s) - st)) (by kernel_rfl) (i64_of (by omega) (by kernel_rfl)) ?_
            rcases Decidable.em ((m0 : Int) > (capS s) - st) with c44 | c44
            ·
              refine st_val (.bool true) (by kernel_rfl) (bool_of (dec_t c44) (by kernel_rfl)) ?_
              refine st_val (.bool true) (by kernel_rfl) (by kernel_rfl) ?_
              refine wl_nil ?_
              refine hK6 _ _ ?_
              try clear hK6 K6
              refine wp_frame (a' := ⟨#[.agg (sqv s), .slice A0 us0.length c0, .int .i64 st, .int .i64 m0, .pointer (some ⟨g2, 0, none⟩), undef, undef, undef, .bool false, undef, undef, undef, undef, undef, undef, undef, .slice A0 us0.length c0, .int .i64 ((us0.length : Nat) : Int), .bool false, .bool false, .int .i64 m0, .bool false, .bool false, .bool false, .agg (sqv s), .bool true, .bool false, .bool false, .bool false, .int .i64 st, .bool false, .bool false, .bool false, .int .i64 st, .agg (sqv s), .int .i64 (capS s), .bool false, .bool false, .bool false, .int .i64 m0, .agg (sqv s), .int .i64 (capS s), .int .i64 st, .int .i64 ((capS s) - st), .bool true, .bool true, undef, undef, undef, undef, undef, undef, undef, undef, undef, undef, undef, undef, undef, undef, undef, undef, undef, undef, undef, undef, undef, undef, undef, undef, undef, undef, undef, undef, undef, undef, undef, undef, undef, undef, undef, undef, undef, undef, undef, undef, undef, undef, undef, undef, undef, undef, undef, undef, undef, undef, undef, undef, undef, undef, undef, undef], []⟩) (by kernel_rfl) ?_
              refine wp_cond_true (by kernel_rfl) ?_
              refine wp_seq_k (fun K25 hK25 => ?_)
              refine wl_region ?_
              refine st_callB M24 (.bool true) (by kernel_rfl) (args := #[]) (run_value_call 11 #[] _ rfl Try.func11 (by kernel_rfl) (by kernel_rfl) _ (by kernel_rfl)) (awake_walk W23) ?_
              intro W26 M27
              refine st_val (.bool true) (by kernel_rfl) (by kernel_rfl) ?_
              refine wl_nil ?_
              refine hK25 _ _ ?_
              try clear hK25 K25
              refine wp_ret ?_
              refine th_ret ?_
              exact done1 8 (.bool true) (by kernel_rfl) (by kernel_rfl) (by kernel_rfl) ⟨rfl, M27.toBelow⟩
            ·
              refine st_val (.bool false) (by kernel_rfl) (bool_of (dec_f c44) (by kernel_rfl)) ?_
              refine st_val (.bool false) (by kernel_rfl) (by kernel_rfl) ?_
              refine wl_nil ?_
              refine hK6 _ _ ?_
              try clear hK6 K6
              refine wp_frame (a' := ⟨#[.agg (sqv s), .slice A0 us0.length c0, .int .i64 st, .int .i64 m0, .pointer (some ⟨g2, 0, none⟩), undef, undef, undef, .bool false, undef, undef, undef, undef, undef, undef, undef, .slice A0 us0.length c0, .int .i64 ((us0.length : Nat) : Int), .bool false, .bool false, .int .i64 m0, .bool false, .bool false, .bool false, .agg (sqv s), .bool true, .bool false, .bool false, .bool false, .int .i64 st, .bool false, .bool false, .bool false, .int .i64 st, .agg (sqv s), .int .i64 (capS s), .bool false, .bool false, .bool false, .int .i64 m0, .agg (sqv s), .int .i64 (capS s), .int .i64 st, .int .i64 ((capS s) - st), .bool false, .bool false, undef, undef, undef, undef, undef, undef, undef, undef, undef, undef, undef, undef, undef, undef, undef, undef, undef, undef, undef, undef, undef, undef, undef, undef, undef, undef, undef, undef, undef, undef, undef, undef, undef, undef, undef, undef, undef, undef, undef, undef, undef, undef, undef, undef, undef, undef, undef, undef, undef, undef, undef, undef, undef, undef, undef, undef], []⟩) (by kernel_rfl) ?_
              refine wp_cond_false (by kernel_rfl) ?_
              refine wp_skip ?_
              refine hK5 _ _ ?_
              try clear hK5 K5
              refine wp_seq_k (fun K28 hK28 => ?_)
              refine wl_region ?_
              refine st_val (.slice A0 us0.length c0) (by kernel_rfl) (by kernel_rfl) ?_
              refine st_callR (A := [(g2, .cells (sqv s) 26 (0, 0))]) (B := []) M24 (by kernel_rfl) (run_value_call 19 #[(Operand.tmp 47)] _ rfl Try.func19 (by kernel_rfl) (by kernel_rfl) _ (by kernel_rfl)) (given_walk W23 (.slice A0 us0.length c0) us0 (hr0.keep M24.keep (fun _ _ h => h)) (by omega)) ?_
              intro v29 T30 W31 O32 M33
              have M33 : Mem NoS w W31 ((g2, .cells (sqv s) 26 (0, 0)) :: (T30 ++ [])) := M33
              obtain ⟨A34, c35, rfl, hc36⟩ := O32.shape
              refine st_val (.slice A34 us0.length c35) (by kernel_rfl) (by kernel_rfl) ?_
              refine wl_nil ?_
              refine hK28 _ _ ?_
              try clear hK28 K28
              refine wp_seq_k (fun K37 hK37 => ?_)
              refine wl_region ?_
              refine st_val (.agg (sqv s)) (by kernel_rfl) (run_load_row 26 (.tmp 4) rfl g2 (by kernel_rfl) 26 (sqv s) (0, 0) _ (M33.get 0 rfl) Try.underlying26 rfl (infoSq hs.la hs.lb)) ?_
              refine st_val (.slice A34 us0.length c35) (by kernel_rfl) (by kernel_rfl) ?_
              refine st_val (.int .i64 st) (by kernel_rfl) (by kernel_rfl) ?_
              refine st_callB M33 (.tuple #[.int .i64 ((endR s us0 st).1), .int .i64 ((endR s us0 st).2)]) (by kernel_rfl) (args := #[.agg (sqv s), .slice A34 us0.length c35, .int .i64 st]) (run_value_call 27 #[(Operand.tmp 50), (Operand.tmp 51), (Operand.tmp 52)] _ rfl Try.func27 (by kernel_rfl) (by kernel_rfl) _ (by kernel_rfl)) (end_walk W31 s hs (.slice A34 us0.length c35) us0 (O32.rd (fun p hp => M33.at_ p (List.mem_cons_of_mem _ (List.mem_append_left _ hp)))) st hst) ?_
              intro W38 M39
              refine st_val (.tuple #[.int .i64 ((endR s us0 st).1), .int .i64 ((endR s us0 st).2)]) (by kernel_rfl) (by kernel_rfl) ?_
              refine st_val (.int .i64 ((endR s us0 st).1)) (by kernel_rfl) (by kernel_rfl) ?_
              refine st_val (.int .i64 ((endR s us0 st).2)) (by kernel_rfl) (by kernel_rfl) ?_
              refine st_val (.int .i64 ((endR s us0 st).1)) (by kernel_rfl) (by kernel_rfl) ?_
              refine st_val (.int .i64 ((endR s us0 st).2)) (by kernel_rfl) (by kernel_rfl) ?_
              refine wl_nil ?_
              refine hK37 _ _ ?_
              try clear hK37 K37
              refine wp_seq_k (fun K40 hK40 => ?_)
              refine wp_seq_k (fun K41 hK41 => ?_)
              refine wl_region ?_
              refine st_val (.int .i64 ((endR s us0 st).2)) (by kernel_rfl) (by kernel_rfl) ?_
              rcases Decidable.em (((endR s us0 st).2 : Int) = 0) with c57 | c57
              ·
                refine st_val (.bool false) (by kernel_rfl) (bool_of (neq_f c57) (by kernel_rfl)) ?_
                refine st_val (.bool false) (by kernel_rfl) (by kernel_rfl) ?_
                refine st_val (.slice A34 us0.length c35) (by kernel_rfl) (by kernel_rfl) ?_
                refine st_val (.int .i64 ((us0.length : Nat) : Int)) (by kernel_rfl) (by kernel_rfl) ?_
                rcases Decidable.em ((((us0.length : Nat) : Int) : Int) = 0) with c61 | c61
                ·
                  refine st_val (.bool true) (by kernel_rfl) (bool_of (dec_t c61) (by kernel_rfl)) ?_
                  refine st_val (.bool true) (by kernel_rfl) (by kernel_rfl) ?_
                  refine wl_nil ?_
                  refine hK41 _ _ ?_
                  try clear hK41 K41
                  refine wp_frame (a' := ⟨#[.agg (sqv s), .slice A0 us0.length c0, .int .i64 st, .int .i64 m0, .pointer (some ⟨g2, 0, none⟩), undef, undef, undef, .bool false, .slice A34 us0.length c35, .int .i64 ((endR s us0 st).1), .int .i64 ((endR s us0 st).2), undef, undef, undef, undef, .slice A0 us0.length c0, .int .i64 ((us0.length : Nat) : Int), .bool false, .bool false, .int .i64 m0, .bool false, .bool false, .bool false, .agg (sqv s), .bool true, .bool false, .bool false, .bool false, .int .i64 st, .bool false, .bool false, .bool false, .int .i64 st, .agg (sqv s), .int .i64 (capS s), .bool false, .bool false, .bool false, .int .i64 m0, .agg (sqv s), .int .i64 (capS s), .int .i64 st, .int .i64 ((capS s) - st), .bool false, .bool false, undef, .slice A0 us0.length c0, .slice A34 us0.length c35, .tuple #[.int .i64 ((endR s us0 st).1), .int .i64 ((endR s us0 st).2)], .agg (sqv s), .slice A34 us0.length c35, .int .i64 st, .tuple #[.int .i64 ((endR s us0 st).1), .int .i64 ((endR s us0 st).2)], .int .i64 ((endR s us0 st).1), .int .i64 ((endR s us0 st).2), .int .i64 ((endR s us0 st).2), .bool false, .bool false, .slice A34 us0.length c35, .int .i64 ((us0.length : Nat) : Int), .bool true, .bool true, undef, undef, undef, undef, undef, undef, undef, undef, undef, undef, undef, undef, undef, undef, undef, undef, undef, undef, undef, undef, undef, undef, undef, undef, undef, undef, undef, undef, undef, undef, undef, undef, undef, undef, undef, undef, undef, undef, undef], []⟩) (by kernel_rfl) ?_
                  refine wp_cond_true (by kernel_rfl) ?_
                  refine wp_seq_k (fun K42 hK42 => ?_)
                  refine wl_region ?_
                  refine st_callB M39 (.bool true) (by kernel_rfl) (args := #[]) (run_value_call 11 #[] _ rfl Try.func11 (by kernel_rfl) (by kernel_rfl) _ (by kernel_rfl)) (awake_walk W38) ?_
                  intro W43 M44
                  refine st_val (.bool true) (by kernel_rfl) (by kernel_rfl) ?_
                  refine wl_nil ?_
                  refine hK42 _ _ ?_
                  try clear hK42 K42
                  refine wp_ret ?_
                  refine th_ret ?_
                  exact done1 8 (.bool true) (by kernel_rfl) (by kernel_rfl) (by kernel_rfl) ⟨rfl, M44.toBelow⟩
                ·
                  refine st_val (.bool false) (by kernel_rfl) (bool_of (dec_f c61) (by kernel_rfl)) ?_
                  refine st_val (.bool false) (by kernel_rfl) (by kernel_rfl) ?_
                  refine wl_nil ?_
                  refine hK41 _ _ ?_
                  try clear hK41 K41
                  refine wp_frame (a' := ⟨#[.agg (sqv s), .slice A0 us0.length c0, .int .i64 st, .int .i64 m0, .pointer (some ⟨g2, 0, none⟩), undef, undef, undef, .bool false, .slice A34 us0.length c35, .int .i64 ((endR s us0 st).1), .int .i64 ((endR s us0 st).2), undef, undef, undef, undef, .slice A0 us0.length c0, .int .i64 ((us0.length : Nat) : Int), .bool false, .bool false, .int .i64 m0, .bool false, .bool false, .bool false, .agg (sqv s), .bool true, .bool false, .bool false, .bool false, .int .i64 st, .bool false, .bool false, .bool false, .int .i64 st, .agg (sqv s), .int .i64 (capS s), .bool false, .bool false, .bool false, .int .i64 m0, .agg (sqv s), .int .i64 (capS s), .int .i64 st, .int .i64 ((capS s) - st), .bool false, .bool false, undef, .slice A0 us0.length c0, .slice A34 us0.length c35, .tuple #[.int .i64 ((endR s us0 st).1), .int .i64 ((endR s us0 st).2)], .agg (sqv s), .slice A34 us0.length c35, .int .i64 st, .tuple #[.int .i64 ((endR s us0 st).1), .int .i64 ((endR s us0 st).2)], .int .i64 ((endR s us0 st).1), .int .i64 ((endR s us0 st).2), .int .i64 ((endR s us0 st).2), .bool false, .bool false, .slice A34 us0.length c35, .int .i64 ((us0.length : Nat) : Int), .bool false, .bool false, undef, undef, undef, undef, undef, undef, undef, undef, undef, undef, undef, undef, undef, undef, undef, undef, undef, undef, undef, undef, undef, undef, undef, undef, undef, undef, undef, undef, undef, undef, undef, undef, undef, undef, undef, undef, undef, undef, undef], []⟩) (by kernel_rfl) ?_
                  refine wp_cond_false (by kernel_rfl) ?_
                  refine wp_skip ?_
                  refine hK40 _ _ ?_
                  try clear hK40 K40
                  refine wp_seq_k (fun K45 hK45 => ?_)
                  refine wl_region ?_
                  refine st_val (.agg (sqv s)) (by kernel_rfl) (run_load_row 26 (.tmp 4) rfl g2 (by kernel_rfl) 26 (sqv s) (0, 0) _ (M39.get 0 rfl) Try.underlying26 rfl (infoSq hs.la hs.lb)) ?_
                  refine st_val (.slice A34 us0.length c35) (by kernel_rfl) (by kernel_rfl) ?_
                  refine st_callB M39 (.tuple #[.int .i64 ((needR s us0 0).1), .int .i64 ((needR s us0 0).2)]) (by kernel_rfl) (args := #[.agg (sqv s), .slice A34 us0.length c35, .int .i64 0]) (run_value_call 18 #[(Operand.tmp 65), (Operand.tmp 66), (Operand.const (Value.int IntKind.i64 0))] _ rfl Try.func18 (by kernel_rfl) (by kernel_rfl) _ (by kernel_rfl)) (need_walk W38 s hs (.slice A34 us0.length c35) us0 (O32.rd (fun p hp => M39.at_ p (List.mem_cons_of_mem _ (List.mem_append_left _ hp)))) 0 (by decide)) ?_
                  intro W46 M47
                  refine st_val (.tuple #[.int .i64 ((needR s us0 0).1), .int .i64 ((needR s us0 0).2)]) (by kernel_rfl) (by kernel_rfl) ?_
                  refine st_val (.int .i64 ((needR s us0 0).1)) (by kernel_rfl) (by kernel_rfl) ?_
                  refine st_val (.int .i64 ((needR s us0 0).2)) (by kernel_rfl) (by kernel_rfl) ?_
                  refine st_val (.int .i64 ((needR s us0 0).1)) (by kernel_rfl) (by kernel_rfl) ?_
                  refine st_val (.int .i64 ((needR s us0 0).2)) (by kernel_rfl) (by kernel_rfl) ?_
                  refine wl_nil ?_
                  refine hK45 _ _ ?_
                  try clear hK45 K45
                  refine wp_seq_k (fun K48 hK48 => ?_)
                  refine wl_region ?_
                  refine st_val (.agg (sqv s)) (by kernel_rfl) (run_load_row 26 (.tmp 4) rfl g2 (by kernel_rfl) 26 (sqv s) (0, 0) _ (M47.get 0 rfl) Try.underlying26 rfl (infoSq hs.la hs.lb)) ?_
                  refine st_val (.slice A34 us0.length c35) (by kernel_rfl) (by kernel_rfl) ?_
                  refine st_val (.int .i64 st) (by kernel_rfl) (by kernel_rfl) ?_
                  refine st_val (.int .i64 m0) (by kernel_rfl) (by kernel_rfl) ?_
                  refine st_val (.int .i64 (st + m0)) (by kernel_rfl) (i64_of (by omega) (by kernel_rfl)) ?_
                  refine st_callB M47 (.tuple #[.int .i64 ((endR s us0 (st + m0)).1), .int .i64 ((endR s us0 (st + m0)).2)]) (by kernel_rfl) (args := #[.agg (sqv s), .slice A34 us0.length c35, .int .i64 (st + m0)]) (run_value_call 27 #[(Operand.tmp 71), (Operand.tmp 72), (Operand.tmp 75)] _ rfl Try.func27 (by kernel_rfl) (by kernel_rfl) _ (by kernel_rfl)) (end_walk W46 s hs (.slice A34 us0.length c35) us0 (O32.rd (fun p hp => M47.at_ p (List.mem_cons_of_mem _ (List.mem_append_left _ hp)))) (st + m0) (by omega)) ?_
                  intro W49 M50
                  refine st_val (.tuple #[.int .i64 ((endR s us0 (st + m0)).1), .int .i64 ((endR s us0 (st + m0)).2)]) (by kernel_rfl) (by kernel_rfl) ?_
                  refine st_val (.int .i64 ((endR s us0 (st + m0)).1)) (by kernel_rfl) (by kernel_rfl) ?_
                  refine st_val (.int .i64 ((endR s us0 (st + m0)).2)) (by kernel_rfl) (by kernel_rfl) ?_
                  refine st_val (.int .i64 ((endR s us0 (st + m0)).1)) (by kernel_rfl) (by kernel_rfl) ?_
                  refine st_val (.int .i64 ((endR s us0 (st + m0)).2)) (by kernel_rfl) (by kernel_rfl) ?_
                  refine wl_nil ?_
                  refine hK48 _ _ ?_
                  try clear hK48 K48
                  refine wp_frame (a' := ⟨#[.agg (sqv s), .slice A0 us0.length c0, .int .i64 st, .int .i64 m0, .pointer (some ⟨g2, 0, none⟩), undef, undef, undef, .bool false, .slice A34 us0.length c35, .int .i64 ((endR s us0 st).1), .int .i64 ((endR s us0 st).2), .int .i64 ((needR s us0 0).1), .int .i64 ((needR s us0 0).2), .int .i64 ((endR s us0 (st + m0)).1), .int .i64 ((endR s us0 (st + m0)).2), .slice A0 us0.length c0, .int .i64 ((us0.length : Nat) : Int), .bool false, .bool false, .int .i64 m0, .bool false, .bool false, .bool false, .agg (sqv s), .bool true, .bool false, .bool false, .bool false, .int .i64 st, .bool false, .bool false, .bool false, .int .i64 st, .agg (sqv s), .int .i64 (capS s), .bool false, .bool false, .bool false, .int .i64 m0, .agg (sqv s), .int .i64 (capS s), .int .i64 st, .int .i64 ((capS s) - st), .bool false, .bool false, undef, .slice A0 us0.length c0, .slice A34 us0.length c35, .tuple #[.int .i64 ((endR s us0 st).1), .int .i64 ((endR s us0 st).2)], .agg (sqv s), .slice A34 us0.length c35, .int .i64 st, .tuple #[.int .i64 ((endR s us0 st).1), .int .i64 ((endR s us0 st).2)], .int .i64 ((endR s us0 st).1), .int .i64 ((endR s us0 st).2), .int .i64 ((endR s us0 st).2), .bool false, .bool false, .slice A34 us0.length c35, .int .i64 ((us0.length : Nat) : Int), .bool false, .bool false, undef, .tuple #[.int .i64 ((needR s us0 0).1), .int .i64 ((needR s us0 0).2)], .agg (sqv s), .slice A34 us0.length c35, .tuple #[.int .i64 ((needR s us0 0).1), .int .i64 ((needR s us0 0).2)], .int .i64 ((needR s us0 0).1), .int .i64 ((needR s us0 0).2), .tuple #[.int .i64 ((endR s us0 (st + m0)).1), .int .i64 ((endR s us0 (st + m0)).2)], .agg (sqv s), .slice A34 us0.length c35, .int .i64 st, .int .i64 m0, .int .i64 (st + m0), .tuple #[.int .i64 ((endR s us0 (st + m0)).1), .int .i64 ((endR s us0 (st + m0)).2)], .int .i64 ((endR s us0 (st + m0)).1), .int .i64 ((endR s us0 (st + m0)).2), undef, undef, undef, undef, undef, undef, undef, undef, undef, undef, undef, undef, undef, undef, undef, undef, undef, undef, undef, undef, undef, undef, undef], []⟩) (by kernel_rfl) ?_
                  refine wp_seq_k (fun K51 hK51 => ?_)
                  refine wp_seq_k (fun K52 hK52 => ?_)
                  refine wl_region ?_
                  refine st_val (.int .i64 ((needR s us0 0).2)) (by kernel_rfl) (by kernel_rfl) ?_
                  rcases Decidable.em (((needR s us0 0).2 : Int) = 0) with c80 | c80
                  ·
                    refine st_val (.bool false) (by kernel_rfl) (bool_of (neq_f c80) (by kernel_rfl)) ?_
                    refine wl_nil ?_
                    refine hK52 _ _ ?_
                    try clear hK52 K52
                    refine wp_cond_false (by kernel_rfl) ?_
                    refine wp_skip ?_
                    refine hK51 _ _ ?_
                    try clear hK51 K51
                    refine wp_seq_k (fun K53 hK53 => ?_)
                    have hen := endR_rng (s := s) (us := us0) (x := st)
                    refine wl_region ?_
                    refine st_callB M50 (.bool true) (by kernel_rfl) (args := #[]) (run_value_call 11 #[] _ rfl Try.func11 (by kernel_rfl) (by kernel_rfl) _ (by kernel_rfl)) (awake_walk W49) ?_
                    intro W54 M55
                    refine st_val (.bool true) (by kernel_rfl) (by kernel_rfl) ?_
                    refine st_val (.int .i64 st) (by kernel_rfl) (by kernel_rfl) ?_
                    refine st_val (.int .i64 ((needR s us0 0).1)) (by kernel_rfl) (by kernel_rfl) ?_
                    refine st_val (.bool true) (by kernel_rfl) (bool_of (dec_t (show (st : Int) ≥ (needR s us0 0).1 from (more_all (x := st) (m := m0) c57 c80 (by omega) (by omega)).1)) (by kernel_rfl)) ?_
                    refine st_val (.bool true) (by kernel_rfl) (by kernel_rfl) ?_
                    refine st_val (.bool true) (by kernel_rfl) (by kernel_rfl) ?_
                    refine st_val (.int .i64 ((endR s us0 (st + m0)).2)) (by kernel_rfl) (by kernel_rfl) ?_
                    refine st_val (.bool true) (by kernel_rfl) (bool_of (dec_t (show ((endR s us0 (st + m0)).2 : Int) = 0 from (more_all (x := st) (m := m0) c57 c80 (by omega) (by omega)).2.1)) (by kernel_rfl)) ?_
                    refine st_val (.bool true) (by kernel_rfl) (by kernel_rfl) ?_
                    refine st_val (.bool true) (by kernel_rfl) (by kernel_rfl) ?_
                    refine st_val (.int .i64 ((endR s us0 (st + m0)).1)) (by kernel_rfl) (by kernel_rfl) ?_
                    refine st_val (.int .i64 ((endR s us0 st).1)) (by kernel_rfl) (by kernel_rfl) ?_
                    refine st_val (.pointer (some ⟨g2, 2, none⟩)) (by kernel_rfl) (by kernel_rfl) ?_
                    refine st_val (.pointer (some ⟨g2, 2, none⟩)) (by kernel_rfl) (by kernel_rfl) ?_
                    refine st_val (.int .i64 s.num) (by kernel_rfl) (run_load_cell 2 (.tmp 96) rfl ⟨g2, 2, none⟩ (by kernel_rfl) _ (M55.cell 0 rfl 2 _ (sqv_num _)) (by kernel_rfl)) ?_
                    refine st_val (.int .i64 (16 * s.num)) (by kernel_rfl) (i64_of (by omega) (by kernel_rfl)) ?_
                    refine st_val (.int .i64 (((endR s us0 st).1) - (16 * s.num))) (by kernel_rfl) (i64_of (by omega) (by kernel_rfl)) ?_
                    refine st_val (.bool true) (by kernel_rfl) (bool_of (dec_t (show ((endR s us0 (st + m0)).1 : Int) > ((endR s us0 st).1) - (16 * s.num) from (more_all (x := st) (m := m0) c57 c80 (by omega) (by omega)).2.2)) (by kernel_rfl)) ?_
                    refine st_val (.bool true) (by kernel_rfl) (by kernel_rfl) ?_
                    refine st_val (.bool true) (by kernel_rfl) (by kernel_rfl) ?_
                    refine wl_nil ?_
                    refine hK53 _ _ ?_
                    try clear hK53 K53
                    refine wp_frame (a' := ⟨#[.agg (sqv s), .slice A0 us0.length c0, .int .i64 st, .int .i64 m0, .pointer (some ⟨g2, 0, none⟩), undef, undef, undef, .bool true, .slice A34 us0.length c35, .int .i64 ((endR s us0 st).1), .int .i64 ((endR s us0 st).2), .int .i64 ((needR s us0 0).1), .int .i64 ((needR s us0 0).2), .int .i64 ((endR s us0 (st + m0)).1), .int .i64 ((endR s us0 (st + m0)).2), .slice A0 us0.length c0, .int .i64 ((us0.length : Nat) : Int), .bool false, .bool false, .int .i64 m0, .bool false, .bool false, .bool false, .agg (sqv s), .bool true, .bool false, .bool false, .bool false, .int .i64 st, .bool false, .bool false, .bool false, .int .i64 st, .agg (sqv s), .int .i64 (capS s), .bool false, .bool false, .bool false, .int .i64 m0, .agg (sqv s), .int .i64 (capS s), .int .i64 st, .int .i64 ((capS s) - st), .bool false, .bool false, undef, .slice A0 us0.length c0, .slice A34 us0.length c35, .tuple #[.int .i64 ((endR s us0 st).1), .int .i64 ((endR s us0 st).2)], .agg (sqv s), .slice A34 us0.length c35, .int .i64 st, .tuple #[.int .i64 ((endR s us0 st).1), .int .i64 ((endR s us0 st).2)], .int .i64 ((endR s us0 st).1), .int .i64 ((endR s us0 st).2), .int .i64 ((endR s us0 st).2), .bool false, .bool false, .slice A34 us0.length c35, .int .i64 ((us0.length : Nat) : Int), .bool false, .bool false, undef, .tuple #[.int .i64 ((needR s us0 0).1), .int .i64 ((needR s us0 0).2)], .agg (sqv s), .slice A34 us0.length c35, .tuple #[.int .i64 ((needR s us0 0).1), .int .i64 ((needR s us0 0).2)], .int .i64 ((needR s us0 0).1), .int .i64 ((needR s us0 0).2), .tuple #[.int .i64 ((endR s us0 (st + m0)).1), .int .i64 ((endR s us0 (st + m0)).2)], .agg (sqv s), .slice A34 us0.length c35, .int .i64 st, .int .i64 m0, .int .i64 (st + m0), .tuple #[.int .i64 ((endR s us0 (st + m0)).1), .int .i64 ((endR s us0 (st + m0)).2)], .int .i64 ((endR s us0 (st + m0)).1), .int .i64 ((endR s us0 (st + m0)).2), .int .i64 ((needR s us0 0).2), .bool false, undef, .bool true, .bool true, .int .i64 st, .int .i64 ((needR s us0 0).1), .bool true, .bool true, .bool true, .int .i64 ((endR s us0 (st + m0)).2), .bool true, .bool true, .bool true, .int .i64 ((endR s us0 (st + m0)).1), .int .i64 ((endR s us0 st).1), .pointer (some ⟨g2, 2, none⟩), .pointer (some ⟨g2, 2, none⟩), .int .i64 s.num, .int .i64 (16 * s.num), .int .i64 (((endR s us0 st).1) - (16 * s.num)), .bool true, .bool true], []⟩) (by kernel_rfl) ?_
                    refine wp_ret ?_
                    exact done1 8 (.bool true) (by kernel_rfl) (by kernel_rfl) (by kernel_rfl) ⟨rfl, M55.toBelow⟩
                  ·
                    refine st_val (.bool true) (by kernel_rfl) (bool_of (neq_t c80) (by kernel_rfl)) ?_
                    refine wl_nil ?_
                    refine hK52 _ _ ?_
                    try clear hK52 K52
                    refine wp_cond_true (by kernel_rfl) ?_
                    refine wp_seq_k (fun K56 hK56 => ?_)
                    refine wl_region ?_
                    refine st_callB M50 (.bool true) (by kernel_rfl) (args := #[]) (run_value_call 11 #[] _ rfl Try.func11 (by kernel_rfl) (by kernel_rfl) _ (by kernel_rfl)) (awake_walk W49) ?_
                    intro W57 M58
                    refine st_val (.bool true) (by kernel_rfl) (by kernel_rfl) ?_
                    refine wl_nil ?_
                    refine hK56 _ _ ?_
                    try clear hK56 K56
                    refine wp_ret ?_
                    refine th_ret ?_
                    exact done1 8 (.bool true) (by kernel_rfl) (by kernel_rfl) (by kernel_rfl) ⟨rfl, M58.toBelow⟩
              ·
                refine st_val (.bool true) (by kernel_rfl) (bool_of (neq_t c57) (by kernel_rfl)) ?_
                refine st_val (.bool true) (by kernel_rfl) (by kernel_rfl) ?_
                refine st_skip (by kernel_rfl) ?_
                refine st_skip (by kernel_rfl) ?_
                refine st_skip (by kernel_rfl) ?_
                refine st_val (.bool true) (by kernel_rfl) (by kernel_rfl) ?_
                refine wl_nil ?_
                refine hK41 _ _ ?_
                try clear hK41 K41
                refine wp_frame (a' := ⟨#[.agg (sqv s), .slice A0 us0.length c0, .int .i64 st, .int .i64 m0, .pointer (some ⟨g2, 0, none⟩), undef, undef, undef, .bool false, .slice A34 us0.length c35, .int .i64 ((endR s us0 st).1), .int .i64 ((endR s us0 st).2), undef, undef, undef, undef, .slice A0 us0.length c0, .int .i64 ((us0.length : Nat) : Int), .bool false, .bool false, .int .i64 m0, .bool false, .bool false, .bool false, .agg (sqv s), .bool true, .bool false, .bool false, .bool false, .int .i64 st, .bool false, .bool false, .bool false, .int .i64 st, .agg (sqv s), .int .i64 (capS s), .bool false, .bool false, .bool false, .int .i64 m0, .agg (sqv s), .int .i64 (capS s), .int .i64 st, .int .i64 ((capS s) - st), .bool false, .bool false, undef, .slice A0 us0.length c0, .slice A34 us0.length c35, .tuple #[.int .i64 ((endR s us0 st).1), .int .i64 ((endR s us0 st).2)], .agg (sqv s), .slice A34 us0.length c35, .int .i64 st, .tuple #[.int .i64 ((endR s us0 st).1), .int .i64 ((endR s us0 st).2)], .int .i64 ((endR s us0 st).1), .int .i64 ((endR s us0 st).2), .int .i64 ((endR s us0 st).2), .bool true, .bool true, undef, undef, undef, .bool true, undef, undef, undef, undef, undef, undef, undef, undef, undef, undef, undef, undef, undef, undef, undef, undef, undef, undef, undef, undef, undef, undef, undef, undef, undef, undef, undef, undef, undef, undef, undef, undef, undef, undef, undef, undef, undef, undef, undef], []⟩) (by kernel_rfl) ?_
                refine wp_cond_true (by kernel_rfl) ?_
                refine wp_seq_k (fun K59 hK59 => ?_)
                refine wl_region ?_
                refine st_callB M39 (.bool true) (by kernel_rfl) (args := #[]) (run_value_call 11 #[] _ rfl Try.func11 (by kernel_rfl) (by kernel_rfl) _ (by kernel_rfl)) (awake_walk W38) ?_
                intro W60 M61
                refine st_val (.bool true) (by kernel_rfl) (by kernel_rfl) ?_
                refine wl_nil ?_
                refine hK59 _ _ ?_
                try clear hK59 K59
                refine wp_ret ?_
                refine th_ret ?_
                exact done1 8 (.bool true) (by kernel_rfl) (by kernel_rfl) (by kernel_rfl) ⟨rfl, M61.toBelow⟩
      ·
        refine st_callB M4 (.bool false) (by kernel_rfl) (args := #[.agg (sqv s)]) (run_value_call 28 #[(Operand.tmp 24)] _ rfl Try.func28 (by kernel_rfl) (by kernel_rfl) _ (by kernel_rfl)) ((by have := refVseq_walk W3 s hs; rw [hv] at this; exact this)) ?_
        intro W62 M63
        refine st_val (.bool true) (by kernel_rfl) (by kernel_rfl) ?_
        refine st_val (.bool true) (by kernel_rfl) (by kernel_rfl) ?_
        refine st_val (.bool true) (by kernel_rfl) (by kernel_rfl) ?_
        refine st_skip (by kernel_rfl) ?_
        refine st_skip (by kernel_rfl) ?_
        refine st_val (.bool true) (by kernel_rfl) (by kernel_rfl) ?_
        refine st_val (.bool true) (by kernel_rfl) (by kernel_rfl) ?_
        refine st_skip (by kernel_rfl) ?_
        refine st_skip (by kernel_rfl) ?_
        refine st_skip (by kernel_rfl) ?_
        refine st_skip (by kernel_rfl) ?_
        refine st_val (.bool true) (by kernel_rfl) (by kernel_rfl) ?_
        refine st_val (.bool true) (by kernel_rfl) (by kernel_rfl) ?_
        refine st_skip (by kernel_rfl) ?_
        refine st_skip (by kernel_rfl) ?_
        refine st_skip (by kernel_rfl) ?_
        refine st_skip (by kernel_rfl) ?_
        refine st_skip (by kernel_rfl) ?_
        refine st_skip (by kernel_rfl) ?_
        refine st_val (.bool true) (by kernel_rfl) (by kernel_rfl) ?_
        refine wl_nil ?_
        refine hK6 _ _ ?_
        try clear hK6 K6
        refine wp_frame (a' := ⟨#[.agg (sqv s), .slice A0 us0.length c0, .int .i64 st, .int .i64 m0, .pointer (some ⟨g2, 0, none⟩), undef, undef, undef, .bool false, undef, undef, undef, undef, undef, undef, undef, .slice A0 us0.length c0, .int .i64 ((us0.length : Nat) : Int), .bool false, .bool false, .int .i64 m0, .bool false, .bool false, .bool false, .agg (sqv s), .bool false, .bool true, .bool true, .bool true, undef, undef, .bool true, .bool true, undef, undef, undef, undef, .bool true, .bool true, undef, undef, undef, undef, undef, undef, .bool true, undef, undef, undef, undef, undef, undef, undef, undef, undef, undef, undef, undef, undef, undef, undef, undef, undef, undef, undef, undef, undef, undef, undef, undef, undef, undef, undef, undef, undef, undef, undef, undef, undef, undef, undef, undef, undef, undef, undef, undef, undef, undef, undef, undef, undef, undef, undef, undef, undef, undef, undef, undef, undef, undef, undef, undef], []⟩) (by kernel_rfl) ?_
        refine wp_cond_true (by kernel_rfl) ?_
        refine wp_seq_k (fun K64 hK64 => ?_)
        refine wl_region ?_
        refine st_callB M63 (.bool true) (by kernel_rfl) (args := #[]) (run_value_call 11 #[] _ rfl Try.func11 (by kernel_rfl) (by kernel_rfl) _ (by kernel_rfl)) (awake_walk W62) ?_
        intro W65 M66
        refine st_val (.bool true) (by kernel_rfl) (by kernel_rfl) ?_
        refine wl_nil ?_
        refine hK64 _ _ ?_
        try clear hK64 K64
        refine wp_ret ?_
        refine th_ret ?_
        exact done1 8 (.bool true) (by kernel_rfl) (by kernel_rfl) (by kernel_rfl) ⟨rfl, M66.toBelow⟩
end Go.Proofs.Ytolfkaljbgpkhaa
