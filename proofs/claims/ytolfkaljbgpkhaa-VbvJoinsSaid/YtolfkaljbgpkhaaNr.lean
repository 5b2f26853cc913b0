/- Need, as the reference has it. -/
import Derived.Test.YtolfkaljbgpkhaaNd
namespace Go.Proofs.Ytolfkaljbgpkhaa
open Go.RowKit
set_option maxHeartbeats 4000000 in
set_option maxRecDepth 100000 in
theorem refNeed_walk (w : World) (s : SeqD) (hs : SOk s) (v : Value) (us : List UnitD) (hr : RdK w v us.length (flat us)) (wanted : Int) (hw : -9223372036854775808 ≤ wanted ∧ wanted ≤ 9223372036854775807) : Calls Try.prog 20 #[.agg (sqv s), v, .int .i64 wanted] w fun e w' => e = .returned (.tuple #[.int .i64 (needR s us wanted).1, .int .i64 (needR s us wanted).2]) ∧ Below w.heap.size w w' := by
  obtain ⟨A, c, rfl, hc⟩ := hr.shape
  refine calls_of_wp Try.func20 rfl ?_
  refine wp_frame (a' := ⟨#[.agg (sqv s), .slice A us.length c, .int .i64 wanted, undef, undef, undef, undef, undef, undef, undef, undef, undef, undef, undef, undef, undef, undef, undef, undef, undef, undef, undef, undef, undef, undef, undef, undef, undef, undef, undef, undef, undef, undef, undef, undef, undef, undef, undef, undef, undef, undef, undef, undef, undef, undef, undef, undef, undef, undef, undef, undef, undef, undef, undef, undef, undef, undef, undef, undef, undef, undef, undef, undef, undef], []⟩) (by kernel_rfl) ?_
  have M0 : Mem NoS w w [] := Mem.start _ _
  refine wp_seq_k (fun K1 hK1 => ?_)
  refine wl_region ?_
  refine st_alloc M0 (.cells (sqv s) 26 (0, 0)) (by kernel_rfl) (by kernel_rfl) ?_
  intro g2 W3 M4
  refine st_val (.int .i64 0) (by kernel_rfl) (by kernel_rfl) ?_
  refine st_val (.int .i64 0) (by kernel_rfl) (by kernel_rfl) ?_
  refine wl_nil ?_
  refine hK1 _ _ ?_
  try clear hK1 K1
  refine wp_seq_k (fun K5 hK5 => ?_)
  refine wp_seq_k (fun K6 hK6 => ?_)
  refine wl_region ?_
  refine st_val (.agg (sqv s)) (by kernel_rfl) (run_load_row 26 (.tmp 3) rfl g2 (by kernel_rfl) 26 (sqv s) (0, 0) _ (M4.get 0 rfl) Try.underlying26 rfl (infoSq hs.la hs.lb)) ?_
  refine st_val (.slice A us.length c) (by kernel_rfl) (by kernel_rfl) ?_
  rcases Bool.eq_false_or_eq_true (prB s us 0) with hp14 | hp14
  ·
    refine st_callB M4 (.bool true) (by kernel_rfl) (args := #[.agg (sqv s), .slice A us.length c, .int .i64 0]) (run_value_call 36 #[(Operand.tmp 12), (Operand.tmp 13), (Operand.const (Value.int IntKind.i64 0))] _ rfl Try.func36 (by kernel_rfl) (by kernel_rfl) _ (by kernel_rfl)) ((by have := refProper_walk W3 s hs (.slice A us.length c) us (hr.keep M4.keep (fun _ _ h => h)) 0; rw [hp14] at this; exact this)) ?_
    intro W7 M8
    have hpr := PR_of hp14
    have hv := hpr.1
    obtain ⟨vn1, vn2, vd1, vd2, vb1, vb2, vu1, vu2, vP, vQ, vR⟩ := SV_facts hv
    have hcap := capS_t hv
    have hul := hpr.2.2.2.1
    refine st_val (.bool false) (by kernel_rfl) (by kernel_rfl) ?_
    refine st_val (.bool false) (by kernel_rfl) (by kernel_rfl) ?_
    refine st_val (.int .i64 wanted) (by kernel_rfl) (by kernel_rfl) ?_
    rcases Decidable.em ((wanted : Int) < 0) with c18 | c18
    ·
      refine st_val (.bool true) (by kernel_rfl) (bool_of (dec_t c18) (by kernel_rfl)) ?_
      refine st_val (.bool true) (by kernel_rfl) (by kernel_rfl) ?_
      refine wl_nil ?_
      refine hK6 _ _ ?_
      try clear hK6 K6
      refine wp_cond_true (by kernel_rfl) ?_
      refine wp_seq_k (fun K9 hK9 => ?_)
      refine wl_region ?_
      refine st_val (.int .i64 0) (by kernel_rfl) (by kernel_rfl) ?_
      refine st_val (.int .i64 1) (by kernel_rfl) (by kernel_rfl) ?_
      refine wl_nil ?_
      refine hK9 _ _ ?_
      try clear hK9 K9
      refine wp_frame (a' := ⟨#[.agg (sqv s), .slice A us.length c, .int .i64 wanted, .pointer (some ⟨g2, 0, none⟩), undef, undef, .int .i64 0, .int .i64 1, undef, undef, undef, undef, .agg (sqv s), .slice A us.length c, .bool true, .bool false, .bool false, .int .i64 wanted, .bool true, .bool true, undef, undef, undef, undef, undef, undef, undef, undef, undef, undef, undef, undef, undef, undef, undef, undef, undef, undef, undef, undef, undef, undef, undef, undef, undef, undef, undef, undef, undef, undef, undef, undef, undef, undef, undef, undef, undef, undef, undef, undef, undef, undef, undef, undef], []⟩) (by kernel_rfl) ?_
      refine wp_ret ?_
      refine th_ret ?_
      exact done2 6 7 (.int .i64 0) (.int .i64 1) (by kernel_rfl) (by kernel_rfl) (by kernel_rfl) (by kernel_rfl) ⟨by rw [needR_arg (fun h => by first | exact hpn h.1 | omega)], M8.toBelow⟩
    ·
      refine st_val (.bool false) (by kernel_rfl) (bool_of (dec_f c18) (by kernel_rfl)) ?_
      refine st_val (.bool false) (by kernel_rfl) (by kernel_rfl) ?_
      refine wl_nil ?_
      refine hK6 _ _ ?_
      try clear hK6 K6
      refine wp_cond_false (by kernel_rfl) ?_
      refine wp_skip ?_
      refine hK5 _ _ ?_
      try clear hK5 K5
      refine wp_seq_k (fun K10 hK10 => ?_)
      refine wl_seq 7 (fun w' => Mem NoS w w' [(g2, .cells (sqv s) 26 (0, 0))]) (by decide) (by kernel_rfl) (by kernel_rfl) M8.drew ?_
      refine seq_run (v := .agg (sqv s)) (by decide) (by kernel_rfl) (fun w' M' => (run_load_row 26 (.tmp 3) rfl g2 (by kernel_rfl) 26 (sqv s) (0, 0) _ (M'.get 0 rfl) Try.underlying26 rfl (infoSq hs.la hs.lb))) ?_
      refine seq_call (v := .int .i64 (2 * s.num * s.bu)) (f := 13) (args := #[.agg (sqv s)]) (by decide) (by kernel_rfl) (fun w' M' => (run_value_call 13 #[(Operand.tmp 20)] _ rfl Try.func13 (by kernel_rfl) (by kernel_rfl) _ (by kernel_rfl))) (fun w' M' => callB_mem M' ((by have := refCap_walk w' s hs; rw [hcap] at this; exact this))) ?_
      refine seq_run (v := .agg (sqv s)) (by decide) (by kernel_rfl) (fun w' M' => (run_load_row 26 (.tmp 3) rfl g2 (by kernel_rfl) 26 (sqv s) (0, 0) _ (M'.get 0 rfl) Try.underlying26 rfl (infoSq hs.la hs.lb))) ?_
      refine seq_call (v := .int .i64 (2 * s.num)) (f := 32) (args := #[.agg (sqv s)]) (by decide) (by kernel_rfl) (fun w' M' => (run_value_call 32 #[(Operand.tmp 22)] _ rfl Try.func32 (by kernel_rfl) (by kernel_rfl) _ (by kernel_rfl))) (fun w' M' => callB_mem M' (part_walk w' s hs hv)) ?_
      refine seq_run (v := .int .i64 (8 * (2 * s.num))) (by decide) (by kernel_rfl) (fun w' M' => (i64_of (by omega) (by kernel_rfl))) ?_
      refine seq_run (v := .int .i64 ((2 * s.num * s.bu) - (8 * (2 * s.num)))) (by decide) (by kernel_rfl) (fun w' M' => (i64_of (by omega) (by kernel_rfl))) ?_
      refine seq_run (v := .int .i64 ((2 * s.num * s.bu) - (8 * (2 * s.num)))) (by decide) (by kernel_rfl) (fun w' M' => (by kernel_rfl)) ?_
      refine seq_end (by decide) ?_
      intro W11 M12
      refine wl_nil ?_
      refine hK10 _ _ ?_
      try clear hK10 K10
      refine wp_frame (a' := ⟨#[.agg (sqv s), .slice A us.length c, .int .i64 wanted, .pointer (some ⟨g2, 0, none⟩), undef, undef, .int .i64 0, .int .i64 0, .int .i64 ((2 * s.num * s.bu) - (8 * (2 * s.num))), undef, undef, undef, .agg (sqv s), .slice A us.length c, .bool true, .bool false, .bool false, .int .i64 wanted, .bool false, .bool false, .agg (sqv s), .int .i64 (2 * s.num * s.bu), .agg (sqv s), .int .i64 (2 * s.num), .int .i64 (8 * (2 * s.num)), .int .i64 ((2 * s.num * s.bu) - (8 * (2 * s.num))), undef, undef, undef, undef, undef, undef, undef, undef, undef, undef, undef, undef, undef, undef, undef, undef, undef, undef, undef, undef, undef, undef, undef, undef, undef, undef, undef, undef, undef, undef, undef, undef, undef, undef, undef, undef, undef, undef], []⟩) (by kernel_rfl) ?_
      refine wp_seq_k (fun K13 hK13 => ?_)
      refine wl_region ?_
      refine st_val (.int .i64 wanted) (by kernel_rfl) (by kernel_rfl) ?_
      refine st_val (.int .i64 wanted) (by kernel_rfl) (by kernel_rfl) ?_
      refine st_val (.int .i64 ((2 * s.num * s.bu) - (8 * (2 * s.num)))) (by kernel_rfl) (by kernel_rfl) ?_
      rcases Decidable.em ((wanted : Int) > (2 * s.num * s.bu) - (8 * (2 * s.num))) with c29 | c29
      ·
        refine st_val (.bool true) (by kernel_rfl) (bool_of (dec_t c29) (by kernel_rfl)) ?_
        refine st_val (.int .i64 wanted) (by kernel_rfl) (by kernel_rfl) ?_
        refine st_val (.bool true) (by kernel_rfl) (by kernel_rfl) ?_
        refine wl_nil ?_
        refine hK13 _ _ ?_
        try clear hK13 K13
        refine wp_seq_k (fun K14 hK14 => ?_)
        refine wp_seq_k (fun K15 hK15 => ?_)
        refine wl_region ?_
        refine st_val (.slice A us.length c) (by kernel_rfl) (by kernel_rfl) ?_
        refine st_val (.int .i64 ((us.length : Nat) : Int)) (by kernel_rfl) (by kernel_rfl) ?_
        refine st_val (.int .i64 (((us.length : Nat) : Int) - 1)) (by kernel_rfl) (i64_of (by omega) (by kernel_rfl)) ?_
        refine st_val (.int .i64 (((us.length : Nat) : Int) - 1)) (by kernel_rfl) (by kernel_rfl) ?_
        refine wl_nil ?_
        refine hK15 _ _ ?_
        try clear hK15 K15
        refine wp_block ?_
        refine wp_loop_ghost (fun gn a' w' => ∃ (k : Nat) (n : Int) (ov : Bool) (u16 : Nat → Value), ((k ≤ us.length ∧ (ov = false → (0 ≤ n ∧ n ≤ mostS s) ∧ needO (2 * s.num) (s.br * s.den) (mostS s) wanted (us.drop k) = some n) ∧ (ov = true → needO (2 * s.num) (s.br * s.den) (mostS s) wanted (us.drop k) = none)) ∧ Mem NoS w w' [(g2, .cells (sqv s) 26 (0, 0))]) ∧ gn = k + 1 ∧ a' = ⟨#[.agg (sqv s), .slice A us.length c, .int .i64 wanted, .pointer (some ⟨g2, 0, none⟩), undef, undef, .int .i64 0, .int .i64 0, .int .i64 ((2 * s.num * s.bu) - (8 * (2 * s.num))), .int .i64 n, .bool ov, .int .i64 ((k : Int) - 1), .agg (sqv s), .slice A us.length c, .bool true, .bool false, .bool false, .int .i64 wanted, .bool false, .bool false, .agg (sqv s), .int .i64 (2 * s.num * s.bu), .agg (sqv s), .int .i64 (2 * s.num), .int .i64 (8 * (2 * s.num)), .int .i64 ((2 * s.num * s.bu) - (8 * (2 * s.num))), .int .i64 wanted, .int .i64 wanted, .int .i64 ((2 * s.num * s.bu) - (8 * (2 * s.num))), .bool true, .slice A us.length c, .int .i64 ((us.length : Nat) : Int), .int .i64 (((us.length : Nat) : Int) - 1), (u16 33), (u16 34), (u16 35), (u16 36), (u16 37), (u16 38), (u16 39), (u16 40), (u16 41), (u16 42), (u16 43), (u16 44), (u16 45), (u16 46), (u16 47), (u16 48), (u16 49), (u16 50), (u16 51), (u16 52), (u16 53), (u16 54), (u16 55), (u16 56), (u16 57), (u16 58), (u16 59), (u16 60), (u16 61), undef, undef], []⟩) _ ⟨us.length, wanted, true, (fun zz => Array.getD #[.agg (sqv s), .slice A us.length c, .int .i64 wanted, .pointer (some ⟨g2, 0, none⟩), undef, undef, .int .i64 0, .int .i64 0, .int .i64 ((2 * s.num * s.bu) - (8 * (2 * s.num))), .int .i64 wanted, .bool true, .int .i64 (((us.length : Nat) : Int) - 1), .agg (sqv s), .slice A us.length c, .bool true, .bool false, .bool false, .int .i64 wanted, .bool false, .bool false, .agg (sqv s), .int .i64 (2 * s.num * s.bu), .agg (sqv s), .int .i64 (2 * s.num), .int .i64 (8 * (2 * s.num)), .int .i64 ((2 * s.num * s.bu) - (8 * (2 * s.num))), .int .i64 wanted, .int .i64 wanted, .int .i64 ((2 * s.num * s.bu) - (8 * (2 * s.num))), .bool true, .slice A us.length c, .int .i64 ((us.length : Nat) : Int), .int .i64 (((us.length : Nat) : Int) - 1), undef, undef, undef, undef, undef, undef, undef, undef, undef, undef, undef, undef, undef, undef, undef, undef, undef, undef, undef, undef, undef, undef, undef, undef, undef, undef, undef, undef, undef, undef, undef] zz undef), ⟨⟨by omega, fun h => (by cases h), fun _ => by rw [List.drop_length, needO_nil_none (by unfold mostS; omega)]⟩, M12⟩, rfl, (by kernel_rfl)⟩ ?_
        rintro gn _ W17 ⟨k, n, ov, u16, ⟨⟨rk, rn, rO⟩, M18⟩, rfl, rfl⟩
        refine wp_seq_k (fun K19 hK19 => ?_)
        refine wp_seq_k (fun K20 hK20 => ?_)
        refine wl_region ?_
        refine st_val (.int .i64 ((k : Int) - 1)) (by kernel_rfl) (by kernel_rfl) ?_
        rcases Decidable.em (((k : Int) - 1 : Int) ≥ 0) with c34 | c34
        ·
          refine st_val (.bool true) (by kernel_rfl) (bool_of (dec_t c34) (by kernel_rfl)) ?_
          refine st_val (.bool true) (by kernel_rfl) (by kernel_rfl) ?_
          refine st_val (.bool ov) (by kernel_rfl) (by kernel_rfl) ?_
          refine st_val (.bool (!ov)) (by kernel_rfl) (by kernel_rfl) ?_
          refine st_val (.bool (!ov)) (by kernel_rfl) (by kernel_rfl) ?_
          refine wl_nil ?_
          refine hK20 _ _ ?_
          try clear hK20 K20
          refine wp_cond_split (t := !ov) (by kernel_rfl) (fun c21 => ?_) (fun c21 => ?_)
          ·
            refine wp_skip ?_
            refine hK19 _ _ ?_
            try clear hK19 K19
            refine wp_seq_k (fun K22 hK22 => ?_)
            refine wp_block ?_
            refine wp_seq_k (fun K23 hK23 => ?_)
            obtain ⟨rn, hN⟩ := rn (by cases ov; rfl; contradiction)
            have hm : mostS s ≤ 17592186044416 := by unfold mostS; omega
            obtain ⟨k, rfl⟩ : ∃ j, k = j + 1 := ⟨k - 1, by omega⟩
            refine wp_frame (a' := ⟨#[.agg (sqv s), .slice A us.length c, .int .i64 wanted, .pointer (some ⟨g2, 0, none⟩), undef, undef, .int .i64 0, .int .i64 0, .int .i64 ((2 * s.num * s.bu) - (8 * (2 * s.num))), .int .i64 n, .bool ov, .int .i64 (k : Int), .agg (sqv s), .slice A us.length c, .bool true, .bool false, .bool false, .int .i64 wanted, .bool false, .bool false, .agg (sqv s), .int .i64 (2 * s.num * s.bu), .agg (sqv s), .int .i64 (2 * s.num), .int .i64 (8 * (2 * s.num)), .int .i64 ((2 * s.num * s.bu) - (8 * (2 * s.num))), .int .i64 wanted, .int .i64 wanted, .int .i64 ((2 * s.num * s.bu) - (8 * (2 * s.num))), .bool true, .slice A us.length c, .int .i64 ((us.length : Nat) : Int), .int .i64 (((us.length : Nat) : Int) - 1), .int .i64 (k : Int), .bool true, .bool true, .bool ov, .bool (!ov), .bool (!ov), (u16 39), (u16 40), (u16 41), (u16 42), (u16 43), (u16 44), (u16 45), (u16 46), (u16 47), (u16 48), (u16 49), (u16 50), (u16 51), (u16 52), (u16 53), (u16 54), (u16 55), (u16 56), (u16 57), (u16 58), (u16 59), (u16 60), (u16 61), undef, undef], []⟩) (by rw [show ((k + 1 : Nat) : Int) - 1 = (k : Int) by omega]; kernel_rfl) ?_
            have hu := hpr.2.2.2.2 k (by omega)
            unfold PU at hu
            obtain ⟨hu1, hu2, hu3⟩ := hu
            have hc1 := mul_in (m := 2097152) (n := 8388608) (x := 2 * s.num) (y := (us.getD k u0).bits) (by omega) (by omega)
            have hd1 := mul_in (m := 1099511627776) (n := 3) (x := s.br * s.den) (y := (us.getD k u0).fields) (by omega) (by omega)
            refine wl_seq 19 (fun w' => Mem NoS w w' [(g2, .cells (sqv s) 26 (0, 0))]) (by decide) (by kernel_rfl) (by kernel_rfl) M18.drew ?_
            refine seq_run (v := .agg (sqv s)) (by decide) (by kernel_rfl) (fun w' M' => (run_load_row 26 (.tmp 3) rfl g2 (by kernel_rfl) 26 (sqv s) (0, 0) _ (M'.get 0 rfl) Try.underlying26 rfl (infoSq hs.la hs.lb))) ?_
            refine seq_run (v := .slice A us.length c) (by decide) (by kernel_rfl) (fun w' M' => (by kernel_rfl)) ?_
            refine seq_run (v := .int .i64 (k : Int)) (by decide) (by kernel_rfl) (fun w' M' => (by kernel_rfl)) ?_
            obtain ⟨b24, o25, eA26⟩ := RdK.addr (hr.keep M18.keep (fun _ _ h => h)) (j := k * 4) (by rw [flat_len]; omega)
            refine seq_run (v := .pointer (some ⟨b24, o25 + k * 4, none⟩)) (by decide) (by kernel_rfl) (fun w' M' => (run_indexSliceA 32 (.tmp 42) (.tmp 43) rfl A ⟨b24, o25, none⟩ eA26 us.length c .i64 k (by kernel_rfl) (by kernel_rfl) Try.underlying32 4 (by kernel_rfl) (by omega) ⟨b24, o25 + k * 4, none⟩ (addr_atK _ _ _ _))) ?_
            refine seq_run (v := .pointer (some ⟨b24, o25 + k * 4 + 2, none⟩)) (by decide) (by kernel_rfl) (fun w' M' => (by kernel_rfl)) ?_
            refine seq_run (v := .int .i64 ((us.getD k u0).bits)) (by decide) (by kernel_rfl) (fun w' M' => (run_load_cell 2 (.tmp 45) rfl ⟨b24, o25 + k * 4 + 2, none⟩ (by kernel_rfl) _ ((hr.keep M'.keep (fun _ _ h => h)).cellF eA26 (f := 2) (flat_get us k 2 (by omega) (by omega))) (by kernel_rfl))) ?_
            refine seq_call (v := .int .i64 (2 * s.num * ((us.getD k u0).bits))) (f := 17) (args := #[.agg (sqv s), .int .i64 ((us.getD k u0).bits)]) (by decide) (by kernel_rfl) (fun w' M' => (run_value_call 17 #[(Operand.tmp 41), (Operand.tmp 46)] _ rfl Try.func17 (by kernel_rfl) (by kernel_rfl) _ (by kernel_rfl))) (fun w' M' => callB_mem M' ((by have := refCost_walk w' s hs ((us.getD k u0).bits); rw [costS_t hv (by omega)] at this; exact this))) ?_
            refine seq_run (v := .int .i64 n) (by decide) (by kernel_rfl) (fun w' M' => (by kernel_rfl)) ?_
            refine seq_run (v := .agg (sqv s)) (by decide) (by kernel_rfl) (fun w' M' => (run_load_row 26 (.tmp 3) rfl g2 (by kernel_rfl) 26 (sqv s) (0, 0) _ (M'.get 0 rfl) Try.underlying26 rfl (infoSq hs.la hs.lb))) ?_
            refine seq_run (v := .slice A us.length c) (by decide) (by kernel_rfl) (fun w' M' => (by kernel_rfl)) ?_
            refine seq_run (v := .int .i64 (k : Int)) (by decide) (by kernel_rfl) (fun w' M' => (by kernel_rfl)) ?_
            obtain ⟨b27, o28, eA29⟩ := RdK.addr (hr.keep M18.keep (fun _ _ h => h)) (j := k * 4) (by rw [flat_len]; omega)
            refine seq_run (v := .pointer (some ⟨b27, o28 + k * 4, none⟩)) (by decide) (by kernel_rfl) (fun w' M' => (run_indexSliceA 32 (.tmp 50) (.tmp 51) rfl A ⟨b27, o28, none⟩ eA29 us.length c .i64 k (by kernel_rfl) (by kernel_rfl) Try.underlying32 4 (by kernel_rfl) (by omega) ⟨b27, o28 + k * 4, none⟩ (addr_atK _ _ _ _))) ?_
            refine seq_run (v := .pointer (some ⟨b27, o28 + k * 4 + 3, none⟩)) (by decide) (by kernel_rfl) (fun w' M' => (by kernel_rfl)) ?_
            refine seq_run (v := .int .i64 ((us.getD k u0).fields)) (by decide) (by kernel_rfl) (fun w' M' => (run_load_cell 3 (.tmp 53) rfl ⟨b27, o28 + k * 4 + 3, none⟩ (by kernel_rfl) _ ((hr.keep M'.keep (fun _ _ h => h)).cellF eA29 (f := 3) (flat_get us k 3 (by omega) (by omega))) (by kernel_rfl))) ?_
            refine seq_call (v := .int .i64 (s.br * s.den * ((us.getD k u0).fields))) (f := 15) (args := #[.agg (sqv s), .int .i64 ((us.getD k u0).fields)]) (by decide) (by kernel_rfl) (fun w' M' => (run_value_call 15 #[(Operand.tmp 49), (Operand.tmp 54)] _ rfl Try.func15 (by kernel_rfl) (by kernel_rfl) _ (by kernel_rfl))) (fun w' M' => callB_mem M' ((by have := refArr_walk w' s hs ((us.getD k u0).fields); rw [arrS_t hv (by omega)] at this; exact this))) ?_
            refine seq_run (v := .int .i64 (n - (s.br * s.den * ((us.getD k u0).fields)))) (by decide) (by kernel_rfl) (fun w' M' => (i64_of (by omega) (by kernel_rfl))) ?_
            refine seq_run (v := .int .i64 (max 0 (n - (s.br * s.den * ((us.getD k u0).fields))))) (by decide) (by kernel_rfl) (fun w' M' => (int_of (ite_max 0 (n - (s.br * s.den * ((us.getD k u0).fields)))) (by kernel_rfl))) ?_
            refine seq_run (v := .int .i64 ((2 * s.num * ((us.getD k u0).bits)) + (max 0 (n - (s.br * s.den * ((us.getD k u0).fields)))))) (by decide) (by kernel_rfl) (fun w' M' => (i64_of (by omega) (by kernel_rfl))) ?_
            refine seq_run (v := .int .i64 ((2 * s.num * ((us.getD k u0).bits)) + (max 0 (n - (s.br * s.den * ((us.getD k u0).fields)))))) (by decide) (by kernel_rfl) (fun w' M' => (by kernel_rfl)) ?_
            refine seq_end (by decide) ?_
            intro W30 M31
            refine wl_nil ?_
            refine hK23 _ _ ?_
            try clear hK23 K23
            refine wp_frame (a' := ⟨#[.agg (sqv s), .slice A us.length c, .int .i64 wanted, .pointer (some ⟨g2, 0, none⟩), undef, undef, .int .i64 0, .int .i64 0, .int .i64 ((2 * s.num * s.bu) - (8 * (2 * s.num))), .int .i64 ((2 * s.num * ((us.getD k u0).bits)) + (max 0 (n - (s.br * s.den * ((us.getD k u0).fields))))), .bool ov, .int .i64 (k : Int), .agg (sqv s), .slice A us.length c, .bool true, .bool false, .bool false, .int .i64 wanted, .bool false, .bool false, .agg (sqv s), .int .i64 (2 * s.num * s.bu), .agg (sqv s), .int .i64 (2 * s.num), .int .i64 (8 * (2 * s.num)), .int .i64 ((2 * s.num * s.bu) - (8 * (2 * s.num))), .int .i64 wanted, .int .i64 wanted, .int .i64 ((2 * s.num * s.bu) - (8 * (2 * s.num))), .bool true, .slice A us.length c, .int .i64 ((us.length : Nat) : Int), .int .i64 (((us.length : Nat) : Int) - 1), .int .i64 (k : Int), .bool true, .bool true, .bool ov, .bool (!ov), .bool (!ov), (u16 39), (u16 40), .agg (sqv s), .slice A us.length c, .int .i64 (k : Int), .pointer (some ⟨b24, o25 + k * 4, none⟩), .pointer (some ⟨b24, o25 + k * 4 + 2, none⟩), .int .i64 ((us.getD k u0).bits), .int .i64 (2 * s.num * ((us.getD k u0).bits)), .int .i64 n, .agg (sqv s), .slice A us.length c, .int .i64 (k : Int), .pointer (some ⟨b27, o28 + k * 4, none⟩), .pointer (some ⟨b27, o28 + k * 4 + 3, none⟩), .int .i64 ((us.getD k u0).fields), .int .i64 (s.br * s.den * ((us.getD k u0).fields)), .int .i64 (n - (s.br * s.den * ((us.getD k u0).fields))), .int .i64 (max 0 (n - (s.br * s.den * ((us.getD k u0).fields)))), .int .i64 ((2 * s.num * ((us.getD k u0).bits)) + (max 0 (n - (s.br * s.den * ((us.getD k u0).fields))))), (u16 59), (u16 60), (u16 61), undef, undef], []⟩) (by kernel_rfl) ?_
            refine wl_region ?_
            refine st_val (.int .i64 ((2 * s.num * ((us.getD k u0).bits)) + (max 0 (n - (s.br * s.den * ((us.getD k u0).fields)))))) (by kernel_rfl) (by kernel_rfl) ?_
            refine st_val (.int .i64 ((2 * s.num * s.bu) - (8 * (2 * s.num)))) (by kernel_rfl) (by kernel_rfl) ?_
            rcases Decidable.em (((2 * s.num * ((us.getD k u0).bits)) + (max 0 (n - (s.br * s.den * ((us.getD k u0).fields)))) : Int) > (2 * s.num * s.bu) - (8 * (2 * s.num))) with c61 | c61
            ·
              refine st_val (.bool true) (by kernel_rfl) (bool_of (dec_t c61) (by kernel_rfl)) ?_
              refine st_val (.bool true) (by kernel_rfl) (by kernel_rfl) ?_
              refine wl_nil ?_
              refine blk_normal ?_
              refine hK22 _ _ ?_
              try clear hK22 K22
              refine wl_region ?_
              refine st_val (.int .i64 (k : Int)) (by kernel_rfl) (by kernel_rfl) ?_
              refine st_val (.int .i64 ((k : Int) - 1)) (by kernel_rfl) (i64_of (by omega) (by kernel_rfl)) ?_
              refine st_val (.int .i64 ((k : Int) - 1)) (by kernel_rfl) (by kernel_rfl) ?_
              refine wl_nil ?_
              refine th_normal ?_
              exact ⟨_, by omega, k, ((2 * s.num * ((us.getD k u0).bits)) + (max 0 (n - (s.br * s.den * ((us.getD k u0).fields))))), true, (fun zz => Array.getD #[.agg (sqv s), .slice A us.length c, .int .i64 wanted, .pointer (some ⟨g2, 0, none⟩), undef, undef, .int .i64 0, .int .i64 0, .int .i64 ((2 * s.num * s.bu) - (8 * (2 * s.num))), .int .i64 ((2 * s.num * ((us.getD k u0).bits)) + (max 0 (n - (s.br * s.den * ((us.getD k u0).fields))))), .bool true, .int .i64 ((k : Int) - 1), .agg (sqv s), .slice A us.length c, .bool true, .bool false, .bool false, .int .i64 wanted, .bool false, .bool false, .agg (sqv s), .int .i64 (2 * s.num * s.bu), .agg (sqv s), .int .i64 (2 * s.num), .int .i64 (8 * (2 * s.num)), .int .i64 ((2 * s.num * s.bu) - (8 * (2 * s.num))), .int .i64 wanted, .int .i64 wanted, .int .i64 ((2 * s.num * s.bu) - (8 * (2 * s.num))), .bool true, .slice A us.length c, .int .i64 ((us.length : Nat) : Int), .int .i64 (((us.length : Nat) : Int) - 1), .int .i64 (k : Int), .bool true, .bool true, .bool ov, .bool (!ov), .bool (!ov), .int .i64 (k : Int), .int .i64 ((k : Int) - 1), .agg (sqv s), .slice A us.length c, .int .i64 (k : Int), .pointer (some ⟨b24, o25 + k * 4, none⟩), .pointer (some ⟨b24, o25 + k * 4 + 2, none⟩), .int .i64 ((us.getD k u0).bits), .int .i64 (2 * s.num * ((us.getD k u0).bits)), .int .i64 n, .agg (sqv s), .slice A us.length c, .int .i64 (k : Int), .pointer (some ⟨b27, o28 + k * 4, none⟩), .pointer (some ⟨b27, o28 + k * 4 + 3, none⟩), .int .i64 ((us.getD k u0).fields), .int .i64 (s.br * s.den * ((us.getD k u0).fields)), .int .i64 (n - (s.br * s.den * ((us.getD k u0).fields))), .int .i64 (max 0 (n - (s.br * s.den * ((us.getD k u0).fields)))), .int .i64 ((2 * s.num * ((us.getD k u0).bits)) + (max 0 (n - (s.br * s.den * ((us.getD k u0).fields))))), .int .i64 ((2 * s.num * ((us.getD k u0).bits)) + (max 0 (n - (s.br * s.den * ((us.getD k u0).fields))))), .int .i64 ((2 * s.num * s.bu) - (8 * (2 * s.num))), .bool true, undef, undef] zz undef), ⟨⟨by omega, fun h => (by cases h), fun _ => by rw [drop_getD us u0 k (by omega), needO_cons_none hN (by unfold mostS; omega)]⟩, M31⟩, rfl, (by kernel_rfl)⟩
            ·
              refine st_val (.bool false) (by kernel_rfl) (bool_of (dec_f c61) (by kernel_rfl)) ?_
              refine st_val (.bool false) (by kernel_rfl) (by kernel_rfl) ?_
              refine wl_nil ?_
              refine blk_normal ?_
              refine hK22 _ _ ?_
              try clear hK22 K22
              refine wl_region ?_
              refine st_val (.int .i64 (k : Int)) (by kernel_rfl) (by kernel_rfl) ?_
              refine st_val (.int .i64 ((k : Int) - 1)) (by kernel_rfl) (i64_of (by omega) (by kernel_rfl)) ?_
              refine st_val (.int .i64 ((k : Int) - 1)) (by kernel_rfl) (by kernel_rfl) ?_
              refine wl_nil ?_
              refine th_normal ?_
              exact ⟨_, by omega, k, ((2 * s.num * ((us.getD k u0).bits)) + (max 0 (n - (s.br * s.den * ((us.getD k u0).fields))))), false, (fun zz => Array.getD #[.agg (sqv s), .slice A us.length c, .int .i64 wanted, .pointer (some ⟨g2, 0, none⟩), undef, undef, .int .i64 0, .int .i64 0, .int .i64 ((2 * s.num * s.bu) - (8 * (2 * s.num))), .int .i64 ((2 * s.num * ((us.getD k u0).bits)) + (max 0 (n - (s.br * s.den * ((us.getD k u0).fields))))), .bool false, .int .i64 ((k : Int) - 1), .agg (sqv s), .slice A us.length c, .bool true, .bool false, .bool false, .int .i64 wanted, .bool false, .bool false, .agg (sqv s), .int .i64 (2 * s.num * s.bu), .agg (sqv s), .int .i64 (2 * s.num), .int .i64 (8 * (2 * s.num)), .int .i64 ((2 * s.num * s.bu) - (8 * (2 * s.num))), .int .i64 wanted, .int .i64 wanted, .int .i64 ((2 * s.num * s.bu) - (8 * (2 * s.num))), .bool true, .slice A us.length c, .int .i64 ((us.length : Nat) : Int), .int .i64 (((us.length : Nat) : Int) - 1), .int .i64 (k : Int), .bool true, .bool true, .bool ov, .bool (!ov), .bool (!ov), .int .i64 (k : Int), .int .i64 ((k : Int) - 1), .agg (sqv s), .slice A us.length c, .int .i64 (k : Int), .pointer (some ⟨b24, o25 + k * 4, none⟩), .pointer (some ⟨b24, o25 + k * 4 + 2, none⟩), .int .i64 ((us.getD k u0).bits), .int .i64 (2 * s.num * ((us.getD k u0).bits)), .int .i64 n, .agg (sqv s), .slice A us.length c, .int .i64 (k : Int), .pointer (some ⟨b27, o28 + k * 4, none⟩), .pointer (some ⟨b27, o28 + k * 4 + 3, none⟩), .int .i64 ((us.getD k u0).fields), .int .i64 (s.br * s.den * ((us.getD k u0).fields)), .int .i64 (n - (s.br * s.den * ((us.getD k u0).fields))), .int .i64 (max 0 (n - (s.br * s.den * ((us.getD k u0).fields)))), .int .i64 ((2 * s.num * ((us.getD k u0).bits)) + (max 0 (n - (s.br * s.den * ((us.getD k u0).fields))))), .int .i64 ((2 * s.num * ((us.getD k u0).bits)) + (max 0 (n - (s.br * s.den * ((us.getD k u0).fields))))), .int .i64 ((2 * s.num * s.bu) - (8 * (2 * s.num))), .bool false, undef, undef] zz undef), ⟨⟨by omega, fun _ => ⟨⟨by omega, by unfold mostS; omega⟩, by rw [drop_getD us u0 k (by omega), needO_cons hN (by unfold mostS; omega)]⟩, fun h => (by cases h)⟩, M31⟩, rfl, (by kernel_rfl)⟩
          ·
            refine wp_exit ?_
            refine th_exit ?_
            refine th_exit ?_
            refine blk_exit ?_
            refine hK14 _ _ ?_
            try clear hK14 K14
            refine wp_seq_k (fun K32 hK32 => ?_)
            refine wp_seq_k (fun K33 hK33 => ?_)
            refine wl_region ?_
            refine st_val (.bool ov) (by kernel_rfl) (by kernel_rfl) ?_
            refine wl_nil ?_
            refine hK33 _ _ ?_
            try clear hK33 K33
            refine wp_cond_split (t := ov) (by kernel_rfl) (fun c34 => ?_) (fun c34 => ?_)
            ·
              refine wp_seq_k (fun K35 hK35 => ?_)
              refine wl_region ?_
              refine st_val (.int .i64 0) (by kernel_rfl) (by kernel_rfl) ?_
              refine st_val (.int .i64 9) (by kernel_rfl) (by kernel_rfl) ?_
              refine wl_nil ?_
              refine hK35 _ _ ?_
              try clear hK35 K35
              refine wp_ret ?_
              refine th_ret ?_
              exact done2 6 7 (.int .i64 0) (.int .i64 9) (by kernel_rfl) (by kernel_rfl) (by kernel_rfl) (by kernel_rfl) ⟨by rw [needR_none hpr (by omega) (by first | exact needO_drop_none us us.length (by rw [List.drop_length]; exact needO_nil_none (by unfold mostS; omega)) | exact needO_drop_none us k (by rw [drop_getD us u0 k (by omega)]; exact needO_cons_none hN (by unfold mostS; omega)) | exact needO_drop_none us k (rO rfl) | exact needO_drop_none us k (rO (by assumption)))], M18.toBelow⟩
            ·
              refine wp_skip ?_
              refine hK32 _ _ ?_
              try clear hK32 K32
              refine wp_seq_k (fun K36 hK36 => ?_)
              refine wl_region ?_
              refine st_val (.int .i64 n) (by kernel_rfl) (by kernel_rfl) ?_
              refine st_val (.int .i64 n) (by kernel_rfl) (by kernel_rfl) ?_
              refine st_val (.int .i64 0) (by kernel_rfl) (by kernel_rfl) ?_
              refine wl_nil ?_
              refine hK36 _ _ ?_
              try clear hK36 K36
              refine wp_ret ?_
              exact done2 6 7 (.int .i64 n) (.int .i64 0) (by kernel_rfl) (by kernel_rfl) (by kernel_rfl) (by kernel_rfl) ⟨by rw [needR_some hpr (by omega) (n := n) (by first | (exfalso; have h1 : (!ov) = false := (by assumption); have h2 : ov = false := (by assumption); rw [h2] at h1; exact Bool.noConfusion h1) | (obtain rfl : k = 0 := (by omega); exact hN) | (obtain ⟨_, hN⟩ := rn (by assumption); obtain rfl : k = 0 := (by omega); exact hN))], M18.toBelow⟩
        ·
          refine st_val (.bool false) (by kernel_rfl) (bool_of (dec_f c34) (by kernel_rfl)) ?_
          refine st_val (.bool false) (by kernel_rfl) (by kernel_rfl) ?_
          refine st_skip (by kernel_rfl) ?_
          refine st_skip (by kernel_rfl) ?_
          refine st_val (.bool false) (by kernel_rfl) (by kernel_rfl) ?_
          refine wl_nil ?_
          refine hK20 _ _ ?_
          try clear hK20 K20
          refine wp_cond_false (by kernel_rfl) ?_
          refine wp_exit ?_
          refine th_exit ?_
          refine th_exit ?_
          refine blk_exit ?_
          refine hK14 _ _ ?_
          try clear hK14 K14
          refine wp_seq_k (fun K37 hK37 => ?_)
          refine wp_seq_k (fun K38 hK38 => ?_)
          refine wl_region ?_
          refine st_val (.bool ov) (by kernel_rfl) (by kernel_rfl) ?_
          refine wl_nil ?_
          refine hK38 _ _ ?_
          try clear hK38 K38
          refine wp_cond_split (t := ov) (by kernel_rfl) (fun c39 => ?_) (fun c39 => ?_)
          ·
            refine wp_seq_k (fun K40 hK40 => ?_)
            refine wl_region ?_
            refine st_val (.int .i64 0) (by kernel_rfl) (by kernel_rfl) ?_
            refine st_val (.int .i64 9) (by kernel_rfl) (by kernel_rfl) ?_
            refine wl_nil ?_
            refine hK40 _ _ ?_
            try clear hK40 K40
            refine wp_ret ?_
            refine th_ret ?_
            exact done2 6 7 (.int .i64 0) (.int .i64 9) (by kernel_rfl) (by kernel_rfl) (by kernel_rfl) (by kernel_rfl) ⟨by rw [needR_none hpr (by omega) (by first | exact needO_drop_none us us.length (by rw [List.drop_length]; exact needO_nil_none (by unfold mostS; omega)) | exact needO_drop_none us k (by rw [drop_getD us u0 k (by omega)]; exact needO_cons_none hN (by unfold mostS; omega)) | exact needO_drop_none us k (rO rfl) | exact needO_drop_none us k (rO (by assumption)))], M18.toBelow⟩
          ·
            refine wp_skip ?_
            refine hK37 _ _ ?_
            try clear hK37 K37
            refine wp_seq_k (fun K41 hK41 => ?_)
            refine wl_region ?_
            refine st_val (.int .i64 n) (by kernel_rfl) (by kernel_rfl) ?_
            refine st_val (.int .i64 n) (by kernel_rfl) (by kernel_rfl) ?_
            refine st_val (.int .i64 0) (by kernel_rfl) (by kernel_rfl) ?_
            refine wl_nil ?_
            refine hK41 _ _ ?_
            try clear hK41 K41
            refine wp_ret ?_
            exact done2 6 7 (.int .i64 n) (.int .i64 0) (by kernel_rfl) (by kernel_rfl) (by kernel_rfl) (by kernel_rfl) ⟨by rw [needR_some hpr (by omega) (n := n) (by first | (exfalso; have h1 : (!ov) = false := (by assumption); have h2 : ov = false := (by assumption); rw [h2] at h1; exact Bool.noConfusion h1) | (obtain rfl : k = 0 := (by omega); exact hN) | (obtain ⟨_, hN⟩ := rn (by assumption); obtain rfl : k = 0 := (by omega); exact hN))], M18.toBelow⟩
      ·
        refine st_val (.bool false) (by kernel_rfl) (bool_of (dec_f c29) (by kernel_rfl)) ?_
        refine st_val (.int .i64 wanted) (by kernel_rfl) (by kernel_rfl) ?_
        refine st_val (.bool false) (by kernel_rfl) (by kernel_rfl) ?_
        refine wl_nil ?_
        refine hK13 _ _ ?_
        try clear hK13 K13
        refine wp_seq_k (fun K42 hK42 => ?_)
        refine wp_seq_k (fun K43 hK43 => ?_)
        refine wl_region ?_
        refine st_val (.slice A us.length c) (by kernel_rfl) (by kernel_rfl) ?_
        refine st_val (.int .i64 ((us.length : Nat) : Int)) (by kernel_rfl) (by kernel_rfl) ?_
        refine st_val (.int .i64 (((us.length : Nat) : Int) - 1)) (by kernel_rfl) (i64_of (by omega) (by kernel_rfl)) ?_
        refine st_val (.int .i64 (((us.length : Nat) : Int) - 1)) (by kernel_rfl) (by kernel_rfl) ?_
        refine wl_nil ?_
        refine hK43 _ _ ?_
        try clear hK43 K43
        refine wp_block ?_
        refine wp_loop_ghost (fun gn a' w' => ∃ (k : Nat) (n : Int) (ov : Bool) (u44 : Nat → Value), ((k ≤ us.length ∧ (ov = false → (0 ≤ n ∧ n ≤ mostS s) ∧ needO (2 * s.num) (s.br * s.den) (mostS s) wanted (us.drop k) = some n) ∧ (ov = true → needO (2 * s.num) (s.br * s.den) (mostS s) wanted (us.drop k) = none)) ∧ Mem NoS w w' [(g2, .cells (sqv s) 26 (0, 0))]) ∧ gn = k + 1 ∧ a' = ⟨#[.agg (sqv s), .slice A us.length c, .int .i64 wanted, .pointer (some ⟨g2, 0, none⟩), undef, undef, .int .i64 0, .int .i64 0, .int .i64 ((2 * s.num * s.bu) - (8 * (2 * s.num))), .int .i64 n, .bool ov, .int .i64 ((k : Int) - 1), .agg (sqv s), .slice A us.length c, .bool true, .bool false, .bool false, .int .i64 wanted, .bool false, .bool false, .agg (sqv s), .int .i64 (2 * s.num * s.bu), .agg (sqv s), .int .i64 (2 * s.num), .int .i64 (8 * (2 * s.num)), .int .i64 ((2 * s.num * s.bu) - (8 * (2 * s.num))), .int .i64 wanted, .int .i64 wanted, .int .i64 ((2 * s.num * s.bu) - (8 * (2 * s.num))), .bool false, .slice A us.length c, .int .i64 ((us.length : Nat) : Int), .int .i64 (((us.length : Nat) : Int) - 1), (u44 33), (u44 34), (u44 35), (u44 36), (u44 37), (u44 38), (u44 39), (u44 40), (u44 41), (u44 42), (u44 43), (u44 44), (u44 45), (u44 46), (u44 47), (u44 48), (u44 49), (u44 50), (u44 51), (u44 52), (u44 53), (u44 54), (u44 55), (u44 56), (u44 57), (u44 58), (u44 59), (u44 60), (u44 61), undef, undef], []⟩) _ ⟨us.length, wanted, false, (fun zz => Array.getD #[.agg (sqv s), .slice A us.length c, .int .i64 wanted, .pointer (some ⟨g2, 0, none⟩), undef, undef, .int .i64 0, .int .i64 0, .int .i64 ((2 * s.num * s.bu) - (8 * (2 * s.num))), .int .i64 wanted, .bool false, .int .i64 (((us.length : Nat) : Int) - 1), .agg (sqv s), .slice A us.length c, .bool true, .bool false, .bool false, .int .i64 wanted, .bool false, .bool false, .agg (sqv s), .int .i64 (2 * s.num * s.bu), .agg (sqv s), .int .i64 (2 * s.num), .int .i64 (8 * (2 * s.num)), .int .i64 ((2 * s.num * s.bu) - (8 * (2 * s.num))), .int .i64 wanted, .int .i64 wanted, .int .i64 ((2 * s.num * s.bu) - (8 * (2 * s.num))), .bool false, .slice A us.length c, .int .i64 ((us.length : Nat) : Int), .int .i64 (((us.length : Nat) : Int) - 1), undef, undef, undef, undef, undef, undef, undef, undef, undef, undef, undef, undef, undef, undef, undef, undef, undef, undef, undef, undef, undef, undef, undef, undef, undef, undef, undef, undef, undef, undef, undef] zz undef), ⟨⟨by omega, fun _ => ⟨⟨by omega, by unfold mostS; omega⟩, by rw [List.drop_length, needO_nil (by unfold mostS; omega)]⟩, fun h => (by cases h)⟩, M12⟩, rfl, (by kernel_rfl)⟩ ?_
        rintro gn _ W45 ⟨k, n, ov, u44, ⟨⟨rk, rn, rO⟩, M46⟩, rfl, rfl⟩
        refine wp_seq_k (fun K47 hK47 => ?_)
        refine wp_seq_k (fun K48 hK48 => ?_)
        refine wl_region ?_
        refine st_val (.int .i64 ((k : Int) - 1)) (by kernel_rfl) (by kernel_rfl) ?_
        rcases Decidable.em (((k : Int) - 1 : Int) ≥ 0) with c34 | c34
        ·
          refine st_val (.bool true) (by kernel_rfl) (bool_of (dec_t c34) (by kernel_rfl)) ?_
          refine st_val (.bool true) (by kernel_rfl) (by kernel_rfl) ?_
          refine st_val (.bool ov) (by kernel_rfl) (by kernel_rfl) ?_
          refine st_val (.bool (!ov)) (by kernel_rfl) (by kernel_rfl) ?_
          refine st_val (.bool (!ov)) (by kernel_rfl) (by kernel_rfl) ?_
          refine wl_nil ?_
          refine hK48 _ _ ?_
          try clear hK48 K48
          refine wp_cond_split (t := !ov) (by kernel_rfl) (fun c49 => ?_) (fun c49 => ?_)
          ·
            refine wp_skip ?_
            refine hK47 _ _ ?_
            try clear hK47 K47
            refine wp_seq_k (fun K50 hK50 => ?_)
            refine wp_block ?_
            refine wp_seq_k (fun K51 hK51 => ?_)
            obtain ⟨rn, hN⟩ := rn (by cases ov; rfl; contradiction)
            have hm : mostS s ≤ 17592186044416 := by unfold mostS; omega
            obtain ⟨k, rfl⟩ : ∃ j, k = j + 1 := ⟨k - 1, by omega⟩
            refine wp_frame (a' := ⟨#[.agg (sqv s), .slice A us.length c, .int .i64 wanted, .pointer (some ⟨g2, 0, none⟩), undef, undef, .int .i64 0, .int .i64 0, .int .i64 ((2 * s.num * s.bu) - (8 * (2 * s.num))), .int .i64 n, .bool ov, .int .i64 (k : Int), .agg (sqv s), .slice A us.length c, .bool true, .bool false, .bool false, .int .i64 wanted, .bool false, .bool false, .agg (sqv s), .int .i64 (2 * s.num * s.bu), .agg (sqv s), .int .i64 (2 * s.num), .int .i64 (8 * (2 * s.num)), .int .i64 ((2 * s.num * s.bu) - (8 * (2 * s.num))), .int .i64 wanted, .int .i64 wanted, .int .i64 ((2 * s.num * s.bu) - (8 * (2 * s.num))), .bool false, .slice A us.length c, .int .i64 ((us.length : Nat) : Int), .int .i64 (((us.length : Nat) : Int) - 1), .int .i64 (k : Int), .bool true, .bool true, .bool ov, .bool (!ov), .bool (!ov), (u44 39), (u44 40), (u44 41), (u44 42), (u44 43), (u44 44), (u44 45), (u44 46), (u44 47), (u44 48), (u44 49), (u44 50), (u44 51), (u44 52), (u44 53), (u44 54), (u44 55), (u44 56), (u44 57), (u44 58), (u44 59), (u44 60), (u44 61), undef, undef], []⟩) (by rw [show ((k + 1 : Nat) : Int) - 1 = (k : Int) by omega]; kernel_rfl) ?_
            have hu := hpr.2.2.2.2 k (by omega)
            unfold PU at hu
            obtain ⟨hu1, hu2, hu3⟩ := hu
            have hc1 := mul_in (m := 2097152) (n := 8388608) (x := 2 * s.num) (y := (us.getD k u0).bits) (by omega) (by omega)
            have hd1 := mul_in (m := 1099511627776) (n := 3) (x := s.br * s.den) (y := (us.getD k u0).fields) (by omega) (by omega)
            refine wl_seq 19 (fun w' => Mem NoS w w' [(g2, .cells (sqv s) 26 (0, 0))]) (by decide) (by kernel_rfl) (by kernel_rfl) M46.drew ?_
            refine seq_run (v := .agg (sqv s)) (by decide) (by kernel_rfl) (fun w' M' => (run_load_row 26 (.tmp 3) rfl g2 (by kernel_rfl) 26 (sqv s) (0, 0) _ (M'.get 0 rfl) Try.underlying26 rfl (infoSq hs.la hs.lb))) ?_
            refine seq_run (v := .slice A us.length c) (by decide) (by kernel_rfl) (fun w' M' => (by kernel_rfl)) ?_
            refine seq_run (v := .int .i64 (k : Int)) (by decide) (by kernel_rfl) (fun w' M' => (by kernel_rfl)) ?_
            obtain ⟨b52, o53, eA54⟩ := RdK.addr (hr.keep M46.keep (fun _ _ h => h)) (j := k * 4) (by rw [flat_len]; omega)
            refine seq_run (v := .pointer (some ⟨b52, o53 + k * 4, none⟩)) (by decide) (by kernel_rfl) (fun w' M' => (run_indexSliceA 32 (.tmp 42) (.tmp 43) rfl A ⟨b52, o53, none⟩ eA54 us.length c .i64 k (by kernel_rfl) (by kernel_rfl) Try.underlying32 4 (by kernel_rfl) (by omega) ⟨b52, o53 + k * 4, none⟩ (addr_atK _ _ _ _))) ?_
            refine seq_run (v := .pointer (some ⟨b52, o53 + k * 4 + 2, none⟩)) (by decide) (by kernel_rfl) (fun w' M' => (by kernel_rfl)) ?_
            refine seq_run (v := .int .i64 ((us.getD k u0).bits)) (by decide) (by kernel_rfl) (fun w' M' => (run_load_cell 2 (.tmp 45) rfl ⟨b52, o53 + k * 4 + 2, none⟩ (by kernel_rfl) _ ((hr.keep M'.keep (fun _ _ h => h)).cellF eA54 (f := 2) (flat_get us k 2 (by omega) (by omega))) (by kernel_rfl))) ?_
            refine seq_call (v := .int .i64 (2 * s.num * ((us.getD k u0).bits))) (f := 17) (args := #[.agg (sqv s), .int .i64 ((us.getD k u0).bits)]) (by decide) (by kernel_rfl) (fun w' M' => (run_value_call 17 #[(Operand.tmp 41), (Operand.tmp 46)] _ rfl Try.func17 (by kernel_rfl) (by kernel_rfl) _ (by kernel_rfl))) (fun w' M' => callB_mem M' ((by have := refCost_walk w' s hs ((us.getD k u0).bits); rw [costS_t hv (by omega)] at this; exact this))) ?_
            refine seq_run (v := .int .i64 n) (by decide) (by kernel_rfl) (fun w' M' => (by kernel_rfl)) ?_
            refine seq_run (v := .agg (sqv s)) (by decide) (by kernel_rfl) (fun w' M' => (run_load_row 26 (.tmp 3) rfl g2 (by kernel_rfl) 26 (sqv s) (0, 0) _ (M'.get 0 rfl) Try.underlying26 rfl (infoSq hs.la hs.lb))) ?_
            refine seq_run (v := .slice A us.length c) (by decide) (by kernel_rfl) (fun w' M' => (by kernel_rfl)) ?_
            refine seq_run (v := .int .i64 (k : Int)) (by decide) (by kernel_rfl) (fun w' M' => (by kernel_rfl)) ?_
            obtain ⟨b55, o56, eA57⟩ := RdK.addr (hr.keep M46.keep (fun _ _ h => h)) (j := k * 4) (by rw [flat_len]; omega)
            refine seq_run (v := .pointer (some ⟨b55, o56 + k * 4, none⟩)) (by decide) (by kernel_rfl) (fun w' M' => (run_indexSliceA 32 (.tmp 50) (.tmp 51) rfl A ⟨b55, o56, none⟩ eA57 us.length c .i64 k (by kernel_rfl) (by kernel_rfl) Try.underlying32 4 (by kernel_rfl) (by omega) ⟨b55, o56 + k * 4, none⟩ (addr_atK _ _ _ _))) ?_
            refine seq_run (v := .pointer (some ⟨b55, o56 + k * 4 + 3, none⟩)) (by decide) (by kernel_rfl) (fun w' M' => (by kernel_rfl)) ?_
            refine seq_run (v := .int .i64 ((us.getD k u0).fields)) (by decide) (by kernel_rfl) (fun w' M' => (run_load_cell 3 (.tmp 53) rfl ⟨b55, o56 + k * 4 + 3, none⟩ (by kernel_rfl) _ ((hr.keep M'.keep (fun _ _ h => h)).cellF eA57 (f := 3) (flat_get us k 3 (by omega) (by omega))) (by kernel_rfl))) ?_
            refine seq_call (v := .int .i64 (s.br * s.den * ((us.getD k u0).fields))) (f := 15) (args := #[.agg (sqv s), .int .i64 ((us.getD k u0).fields)]) (by decide) (by kernel_rfl) (fun w' M' => (run_value_call 15 #[(Operand.tmp 49), (Operand.tmp 54)] _ rfl Try.func15 (by kernel_rfl) (by kernel_rfl) _ (by kernel_rfl))) (fun w' M' => callB_mem M' ((by have := refArr_walk w' s hs ((us.getD k u0).fields); rw [arrS_t hv (by omega)] at this; exact this))) ?_
            refine seq_run (v := .int .i64 (n - (s.br * s.den * ((us.getD k u0).fields)))) (by decide) (by kernel_rfl) (fun w' M' => (i64_of (by omega) (by kernel_rfl))) ?_
            refine seq_run (v := .int .i64 (max 0 (n - (s.br * s.den * ((us.getD k u0).fields))))) (by decide) (by kernel_rfl) (fun w' M' => (int_of (ite_max 0 (n - (s.br * s.den * ((us.getD k u0).fields)))) (by kernel_rfl))) ?_
            refine seq_run (v := .int .i64 ((2 * s.num * ((us.getD k u0).bits)) + (max 0 (n - (s.br * s.den * ((us.getD k u0).fields)))))) (by decide) (by kernel_rfl) (fun w' M' => (i64_of (by omega) (by kernel_rfl))) ?_
            refine seq_run (v := .int .i64 ((2 * s.num * ((us.getD k u0).bits)) + (max 0 (n - (s.br * s.den * ((us.getD k u0).fields)))))) (by decide) (by kernel_rfl) (fun w' M' => (by kernel_rfl)) ?_
            refine seq_end (by decide) ?_
            intro W58 M59
            refine wl_nil ?_
            refine hK51 _ _ ?_
            try clear hK51 K51
            refine wp_frame (a' := ⟨#[.agg (sqv s), .slice A us.length c, .int .i64 wanted, .pointer (some ⟨g2, 0, none⟩), undef, undef, .int .i64 0, .int .i64 0, .int .i64 ((2 * s.num * s.bu) - (8 * (2 * s.num))), .int .i64 ((2 * s.num * ((us.getD k u0).bits)) + (max 0 (n - (s.br * s.den * ((us.getD k u0).fields))))), .bool ov, .int .i64 (k : Int), .agg (sqv s), .slice A us.length c, .bool true, .bool false, .bool false, .int .i64 wanted, .bool false, .bool false, .agg (sqv s), .int .i64 (2 * s.num * s.bu), .agg (sqv s), .int .i64 (2 * s.num), .int .i64 (8 * (2 * s.num)), .int .i64 ((2 * s.num * s.bu) - (8 * (2 * s.num))), .int .i64 wanted, .int .i64 wanted, .int .i64 ((2 * s.num * s.bu) - (8 * (2 * s.num))), .bool false, .slice A us.length c, .int .i64 ((us.length : Nat) : Int), .int .i64 (((us.length : Nat) : Int) - 1), .int .i64 (k : Int), .bool true, .bool true, .bool ov, .bool (!ov), .bool (!ov), (u44 39), (u44 40), .agg (sqv s), .slice A us.length c, .int .i64 (k : Int), .pointer (some ⟨b52, o53 + k * 4, none⟩), .pointer (some ⟨b52, o53 + k * 4 + 2, none⟩), .int .i64 ((us.getD k u0).bits), .int .i64 (2 * s.num * ((us.getD k u0).bits)), .int .i64 n, .agg (sqv s), .slice A us.length c, .int .i64 (k : Int), .pointer (some ⟨b55, o56 + k * 4, none⟩), .pointer (some ⟨b55, o56 + k * 4 + 3, none⟩), .int .i64 ((us.getD k u0).fields), .int .i64 (s.br * s.den * ((us.getD k u0).fields)), .int .i64 (n - (s.br * s.den * ((us.getD k u0).fields))), .int .i64 (max 0 (n - (s.br * s.den * ((us.getD k u0).fields)))), .int .i64 ((2 * s.num * ((us.getD k u0).bits)) + (max 0 (n - (s.br * s.den * ((us.getD k u0).fields))))), (u44 59), (u44 60), (u44 61), undef, undef], []⟩) (by kernel_rfl) ?_
            refine wl_region ?_
            refine st_val (.int .i64 ((2 * s.num * ((us.getD k u0).bits)) + (max 0 (n - (s.br * s.den * ((us.getD k u0).fields)))))) (by kernel_rfl) (by kernel_rfl) ?_
            refine st_val (.int .i64 ((2 * s.num * s.bu) - (8 * (2 * s.num)))) (by kernel_rfl) (by kernel_rfl) ?_
            rcases Decidable.em (((2 * s.num * ((us.getD k u0).bits)) + (max 0 (n - (s.br * s.den * ((us.getD k u0).fields)))) : Int) > (2 * s.num * s.bu) - (8 * (2 * s.num))) with c61 | c61
            ·
              refine st_val (.bool true) (by kernel_rfl) (bool_of (dec_t c61) (by kernel_rfl)) ?_
              refine st_val (.bool true) (by kernel_rfl) (by kernel_rfl) ?_
              refine wl_nil ?_
              refine blk_normal ?_
              refine hK50 _ _ ?_
              try clear hK50 K50
              refine wl_region ?_
              refine st_val (.int .i64 (k : Int)) (by kernel_rfl) (by kernel_rfl) ?_
              refine st_val (.int .i64 ((k : Int) - 1)) (by kernel_rfl) (i64_of (by omega) (by kernel_rfl)) ?_
              refine st_val (.int .i64 ((k : Int) - 1)) (by kernel_rfl) (by kernel_rfl) ?_
              refine wl_nil ?_
              refine th_normal ?_
              exact ⟨_, by omega, k, ((2 * s.num * ((us.getD k u0).bits)) + (max 0 (n - (s.br * s.den * ((us.getD k u0).fields))))), true, (fun zz => Array.getD #[.agg (sqv s), .slice A us.length c, .int .i64 wanted, .pointer (some ⟨g2, 0, none⟩), undef, undef, .int .i64 0, .int .i64 0, .int .i64 ((2 * s.num * s.bu) - (8 * (2 * s.num))), .int .i64 ((2 * s.num * ((us.getD k u0).bits)) + (max 0 (n - (s.br * s.den * ((us.getD k u0).fields))))), .bool true, .int .i64 ((k : Int) - 1), .agg (sqv s), .slice A us.length c, .bool true, .bool false, .bool false, .int .i64 wanted, .bool false, .bool false, .agg (sqv s), .int .i64 (2 * s.num * s.bu), .agg (sqv s), .int .i64 (2 * s.num), .int .i64 (8 * (2 * s.num)), .int .i64 ((2 * s.num * s.bu) - (8 * (2 * s.num))), .int .i64 wanted, .int .i64 wanted, .int .i64 ((2 * s.num * s.bu) - (8 * (2 * s.num))), .bool false, .slice A us.length c, .int .i64 ((us.length : Nat) : Int), .int .i64 (((us.length : Nat) : Int) - 1), .int .i64 (k : Int), .bool true, .bool true, .bool ov, .bool (!ov), .bool (!ov), .int .i64 (k : Int), .int .i64 ((k : Int) - 1), .agg (sqv s), .slice A us.length c, .int .i64 (k : Int), .pointer (some ⟨b52, o53 + k * 4, none⟩), .pointer (some ⟨b52, o53 + k * 4 + 2, none⟩), .int .i64 ((us.getD k u0).bits), .int .i64 (2 * s.num * ((us.getD k u0).bits)), .int .i64 n, .agg (sqv s), .slice A us.length c, .int .i64 (k : Int), .pointer (some ⟨b55, o56 + k * 4, none⟩), .pointer (some ⟨b55, o56 + k * 4 + 3, none⟩), .int .i64 ((us.getD k u0).fields), .int .i64 (s.br * s.den * ((us.getD k u0).fields)), .int .i64 (n - (s.br * s.den * ((us.getD k u0).fields))), .int .i64 (max 0 (n - (s.br * s.den * ((us.getD k u0).fields)))), .int .i64 ((2 * s.num * ((us.getD k u0).bits)) + (max 0 (n - (s.br * s.den * ((us.getD k u0).fields))))), .int .i64 ((2 * s.num * ((us.getD k u0).bits)) + (max 0 (n - (s.br * s.den * ((us.getD k u0).fields))))), .int .i64 ((2 * s.num * s.bu) - (8 * (2 * s.num))), .bool true, undef, undef] zz undef), ⟨⟨by omega, fun h => (by cases h), fun _ => by rw [drop_getD us u0 k (by omega), needO_cons_none hN (by unfold mostS; omega)]⟩, M59⟩, rfl, (by kernel_rfl)⟩
            ·
              refine st_val (.bool false) (by kernel_rfl) (bool_of (dec_f c61) (by kernel_rfl)) ?_
              refine st_val (.bool false) (by kernel_rfl) (by kernel_rfl) ?_
              refine wl_nil ?_
              refine blk_normal ?_
              refine hK50 _ _ ?_
              try clear hK50 K50
              refine wl_region ?_
              refine st_val (.int .i64 (k : Int)) (by kernel_rfl) (by kernel_rfl) ?_
              refine st_val (.int .i64 ((k : Int) - 1)) (by kernel_rfl) (i64_of (by omega) (by kernel_rfl)) ?_
              refine st_val (.int .i64 ((k : Int) - 1)) (by kernel_rfl) (by kernel_rfl) ?_
              refine wl_nil ?_
              refine th_normal ?_
              exact ⟨_, by omega, k, ((2 * s.num * ((us.getD k u0).bits)) + (max 0 (n - (s.br * s.den * ((us.getD k u0).fields))))), false, (fun zz => Array.getD #[.agg (sqv s), .slice A us.length c, .int .i64 wanted, .pointer (some ⟨g2, 0, none⟩), undef, undef, .int .i64 0, .int .i64 0, .int .i64 ((2 * s.num * s.bu) - (8 * (2 * s.num))), .int .i64 ((2 * s.num * ((us.getD k u0).bits)) + (max 0 (n - (s.br * s.den * ((us.getD k u0).fields))))), .bool false, .int .i64 ((k : Int) - 1), .agg (sqv s), .slice A us.length c, .bool true, .bool false, .bool false, .int .i64 wanted, .bool false, .bool false, .agg (sqv s), .int .i64 (2 * s.num * s.bu), .agg (sqv s), .int .i64 (2 * s.num), .int .i64 (8 * (2 * s.num)), .int .i64 ((2 * s.num * s.bu) - (8 * (2 * s.num))), .int .i64 wanted, .int .i64 wanted, .int .i64 ((2 * s.num * s.bu) - (8 * (2 * s.num))), .bool false, .slice A us.length c, .int .i64 ((us.length : Nat) : Int), .int .i64 (((us.length : Nat) : Int) - 1), .int .i64 (k : Int), .bool true, .bool true, .bool ov, .bool (!ov), .bool (!ov), .int .i64 (k : Int), .int .i64 ((k : Int) - 1), .agg (sqv s), .slice A us.length c, .int .i64 (k : Int), .pointer (some ⟨b52, o53 + k * 4, none⟩), .pointer (some ⟨b52, o53 + k * 4 + 2, none⟩), .int .i64 ((us.getD k u0).bits), .int .i64 (2 * s.num * ((us.getD k u0).bits)), .int .i64 n, .agg (sqv s), .slice A us.length c, .int .i64 (k : Int), .pointer (some ⟨b55, o56 + k * 4, none⟩), .pointer (some ⟨b55, o56 + k * 4 + 3, none⟩), .int .i64 ((us.getD k u0).fields), .int .i64 (s.br * s.den * ((us.getD k u0).fields)), .int .i64 (n - (s.br * s.den * ((us.getD k u0).fields))), .int .i64 (max 0 (n - (s.br * s.den * ((us.getD k u0).fields)))), .int .i64 ((2 * s.num * ((us.getD k u0).bits)) + (max 0 (n - (s.br * s.den * ((us.getD k u0).fields))))), .int .i64 ((2 * s.num * ((us.getD k u0).bits)) + (max 0 (n - (s.br * s.den * ((us.getD k u0).fields))))), .int .i64 ((2 * s.num * s.bu) - (8 * (2 * s.num))), .bool false, undef, undef] zz undef), ⟨⟨by omega, fun _ => ⟨⟨by omega, by unfold mostS; omega⟩, by rw [drop_getD us u0 k (by omega), needO_cons hN (by unfold mostS; omega)]⟩, fun h => (by cases h)⟩, M59⟩, rfl, (by kernel_rfl)⟩
          ·
            refine wp_exit ?_
            refine th_exit ?_
            refine th_exit ?_
            refine blk_exit ?_
            refine hK42 _ _ ?_
            try clear hK42 K42
            refine wp_seq_k (fun K60 hK60 => ?_)
            refine wp_seq_k (fun K61 hK61 => ?_)
            refine wl_region ?_
            refine st_val (.bool ov) (by kernel_rfl) (by kernel_rfl) ?_
            refine wl_nil ?_
            refine hK61 _ _ ?_
            try clear hK61 K61
            refine wp_cond_split (t := ov) (by kernel_rfl) (fun c62 => ?_) (fun c62 => ?_)
            ·
              refine wp_seq_k (fun K63 hK63 => ?_)
              refine wl_region ?_
              refine st_val (.int .i64 0) (by kernel_rfl) (by kernel_rfl) ?_
              refine st_val (.int .i64 9) (by kernel_rfl) (by kernel_rfl) ?_
              refine wl_nil ?_
              refine hK63 _ _ ?_
              try clear hK63 K63
              refine wp_ret ?_
              refine th_ret ?_
              exact done2 6 7 (.int .i64 0) (.int .i64 9) (by kernel_rfl) (by kernel_rfl) (by kernel_rfl) (by kernel_rfl) ⟨by rw [needR_none hpr (by omega) (by first | exact needO_drop_none us us.length (by rw [List.drop_length]; exact needO_nil_none (by unfold mostS; omega)) | exact needO_drop_none us k (by rw [drop_getD us u0 k (by omega)]; exact needO_cons_none hN (by unfold mostS; omega)) | exact needO_drop_none us k (rO rfl) | exact needO_drop_none us k (rO (by assumption)))], M46.toBelow⟩
            ·
              refine wp_skip ?_
              refine hK60 _ _ ?_
              try clear hK60 K60
              refine wp_seq_k (fun K64 hK64 => ?_)
              refine wl_region ?_
              refine st_val (.int .i64 n) (by kernel_rfl) (by kernel_rfl) ?_
              refine st_val (.int .i64 n) (by kernel_rfl) (by kernel_rfl) ?_
              refine st_val (.int .i64 0) (by kernel_rfl) (by kernel_rfl) ?_
              refine wl_nil ?_
              refine hK64 _ _ ?_
              try clear hK64 K64
              refine wp_ret ?_
              exact done2 6 7 (.int .i64 n) (.int .i64 0) (by kernel_rfl) (by kernel_rfl) (by kernel_rfl) (by kernel_rfl) ⟨by rw [needR_some hpr (by omega) (n := n) (by first | (exfalso; have h1 : (!ov) = false := (by assumption); have h2 : ov = false := (by assumption); rw [h2] at h1; exact Bool.noConfusion h1) | (obtain rfl : k = 0 := (by omega); exact hN) | (obtain ⟨_, hN⟩ := rn (by assumption); obtain rfl : k = 0 := (by omega); exact hN))], M46.toBelow⟩
        ·
          refine st_val (.bool false) (by kernel_rfl) (bool_of (dec_f c34) (by kernel_rfl)) ?_
          refine st_val (.bool false) (by kernel_rfl) (by kernel_rfl) ?_
          refine st_skip (by kernel_rfl) ?_
          refine st_skip (by kernel_rfl) ?_
          refine st_val (.bool false) (by kernel_rfl) (by kernel_rfl) ?_
          refine wl_nil ?_
          refine hK48 _ _ ?_
          try clear hK48 K48
          refine wp_cond_false (by kernel_rfl) ?_
          refine wp_exit ?_
          refine th_exit ?_
          refine th_exit ?_
          refine blk_exit ?_
          refine hK42 _ _ ?_
          try clear hK42 K42
          refine wp_seq_k (fun K65 hK65 => ?_)
          refine wp_seq_k (fun K66 hK66 => ?_)
          refine wl_region ?_
          refine st_val (.bool ov) (by kernel_rfl) (by kernel_rfl) ?_
          refine wl_nil ?_
          refine hK66 _ _ ?_
          try clear hK66 K66
          refine wp_cond_split (t := ov) (by kernel_rfl) (fun c67 => ?_) (fun c67 => ?_)
          ·
            refine wp_seq_k (fun K68 hK68 => ?_)
            refine wl_region ?_
            refine st_val (.int .i64 0) (by kernel_rfl) (by kernel_rfl) ?_
            refine st_val (.int .i64 9) (by kernel_rfl) (by kernel_rfl) ?_
            refine wl_nil ?_
            refine hK68 _ _ ?_
            try clear hK68 K68
            refine wp_ret ?_
            refine th_ret ?_
            exact done2 6 7 (.int .i64 0) (.int .i64 9) (by kernel_rfl) (by kernel_rfl) (by kernel_rfl) (by kernel_rfl) ⟨by rw [needR_none hpr (by omega) (by first | exact needO_drop_none us us.length (by rw [List.drop_length]; exact needO_nil_none (by unfold mostS; omega)) | exact needO_drop_none us k (by rw [drop_getD us u0 k (by omega)]; exact needO_cons_none hN (by unfold mostS; omega)) | exact needO_drop_none us k (rO rfl) | exact needO_drop_none us k (rO (by assumption)))], M46.toBelow⟩
          ·
            refine wp_skip ?_
            refine hK65 _ _ ?_
            try clear hK65 K65
            refine wp_seq_k (fun K69 hK69 => ?_)
            refine wl_region ?_
            refine st_val (.int .i64 n) (by kernel_rfl) (by kernel_rfl) ?_
            refine st_val (.int .i64 n) (by kernel_rfl) (by kernel_rfl) ?_
            refine st_val (.int .i64 0) (by kernel_rfl) (by kernel_rfl) ?_
            refine wl_nil ?_
            refine hK69 _ _ ?_
            try clear hK69 K69
            refine wp_ret ?_
            exact done2 6 7 (.int .i64 n) (.int .i64 0) (by kernel_rfl) (by kernel_rfl) (by kernel_rfl) (by kernel_rfl) ⟨by rw [needR_some hpr (by omega) (n := n) (by first | (exfalso; have h1 : (!ov) = false := (by assumption); have h2 : ov = false := (by assumption); rw [h2] at h1; exact Bool.noConfusion h1) | (obtain rfl : k = 0 := (by omega); exact hN) | (obtain ⟨_, hN⟩ := rn (by assumption); obtain rfl : k = 0 := (by omega); exact hN))], M46.toBelow⟩
  ·
    have hpn := prB_not hp14
    refine st_callB M4 (.bool false) (by kernel_rfl) (args := #[.agg (sqv s), .slice A us.length c, .int .i64 0]) (run_value_call 36 #[(Operand.tmp 12), (Operand.tmp 13), (Operand.const (Value.int IntKind.i64 0))] _ rfl Try.func36 (by kernel_rfl) (by kernel_rfl) _ (by kernel_rfl)) ((by have := refProper_walk W3 s hs (.slice A us.length c) us (hr.keep M4.keep (fun _ _ h => h)) 0; rw [hp14] at this; exact this)) ?_
    intro W70 M71
    refine st_val (.bool true) (by kernel_rfl) (by kernel_rfl) ?_
    refine st_val (.bool true) (by kernel_rfl) (by kernel_rfl) ?_
    refine st_skip (by kernel_rfl) ?_
    refine st_skip (by kernel_rfl) ?_
    refine st_val (.bool true) (by kernel_rfl) (by kernel_rfl) ?_
    refine wl_nil ?_
    refine hK6 _ _ ?_
    try clear hK6 K6
    refine wp_cond_true (by kernel_rfl) ?_
    refine wp_seq_k (fun K72 hK72 => ?_)
    refine wl_region ?_
    refine st_val (.int .i64 0) (by kernel_rfl) (by kernel_rfl) ?_
    refine st_val (.int .i64 1) (by kernel_rfl) (by kernel_rfl) ?_
    refine wl_nil ?_
    refine hK72 _ _ ?_
    try clear hK72 K72
    refine wp_frame (a' := ⟨#[.agg (sqv s), .slice A us.length c, .int .i64 wanted, .pointer (some ⟨g2, 0, none⟩), undef, undef, .int .i64 0, .int .i64 1, undef, undef, undef, undef, .agg (sqv s), .slice A us.length c, .bool false, .bool true, .bool true, undef, undef, .bool true, undef, undef, undef, undef, undef, undef, undef, undef, undef, undef, undef, undef, undef, undef, undef, undef, undef, undef, undef, undef, undef, undef, undef, undef, undef, undef, undef, undef, undef, undef, undef, undef, undef, undef, undef, undef, undef, undef, undef, undef, undef, undef, undef, undef], []⟩) (by kernel_rfl) ?_
    refine wp_ret ?_
    refine th_ret ?_
    exact done2 6 7 (.int .i64 0) (.int .i64 1) (by kernel_rfl) (by kernel_rfl) (by kernel_rfl) (by kernel_rfl) ⟨by rw [needR_arg (fun h => by first | exact hpn h.1 | omega)], M71.toBelow⟩
end Go.Proofs.Ytolfkaljbgpkhaa
