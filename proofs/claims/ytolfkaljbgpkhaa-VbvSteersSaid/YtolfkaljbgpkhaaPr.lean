/- When access units and a start may be checked. -/
import Derived.Test.YtolfkaljbgpkhaaUn
import Derived.Test.YtolfkaljbgpkhaaPa
namespace Go.Proofs.Ytolfkaljbgpkhaa
open Go.RowKit
set_option maxHeartbeats 4000000 in
set_option maxRecDepth 100000 in
theorem proper_walk (w : World) (s : SeqD) (hs : SOk s) (v : Value) (us : List UnitD) (hr : RdK w v us.length (flat us)) (start : Int) : Calls Try.prog 35 #[.agg (sqv s), v, .int .i64 start] w fun e w' => e = .returned (.bool (prB s us start)) ∧ Below w.heap.size w w' := by
  obtain ⟨A, c, rfl, hc⟩ := hr.shape
  refine calls_of_wp Try.func35 rfl ?_
  refine wp_frame (a' := ⟨#[.agg (sqv s), .slice A us.length c, .int .i64 start, undef, undef, undef, undef, undef, undef, undef, undef, undef, undef, undef, undef, undef, undef, undef, undef, undef, undef, undef, undef, undef, undef, undef, undef, undef, undef, undef, undef, undef, undef, undef, undef, undef, undef, undef, undef, undef, undef, undef, undef, undef, undef, undef, undef, undef, undef, undef, undef, undef], []⟩) (by kernel_rfl) ?_
  have M0 : Mem NoS w w [] := Mem.start _ _
  refine wp_seq_k (fun K1 hK1 => ?_)
  refine wl_region ?_
  refine st_alloc M0 (.cells (sqv s) 26 (0, 0)) (by kernel_rfl) (by kernel_rfl) ?_
  intro g2 W3 M4
  refine st_val (.bool false) (by kernel_rfl) (by kernel_rfl) ?_
  refine wl_nil ?_
  refine hK1 _ _ ?_
  try clear hK1 K1
  refine wp_seq_k (fun K5 hK5 => ?_)
  refine wp_seq_k (fun K6 hK6 => ?_)
  refine wl_region ?_
  refine st_val (.agg (sqv s)) (by kernel_rfl) (run_load_row 26 (.tmp 3) rfl g2 (by kernel_rfl) 26 (sqv s) (0, 0) _ (M4.get 0 rfl) Try.underlying26 rfl (infoSq hs.la hs.lb)) ?_
  rcases Bool.eq_false_or_eq_true (sB s) with hv | hv
  ·
    refine st_callB M4 (.bool true) (by kernel_rfl) (args := #[.agg (sqv s)]) (run_value_call 30 #[(Operand.tmp 9)] _ rfl Try.func30 (by kernel_rfl) (by kernel_rfl) _ (by kernel_rfl)) ((by have := vseq_walk W3 s hs; rw [hv] at this; exact this)) ?_
    intro W7 M8
    obtain ⟨vn1, vn2, vd1, vd2, vb1, vb2, vu1, vu2, vP, vQ, vR⟩ := SV_facts hv
    refine st_val (.bool false) (by kernel_rfl) (by kernel_rfl) ?_
    refine st_val (.bool false) (by kernel_rfl) (by kernel_rfl) ?_
    refine st_val (.int .i64 start) (by kernel_rfl) (by kernel_rfl) ?_
    rcases Decidable.em ((start : Int) < 0) with c14 | c14
    ·
      refine st_val (.bool true) (by kernel_rfl) (bool_of (dec_t c14) (by kernel_rfl)) ?_
      refine st_val (.bool true) (by kernel_rfl) (by kernel_rfl) ?_
      refine st_val (.bool true) (by kernel_rfl) (by kernel_rfl) ?_
      refine st_skip (by kernel_rfl) ?_
      refine st_skip (by kernel_rfl) ?_
      refine st_skip (by kernel_rfl) ?_
      refine st_skip (by kernel_rfl) ?_
      refine st_val (.bool true) (by kernel_rfl) (by kernel_rfl) ?_
      refine st_val (.bool true) (by kernel_rfl) (by kernel_rfl) ?_
      refine st_skip (by kernel_rfl) ?_
      refine st_skip (by kernel_rfl) ?_
      refine st_skip (by kernel_rfl) ?_
      refine st_val (.bool true) (by kernel_rfl) (by kernel_rfl) ?_
      refine wl_nil ?_
      refine hK6 _ _ ?_
      try clear hK6 K6
      refine wp_frame (a' := ⟨#[.agg (sqv s), .slice A us.length c, .int .i64 start, .pointer (some ⟨g2, 0, none⟩), undef, undef, .bool false, undef, undef, .agg (sqv s), .bool true, .bool false, .bool false, .int .i64 start, .bool true, .bool true, .bool true, undef, undef, undef, undef, .bool true, .bool true, undef, undef, undef, .bool true, undef, undef, undef, undef, undef, undef, undef, undef, undef, undef, undef, undef, undef, undef, undef, undef, undef, undef, undef, undef, undef, undef, undef, undef, undef], []⟩) (by kernel_rfl) ?_
      refine wp_cond_true (by kernel_rfl) ?_
      refine wp_seq_k (fun K9 hK9 => ?_)
      refine wl_region ?_
      refine st_val (.bool false) (by kernel_rfl) (by kernel_rfl) ?_
      refine wl_nil ?_
      refine hK9 _ _ ?_
      try clear hK9 K9
      refine wp_ret ?_
      refine th_ret ?_
      exact done1 6 (.bool false) (by kernel_rfl) (by kernel_rfl) (by kernel_rfl) ⟨by first | rw [prB_f (fun h => by obtain ⟨h1, h2, h3, h4, _⟩ := h; first | omega | exact Bool.noConfusion (hv.symm.trans h1))] | rw [prB_f (fun h => by have := h.2.2.2.2 k (by omega); unfold PU at this; omega)], M8.toBelow⟩
    ·
      refine st_val (.bool false) (by kernel_rfl) (bool_of (dec_f c14) (by kernel_rfl)) ?_
      refine st_val (.bool false) (by kernel_rfl) (by kernel_rfl) ?_
      refine st_val (.bool false) (by kernel_rfl) (by kernel_rfl) ?_
      refine st_val (.int .i64 start) (by kernel_rfl) (by kernel_rfl) ?_
      refine st_val (.agg (sqv s)) (by kernel_rfl) (run_load_row 26 (.tmp 3) rfl g2 (by kernel_rfl) 26 (sqv s) (0, 0) _ (M8.get 0 rfl) Try.underlying26 rfl (infoSq hs.la hs.lb)) ?_
      refine st_callB M8 (.int .i64 (capS s)) (by kernel_rfl) (args := #[.agg (sqv s)]) (run_value_call 12 #[(Operand.tmp 18)] _ rfl Try.func12 (by kernel_rfl) (by kernel_rfl) _ (by kernel_rfl)) (cap_walk W7 s hs) ?_
      intro W10 M11
      rcases Decidable.em ((start : Int) > capS s) with c20 | c20
      ·
        refine st_val (.bool true) (by kernel_rfl) (bool_of (dec_t c20) (by kernel_rfl)) ?_
        refine st_val (.bool true) (by kernel_rfl) (by kernel_rfl) ?_
        refine st_val (.bool true) (by kernel_rfl) (by kernel_rfl) ?_
        refine st_skip (by kernel_rfl) ?_
        refine st_skip (by kernel_rfl) ?_
        refine st_skip (by kernel_rfl) ?_
        refine st_val (.bool true) (by kernel_rfl) (by kernel_rfl) ?_
        refine wl_nil ?_
        refine hK6 _ _ ?_
        try clear hK6 K6
        refine wp_frame (a' := ⟨#[.agg (sqv s), .slice A us.length c, .int .i64 start, .pointer (some ⟨g2, 0, none⟩), undef, undef, .bool false, undef, undef, .agg (sqv s), .bool true, .bool false, .bool false, .int .i64 start, .bool false, .bool false, .bool false, .int .i64 start, .agg (sqv s), .int .i64 (capS s), .bool true, .bool true, .bool true, undef, undef, undef, .bool true, undef, undef, undef, undef, undef, undef, undef, undef, undef, undef, undef, undef, undef, undef, undef, undef, undef, undef, undef, undef, undef, undef, undef, undef, undef], []⟩) (by kernel_rfl) ?_
        refine wp_cond_true (by kernel_rfl) ?_
        refine wp_seq_k (fun K12 hK12 => ?_)
        refine wl_region ?_
        refine st_val (.bool false) (by kernel_rfl) (by kernel_rfl) ?_
        refine wl_nil ?_
        refine hK12 _ _ ?_
        try clear hK12 K12
        refine wp_ret ?_
        refine th_ret ?_
        exact done1 6 (.bool false) (by kernel_rfl) (by kernel_rfl) (by kernel_rfl) ⟨by first | rw [prB_f (fun h => by obtain ⟨h1, h2, h3, h4, _⟩ := h; first | omega | exact Bool.noConfusion (hv.symm.trans h1))] | rw [prB_f (fun h => by have := h.2.2.2.2 k (by omega); unfold PU at this; omega)], M11.toBelow⟩
      ·
        refine st_val (.bool false) (by kernel_rfl) (bool_of (dec_f c20) (by kernel_rfl)) ?_
        refine st_val (.bool false) (by kernel_rfl) (by kernel_rfl) ?_
        refine st_val (.bool false) (by kernel_rfl) (by kernel_rfl) ?_
        refine st_val (.slice A us.length c) (by kernel_rfl) (by kernel_rfl) ?_
        refine st_val (.int .i64 ((us.length : Nat) : Int)) (by kernel_rfl) (by kernel_rfl) ?_
        rcases Decidable.em ((((us.length : Nat) : Int) : Int) > 256) with c25 | c25
        ·
          refine st_val (.bool true) (by kernel_rfl) (bool_of (dec_t c25) (by kernel_rfl)) ?_
          refine st_val (.bool true) (by kernel_rfl) (by kernel_rfl) ?_
          refine wl_nil ?_
          refine hK6 _ _ ?_
          try clear hK6 K6
          refine wp_frame (a' := ⟨#[.agg (sqv s), .slice A us.length c, .int .i64 start, .pointer (some ⟨g2, 0, none⟩), undef, undef, .bool false, undef, undef, .agg (sqv s), .bool true, .bool false, .bool false, .int .i64 start, .bool false, .bool false, .bool false, .int .i64 start, .agg (sqv s), .int .i64 (capS s), .bool false, .bool false, .bool false, .slice A us.length c, .int .i64 ((us.length : Nat) : Int), .bool true, .bool true, undef, undef, undef, undef, undef, undef, undef, undef, undef, undef, undef, undef, undef, undef, undef, undef, undef, undef, undef, undef, undef, undef, undef, undef, undef], []⟩) (by kernel_rfl) ?_
          refine wp_cond_true (by kernel_rfl) ?_
          refine wp_seq_k (fun K13 hK13 => ?_)
          refine wl_region ?_
          refine st_val (.bool false) (by kernel_rfl) (by kernel_rfl) ?_
          refine wl_nil ?_
          refine hK13 _ _ ?_
          try clear hK13 K13
          refine wp_ret ?_
          refine th_ret ?_
          exact done1 6 (.bool false) (by kernel_rfl) (by kernel_rfl) (by kernel_rfl) ⟨by first | rw [prB_f (fun h => by obtain ⟨h1, h2, h3, h4, _⟩ := h; first | omega | exact Bool.noConfusion (hv.symm.trans h1))] | rw [prB_f (fun h => by have := h.2.2.2.2 k (by omega); unfold PU at this; omega)], M11.toBelow⟩
        ·
          refine st_val (.bool false) (by kernel_rfl) (bool_of (dec_f c25) (by kernel_rfl)) ?_
          refine st_val (.bool false) (by kernel_rfl) (by kernel_rfl) ?_
          refine wl_nil ?_
          refine hK6 _ _ ?_
          try clear hK6 K6
          refine wp_frame (a' := ⟨#[.agg (sqv s), .slice A us.length c, .int .i64 start, .pointer (some ⟨g2, 0, none⟩), undef, undef, .bool false, undef, undef, .agg (sqv s), .bool true, .bool false, .bool false, .int .i64 start, .bool false, .bool false, .bool false, .int .i64 start, .agg (sqv s), .int .i64 (capS s), .bool false, .bool false, .bool false, .slice A us.length c, .int .i64 ((us.length : Nat) : Int), .bool false, .bool false, undef, undef, undef, undef, undef, undef, undef, undef, undef, undef, undef, undef, undef, undef, undef, undef, undef, undef, undef, undef, undef, undef, undef, undef, undef], []⟩) (by kernel_rfl) ?_
          refine wp_cond_false (by kernel_rfl) ?_
          refine wp_skip ?_
          refine hK5 _ _ ?_
          try clear hK5 K5
          refine wp_seq_k (fun K14 hK14 => ?_)
          refine wp_seq_k (fun K15 hK15 => ?_)
          refine wl_region ?_
          refine st_val (.slice A us.length c) (by kernel_rfl) (by kernel_rfl) ?_
          refine st_val (.int .i64 ((us.length : Nat) : Int)) (by kernel_rfl) (by kernel_rfl) ?_
          refine st_val (.int .i64 0) (by kernel_rfl) (by kernel_rfl) ?_
          refine wl_nil ?_
          refine hK15 _ _ ?_
          try clear hK15 K15
          refine wp_block ?_
          refine wp_loop_ghost (fun gn a' w' => ∃ (k : Nat) (u16 : Nat → Value), ((k ≤ us.length ∧ ∀ j, j < k → PU (us.getD j u0)) ∧ Mem NoS w w' [(g2, .cells (sqv s) 26 (0, 0))]) ∧ gn = us.length - k ∧ a' = ⟨#[.agg (sqv s), .slice A us.length c, .int .i64 start, .pointer (some ⟨g2, 0, none⟩), undef, undef, (u16 6), undef, (u16 8), .agg (sqv s), .bool true, .bool false, .bool false, .int .i64 start, .bool false, .bool false, .bool false, .int .i64 start, .agg (sqv s), .int .i64 (capS s), .bool false, .bool false, .bool false, .slice A us.length c, .int .i64 ((us.length : Nat) : Int), .bool false, .bool false, .slice A us.length c, .int .i64 ((us.length : Nat) : Int), .int .i64 (k : Int), (u16 30), (u16 31), (u16 32), (u16 33), (u16 34), (u16 35), (u16 36), (u16 37), (u16 38), (u16 39), (u16 40), (u16 41), (u16 42), (u16 43), (u16 44), (u16 45), (u16 46), (u16 47), (u16 48), (u16 49), (u16 50), (u16 51)], []⟩) _ ⟨0, (fun zz => Array.getD #[.agg (sqv s), .slice A us.length c, .int .i64 start, .pointer (some ⟨g2, 0, none⟩), undef, undef, .bool false, undef, undef, .agg (sqv s), .bool true, .bool false, .bool false, .int .i64 start, .bool false, .bool false, .bool false, .int .i64 start, .agg (sqv s), .int .i64 (capS s), .bool false, .bool false, .bool false, .slice A us.length c, .int .i64 ((us.length : Nat) : Int), .bool false, .bool false, .slice A us.length c, .int .i64 ((us.length : Nat) : Int), .int .i64 0, undef, undef, undef, undef, undef, undef, undef, undef, undef, undef, undef, undef, undef, undef, undef, undef, undef, undef, undef, undef, undef, undef] zz undef), ⟨⟨by omega, fun j hj => by omega⟩, M11⟩, rfl, (by kernel_rfl)⟩ ?_
          rintro gn _ W17 ⟨k, u16, ⟨⟨rk, hk⟩, M18⟩, rfl, rfl⟩
          refine wp_seq_k (fun K19 hK19 => ?_)
          refine wl_region ?_
          rcases Decidable.em (((k : Int) : Int) < ((us.length : Nat) : Int)) with c30 | c30
          ·
            refine st_val (.bool true) (by kernel_rfl) (bool_of (dec_t c30) (by kernel_rfl)) ?_
            refine wl_nil ?_
            refine hK19 _ _ ?_
            try clear hK19 K19
            refine wp_seq_k (fun K20 hK20 => ?_)
            refine wp_cond_true (by kernel_rfl) ?_
            refine wp_skip ?_
            refine hK20 _ _ ?_
            try clear hK20 K20
            refine wp_seq_k (fun K21 hK21 => ?_)
            refine wp_block ?_
            refine wp_seq_k (fun K22 hK22 => ?_)
            refine wl_region ?_
            obtain ⟨b23, o24, eA25⟩ := RdK.addr (hr.keep M18.keep (fun _ _ h => h)) (j := k * 4) (by rw [flat_len]; omega)
            refine st_val (.pointer (some ⟨b23, o24 + k * 4, none⟩)) (by kernel_rfl) (run_indexSliceA 36 (.tmp 27) (.tmp 29) rfl A ⟨b23, o24, none⟩ eA25 us.length c .i64 k (by kernel_rfl) (by kernel_rfl) Try.underlying36 4 (by kernel_rfl) (by omega) ⟨b23, o24 + k * 4, none⟩ (addr_atK _ _ _ _)) ?_
            refine st_val (.agg #[.int .i64 ((us.getD k u0).first), .int .i64 ((us.getD k u0).last), .int .i64 ((us.getD k u0).bits), .int .i64 ((us.getD k u0).fields)]) (by kernel_rfl) (run_load_mid 60 (.tmp 31) rfl b23 (o24 + k * 4) (by kernel_rfl) [.int .i64 ((us.getD k u0).first), .int .i64 ((us.getD k u0).last), .int .i64 ((us.getD k u0).bits), .int .i64 ((us.getD k u0).fields)] _ ((hr.keep M18.keep (fun _ _ h => h)).range eA25 (flat_row us k (by omega))) Try.underlying60 rfl (by kernel_rfl)) ?_
            refine st_alloc M18 (.cells #[.int .i64 0, .int .i64 0, .int .i64 0, .int .i64 0] 60 (0, 0)) (by kernel_rfl) (by kernel_rfl) ?_
            intro g26 W27 M28
            refine st_storeRow M28 0 rfl 60 (.tmp 8) (.tmp 32) (by rfl) #[.int .i64 ((us.getD k u0).first), .int .i64 ((us.getD k u0).last), .int .i64 ((us.getD k u0).bits), .int .i64 ((us.getD k u0).fields)] (by kernel_rfl) (by kernel_rfl) (by kernel_rfl) (by rfl) (by kernel_rfl) (by kernel_rfl) [(g26, .cells #[.int .i64 ((us.getD k u0).first), .int .i64 ((us.getD k u0).last), .int .i64 ((us.getD k u0).bits), .int .i64 ((us.getD k u0).fields)] 60 (0, 0)), (g2, .cells (sqv s) 26 (0, 0))] rfl ?_
            intro W29 M30
            refine wl_nil ?_
            refine hK22 _ _ ?_
            try clear hK22 K22
            refine wp_seq_k (fun K31 hK31 => ?_)
            refine wl_region ?_
            refine st_val (.pointer (some ⟨g26, 2, none⟩)) (by kernel_rfl) (by kernel_rfl) ?_
            refine st_val (.int .i64 ((us.getD k u0).bits)) (by kernel_rfl) (run_load_cell 2 (.tmp 33) rfl ⟨g26, 2, none⟩ (by kernel_rfl) _ (M30.cell 0 rfl 2 _ rfl) (by kernel_rfl)) ?_
            rcases Decidable.em (((us.getD k u0).bits : Int) < 0) with c35 | c35
            ·
              refine st_val (.bool true) (by kernel_rfl) (bool_of (dec_t c35) (by kernel_rfl)) ?_
              refine st_val (.bool true) (by kernel_rfl) (by kernel_rfl) ?_
              refine st_skip (by kernel_rfl) ?_
              refine st_skip (by kernel_rfl) ?_
              refine st_skip (by kernel_rfl) ?_
              refine st_val (.bool true) (by kernel_rfl) (by kernel_rfl) ?_
              refine st_val (.bool true) (by kernel_rfl) (by kernel_rfl) ?_
              refine st_skip (by kernel_rfl) ?_
              refine st_skip (by kernel_rfl) ?_
              refine st_skip (by kernel_rfl) ?_
              refine st_skip (by kernel_rfl) ?_
              refine st_skip (by kernel_rfl) ?_
              refine st_skip (by kernel_rfl) ?_
              refine st_skip (by kernel_rfl) ?_
              refine st_skip (by kernel_rfl) ?_
              refine st_val (.bool true) (by kernel_rfl) (by kernel_rfl) ?_
              refine wl_nil ?_
              refine hK31 _ _ ?_
              try clear hK31 K31
              refine wp_frame (a' := ⟨#[.agg (sqv s), .slice A us.length c, .int .i64 start, .pointer (some ⟨g2, 0, none⟩), undef, undef, (u16 6), undef, .pointer (some ⟨g26, 0, none⟩), .agg (sqv s), .bool true, .bool false, .bool false, .int .i64 start, .bool false, .bool false, .bool false, .int .i64 start, .agg (sqv s), .int .i64 (capS s), .bool false, .bool false, .bool false, .slice A us.length c, .int .i64 ((us.length : Nat) : Int), .bool false, .bool false, .slice A us.length c, .int .i64 ((us.length : Nat) : Int), .int .i64 (k : Int), .bool true, .pointer (some ⟨b23, o24 + k * 4, none⟩), .agg #[.int .i64 ((us.getD k u0).first), .int .i64 ((us.getD k u0).last), .int .i64 ((us.getD k u0).bits), .int .i64 ((us.getD k u0).fields)], .pointer (some ⟨g26, 2, none⟩), .int .i64 ((us.getD k u0).bits), .bool true, .bool true, undef, undef, undef, .bool true, .bool true, undef, undef, undef, undef, undef, undef, undef, undef, .bool true, (u16 51)], []⟩) (by kernel_rfl) ?_
              refine wp_cond_true (by kernel_rfl) ?_
              refine wp_seq_k (fun K32 hK32 => ?_)
              refine wl_region ?_
              refine st_val (.bool false) (by kernel_rfl) (by kernel_rfl) ?_
              refine wl_nil ?_
              refine hK32 _ _ ?_
              try clear hK32 K32
              refine wp_ret ?_
              refine blk_ret ?_
              refine th_ret ?_
              refine th_ret ?_
              refine blk_ret ?_
              refine th_ret ?_
              exact done1 6 (.bool false) (by kernel_rfl) (by kernel_rfl) (by kernel_rfl) ⟨by first | rw [prB_f (fun h => by obtain ⟨h1, h2, h3, h4, _⟩ := h; first | omega | exact Bool.noConfusion (hv.symm.trans h1))] | rw [prB_f (fun h => by have := h.2.2.2.2 k (by omega); unfold PU at this; omega)], M30.toBelow⟩
            ·
              refine st_val (.bool false) (by kernel_rfl) (bool_of (dec_f c35) (by kernel_rfl)) ?_
              refine st_val (.bool false) (by kernel_rfl) (by kernel_rfl) ?_
              refine st_val (.pointer (some ⟨g26, 2, none⟩)) (by kernel_rfl) (by kernel_rfl) ?_
              refine st_val (.int .i64 ((us.getD k u0).bits)) (by kernel_rfl) (run_load_cell 2 (.tmp 37) rfl ⟨g26, 2, none⟩ (by kernel_rfl) _ (M30.cell 0 rfl 2 _ rfl) (by kernel_rfl)) ?_
              rcases Decidable.em (((us.getD k u0).bits : Int) > 8388608) with c39 | c39
              ·
                refine st_val (.bool true) (by kernel_rfl) (bool_of (dec_t c39) (by kernel_rfl)) ?_
                refine st_val (.bool true) (by kernel_rfl) (by kernel_rfl) ?_
                refine st_val (.bool true) (by kernel_rfl) (by kernel_rfl) ?_
                refine st_skip (by kernel_rfl) ?_
                refine st_skip (by kernel_rfl) ?_
                refine st_skip (by kernel_rfl) ?_
                refine st_skip (by kernel_rfl) ?_
                refine st_skip (by kernel_rfl) ?_
                refine st_skip (by kernel_rfl) ?_
                refine st_skip (by kernel_rfl) ?_
                refine st_skip (by kernel_rfl) ?_
                refine st_val (.bool true) (by kernel_rfl) (by kernel_rfl) ?_
                refine wl_nil ?_
                refine hK31 _ _ ?_
                try clear hK31 K31
                refine wp_frame (a' := ⟨#[.agg (sqv s), .slice A us.length c, .int .i64 start, .pointer (some ⟨g2, 0, none⟩), undef, undef, (u16 6), undef, .pointer (some ⟨g26, 0, none⟩), .agg (sqv s), .bool true, .bool false, .bool false, .int .i64 start, .bool false, .bool false, .bool false, .int .i64 start, .agg (sqv s), .int .i64 (capS s), .bool false, .bool false, .bool false, .slice A us.length c, .int .i64 ((us.length : Nat) : Int), .bool false, .bool false, .slice A us.length c, .int .i64 ((us.length : Nat) : Int), .int .i64 (k : Int), .bool true, .pointer (some ⟨b23, o24 + k * 4, none⟩), .agg #[.int .i64 ((us.getD k u0).first), .int .i64 ((us.getD k u0).last), .int .i64 ((us.getD k u0).bits), .int .i64 ((us.getD k u0).fields)], .pointer (some ⟨g26, 2, none⟩), .int .i64 ((us.getD k u0).bits), .bool false, .bool false, .pointer (some ⟨g26, 2, none⟩), .int .i64 ((us.getD k u0).bits), .bool true, .bool true, .bool true, undef, undef, undef, undef, undef, undef, undef, undef, .bool true, (u16 51)], []⟩) (by kernel_rfl) ?_
                refine wp_cond_true (by kernel_rfl) ?_
                refine wp_seq_k (fun K33 hK33 => ?_)
                refine wl_region ?_
                refine st_val (.bool false) (by kernel_rfl) (by kernel_rfl) ?_
                refine wl_nil ?_
                refine hK33 _ _ ?_
                try clear hK33 K33
                refine wp_ret ?_
                refine blk_ret ?_
                refine th_ret ?_
                refine th_ret ?_
                refine blk_ret ?_
                refine th_ret ?_
                exact done1 6 (.bool false) (by kernel_rfl) (by kernel_rfl) (by kernel_rfl) ⟨by first | rw [prB_f (fun h => by obtain ⟨h1, h2, h3, h4, _⟩ := h; first | omega | exact Bool.noConfusion (hv.symm.trans h1))] | rw [prB_f (fun h => by have := h.2.2.2.2 k (by omega); unfold PU at this; omega)], M30.toBelow⟩
              ·
                refine st_val (.bool false) (by kernel_rfl) (bool_of (dec_f c39) (by kernel_rfl)) ?_
                refine st_val (.bool false) (by kernel_rfl) (by kernel_rfl) ?_
                refine st_val (.bool false) (by kernel_rfl) (by kernel_rfl) ?_
                refine st_val (.pointer (some ⟨g26, 3, none⟩)) (by kernel_rfl) (by kernel_rfl) ?_
                refine st_val (.int .i64 ((us.getD k u0).fields)) (by kernel_rfl) (run_load_cell 3 (.tmp 42) rfl ⟨g26, 3, none⟩ (by kernel_rfl) _ (M30.cell 0 rfl 3 _ rfl) (by kernel_rfl)) ?_
                rcases Decidable.em (((us.getD k u0).fields : Int) = 2) with c44 | c44
                ·
                  refine st_val (.bool false) (by kernel_rfl) (bool_of (neq_f c44) (by kernel_rfl)) ?_
                  refine st_val (.bool false) (by kernel_rfl) (by kernel_rfl) ?_
                  refine st_skip (by kernel_rfl) ?_
                  refine st_skip (by kernel_rfl) ?_
                  refine st_skip (by kernel_rfl) ?_
                  refine st_val (.bool false) (by kernel_rfl) (by kernel_rfl) ?_
                  refine st_val (.bool false) (by kernel_rfl) (by kernel_rfl) ?_
                  refine wl_nil ?_
                  refine hK31 _ _ ?_
                  try clear hK31 K31
                  refine wp_frame (a' := ⟨#[.agg (sqv s), .slice A us.length c, .int .i64 start, .pointer (some ⟨g2, 0, none⟩), undef, undef, (u16 6), undef, .pointer (some ⟨g26, 0, none⟩), .agg (sqv s), .bool true, .bool false, .bool false, .int .i64 start, .bool false, .bool false, .bool false, .int .i64 start, .agg (sqv s), .int .i64 (capS s), .bool false, .bool false, .bool false, .slice A us.length c, .int .i64 ((us.length : Nat) : Int), .bool false, .bool false, .slice A us.length c, .int .i64 ((us.length : Nat) : Int), .int .i64 (k : Int), .bool true, .pointer (some ⟨b23, o24 + k * 4, none⟩), .agg #[.int .i64 ((us.getD k u0).first), .int .i64 ((us.getD k u0).last), .int .i64 ((us.getD k u0).bits), .int .i64 ((us.getD k u0).fields)], .pointer (some ⟨g26, 2, none⟩), .int .i64 ((us.getD k u0).bits), .bool false, .bool false, .pointer (some ⟨g26, 2, none⟩), .int .i64 ((us.getD k u0).bits), .bool false, .bool false, .bool false, .pointer (some ⟨g26, 3, none⟩), .int .i64 ((us.getD k u0).fields), .bool false, .bool false, undef, undef, undef, .bool false, .bool false, (u16 51)], []⟩) (by kernel_rfl) ?_
                  refine wp_cond_false (by kernel_rfl) ?_
                  refine wp_skip ?_
                  refine blk_normal ?_
                  refine hK21 _ _ ?_
                  try clear hK21 K21
                  refine wl_region ?_
                  refine st_val (.int .i64 ((k : Int) + 1)) (by kernel_rfl) (i64_of (by omega) (by kernel_rfl)) ?_
                  refine st_val (.int .i64 ((k : Int) + 1)) (by kernel_rfl) (by kernel_rfl) ?_
                  refine wl_nil ?_
                  refine th_normal ?_
                  exact ⟨_, by omega, (k + 1), (fun zz => Array.getD #[.agg (sqv s), .slice A us.length c, .int .i64 start, .pointer (some ⟨g2, 0, none⟩), undef, undef, (u16 6), undef, .pointer (some ⟨g26, 0, none⟩), .agg (sqv s), .bool true, .bool false, .bool false, .int .i64 start, .bool false, .bool false, .bool false, .int .i64 start, .agg (sqv s), .int .i64 (capS s), .bool false, .bool false, .bool false, .slice A us.length c, .int .i64 ((us.length : Nat) : Int), .bool false, .bool false, .slice A us.length c, .int .i64 ((us.length : Nat) : Int), .int .i64 ((k : Int) + 1), .bool true, .pointer (some ⟨b23, o24 + k * 4, none⟩), .agg #[.int .i64 ((us.getD k u0).first), .int .i64 ((us.getD k u0).last), .int .i64 ((us.getD k u0).bits), .int .i64 ((us.getD k u0).fields)], .pointer (some ⟨g26, 2, none⟩), .int .i64 ((us.getD k u0).bits), .bool false, .bool false, .pointer (some ⟨g26, 2, none⟩), .int .i64 ((us.getD k u0).bits), .bool false, .bool false, .bool false, .pointer (some ⟨g26, 3, none⟩), .int .i64 ((us.getD k u0).fields), .bool false, .bool false, undef, undef, undef, .bool false, .bool false, .int .i64 ((k : Int) + 1)] zz undef), ⟨⟨by omega, fun j hj => by by_cases e : j = k; subst e; exact ⟨by omega, by omega, by omega⟩; exact hk j (by omega)⟩, (M30.sub (((List.Sublist.refl []).cons_cons _).cons _))⟩, rfl, (by kernel_rfl)⟩
                ·
                  refine st_val (.bool true) (by kernel_rfl) (bool_of (neq_t c44) (by kernel_rfl)) ?_
                  refine st_val (.bool true) (by kernel_rfl) (by kernel_rfl) ?_
                  refine st_val (.pointer (some ⟨g26, 3, none⟩)) (by kernel_rfl) (by kernel_rfl) ?_
                  refine st_val (.int .i64 ((us.getD k u0).fields)) (by kernel_rfl) (run_load_cell 3 (.tmp 46) rfl ⟨g26, 3, none⟩ (by kernel_rfl) _ (M30.cell 0 rfl 3 _ rfl) (by kernel_rfl)) ?_
                  rcases Decidable.em (((us.getD k u0).fields : Int) = 3) with c48 | c48
                  ·
                    refine st_val (.bool false) (by kernel_rfl) (bool_of (neq_f c48) (by kernel_rfl)) ?_
                    refine st_val (.bool false) (by kernel_rfl) (by kernel_rfl) ?_
                    refine st_val (.bool false) (by kernel_rfl) (by kernel_rfl) ?_
                    refine wl_nil ?_
                    refine hK31 _ _ ?_
                    try clear hK31 K31
                    refine wp_frame (a' := ⟨#[.agg (sqv s), .slice A us.length c, .int .i64 start, .pointer (some ⟨g2, 0, none⟩), undef, undef, (u16 6), undef, .pointer (some ⟨g26, 0, none⟩), .agg (sqv s), .bool true, .bool false, .bool false, .int .i64 start, .bool false, .bool false, .bool false, .int .i64 start, .agg (sqv s), .int .i64 (capS s), .bool false, .bool false, .bool false, .slice A us.length c, .int .i64 ((us.length : Nat) : Int), .bool false, .bool false, .slice A us.length c, .int .i64 ((us.length : Nat) : Int), .int .i64 (k : Int), .bool true, .pointer (some ⟨b23, o24 + k * 4, none⟩), .agg #[.int .i64 ((us.getD k u0).first), .int .i64 ((us.getD k u0).last), .int .i64 ((us.getD k u0).bits), .int .i64 ((us.getD k u0).fields)], .pointer (some ⟨g26, 2, none⟩), .int .i64 ((us.getD k u0).bits), .bool false, .bool false, .pointer (some ⟨g26, 2, none⟩), .int .i64 ((us.getD k u0).bits), .bool false, .bool false, .bool false, .pointer (some ⟨g26, 3, none⟩), .int .i64 ((us.getD k u0).fields), .bool true, .bool true, .pointer (some ⟨g26, 3, none⟩), .int .i64 ((us.getD k u0).fields), .bool false, .bool false, .bool false, (u16 51)], []⟩) (by kernel_rfl) ?_
                    refine wp_cond_false (by kernel_rfl) ?_
                    refine wp_skip ?_
                    refine blk_normal ?_
                    refine hK21 _ _ ?_
                    try clear hK21 K21
                    refine wl_region ?_
                    refine st_val (.int .i64 ((k : Int) + 1)) (by kernel_rfl) (i64_of (by omega) (by kernel_rfl)) ?_
                    refine st_val (.int .i64 ((k : Int) + 1)) (by kernel_rfl) (by kernel_rfl) ?_
                    refine wl_nil ?_
                    refine th_normal ?_
                    exact ⟨_, by omega, (k + 1), (fun zz => Array.getD #[.agg (sqv s), .slice A us.length c, .int .i64 start, .pointer (some ⟨g2, 0, none⟩), undef, undef, (u16 6), undef, .pointer (some ⟨g26, 0, none⟩), .agg (sqv s), .bool true, .bool false, .bool false, .int .i64 start, .bool false, .bool false, .bool false, .int .i64 start, .agg (sqv s), .int .i64 (capS s), .bool false, .bool false, .bool false, .slice A us.length c, .int .i64 ((us.length : Nat) : Int), .bool false, .bool false, .slice A us.length c, .int .i64 ((us.length : Nat) : Int), .int .i64 ((k : Int) + 1), .bool true, .pointer (some ⟨b23, o24 + k * 4, none⟩), .agg #[.int .i64 ((us.getD k u0).first), .int .i64 ((us.getD k u0).last), .int .i64 ((us.getD k u0).bits), .int .i64 ((us.getD k u0).fields)], .pointer (some ⟨g26, 2, none⟩), .int .i64 ((us.getD k u0).bits), .bool false, .bool false, .pointer (some ⟨g26, 2, none⟩), .int .i64 ((us.getD k u0).bits), .bool false, .bool false, .bool false, .pointer (some ⟨g26, 3, none⟩), .int .i64 ((us.getD k u0).fields), .bool true, .bool true, .pointer (some ⟨g26, 3, none⟩), .int .i64 ((us.getD k u0).fields), .bool false, .bool false, .bool false, .int .i64 ((k : Int) + 1)] zz undef), ⟨⟨by omega, fun j hj => by by_cases e : j = k; subst e; exact ⟨by omega, by omega, by omega⟩; exact hk j (by omega)⟩, (M30.sub (((List.Sublist.refl []).cons_cons _).cons _))⟩, rfl, (by kernel_rfl)⟩
                  ·
                    refine st_val (.bool true) (by kernel_rfl) (bool_of (neq_t c48) (by kernel_rfl)) ?_
                    refine st_val (.bool true) (by kernel_rfl) (by kernel_rfl) ?_
                    refine st_val (.bool true) (by kernel_rfl) (by kernel_rfl) ?_
                    refine wl_nil ?_
                    refine hK31 _ _ ?_
                    try clear hK31 K31
                    refine wp_frame (a' := ⟨#[.agg (sqv s), .slice A us.length c, .int .i64 start, .pointer (some ⟨g2, 0, none⟩), undef, undef, (u16 6), undef, .pointer (some ⟨g26, 0, none⟩), .agg (sqv s), .bool true, .bool false, .bool false, .int .i64 start, .bool false, .bool false, .bool false, .int .i64 start, .agg (sqv s), .int .i64 (capS s), .bool false, .bool false, .bool false, .slice A us.length c, .int .i64 ((us.length : Nat) : Int), .bool false, .bool false, .slice A us.length c, .int .i64 ((us.length : Nat) : Int), .int .i64 (k : Int), .bool true, .pointer (some ⟨b23, o24 + k * 4, none⟩), .agg #[.int .i64 ((us.getD k u0).first), .int .i64 ((us.getD k u0).last), .int .i64 ((us.getD k u0).bits), .int .i64 ((us.getD k u0).fields)], .pointer (some ⟨g26, 2, none⟩), .int .i64 ((us.getD k u0).bits), .bool false, .bool false, .pointer (some ⟨g26, 2, none⟩), .int .i64 ((us.getD k u0).bits), .bool false, .bool false, .bool false, .pointer (some ⟨g26, 3, none⟩), .int .i64 ((us.getD k u0).fields), .bool true, .bool true, .pointer (some ⟨g26, 3, none⟩), .int .i64 ((us.getD k u0).fields), .bool true, .bool true, .bool true, (u16 51)], []⟩) (by kernel_rfl) ?_
                    refine wp_cond_true (by kernel_rfl) ?_
                    refine wp_seq_k (fun K34 hK34 => ?_)
                    refine wl_region ?_
                    refine st_val (.bool false) (by kernel_rfl) (by kernel_rfl) ?_
                    refine wl_nil ?_
                    refine hK34 _ _ ?_
                    try clear hK34 K34
                    refine wp_ret ?_
                    refine blk_ret ?_
                    refine th_ret ?_
                    refine th_ret ?_
                    refine blk_ret ?_
                    refine th_ret ?_
                    exact done1 6 (.bool false) (by kernel_rfl) (by kernel_rfl) (by kernel_rfl) ⟨by first | rw [prB_f (fun h => by obtain ⟨h1, h2, h3, h4, _⟩ := h; first | omega | exact Bool.noConfusion (hv.symm.trans h1))] | rw [prB_f (fun h => by have := h.2.2.2.2 k (by omega); unfold PU at this; omega)], M30.toBelow⟩
          ·
            refine st_val (.bool false) (by kernel_rfl) (bool_of (dec_f c30) (by kernel_rfl)) ?_
            refine wl_nil ?_
            refine hK19 _ _ ?_
            try clear hK19 K19
            refine wp_seq_k (fun K35 hK35 => ?_)
            refine wp_cond_false (by kernel_rfl) ?_
            refine wp_exit ?_
            refine th_exit ?_
            refine th_exit ?_
            refine blk_exit ?_
            refine hK14 _ _ ?_
            try clear hK14 K14
            refine wp_seq_k (fun K36 hK36 => ?_)
            refine wl_region ?_
            refine st_val (.bool true) (by kernel_rfl) (by kernel_rfl) ?_
            refine wl_nil ?_
            refine hK36 _ _ ?_
            try clear hK36 K36
            refine wp_ret ?_
            exact done1 6 (.bool true) (by kernel_rfl) (by kernel_rfl) (by kernel_rfl) ⟨by rw [prB_t ⟨hv, by omega, by omega, by omega, fun j hj => hk j (by omega)⟩], M18.toBelow⟩
  ·
    refine st_callB M4 (.bool false) (by kernel_rfl) (args := #[.agg (sqv s)]) (run_value_call 30 #[(Operand.tmp 9)] _ rfl Try.func30 (by kernel_rfl) (by kernel_rfl) _ (by kernel_rfl)) ((by have := vseq_walk W3 s hs; rw [hv] at this; exact this)) ?_
    intro W37 M38
    refine st_val (.bool true) (by kernel_rfl) (by kernel_rfl) ?_
    refine st_val (.bool true) (by kernel_rfl) (by kernel_rfl) ?_
    refine st_skip (by kernel_rfl) ?_
    refine st_skip (by kernel_rfl) ?_
    refine st_val (.bool true) (by kernel_rfl) (by kernel_rfl) ?_
    refine st_val (.bool true) (by kernel_rfl) (by kernel_rfl) ?_
    refine st_skip (by kernel_rfl) ?_
    refine st_skip (by kernel_rfl) ?_
    refine st_skip (by kernel_rfl) ?_
    refine st_skip (by kernel_rfl) ?_
    refine st_val (.bool true) (by kernel_rfl) (by kernel_rfl) ?_
    refine st_val (.bool true) (by kernel_rfl) (by kernel_rfl) ?_
    refine st_skip (by kernel_rfl) ?_
    refine st_skip (by kernel_rfl) ?_
    refine st_skip (by kernel_rfl) ?_
    refine st_val (.bool true) (by kernel_rfl) (by kernel_rfl) ?_
    refine wl_nil ?_
    refine hK6 _ _ ?_
    try clear hK6 K6
    refine wp_frame (a' := ⟨#[.agg (sqv s), .slice A us.length c, .int .i64 start, .pointer (some ⟨g2, 0, none⟩), undef, undef, .bool false, undef, undef, .agg (sqv s), .bool false, .bool true, .bool true, undef, undef, .bool true, .bool true, undef, undef, undef, undef, .bool true, .bool true, undef, undef, undef, .bool true, undef, undef, undef, undef, undef, undef, undef, undef, undef, undef, undef, undef, undef, undef, undef, undef, undef, undef, undef, undef, undef, undef, undef, undef, undef], []⟩) (by kernel_rfl) ?_
    refine wp_cond_true (by kernel_rfl) ?_
    refine wp_seq_k (fun K39 hK39 => ?_)
    refine wl_region ?_
    refine st_val (.bool false) (by kernel_rfl) (by kernel_rfl) ?_
    refine wl_nil ?_
    refine hK39 _ _ ?_
    try clear hK39 K39
    refine wp_ret ?_
    refine th_ret ?_
    exact done1 6 (.bool false) (by kernel_rfl) (by kernel_rfl) (by kernel_rfl) ⟨by first | rw [prB_f (fun h => by obtain ⟨h1, h2, h3, h4, _⟩ := h; first | omega | exact Bool.noConfusion (hv.symm.trans h1))] | rw [prB_f (fun h => by have := h.2.2.2.2 k (by omega); unfold PU at this; omega)], M38.toBelow⟩
set_option maxHeartbeats 4000000 in
set_option maxRecDepth 100000 in
theorem refProper_walk (w : World) (s : SeqD) (hs : SOk s) (v : Value) (us : List UnitD) (hr : RdK w v us.length (flat us)) (start : Int) : Calls Try.prog 36 #[.agg (sqv s), v, .int .i64 start] w fun e w' => e = .returned (.bool (prB s us start)) ∧ Below w.heap.size w w' := by
  obtain ⟨A, c, rfl, hc⟩ := hr.shape
  refine calls_of_wp Try.func36 rfl ?_
  refine wp_frame (a' := ⟨#[.agg (sqv s), .slice A us.length c, .int .i64 start, undef, undef, undef, undef, undef, undef, undef, undef, undef, undef, undef, undef, undef, undef, undef, undef, undef, undef, undef, undef, undef, undef, undef, undef, undef, undef, undef, undef, undef, undef, undef, undef, undef, undef, undef, undef, undef, undef, undef, undef, undef, undef, undef, undef, undef, undef, undef, undef, undef, undef, undef, undef, undef, undef, undef, undef, undef, undef, undef], []⟩) (by kernel_rfl) ?_
  have M0 : Mem NoS w w [] := Mem.start _ _
  refine wp_seq_k (fun K1 hK1 => ?_)
  refine wl_region ?_
  refine st_alloc M0 (.cells (sqv s) 26 (0, 0)) (by kernel_rfl) (by kernel_rfl) ?_
  intro g2 W3 M4
  refine st_val (.bool false) (by kernel_rfl) (by kernel_rfl) ?_
  refine wl_nil ?_
  refine hK1 _ _ ?_
  try clear hK1 K1
  refine wp_seq_k (fun K5 hK5 => ?_)
  refine wp_seq_k (fun K6 hK6 => ?_)
  refine wl_region ?_
  refine st_val (.agg (sqv s)) (by kernel_rfl) (run_load_row 26 (.tmp 3) rfl g2 (by kernel_rfl) 26 (sqv s) (0, 0) _ (M4.get 0 rfl) Try.underlying26 rfl (infoSq hs.la hs.lb)) ?_
  rcases Bool.eq_false_or_eq_true (sB s) with hv | hv
  ·
    refine st_callB M4 (.bool true) (by kernel_rfl) (args := #[.agg (sqv s)]) (run_value_call 28 #[(Operand.tmp 8)] _ rfl Try.func28 (by kernel_rfl) (by kernel_rfl) _ (by kernel_rfl)) ((by have := refVseq_walk W3 s hs; rw [hv] at this; exact this)) ?_
    intro W7 M8
    obtain ⟨vn1, vn2, vd1, vd2, vb1, vb2, vu1, vu2, vP, vQ, vR⟩ := SV_facts hv
    refine st_val (.bool false) (by kernel_rfl) (by kernel_rfl) ?_
    refine st_val (.bool false) (by kernel_rfl) (by kernel_rfl) ?_
    refine st_val (.int .i64 start) (by kernel_rfl) (by kernel_rfl) ?_
    rcases Decidable.em ((start : Int) < 0) with c13 | c13
    ·
      refine st_val (.bool true) (by kernel_rfl) (bool_of (dec_t c13) (by kernel_rfl)) ?_
      refine st_val (.bool true) (by kernel_rfl) (by kernel_rfl) ?_
      refine st_val (.bool true) (by kernel_rfl) (by kernel_rfl) ?_
      refine st_skip (by kernel_rfl) ?_
      refine st_skip (by kernel_rfl) ?_
      refine st_skip (by kernel_rfl) ?_
      refine st_skip (by kernel_rfl) ?_
      refine st_val (.bool true) (by kernel_rfl) (by kernel_rfl) ?_
      refine st_val (.bool true) (by kernel_rfl) (by kernel_rfl) ?_
      refine st_skip (by kernel_rfl) ?_
      refine st_skip (by kernel_rfl) ?_
      refine st_skip (by kernel_rfl) ?_
      refine st_val (.bool true) (by kernel_rfl) (by kernel_rfl) ?_
      refine wl_nil ?_
      refine hK6 _ _ ?_
      try clear hK6 K6
      refine wp_frame (a' := ⟨#[.agg (sqv s), .slice A us.length c, .int .i64 start, .pointer (some ⟨g2, 0, none⟩), undef, undef, .bool false, undef, .agg (sqv s), .bool true, .bool false, .bool false, .int .i64 start, .bool true, .bool true, .bool true, undef, undef, undef, undef, .bool true, .bool true, undef, undef, undef, .bool true, undef, undef, undef, undef, undef, undef, undef, undef, undef, undef, undef, undef, undef, undef, undef, undef, undef, undef, undef, undef, undef, undef, undef, undef, undef, undef, undef, undef, undef, undef, undef, undef, undef, undef, undef, undef], []⟩) (by kernel_rfl) ?_
      refine wp_cond_true (by kernel_rfl) ?_
      refine wp_seq_k (fun K9 hK9 => ?_)
      refine wl_region ?_
      refine st_val (.bool false) (by kernel_rfl) (by kernel_rfl) ?_
      refine wl_nil ?_
      refine hK9 _ _ ?_
      try clear hK9 K9
      refine wp_ret ?_
      refine th_ret ?_
      exact done1 6 (.bool false) (by kernel_rfl) (by kernel_rfl) (by kernel_rfl) ⟨by first | rw [prB_f (fun h => by obtain ⟨h1, h2, h3, h4, _⟩ := h; first | omega | exact Bool.noConfusion (hv.symm.trans h1))] | rw [prB_f (fun h => by have := h.2.2.2.2 k (by omega); unfold PU at this; omega)], M8.toBelow⟩
    ·
      refine st_val (.bool false) (by kernel_rfl) (bool_of (dec_f c13) (by kernel_rfl)) ?_
      refine st_val (.bool false) (by kernel_rfl) (by kernel_rfl) ?_
      refine st_val (.bool false) (by kernel_rfl) (by kernel_rfl) ?_
      refine st_val (.int .i64 start) (by kernel_rfl) (by kernel_rfl) ?_
      refine st_val (.agg (sqv s)) (by kernel_rfl) (run_load_row 26 (.tmp 3) rfl g2 (by kernel_rfl) 26 (sqv s) (0, 0) _ (M8.get 0 rfl) Try.underlying26 rfl (infoSq hs.la hs.lb)) ?_
      refine st_callB M8 (.int .i64 (capS s)) (by kernel_rfl) (args := #[.agg (sqv s)]) (run_value_call 13 #[(Operand.tmp 17)] _ rfl Try.func13 (by kernel_rfl) (by kernel_rfl) _ (by kernel_rfl)) (refCap_walk W7 s hs) ?_
      intro W10 M11
      rcases Decidable.em ((start : Int) > capS s) with c19 | c19
      ·
        refine st_val (.bool true) (by kernel_rfl) (bool_of (dec_t c19) (by kernel_rfl)) ?_
        refine st_val (.bool true) (by kernel_rfl) (by kernel_rfl) ?_
        refine st_val (.bool true) (by kernel_rfl) (by kernel_rfl) ?_
        refine st_skip (by kernel_rfl) ?_
        refine st_skip (by kernel_rfl) ?_
        refine st_skip (by kernel_rfl) ?_
        refine st_val (.bool true) (by kernel_rfl) (by kernel_rfl) ?_
        refine wl_nil ?_
        refine hK6 _ _ ?_
        try clear hK6 K6
        refine wp_frame (a' := ⟨#[.agg (sqv s), .slice A us.length c, .int .i64 start, .pointer (some ⟨g2, 0, none⟩), undef, undef, .bool false, undef, .agg (sqv s), .bool true, .bool false, .bool false, .int .i64 start, .bool false, .bool false, .bool false, .int .i64 start, .agg (sqv s), .int .i64 (capS s), .bool true, .bool true, .bool true, undef, undef, undef, .bool true, undef, undef, undef, undef, undef, undef, undef, undef, undef, undef, undef, undef, undef, undef, undef, undef, undef, undef, undef, undef, undef, undef, undef, undef, undef, undef, undef, undef, undef, undef, undef, undef, undef, undef, undef, undef], []⟩) (by kernel_rfl) ?_
        refine wp_cond_true (by kernel_rfl) ?_
        refine wp_seq_k (fun K12 hK12 => ?_)
        refine wl_region ?_
        refine st_val (.bool false) (by kernel_rfl) (by kernel_rfl) ?_
        refine wl_nil ?_
        refine hK12 _ _ ?_
        try clear hK12 K12
        refine wp_ret ?_
        refine th_ret ?_
        exact done1 6 (.bool false) (by kernel_rfl) (by kernel_rfl) (by kernel_rfl) ⟨by first | rw [prB_f (fun h => by obtain ⟨h1, h2, h3, h4, _⟩ := h; first | omega | exact Bool.noConfusion (hv.symm.trans h1))] | rw [prB_f (fun h => by have := h.2.2.2.2 k (by omega); unfold PU at this; omega)], M11.toBelow⟩
      ·
        refine st_val (.bool false) (by kernel_rfl) (bool_of (dec_f c19) (by kernel_rfl)) ?_
        refine st_val (.bool false) (by kernel_rfl) (by kernel_rfl) ?_
        refine st_val (.bool false) (by kernel_rfl) (by kernel_rfl) ?_
        refine st_val (.slice A us.length c) (by kernel_rfl) (by kernel_rfl) ?_
        refine st_val (.int .i64 ((us.length : Nat) : Int)) (by kernel_rfl) (by kernel_rfl) ?_
        rcases Decidable.em ((((us.length : Nat) : Int) : Int) > 256) with c24 | c24
        ·
          refine st_val (.bool true) (by kernel_rfl) (bool_of (dec_t c24) (by kernel_rfl)) ?_
          refine st_val (.bool true) (by kernel_rfl) (by kernel_rfl) ?_
          refine wl_nil ?_
          refine hK6 _ _ ?_
          try clear hK6 K6
          refine wp_frame (a' := ⟨#[.agg (sqv s), .slice A us.length c, .int .i64 start, .pointer (some ⟨g2, 0, none⟩), undef, undef, .bool false, undef, .agg (sqv s), .bool true, .bool false, .bool false, .int .i64 start, .bool false, .bool false, .bool false, .int .i64 start, .agg (sqv s), .int .i64 (capS s), .bool false, .bool false, .bool false, .slice A us.length c, .int .i64 ((us.length : Nat) : Int), .bool true, .bool true, undef, undef, undef, undef, undef, undef, undef, undef, undef, undef, undef, undef, undef, undef, undef, undef, undef, undef, undef, undef, undef, undef, undef, undef, undef, undef, undef, undef, undef, undef, undef, undef, undef, undef, undef, undef], []⟩) (by kernel_rfl) ?_
          refine wp_cond_true (by kernel_rfl) ?_
          refine wp_seq_k (fun K13 hK13 => ?_)
          refine wl_region ?_
          refine st_val (.bool false) (by kernel_rfl) (by kernel_rfl) ?_
          refine wl_nil ?_
          refine hK13 _ _ ?_
          try clear hK13 K13
          refine wp_ret ?_
          refine th_ret ?_
          exact done1 6 (.bool false) (by kernel_rfl) (by kernel_rfl) (by kernel_rfl) ⟨by first | rw [prB_f (fun h => by obtain ⟨h1, h2, h3, h4, _⟩ := h; first | omega | exact Bool.noConfusion (hv.symm.trans h1))] | rw [prB_f (fun h => by have := h.2.2.2.2 k (by omega); unfold PU at this; omega)], M11.toBelow⟩
        ·
          refine st_val (.bool false) (by kernel_rfl) (bool_of (dec_f c24) (by kernel_rfl)) ?_
          refine st_val (.bool false) (by kernel_rfl) (by kernel_rfl) ?_
          refine wl_nil ?_
          refine hK6 _ _ ?_
          try clear hK6 K6
          refine wp_frame (a' := ⟨#[.agg (sqv s), .slice A us.length c, .int .i64 start, .pointer (some ⟨g2, 0, none⟩), undef, undef, .bool false, undef, .agg (sqv s), .bool true, .bool false, .bool false, .int .i64 start, .bool false, .bool false, .bool false, .int .i64 start, .agg (sqv s), .int .i64 (capS s), .bool false, .bool false, .bool false, .slice A us.length c, .int .i64 ((us.length : Nat) : Int), .bool false, .bool false, undef, undef, undef, undef, undef, undef, undef, undef, undef, undef, undef, undef, undef, undef, undef, undef, undef, undef, undef, undef, undef, undef, undef, undef, undef, undef, undef, undef, undef, undef, undef, undef, undef, undef, undef, undef], []⟩) (by kernel_rfl) ?_
          refine wp_cond_false (by kernel_rfl) ?_
          refine wp_skip ?_
          refine hK5 _ _ ?_
          try clear hK5 K5
          refine wp_seq_k (fun K14 hK14 => ?_)
          refine wp_seq_k (fun K15 hK15 => ?_)
          refine wl_region ?_
          refine st_val (.int .i64 0) (by kernel_rfl) (by kernel_rfl) ?_
          refine wl_nil ?_
          refine hK15 _ _ ?_
          try clear hK15 K15
          refine wp_block ?_
          refine wp_loop_ghost (fun gn a' w' => ∃ (k : Nat) (u16 : Nat → Value), ((k ≤ us.length ∧ ∀ j, j < k → PU (us.getD j u0)) ∧ Mem NoS w w' [(g2, .cells (sqv s) 26 (0, 0))]) ∧ gn = us.length - k ∧ a' = ⟨#[.agg (sqv s), .slice A us.length c, .int .i64 start, .pointer (some ⟨g2, 0, none⟩), undef, undef, (u16 6), .int .i64 (k : Int), .agg (sqv s), .bool true, .bool false, .bool false, .int .i64 start, .bool false, .bool false, .bool false, .int .i64 start, .agg (sqv s), .int .i64 (capS s), .bool false, .bool false, .bool false, .slice A us.length c, .int .i64 ((us.length : Nat) : Int), .bool false, .bool false, (u16 26), (u16 27), (u16 28), (u16 29), (u16 30), (u16 31), (u16 32), (u16 33), (u16 34), (u16 35), (u16 36), (u16 37), (u16 38), (u16 39), (u16 40), (u16 41), (u16 42), (u16 43), (u16 44), (u16 45), (u16 46), (u16 47), (u16 48), (u16 49), (u16 50), (u16 51), (u16 52), (u16 53), (u16 54), (u16 55), (u16 56), (u16 57), (u16 58), (u16 59), (u16 60), (u16 61)], []⟩) _ ⟨0, (fun zz => Array.getD #[.agg (sqv s), .slice A us.length c, .int .i64 start, .pointer (some ⟨g2, 0, none⟩), undef, undef, .bool false, .int .i64 0, .agg (sqv s), .bool true, .bool false, .bool false, .int .i64 start, .bool false, .bool false, .bool false, .int .i64 start, .agg (sqv s), .int .i64 (capS s), .bool false, .bool false, .bool false, .slice A us.length c, .int .i64 ((us.length : Nat) : Int), .bool false, .bool false, undef, undef, undef, undef, undef, undef, undef, undef, undef, undef, undef, undef, undef, undef, undef, undef, undef, undef, undef, undef, undef, undef, undef, undef, undef, undef, undef, undef, undef, undef, undef, undef, undef, undef, undef, undef] zz undef), ⟨⟨by omega, fun j hj => by omega⟩, M11⟩, rfl, (by kernel_rfl)⟩ ?_
          rintro gn _ W17 ⟨k, u16, ⟨⟨rk, hk⟩, M18⟩, rfl, rfl⟩
          refine wp_seq_k (fun K19 hK19 => ?_)
          refine wp_seq_k (fun K20 hK20 => ?_)
          refine wl_region ?_
          refine st_val (.int .i64 (k : Int)) (by kernel_rfl) (by kernel_rfl) ?_
          refine st_val (.slice A us.length c) (by kernel_rfl) (by kernel_rfl) ?_
          refine st_val (.int .i64 ((us.length : Nat) : Int)) (by kernel_rfl) (by kernel_rfl) ?_
          rcases Decidable.em (((k : Int) : Int) < ((us.length : Nat) : Int)) with c29 | c29
          ·
            refine st_val (.bool true) (by kernel_rfl) (bool_of (dec_t c29) (by kernel_rfl)) ?_
            refine wl_nil ?_
            refine hK20 _ _ ?_
            try clear hK20 K20
            refine wp_cond_true (by kernel_rfl) ?_
            refine wp_skip ?_
            refine hK19 _ _ ?_
            try clear hK19 K19
            refine wp_seq_k (fun K21 hK21 => ?_)
            refine wp_block ?_
            refine wp_seq_k (fun K22 hK22 => ?_)
            refine wl_region ?_
            refine st_val (.slice A us.length c) (by kernel_rfl) (by kernel_rfl) ?_
            refine st_val (.int .i64 (k : Int)) (by kernel_rfl) (by kernel_rfl) ?_
            obtain ⟨b23, o24, eA25⟩ := RdK.addr (hr.keep M18.keep (fun _ _ h => h)) (j := k * 4) (by rw [flat_len]; omega)
            refine st_val (.pointer (some ⟨b23, o24 + k * 4, none⟩)) (by kernel_rfl) (run_indexSliceA 32 (.tmp 32) (.tmp 33) rfl A ⟨b23, o24, none⟩ eA25 us.length c .i64 k (by kernel_rfl) (by kernel_rfl) Try.underlying32 4 (by kernel_rfl) (by omega) ⟨b23, o24 + k * 4, none⟩ (addr_atK _ _ _ _)) ?_
            refine st_val (.pointer (some ⟨b23, o24 + k * 4 + 2, none⟩)) (by kernel_rfl) (by kernel_rfl) ?_
            refine st_val (.int .i64 ((us.getD k u0).bits)) (by kernel_rfl) (run_load_cell 2 (.tmp 35) rfl ⟨b23, o24 + k * 4 + 2, none⟩ (by kernel_rfl) _ ((hr.keep M18.keep (fun _ _ h => h)).cellF eA25 (f := 2) (flat_get us k 2 (by omega) (by omega))) (by kernel_rfl)) ?_
            rcases Decidable.em (((us.getD k u0).bits : Int) < 0) with c37 | c37
            ·
              refine st_val (.bool true) (by kernel_rfl) (bool_of (dec_t c37) (by kernel_rfl)) ?_
              refine st_val (.bool true) (by kernel_rfl) (by kernel_rfl) ?_
              refine st_skip (by kernel_rfl) ?_
              refine st_skip (by kernel_rfl) ?_
              refine st_skip (by kernel_rfl) ?_
              refine st_skip (by kernel_rfl) ?_
              refine st_skip (by kernel_rfl) ?_
              refine st_skip (by kernel_rfl) ?_
              refine st_val (.bool true) (by kernel_rfl) (by kernel_rfl) ?_
              refine st_val (.bool true) (by kernel_rfl) (by kernel_rfl) ?_
              refine st_skip (by kernel_rfl) ?_
              refine st_skip (by kernel_rfl) ?_
              refine st_skip (by kernel_rfl) ?_
              refine st_skip (by kernel_rfl) ?_
              refine st_skip (by kernel_rfl) ?_
              refine st_skip (by kernel_rfl) ?_
              refine st_skip (by kernel_rfl) ?_
              refine st_skip (by kernel_rfl) ?_
              refine st_skip (by kernel_rfl) ?_
              refine st_skip (by kernel_rfl) ?_
              refine st_skip (by kernel_rfl) ?_
              refine st_skip (by kernel_rfl) ?_
              refine st_skip (by kernel_rfl) ?_
              refine st_skip (by kernel_rfl) ?_
              refine st_val (.bool true) (by kernel_rfl) (by kernel_rfl) ?_
              refine wl_nil ?_
              refine hK22 _ _ ?_
              try clear hK22 K22
              refine wp_frame (a' := ⟨#[.agg (sqv s), .slice A us.length c, .int .i64 start, .pointer (some ⟨g2, 0, none⟩), undef, undef, (u16 6), .int .i64 (k : Int), .agg (sqv s), .bool true, .bool false, .bool false, .int .i64 start, .bool false, .bool false, .bool false, .int .i64 start, .agg (sqv s), .int .i64 (capS s), .bool false, .bool false, .bool false, .slice A us.length c, .int .i64 ((us.length : Nat) : Int), .bool false, .bool false, .int .i64 (k : Int), .slice A us.length c, .int .i64 ((us.length : Nat) : Int), .bool true, (u16 30), (u16 31), .slice A us.length c, .int .i64 (k : Int), .pointer (some ⟨b23, o24 + k * 4, none⟩), .pointer (some ⟨b23, o24 + k * 4 + 2, none⟩), .int .i64 ((us.getD k u0).bits), .bool true, .bool true, undef, undef, undef, undef, undef, undef, .bool true, .bool true, undef, undef, undef, undef, undef, undef, undef, undef, undef, undef, undef, undef, undef, undef, .bool true], []⟩) (by kernel_rfl) ?_
              refine wp_cond_true (by kernel_rfl) ?_
              refine wp_seq_k (fun K26 hK26 => ?_)
              refine wl_region ?_
              refine st_val (.bool false) (by kernel_rfl) (by kernel_rfl) ?_
              refine wl_nil ?_
              refine hK26 _ _ ?_
              try clear hK26 K26
              refine wp_ret ?_
              refine blk_ret ?_
              refine th_ret ?_
              refine th_ret ?_
              refine blk_ret ?_
              refine th_ret ?_
              exact done1 6 (.bool false) (by kernel_rfl) (by kernel_rfl) (by kernel_rfl) ⟨by first | rw [prB_f (fun h => by obtain ⟨h1, h2, h3, h4, _⟩ := h; first | omega | exact Bool.noConfusion (hv.symm.trans h1))] | rw [prB_f (fun h => by have := h.2.2.2.2 k (by omega); unfold PU at this; omega)], M18.toBelow⟩
            ·
              refine st_val (.bool false) (by kernel_rfl) (bool_of (dec_f c37) (by kernel_rfl)) ?_
              refine st_val (.bool false) (by kernel_rfl) (by kernel_rfl) ?_
              refine st_val (.slice A us.length c) (by kernel_rfl) (by kernel_rfl) ?_
              refine st_val (.int .i64 (k : Int)) (by kernel_rfl) (by kernel_rfl) ?_
              obtain ⟨b27, o28, eA29⟩ := RdK.addr (hr.keep M18.keep (fun _ _ h => h)) (j := k * 4) (by rw [flat_len]; omega)
              refine st_val (.pointer (some ⟨b27, o28 + k * 4, none⟩)) (by kernel_rfl) (run_indexSliceA 32 (.tmp 39) (.tmp 40) rfl A ⟨b27, o28, none⟩ eA29 us.length c .i64 k (by kernel_rfl) (by kernel_rfl) Try.underlying32 4 (by kernel_rfl) (by omega) ⟨b27, o28 + k * 4, none⟩ (addr_atK _ _ _ _)) ?_
              refine st_val (.pointer (some ⟨b27, o28 + k * 4 + 2, none⟩)) (by kernel_rfl) (by kernel_rfl) ?_
              refine st_val (.int .i64 ((us.getD k u0).bits)) (by kernel_rfl) (run_load_cell 2 (.tmp 42) rfl ⟨b27, o28 + k * 4 + 2, none⟩ (by kernel_rfl) _ ((hr.keep M18.keep (fun _ _ h => h)).cellF eA29 (f := 2) (flat_get us k 2 (by omega) (by omega))) (by kernel_rfl)) ?_
              rcases Decidable.em (((us.getD k u0).bits : Int) > 8388608) with c44 | c44
              ·
                refine st_val (.bool true) (by kernel_rfl) (bool_of (dec_t c44) (by kernel_rfl)) ?_
                refine st_val (.bool true) (by kernel_rfl) (by kernel_rfl) ?_
                refine st_val (.bool true) (by kernel_rfl) (by kernel_rfl) ?_
                refine st_skip (by kernel_rfl) ?_
                refine st_skip (by kernel_rfl) ?_
                refine st_skip (by kernel_rfl) ?_
                refine st_skip (by kernel_rfl) ?_
                refine st_skip (by kernel_rfl) ?_
                refine st_skip (by kernel_rfl) ?_
                refine st_skip (by kernel_rfl) ?_
                refine st_skip (by kernel_rfl) ?_
                refine st_skip (by kernel_rfl) ?_
                refine st_skip (by kernel_rfl) ?_
                refine st_skip (by kernel_rfl) ?_
                refine st_skip (by kernel_rfl) ?_
                refine st_skip (by kernel_rfl) ?_
                refine st_skip (by kernel_rfl) ?_
                refine st_val (.bool true) (by kernel_rfl) (by kernel_rfl) ?_
                refine wl_nil ?_
                refine hK22 _ _ ?_
                try clear hK22 K22
                refine wp_frame (a' := ⟨#[.agg (sqv s), .slice A us.length c, .int .i64 start, .pointer (some ⟨g2, 0, none⟩), undef, undef, (u16 6), .int .i64 (k : Int), .agg (sqv s), .bool true, .bool false, .bool false, .int .i64 start, .bool false, .bool false, .bool false, .int .i64 start, .agg (sqv s), .int .i64 (capS s), .bool false, .bool false, .bool false, .slice A us.length c, .int .i64 ((us.length : Nat) : Int), .bool false, .bool false, .int .i64 (k : Int), .slice A us.length c, .int .i64 ((us.length : Nat) : Int), .bool true, (u16 30), (u16 31), .slice A us.length c, .int .i64 (k : Int), .pointer (some ⟨b23, o24 + k * 4, none⟩), .pointer (some ⟨b23, o24 + k * 4 + 2, none⟩), .int .i64 ((us.getD k u0).bits), .bool false, .bool false, .slice A us.length c, .int .i64 (k : Int), .pointer (some ⟨b27, o28 + k * 4, none⟩), .pointer (some ⟨b27, o28 + k * 4 + 2, none⟩), .int .i64 ((us.getD k u0).bits), .bool true, .bool true, .bool true, undef, undef, undef, undef, undef, undef, undef, undef, undef, undef, undef, undef, undef, undef, .bool true], []⟩) (by kernel_rfl) ?_
                refine wp_cond_true (by kernel_rfl) ?_
                refine wp_seq_k (fun K30 hK30 => ?_)
                refine wl_region ?_
                refine st_val (.bool false) (by kernel_rfl) (by kernel_rfl) ?_
                refine wl_nil ?_
                refine hK30 _ _ ?_
                try clear hK30 K30
                refine wp_ret ?_
                refine blk_ret ?_
                refine th_ret ?_
                refine th_ret ?_
                refine blk_ret ?_
                refine th_ret ?_
                exact done1 6 (.bool false) (by kernel_rfl) (by kernel_rfl) (by kernel_rfl) ⟨by first | rw [prB_f (fun h => by obtain ⟨h1, h2, h3, h4, _⟩ := h; first | omega | exact Bool.noConfusion (hv.symm.trans h1))] | rw [prB_f (fun h => by have := h.2.2.2.2 k (by omega); unfold PU at this; omega)], M18.toBelow⟩
              ·
                refine st_val (.bool false) (by kernel_rfl) (bool_of (dec_f c44) (by kernel_rfl)) ?_
                refine st_val (.bool false) (by kernel_rfl) (by kernel_rfl) ?_
                refine st_val (.bool false) (by kernel_rfl) (by kernel_rfl) ?_
                refine st_val (.slice A us.length c) (by kernel_rfl) (by kernel_rfl) ?_
                refine st_val (.int .i64 (k : Int)) (by kernel_rfl) (by kernel_rfl) ?_
                obtain ⟨b31, o32, eA33⟩ := RdK.addr (hr.keep M18.keep (fun _ _ h => h)) (j := k * 4) (by rw [flat_len]; omega)
                refine st_val (.pointer (some ⟨b31, o32 + k * 4, none⟩)) (by kernel_rfl) (run_indexSliceA 32 (.tmp 47) (.tmp 48) rfl A ⟨b31, o32, none⟩ eA33 us.length c .i64 k (by kernel_rfl) (by kernel_rfl) Try.underlying32 4 (by kernel_rfl) (by omega) ⟨b31, o32 + k * 4, none⟩ (addr_atK _ _ _ _)) ?_
                refine st_val (.pointer (some ⟨b31, o32 + k * 4 + 3, none⟩)) (by kernel_rfl) (by kernel_rfl) ?_
                refine st_val (.int .i64 ((us.getD k u0).fields)) (by kernel_rfl) (run_load_cell 3 (.tmp 50) rfl ⟨b31, o32 + k * 4 + 3, none⟩ (by kernel_rfl) _ ((hr.keep M18.keep (fun _ _ h => h)).cellF eA33 (f := 3) (flat_get us k 3 (by omega) (by omega))) (by kernel_rfl)) ?_
                rcases Decidable.em (((us.getD k u0).fields : Int) = 2) with c52 | c52
                ·
                  refine st_val (.bool false) (by kernel_rfl) (bool_of (neq_f c52) (by kernel_rfl)) ?_
                  refine st_val (.bool false) (by kernel_rfl) (by kernel_rfl) ?_
                  refine st_skip (by kernel_rfl) ?_
                  refine st_skip (by kernel_rfl) ?_
                  refine st_skip (by kernel_rfl) ?_
                  refine st_skip (by kernel_rfl) ?_
                  refine st_skip (by kernel_rfl) ?_
                  refine st_skip (by kernel_rfl) ?_
                  refine st_val (.bool false) (by kernel_rfl) (by kernel_rfl) ?_
                  refine st_val (.bool false) (by kernel_rfl) (by kernel_rfl) ?_
                  refine wl_nil ?_
                  refine hK22 _ _ ?_
                  try clear hK22 K22
                  refine wp_frame (a' := ⟨#[.agg (sqv s), .slice A us.length c, .int .i64 start, .pointer (some ⟨g2, 0, none⟩), undef, undef, (u16 6), .int .i64 (k : Int), .agg (sqv s), .bool true, .bool false, .bool false, .int .i64 start, .bool false, .bool false, .bool false, .int .i64 start, .agg (sqv s), .int .i64 (capS s), .bool false, .bool false, .bool false, .slice A us.length c, .int .i64 ((us.length : Nat) : Int), .bool false, .bool false, .int .i64 (k : Int), .slice A us.length c, .int .i64 ((us.length : Nat) : Int), .bool true, (u16 30), (u16 31), .slice A us.length c, .int .i64 (k : Int), .pointer (some ⟨b23, o24 + k * 4, none⟩), .pointer (some ⟨b23, o24 + k * 4 + 2, none⟩), .int .i64 ((us.getD k u0).bits), .bool false, .bool false, .slice A us.length c, .int .i64 (k : Int), .pointer (some ⟨b27, o28 + k * 4, none⟩), .pointer (some ⟨b27, o28 + k * 4 + 2, none⟩), .int .i64 ((us.getD k u0).bits), .bool false, .bool false, .bool false, .slice A us.length c, .int .i64 (k : Int), .pointer (some ⟨b31, o32 + k * 4, none⟩), .pointer (some ⟨b31, o32 + k * 4 + 3, none⟩), .int .i64 ((us.getD k u0).fields), .bool false, .bool false, undef, undef, undef, undef, undef, undef, .bool false, .bool false], []⟩) (by kernel_rfl) ?_
                  refine wp_cond_false (by kernel_rfl) ?_
                  refine wp_skip ?_
                  refine blk_normal ?_
                  refine hK21 _ _ ?_
                  try clear hK21 K21
                  refine wl_region ?_
                  refine st_val (.int .i64 (k : Int)) (by kernel_rfl) (by kernel_rfl) ?_
                  refine st_val (.int .i64 ((k : Int) + 1)) (by kernel_rfl) (i64_of (by omega) (by kernel_rfl)) ?_
                  refine st_val (.int .i64 ((k : Int) + 1)) (by kernel_rfl) (by kernel_rfl) ?_
                  refine wl_nil ?_
                  refine th_normal ?_
                  exact ⟨_, by omega, (k + 1), (fun zz => Array.getD #[.agg (sqv s), .slice A us.length c, .int .i64 start, .pointer (some ⟨g2, 0, none⟩), undef, undef, (u16 6), .int .i64 ((k : Int) + 1), .agg (sqv s), .bool true, .bool false, .bool false, .int .i64 start, .bool false, .bool false, .bool false, .int .i64 start, .agg (sqv s), .int .i64 (capS s), .bool false, .bool false, .bool false, .slice A us.length c, .int .i64 ((us.length : Nat) : Int), .bool false, .bool false, .int .i64 (k : Int), .slice A us.length c, .int .i64 ((us.length : Nat) : Int), .bool true, .int .i64 (k : Int), .int .i64 ((k : Int) + 1), .slice A us.length c, .int .i64 (k : Int), .pointer (some ⟨b23, o24 + k * 4, none⟩), .pointer (some ⟨b23, o24 + k * 4 + 2, none⟩), .int .i64 ((us.getD k u0).bits), .bool false, .bool false, .slice A us.length c, .int .i64 (k : Int), .pointer (some ⟨b27, o28 + k * 4, none⟩), .pointer (some ⟨b27, o28 + k * 4 + 2, none⟩), .int .i64 ((us.getD k u0).bits), .bool false, .bool false, .bool false, .slice A us.length c, .int .i64 (k : Int), .pointer (some ⟨b31, o32 + k * 4, none⟩), .pointer (some ⟨b31, o32 + k * 4 + 3, none⟩), .int .i64 ((us.getD k u0).fields), .bool false, .bool false, undef, undef, undef, undef, undef, undef, .bool false, .bool false] zz undef), ⟨⟨by omega, fun j hj => by by_cases e : j = k; subst e; exact ⟨by omega, by omega, by omega⟩; exact hk j (by omega)⟩, M18⟩, rfl, (by kernel_rfl)⟩
                ·
                  refine st_val (.bool true) (by kernel_rfl) (bool_of (neq_t c52) (by kernel_rfl)) ?_
                  refine st_val (.bool true) (by kernel_rfl) (by kernel_rfl) ?_
                  refine st_val (.slice A us.length c) (by kernel_rfl) (by kernel_rfl) ?_
                  refine st_val (.int .i64 (k : Int)) (by kernel_rfl) (by kernel_rfl) ?_
                  obtain ⟨b34, o35, eA36⟩ := RdK.addr (hr.keep M18.keep (fun _ _ h => h)) (j := k * 4) (by rw [flat_len]; omega)
                  refine st_val (.pointer (some ⟨b34, o35 + k * 4, none⟩)) (by kernel_rfl) (run_indexSliceA 32 (.tmp 54) (.tmp 55) rfl A ⟨b34, o35, none⟩ eA36 us.length c .i64 k (by kernel_rfl) (by kernel_rfl) Try.underlying32 4 (by kernel_rfl) (by omega) ⟨b34, o35 + k * 4, none⟩ (addr_atK _ _ _ _)) ?_
                  refine st_val (.pointer (some ⟨b34, o35 + k * 4 + 3, none⟩)) (by kernel_rfl) (by kernel_rfl) ?_
                  refine st_val (.int .i64 ((us.getD k u0).fields)) (by kernel_rfl) (run_load_cell 3 (.tmp 57) rfl ⟨b34, o35 + k * 4 + 3, none⟩ (by kernel_rfl) _ ((hr.keep M18.keep (fun _ _ h => h)).cellF eA36 (f := 3) (flat_get us k 3 (by omega) (by omega))) (by kernel_rfl)) ?_
                  rcases Decidable.em (((us.getD k u0).fields : Int) = 3) with c59 | c59
                  ·
                    refine st_val (.bool false) (by kernel_rfl) (bool_of (neq_f c59) (by kernel_rfl)) ?_
                    refine st_val (.bool false) (by kernel_rfl) (by kernel_rfl) ?_
                    refine st_val (.bool false) (by kernel_rfl) (by kernel_rfl) ?_
                    refine wl_nil ?_
                    refine hK22 _ _ ?_
                    try clear hK22 K22
                    refine wp_frame (a' := ⟨#[.agg (sqv s), .slice A us.length c, .int .i64 start, .pointer (some ⟨g2, 0, none⟩), undef, undef, (u16 6), .int .i64 (k : Int), .agg (sqv s), .bool true, .bool false, .bool false, .int .i64 start, .bool false, .bool false, .bool false, .int .i64 start, .agg (sqv s), .int .i64 (capS s), .bool false, .bool false, .bool false, .slice A us.length c, .int .i64 ((us.length : Nat) : Int), .bool false, .bool false, .int .i64 (k : Int), .slice A us.length c, .int .i64 ((us.length : Nat) : Int), .bool true, (u16 30), (u16 31), .slice A us.length c, .int .i64 (k : Int), .pointer (some ⟨b23, o24 + k * 4, none⟩), .pointer (some ⟨b23, o24 + k * 4 + 2, none⟩), .int .i64 ((us.getD k u0).bits), .bool false, .bool false, .slice A us.length c, .int .i64 (k : Int), .pointer (some ⟨b27, o28 + k * 4, none⟩), .pointer (some ⟨b27, o28 + k * 4 + 2, none⟩), .int .i64 ((us.getD k u0).bits), .bool false, .bool false, .bool false, .slice A us.length c, .int .i64 (k : Int), .pointer (some ⟨b31, o32 + k * 4, none⟩), .pointer (some ⟨b31, o32 + k * 4 + 3, none⟩), .int .i64 ((us.getD k u0).fields), .bool true, .bool true, .slice A us.length c, .int .i64 (k : Int), .pointer (some ⟨b34, o35 + k * 4, none⟩), .pointer (some ⟨b34, o35 + k * 4 + 3, none⟩), .int .i64 ((us.getD k u0).fields), .bool false, .bool false, .bool false], []⟩) (by kernel_rfl) ?_
                    refine wp_cond_false (by kernel_rfl) ?_
                    refine wp_skip ?_
                    refine blk_normal ?_
                    refine hK21 _ _ ?_
                    try clear hK21 K21
                    refine wl_region ?_
                    refine st_val (.int .i64 (k : Int)) (by kernel_rfl) (by kernel_rfl) ?_
                    refine st_val (.int .i64 ((k : Int) + 1)) (by kernel_rfl) (i64_of (by omega) (by kernel_rfl)) ?_
                    refine st_val (.int .i64 ((k : Int) + 1)) (by kernel_rfl) (by kernel_rfl) ?_
                    refine wl_nil ?_
                    refine th_normal ?_
                    exact ⟨_, by omega, (k + 1), (fun zz => Array.getD #[.agg (sqv s), .slice A us.length c, .int .i64 start, .pointer (some ⟨g2, 0, none⟩), undef, undef, (u16 6), .int .i64 ((k : Int) + 1), .agg (sqv s), .bool true, .bool false, .bool false, .int .i64 start, .bool false, .bool false, .bool false, .int .i64 start, .agg (sqv s), .int .i64 (capS s), .bool false, .bool false, .bool false, .slice A us.length c, .int .i64 ((us.length : Nat) : Int), .bool false, .bool false, .int .i64 (k : Int), .slice A us.length c, .int .i64 ((us.length : Nat) : Int), .bool true, .int .i64 (k : Int), .int .i64 ((k : Int) + 1), .slice A us.length c, .int .i64 (k : Int), .pointer (some ⟨b23, o24 + k * 4, none⟩), .pointer (some ⟨b23, o24 + k * 4 + 2, none⟩), .int .i64 ((us.getD k u0).bits), .bool false, .bool false, .slice A us.length c, .int .i64 (k : Int), .pointer (some ⟨b27, o28 + k * 4, none⟩), .pointer (some ⟨b27, o28 + k * 4 + 2, none⟩), .int .i64 ((us.getD k u0).bits), .bool false, .bool false, .bool false, .slice A us.length c, .int .i64 (k : Int), .pointer (some ⟨b31, o32 + k * 4, none⟩), .pointer (some ⟨b31, o32 + k * 4 + 3, none⟩), .int .i64 ((us.getD k u0).fields), .bool true, .bool true, .slice A us.length c, .int .i64 (k : Int), .pointer (some ⟨b34, o35 + k * 4, none⟩), .pointer (some ⟨b34, o35 + k * 4 + 3, none⟩), .int .i64 ((us.getD k u0).fields), .bool false, .bool false, .bool false] zz undef), ⟨⟨by omega, fun j hj => by by_cases e : j = k; subst e; exact ⟨by omega, by omega, by omega⟩; exact hk j (by omega)⟩, M18⟩, rfl, (by kernel_rfl)⟩
                  ·
                    refine st_val (.bool true) (by kernel_rfl) (bool_of (neq_t c59) (by kernel_rfl)) ?_
                    refine st_val (.bool true) (by kernel_rfl) (by kernel_rfl) ?_
                    refine st_val (.bool true) (by kernel_rfl) (by kernel_rfl) ?_
                    refine wl_nil ?_
                    refine hK22 _ _ ?_
                    try clear hK22 K22
                    refine wp_frame (a' := ⟨#[.agg (sqv s), .slice A us.length c, .int .i64 start, .pointer (some ⟨g2, 0, none⟩), undef, undef, (u16 6), .int .i64 (k : Int), .agg (sqv s), .bool true, .bool false, .bool false, .int .i64 start, .bool false, .bool false, .bool false, .int .i64 start, .agg (sqv s), .int .i64 (capS s), .bool false, .bool false, .bool false, .slice A us.length c, .int .i64 ((us.length : Nat) : Int), .bool false, .bool false, .int .i64 (k : Int), .slice A us.length c, .int .i64 ((us.length : Nat) : Int), .bool true, (u16 30), (u16 31), .slice A us.length c, .int .i64 (k : Int), .pointer (some ⟨b23, o24 + k * 4, none⟩), .pointer (some ⟨b23, o24 + k * 4 + 2, none⟩), .int .i64 ((us.getD k u0).bits), .bool false, .bool false, .slice A us.length c, .int .i64 (k : Int), .pointer (some ⟨b27, o28 + k * 4, none⟩), .pointer (some ⟨b27, o28 + k * 4 + 2, none⟩), .int .i64 ((us.getD k u0).bits), .bool false, .bool false, .bool false, .slice A us.length c, .int .i64 (k : Int), .pointer (some ⟨b31, o32 + k * 4, none⟩), .pointer (some ⟨b31, o32 + k * 4 + 3, none⟩), .int .i64 ((us.getD k u0).fields), .bool true, .bool true, .slice A us.length c, .int .i64 (k : Int), .pointer (some ⟨b34, o35 + k * 4, none⟩), .pointer (some ⟨b34, o35 + k * 4 + 3, none⟩), .int .i64 ((us.getD k u0).fields), .bool true, .bool true, .bool true], []⟩) (by kernel_rfl) ?_
                    refine wp_cond_true (by kernel_rfl) ?_
                    refine wp_seq_k (fun K37 hK37 => ?_)
                    refine wl_region ?_
                    refine st_val (.bool false) (by kernel_rfl) (by kernel_rfl) ?_
                    refine wl_nil ?_
                    refine hK37 _ _ ?_
                    try clear hK37 K37
                    refine wp_ret ?_
                    refine blk_ret ?_
                    refine th_ret ?_
                    refine th_ret ?_
                    refine blk_ret ?_
                    refine th_ret ?_
                    exact done1 6 (.bool false) (by kernel_rfl) (by kernel_rfl) (by kernel_rfl) ⟨by first | rw [prB_f (fun h => by obtain ⟨h1, h2, h3, h4, _⟩ := h; first | omega | exact Bool.noConfusion (hv.symm.trans h1))] | rw [prB_f (fun h => by have := h.2.2.2.2 k (by omega); unfold PU at this; omega)], M18.toBelow⟩
          ·
            refine st_val (.bool false) (by kernel_rfl) (bool_of (dec_f c29) (by kernel_rfl)) ?_
            refine wl_nil ?_
            refine hK20 _ _ ?_
            try clear hK20 K20
            refine wp_cond_false (by kernel_rfl) ?_
            refine wp_exit ?_
            refine th_exit ?_
            refine th_exit ?_
            refine blk_exit ?_
            refine hK14 _ _ ?_
            try clear hK14 K14
            refine wp_seq_k (fun K38 hK38 => ?_)
            refine wl_region ?_
            refine st_val (.bool true) (by kernel_rfl) (by kernel_rfl) ?_
            refine wl_nil ?_
            refine hK38 _ _ ?_
            try clear hK38 K38
            refine wp_ret ?_
            exact done1 6 (.bool true) (by kernel_rfl) (by kernel_rfl) (by kernel_rfl) ⟨by rw [prB_t ⟨hv, by omega, by omega, by omega, fun j hj => hk j (by omega)⟩], M18.toBelow⟩
  ·
    refine st_callB M4 (.bool false) (by kernel_rfl) (args := #[.agg (sqv s)]) (run_value_call 28 #[(Operand.tmp 8)] _ rfl Try.func28 (by kernel_rfl) (by kernel_rfl) _ (by kernel_rfl)) ((by have := refVseq_walk W3 s hs; rw [hv] at this; exact this)) ?_
    intro W39 M40
    refine st_val (.bool true) (by kernel_rfl) (by kernel_rfl) ?_
    refine st_val (.bool true) (by kernel_rfl) (by kernel_rfl) ?_
    refine st_skip (by kernel_rfl) ?_
    refine st_skip (by kernel_rfl) ?_
    refine st_val (.bool true) (by kernel_rfl) (by kernel_rfl) ?_
    refine st_val (.bool true) (by kernel_rfl) (by kernel_rfl) ?_
    refine st_skip (by kernel_rfl) ?_
    refine st_skip (by kernel_rfl) ?_
    refine st_skip (by kernel_rfl) ?_
    refine st_skip (by kernel_rfl) ?_
    refine st_val (.bool true) (by kernel_rfl) (by kernel_rfl) ?_
    refine st_val (.bool true) (by kernel_rfl) (by kernel_rfl) ?_
    refine st_skip (by kernel_rfl) ?_
    refine st_skip (by kernel_rfl) ?_
    refine st_skip (by kernel_rfl) ?_
    refine st_val (.bool true) (by kernel_rfl) (by kernel_rfl) ?_
    refine wl_nil ?_
    refine hK6 _ _ ?_
    try clear hK6 K6
    refine wp_frame (a' := ⟨#[.agg (sqv s), .slice A us.length c, .int .i64 start, .pointer (some ⟨g2, 0, none⟩), undef, undef, .bool false, undef, .agg (sqv s), .bool false, .bool true, .bool true, undef, undef, .bool true, .bool true, undef, undef, undef, undef, .bool true, .bool true, undef, undef, undef, .bool true, undef, undef, undef, undef, undef, undef, undef, undef, undef, undef, undef, undef, undef, undef, undef, undef, undef, undef, undef, undef, undef, undef, undef, undef, undef, undef, undef, undef, undef, undef, undef, undef, undef, undef, undef, undef], []⟩) (by kernel_rfl) ?_
    refine wp_cond_true (by kernel_rfl) ?_
    refine wp_seq_k (fun K41 hK41 => ?_)
    refine wl_region ?_
    refine st_val (.bool false) (by kernel_rfl) (by kernel_rfl) ?_
    refine wl_nil ?_
    refine hK41 _ _ ?_
    try clear hK41 K41
    refine wp_ret ?_
    refine th_ret ?_
    exact done1 6 (.bool false) (by kernel_rfl) (by kernel_rfl) (by kernel_rfl) ⟨by first | rw [prB_f (fun h => by obtain ⟨h1, h2, h3, h4, _⟩ := h; first | omega | exact Bool.noConfusion (hv.symm.trans h1))] | rw [prB_f (fun h => by have := h.2.2.2.2 k (by omega); unfold PU at this; omega)], M40.toBelow⟩
end Go.Proofs.Ytolfkaljbgpkhaa
