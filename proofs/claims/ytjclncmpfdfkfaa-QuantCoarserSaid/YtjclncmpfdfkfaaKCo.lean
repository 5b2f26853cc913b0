/- The walk of the law QuantCoarser. -/
import Derived.Test.YtjclncmpfdfkfaaQp
import Derived.Test.YtjclncmpfdfkfaaQa
import Derived.Test.YtjclncmpfdfkfaaEq
import Derived.Test.YtjclncmpfdfkfaaArgI
namespace Go.Proofs.Ytjclncmpfdfkfaa
open Go.RowKit
set_option maxHeartbeats 4000000 in
set_option maxRecDepth 100000 in
theorem QuantCoarser_walk (w : World) (v0 : Value) (l0 : List Int) (hr0 : Rd w v0 (l0.map (Value.int .u8))) (hb0 : ∀ x ∈ l0, 0 ≤ x ∧ x < 256) (v1 : Value) (l1 : List Int) (hr1 : Rd w v1 (l1.map (Value.int .u8))) (hb1 : ∀ x ∈ l1, 0 ≤ x ∧ x < 256) (q : Int) (p : Int) : Calls Try.prog 10 #[v0, v1, .int .i64 q, .int .i64 p] w fun e w' => e = .returned (.bool true) ∧ Below w.heap.size w w' := by
  obtain ⟨A, c, rfl, hc⟩ := rd_shape hr1
  rw [List.length_map] at *
  refine calls_of_wp Try.func10 rfl ?_
  refine wp_frame (a' := ⟨#[v0, .slice A l1.length c, .int .i64 q, .int .i64 p, undef, undef, undef, undef, undef, undef, undef, undef, undef, undef, undef, undef, undef, undef, undef, undef, undef, undef, undef, undef, undef, undef, undef, undef, undef, undef, undef, undef, undef, undef, undef, undef, undef, undef, undef, undef, undef, undef, undef, undef, undef, undef, undef, undef, undef, undef, undef, undef, undef, undef, undef, undef, undef, undef, undef, undef, undef, undef, undef, undef, undef, undef, undef], []⟩) (by kernel_rfl) ?_
  have M0 : Mem NoS w w [] := Mem.start _ _
  refine wp_seq_k (fun K1 hK1 => ?_)
  refine wl_region ?_
  refine st_val (.bool false) (by kernel_rfl) (by kernel_rfl) ?_
  refine wl_nil ?_
  refine hK1 _ _ ?_
  try clear hK1 K1
  refine wp_seq_k (fun K2 hK2 => ?_)
  refine wl_region ?_
  refine st_val (v0) (by kernel_rfl) (by kernel_rfl) ?_
  refine st_callB M0 (.agg (bv (matOf l0))) (by kernel_rfl) (args := #[v0]) (run_value_call 13 #[(Operand.tmp 12)] _ rfl Try.func13 (by kernel_rfl) (by kernel_rfl) _ (by kernel_rfl)) (matrix_walk_ w v0 l0 (M0.rd hr0 (fun _ _ h => h))) ?_
  intro W3 M4
  refine st_alloc M4 (.cells (bv zeros) 23 (0, 0)) (by kernel_rfl) (by kernel_rfl) ?_
  intro g5 W6 M7
  refine st_storeRow M7 0 rfl 23 (.tmp 9) (.tmp 13) (by rfl) (bv (matOf l0)) (by kernel_rfl) (by kernel_rfl) (infoB64 _ (matOf_length _)) (bv_same (matOf_length _) zeros_length) (bv_one _) (by kernel_rfl) [(g5, .cells (bv (matOf l0)) 23 (0, 0))] rfl ?_
  intro W8 M9
  refine wl_nil ?_
  refine hK2 _ _ ?_
  try clear hK2 K2
  refine wp_seq_k (fun K10 hK10 => ?_)
  refine wl_region ?_
  refine st_val (.agg (bv (matOf l0))) (by kernel_rfl) (run_load_row 23 (.tmp 9) rfl g5 (by kernel_rfl) 23 (bv (matOf l0)) (0, 0) _ (M9.get 0 rfl) Try.underlying23 rfl (infoB64 _ (matOf_length _))) ?_
  refine st_alloc M9 (.cells (bv zeros) 23 (0, 0)) (by kernel_rfl) (by kernel_rfl) ?_
  intro g11 W12 M13
  refine st_storeRow M13 0 rfl 23 (.tmp 10) (.tmp 14) (by rfl) (bv (matOf l0)) (by kernel_rfl) (by kernel_rfl) (infoB64 _ (matOf_length _)) (bv_same (matOf_length _) zeros_length) (bv_one _) (by kernel_rfl) [(g11, .cells (bv (matOf l0)) 23 (0, 0)), (g5, .cells (bv (matOf l0)) 23 (0, 0))] rfl ?_
  intro W14 M15
  refine wl_nil ?_
  refine hK10 _ _ ?_
  try clear hK10 K10
  refine wp_seq_k (fun K16 hK16 => ?_)
  refine wp_seq_k (fun K17 hK17 => ?_)
  refine wl_region ?_
  refine st_val (.int .i64 0) (by kernel_rfl) (by kernel_rfl) ?_
  refine wl_nil ?_
  refine hK17 _ _ ?_
  try clear hK17 K17
  refine wp_block ?_
  refine wp_loop_ghost (fun gn a' w' => ∃ (k : Nat) (u18 : Nat → Value), ((k ≤ 64 ∧ k ≤ l1.length) ∧ Mem NoS w w' [(g11, .cells (bv (tab 64 (mxTo (matOf l0) l1 k))) 23 (0, 0)), (g5, .cells (bv (matOf l0)) 23 (0, 0))]) ∧ gn = 64 - k ∧ a' = ⟨#[v0, .slice A l1.length c, .int .i64 q, .int .i64 p, undef, undef, undef, undef, .bool false, .pointer (some ⟨g5, 0, none⟩), .pointer (some ⟨g11, 0, none⟩), .int .i64 (k : Int), v0, .agg (bv (matOf l0)), .agg (bv (matOf l0)), (u18 15), (u18 16), (u18 17), (u18 18), (u18 19), (u18 20), (u18 21), (u18 22), (u18 23), (u18 24), (u18 25), (u18 26), (u18 27), (u18 28), (u18 29), (u18 30), (u18 31), (u18 32), (u18 33), (u18 34), undef, undef, undef, undef, undef, undef, undef, undef, undef, undef, undef, undef, undef, undef, undef, undef, undef, undef, undef, undef, undef, undef, undef, undef, undef, undef, undef, undef, undef, undef, undef, undef], []⟩) _ ⟨0, (fun zz => Array.getD #[v0, .slice A l1.length c, .int .i64 q, .int .i64 p, undef, undef, undef, undef, .bool false, .pointer (some ⟨g5, 0, none⟩), .pointer (some ⟨g11, 0, none⟩), .int .i64 0, v0, .agg (bv (matOf l0)), .agg (bv (matOf l0)), undef, undef, undef, undef, undef, undef, undef, undef, undef, undef, undef, undef, undef, undef, undef, undef, undef, undef, undef, undef, undef, undef, undef, undef, undef, undef, undef, undef, undef, undef, undef, undef, undef, undef, undef, undef, undef, undef, undef, undef, undef, undef, undef, undef, undef, undef, undef, undef, undef, undef, undef, undef] zz undef), ⟨⟨by omega, by omega⟩, (by rw [mxTo_zero _ _ (matOf_length l0)]; exact M15)⟩, rfl, (by kernel_rfl)⟩ ?_
  rintro gn _ W19 ⟨k, u18, ⟨⟨rk, r2⟩, M20⟩, rfl, rfl⟩
  refine wp_seq_k (fun K21 hK21 => ?_)
  refine wp_seq_k (fun K22 hK22 => ?_)
  refine wl_region ?_
  refine st_val (.int .i64 (k : Int)) (by kernel_rfl) (by kernel_rfl) ?_
  rcases Decidable.em (((k : Int) : Int) < 64) with c16 | c16
  ·
    refine st_val (.bool true) (by kernel_rfl) (bool_of (dec_t c16) (by kernel_rfl)) ?_
    refine st_val (.bool true) (by kernel_rfl) (by kernel_rfl) ?_
    refine st_val (.int .i64 (k : Int)) (by kernel_rfl) (by kernel_rfl) ?_
    refine st_val (.slice A l1.length c) (by kernel_rfl) (by kernel_rfl) ?_
    refine st_val (.int .i64 ((l1.length : Nat) : Int)) (by kernel_rfl) (by kernel_rfl) ?_
    rcases Decidable.em (((k : Int) : Int) < ((l1.length : Nat) : Int)) with c21 | c21
    ·
      refine st_val (.bool true) (by kernel_rfl) (bool_of (dec_t c21) (by kernel_rfl)) ?_
      refine st_val (.bool true) (by kernel_rfl) (by kernel_rfl) ?_
      refine wl_nil ?_
      refine hK22 _ _ ?_
      try clear hK22 K22
      refine wp_cond_true (by kernel_rfl) ?_
      refine wp_skip ?_
      refine hK21 _ _ ?_
      try clear hK21 K21
      refine wp_seq_k (fun K23 hK23 => ?_)
      refine wp_block ?_
      refine wl_seq 10 (fun w' => Mem NoS w w' [(g11, .cells (bv (tab 64 (mxTo (matOf l0) l1 k))) 23 (0, 0)), (g5, .cells (bv (matOf l0)) 23 (0, 0))]) (by decide) (by kernel_rfl) (by kernel_rfl) M20.drew ?_
      refine seq_run (v := .int .i64 (k : Int)) (by decide) (by kernel_rfl) (fun w' M' => (by kernel_rfl)) ?_
      refine seq_run (v := .int .i64 (k : Int)) (by decide) (by kernel_rfl) (fun w' M' => (by kernel_rfl)) ?_
      refine seq_run (v := .pointer (some ⟨g5, k, none⟩)) (by decide) (by kernel_rfl) (fun w' M' => (run_indexAddr 23 (.tmp 9) (.tmp 26) rfl ⟨g5, 0, none⟩ .i64 k (by kernel_rfl) (by kernel_rfl) Try.underlying23 1 (by kernel_rfl) (by omega) ⟨g5, k, none⟩ (addr_at0 _ _))) ?_
      refine seq_run (v := .int .u8 ((matOf l0).getD k 0)) (by decide) (by kernel_rfl) (fun w' M' => (run_load_cell 5 (.tmp 27) rfl ⟨g5, k, none⟩ (by kernel_rfl) _ (M'.cell 1 rfl k _ (bv_get (matOf l0) k (by rw [(matOf_length _)]; omega))) (by kernel_rfl))) ?_
      refine seq_run (v := .slice A l1.length c) (by decide) (by kernel_rfl) (fun w' M' => (by kernel_rfl)) ?_
      refine seq_run (v := .int .i64 (k : Int)) (by decide) (by kernel_rfl) (fun w' M' => (by kernel_rfl)) ?_
      obtain ⟨b24, o25, eA26, cx27⟩ := rd_at hr1 (map_at (k := .u8) (l := l1) (n := k) (by omega))
      refine seq_run (v := .pointer (some ⟨b24, o25 + k, none⟩)) (by decide) (by kernel_rfl) (fun w' M' => (run_indexSliceA 22 (.tmp 29) (.tmp 30) rfl A ⟨b24, o25, none⟩ eA26 l1.length c .i64 k (by kernel_rfl) (by kernel_rfl) Try.underlying22 1 (by kernel_rfl) (by omega) ⟨b24, o25 + k, none⟩ (addr_at _ _ _))) ?_
      refine seq_run (v := .int .u8 (l1.getD k 0)) (by decide) (by kernel_rfl) (fun w' M' => (run_load_cell 5 (.tmp 31) rfl ⟨b24, o25 + k, none⟩ (by kernel_rfl) _ (Keep.cell M'.keep cx27 (fun h => h)) (by kernel_rfl))) ?_
      refine seq_run (v := .int .u8 (max ((matOf l0).getD k 0) (l1.getD k 0))) (by decide) (by kernel_rfl) (fun w' M' => (int_of (ite_max ((matOf l0).getD k 0) (l1.getD k 0)) (by kernel_rfl))) ?_
      refine seq_run (v := .pointer (some ⟨g11, k, none⟩)) (by decide) (by kernel_rfl) (fun w' M' => (run_indexAddr 23 (.tmp 10) (.tmp 25) rfl ⟨g11, 0, none⟩ .i64 k (by kernel_rfl) (by kernel_rfl) Try.underlying23 1 (by kernel_rfl) (by omega) ⟨g11, k, none⟩ (addr_at0 _ _))) ?_
      refine seq_end (by decide) ?_
      intro W28 M29
      refine st_storeCell M29 0 rfl 5 (.tmp 34) (.tmp 33) (by rfl) k (.int .u8 (max ((matOf l0).getD k 0) (l1.getD k 0))) (bv ((tab 64 (mxTo (matOf l0) l1 k)).set k (max ((matOf l0).getD k 0) (l1.getD k 0)))) (by kernel_rfl) (by kernel_rfl) (by rw [bv_size, (tab_length _ _)]; omega) (by kernel_rfl) rfl (by kernel_rfl) (bv_set _ _ _) (by kernel_rfl) [(g11, .cells (bv ((tab 64 (mxTo (matOf l0) l1 k)).set k (max ((matOf l0).getD k 0) (l1.getD k 0)))) 23 (0, 0)), (g5, .cells (bv (matOf l0)) 23 (0, 0))] rfl ?_
      intro W30 M31
      refine wl_nil ?_
      refine blk_normal ?_
      refine hK23 _ _ ?_
      try clear hK23 K23
      refine wp_frame (a' := ⟨#[v0, .slice A l1.length c, .int .i64 q, .int .i64 p, undef, undef, undef, undef, .bool false, .pointer (some ⟨g5, 0, none⟩), .pointer (some ⟨g11, 0, none⟩), .int .i64 (k : Int), v0, .agg (bv (matOf l0)), .agg (bv (matOf l0)), .int .i64 (k : Int), .bool true, .bool true, .int .i64 (k : Int), .slice A l1.length c, .int .i64 ((l1.length : Nat) : Int), .bool true, .bool true, (u18 23), (u18 24), .int .i64 (k : Int), .int .i64 (k : Int), .pointer (some ⟨g5, k, none⟩), .int .u8 ((matOf l0).getD k 0), .slice A l1.length c, .int .i64 (k : Int), .pointer (some ⟨b24, o25 + k, none⟩), .int .u8 (l1.getD k 0), .int .u8 (max ((matOf l0).getD k 0) (l1.getD k 0)), .pointer (some ⟨g11, k, none⟩), undef, undef, undef, undef, undef, undef, undef, undef, undef, undef, undef, undef, undef, undef, undef, undef, undef, undef, undef, undef, undef, undef, undef, undef, undef, undef, undef, undef, undef, undef, undef, undef], []⟩) (by kernel_rfl) ?_
      refine wl_region ?_
      refine st_val (.int .i64 (k : Int)) (by kernel_rfl) (by kernel_rfl) ?_
      refine st_val (.int .i64 ((k : Int) + 1)) (by kernel_rfl) (i64_of (by omega) (by kernel_rfl)) ?_
      refine st_val (.int .i64 ((k : Int) + 1)) (by kernel_rfl) (by kernel_rfl) ?_
      refine wl_nil ?_
      refine th_normal ?_
      exact ⟨_, by omega, (k + 1), (fun zz => Array.getD #[v0, .slice A l1.length c, .int .i64 q, .int .i64 p, undef, undef, undef, undef, .bool false, .pointer (some ⟨g5, 0, none⟩), .pointer (some ⟨g11, 0, none⟩), .int .i64 ((k : Int) + 1), v0, .agg (bv (matOf l0)), .agg (bv (matOf l0)), .int .i64 (k : Int), .bool true, .bool true, .int .i64 (k : Int), .slice A l1.length c, .int .i64 ((l1.length : Nat) : Int), .bool true, .bool true, .int .i64 (k : Int), .int .i64 ((k : Int) + 1), .int .i64 (k : Int), .int .i64 (k : Int), .pointer (some ⟨g5, k, none⟩), .int .u8 ((matOf l0).getD k 0), .slice A l1.length c, .int .i64 (k : Int), .pointer (some ⟨b24, o25 + k, none⟩), .int .u8 (l1.getD k 0), .int .u8 (max ((matOf l0).getD k 0) (l1.getD k 0)), .pointer (some ⟨g11, k, none⟩), undef, undef, undef, undef, undef, undef, undef, undef, undef, undef, undef, undef, undef, undef, undef, undef, undef, undef, undef, undef, undef, undef, undef, undef, undef, undef, undef, undef, undef, undef, undef, undef] zz undef), ⟨⟨by omega, by omega⟩, (by rw [← mxTo_next (matOf l0) l1 k]; exact M31)⟩, rfl, (by kernel_rfl)⟩
    ·
      refine st_val (.bool false) (by kernel_rfl) (bool_of (dec_f c21) (by kernel_rfl)) ?_
      refine st_val (.bool false) (by kernel_rfl) (by kernel_rfl) ?_
      refine wl_nil ?_
      refine hK22 _ _ ?_
      try clear hK22 K22
      refine wp_cond_false (by kernel_rfl) ?_
      refine wp_exit ?_
      refine th_exit ?_
      refine th_exit ?_
      refine blk_exit ?_
      refine hK16 _ _ ?_
      try clear hK16 K16
      refine wp_seq_k (fun K32 hK32 => ?_)
      refine wp_seq_k (fun K33 hK33 => ?_)
      have M34 : Mem NoS w W19 [(g11, .cells (bv (mxOf (matOf l0) l1)) 23 (0, 0)), (g5, .cells (bv (matOf l0)) 23 (0, 0))] := by
        have hh := M20; rw [mxTo_end (matOf l0) l1 k (by omega) r2] at hh; exact hh
      refine wl_region ?_
      refine st_val (.int .i64 q) (by kernel_rfl) (by kernel_rfl) ?_
      refine st_val (.int .i64 p) (by kernel_rfl) (by kernel_rfl) ?_
      rcases Decidable.em ((q : Int) > p) with c37 | c37
      ·
        refine st_val (.bool true) (by kernel_rfl) (bool_of (dec_t c37) (by kernel_rfl)) ?_
        refine st_val (.bool true) (by kernel_rfl) (by kernel_rfl) ?_
        refine st_skip (by kernel_rfl) ?_
        refine st_skip (by kernel_rfl) ?_
        refine st_skip (by kernel_rfl) ?_
        refine st_skip (by kernel_rfl) ?_
        refine st_val (.bool true) (by kernel_rfl) (by kernel_rfl) ?_
        refine st_val (.bool true) (by kernel_rfl) (by kernel_rfl) ?_
        refine st_skip (by kernel_rfl) ?_
        refine st_skip (by kernel_rfl) ?_
        refine st_skip (by kernel_rfl) ?_
        refine st_skip (by kernel_rfl) ?_
        refine st_val (.bool true) (by kernel_rfl) (by kernel_rfl) ?_
        refine wl_nil ?_
        refine hK33 _ _ ?_
        try clear hK33 K33
        refine wp_frame (a' := ⟨#[v0, .slice A l1.length c, .int .i64 q, .int .i64 p, undef, undef, undef, undef, .bool false, .pointer (some ⟨g5, 0, none⟩), .pointer (some ⟨g11, 0, none⟩), .int .i64 (k : Int), v0, .agg (bv (matOf l0)), .agg (bv (matOf l0)), .int .i64 (k : Int), .bool true, .bool true, .int .i64 (k : Int), .slice A l1.length c, .int .i64 ((l1.length : Nat) : Int), .bool false, .bool false, (u18 23), (u18 24), (u18 25), (u18 26), (u18 27), (u18 28), (u18 29), (u18 30), (u18 31), (u18 32), (u18 33), (u18 34), .int .i64 q, .int .i64 p, .bool true, .bool true, undef, undef, undef, undef, .bool true, .bool true, undef, undef, undef, undef, .bool true, undef, undef, undef, undef, undef, undef, undef, undef, undef, undef, undef, undef, undef, undef, undef, undef, undef], []⟩) (by kernel_rfl) ?_
        refine wp_cond_true (by kernel_rfl) ?_
        refine wp_seq_k (fun K35 hK35 => ?_)
        refine wl_region ?_
        refine st_callB M34 (.bool true) (by kernel_rfl) (args := #[]) (run_value_call 14 #[] _ rfl Try.func14 (by kernel_rfl) (by kernel_rfl) _ (by kernel_rfl)) (awake_walk W19) ?_
        intro W36 M37
        refine st_val (.bool true) (by kernel_rfl) (by kernel_rfl) ?_
        refine wl_nil ?_
        refine hK35 _ _ ?_
        try clear hK35 K35
        refine wp_ret ?_
        refine th_ret ?_
        exact done1 8 (.bool true) (by kernel_rfl) (by kernel_rfl) (by kernel_rfl) ⟨rfl, M37.toBelow⟩
      ·
        refine st_val (.bool false) (by kernel_rfl) (bool_of (dec_f c37) (by kernel_rfl)) ?_
        refine st_val (.bool false) (by kernel_rfl) (by kernel_rfl) ?_
        refine st_val (.agg (bv (matOf l0))) (by kernel_rfl) (run_load_row 23 (.tmp 9) rfl g5 (by kernel_rfl) 23 (bv (matOf l0)) (0, 0) _ (M34.get 1 rfl) Try.underlying23 rfl (infoB64 _ (matOf_length _))) ?_
        refine st_val (.int .i64 q) (by kernel_rfl) (by kernel_rfl) ?_
        rcases Classical.em (Fit (matOf l0) q) with hF41 | hF41
        ·
          refine st_callB M34 (.bool true) (by kernel_rfl) (args := #[.agg (bv (matOf l0)), .int .i64 q]) (run_value_call 23 #[(Operand.tmp 39), (Operand.tmp 40)] _ rfl Try.func23 (by kernel_rfl) (by kernel_rfl) _ (by kernel_rfl)) (refMay_t W19 (matOf l0) (matOf_length _) (matOf_BL hb0) q hF41) ?_
          intro W38 M39
          refine st_val (.bool false) (by kernel_rfl) (by kernel_rfl) ?_
          refine st_val (.bool false) (by kernel_rfl) (by kernel_rfl) ?_
          refine st_val (.bool false) (by kernel_rfl) (by kernel_rfl) ?_
          refine st_val (.agg (bv (mxOf (matOf l0) l1))) (by kernel_rfl) (run_load_row 23 (.tmp 10) rfl g11 (by kernel_rfl) 23 (bv (mxOf (matOf l0) l1)) (0, 0) _ (M39.get 0 rfl) Try.underlying23 rfl (infoB64 _ (mxOf_length _ _))) ?_
          refine st_val (.int .i64 p) (by kernel_rfl) (by kernel_rfl) ?_
          rcases Classical.em (Fit (mxOf (matOf l0) l1) p) with hF47 | hF47
          ·
            refine st_callB M39 (.bool true) (by kernel_rfl) (args := #[.agg (bv (mxOf (matOf l0) l1)), .int .i64 p]) (run_value_call 23 #[(Operand.tmp 45), (Operand.tmp 46)] _ rfl Try.func23 (by kernel_rfl) (by kernel_rfl) _ (by kernel_rfl)) (refMay_t W38 (mxOf (matOf l0) l1) (mxOf_length _ _) (mxOf_BL (matOf_BL hb0) hb1) p hF47) ?_
            intro W40 M41
            refine st_val (.bool false) (by kernel_rfl) (by kernel_rfl) ?_
            refine st_val (.bool false) (by kernel_rfl) (by kernel_rfl) ?_
            refine wl_nil ?_
            refine hK33 _ _ ?_
            try clear hK33 K33
            refine wp_frame (a' := ⟨#[v0, .slice A l1.length c, .int .i64 q, .int .i64 p, undef, undef, undef, undef, .bool false, .pointer (some ⟨g5, 0, none⟩), .pointer (some ⟨g11, 0, none⟩), .int .i64 (k : Int), v0, .agg (bv (matOf l0)), .agg (bv (matOf l0)), .int .i64 (k : Int), .bool true, .bool true, .int .i64 (k : Int), .slice A l1.length c, .int .i64 ((l1.length : Nat) : Int), .bool false, .bool false, (u18 23), (u18 24), (u18 25), (u18 26), (u18 27), (u18 28), (u18 29), (u18 30), (u18 31), (u18 32), (u18 33), (u18 34), .int .i64 q, .int .i64 p, .bool false, .bool false, .agg (bv (matOf l0)), .int .i64 q, .bool true, .bool false, .bool false, .bool false, .agg (bv (mxOf (matOf l0) l1)), .int .i64 p, .bool true, .bool false, .bool false, undef, undef, undef, undef, undef, undef, undef, undef, undef, undef, undef, undef, undef, undef, undef, undef, undef], []⟩) (by kernel_rfl) ?_
            refine wp_cond_false (by kernel_rfl) ?_
            refine wp_skip ?_
            refine hK32 _ _ ?_
            try clear hK32 K32
            refine wp_seq_k (fun K42 hK42 => ?_)
            refine wl_seq 17 (fun w' => Mem NoS w w' [(g11, .cells (bv (mxOf (matOf l0) l1)) 23 (0, 0)), (g5, .cells (bv (matOf l0)) 23 (0, 0))]) (by decide) (by kernel_rfl) (by kernel_rfl) M41.drew ?_
            refine seq_call (v := .bool true) (f := 14) (args := #[]) (by decide) (by kernel_rfl) (fun w' M' => (run_value_call 14 #[] _ rfl Try.func14 (by kernel_rfl) (by kernel_rfl) _ (by kernel_rfl))) (fun w' M' => callB_mem M' (awake_walk w')) ?_
            refine seq_run (v := .bool true) (by decide) (by kernel_rfl) (fun w' M' => (by kernel_rfl)) ?_
            refine seq_run (v := .agg (bv (matOf l0))) (by decide) (by kernel_rfl) (fun w' M' => (run_load_row 23 (.tmp 9) rfl g5 (by kernel_rfl) 23 (bv (matOf l0)) (0, 0) _ (M'.get 1 rfl) Try.underlying23 rfl (infoB64 _ (matOf_length _)))) ?_
            refine seq_run (v := .int .i64 q) (by decide) (by kernel_rfl) (fun w' M' => (by kernel_rfl)) ?_
            refine seq_call (v := .int .i64 (bnd (matOf l0) q)) (f := 26) (args := #[.agg (bv (matOf l0)), .int .i64 q]) (by decide) (by kernel_rfl) (fun w' M' => (run_value_call 26 #[(Operand.tmp 53), (Operand.tmp 54)] _ rfl Try.func26 (by kernel_rfl) (by kernel_rfl) _ (by kernel_rfl))) (fun w' M' => callB_mem M' (bound_walk w' (matOf l0) q (matOf_length _) (matOf_BL hb0))) ?_
            refine seq_run (v := .bool true) (by decide) (by kernel_rfl) (fun w' M' => (bool_of (dec_t (show (bnd (matOf l0) q : Int) ≥ 1 from bnd_pos hF41 (matOf_BL hb0))) (by kernel_rfl))) ?_
            refine seq_run (v := .bool true) (by decide) (by kernel_rfl) (fun w' M' => (by kernel_rfl)) ?_
            refine seq_run (v := .bool true) (by decide) (by kernel_rfl) (fun w' M' => (by kernel_rfl)) ?_
            refine seq_run (v := .agg (bv (matOf l0))) (by decide) (by kernel_rfl) (fun w' M' => (run_load_row 23 (.tmp 9) rfl g5 (by kernel_rfl) 23 (bv (matOf l0)) (0, 0) _ (M'.get 1 rfl) Try.underlying23 rfl (infoB64 _ (matOf_length _)))) ?_
            refine seq_run (v := .int .i64 q) (by decide) (by kernel_rfl) (fun w' M' => (by kernel_rfl)) ?_
            refine seq_call (v := .int .i64 (bnd (matOf l0) q)) (f := 26) (args := #[.agg (bv (matOf l0)), .int .i64 q]) (by decide) (by kernel_rfl) (fun w' M' => (run_value_call 26 #[(Operand.tmp 59), (Operand.tmp 60)] _ rfl Try.func26 (by kernel_rfl) (by kernel_rfl) _ (by kernel_rfl))) (fun w' M' => callB_mem M' (bound_walk w' (matOf l0) q (matOf_length _) (matOf_BL hb0))) ?_
            refine seq_run (v := .agg (bv (mxOf (matOf l0) l1))) (by decide) (by kernel_rfl) (fun w' M' => (run_load_row 23 (.tmp 10) rfl g11 (by kernel_rfl) 23 (bv (mxOf (matOf l0) l1)) (0, 0) _ (M'.get 0 rfl) Try.underlying23 rfl (infoB64 _ (mxOf_length _ _)))) ?_
            refine seq_run (v := .int .i64 p) (by decide) (by kernel_rfl) (fun w' M' => (by kernel_rfl)) ?_
            refine seq_call (v := .int .i64 (bnd (mxOf (matOf l0) l1) p)) (f := 26) (args := #[.agg (bv (mxOf (matOf l0) l1)), .int .i64 p]) (by decide) (by kernel_rfl) (fun w' M' => (run_value_call 26 #[(Operand.tmp 62), (Operand.tmp 63)] _ rfl Try.func26 (by kernel_rfl) (by kernel_rfl) _ (by kernel_rfl))) (fun w' M' => callB_mem M' (bound_walk w' (mxOf (matOf l0) l1) p (mxOf_length _ _) (mxOf_BL (matOf_BL hb0) hb1))) ?_
            refine seq_run (v := .bool true) (by decide) (by kernel_rfl) (fun w' M' => (bool_of (dec_t (show (bnd (matOf l0) q : Int) ≤ bnd (mxOf (matOf l0) l1) p from bnd_mono hF41 hF47 (matOf_BL hb0) (mxOf_BL (matOf_BL hb0) hb1) (by omega) (mxOf_ge (matOf l0) l1))) (by kernel_rfl))) ?_
            refine seq_run (v := .bool true) (by decide) (by kernel_rfl) (fun w' M' => (by kernel_rfl)) ?_
            refine seq_run (v := .bool true) (by decide) (by kernel_rfl) (fun w' M' => (by kernel_rfl)) ?_
            refine seq_end (by decide) ?_
            intro W43 M44
            refine wl_nil ?_
            refine hK42 _ _ ?_
            try clear hK42 K42
            refine wp_frame (a' := ⟨#[v0, .slice A l1.length c, .int .i64 q, .int .i64 p, undef, undef, undef, undef, .bool true, .pointer (some ⟨g5, 0, none⟩), .pointer (some ⟨g11, 0, none⟩), .int .i64 (k : Int), v0, .agg (bv (matOf l0)), .agg (bv (matOf l0)), .int .i64 (k : Int), .bool true, .bool true, .int .i64 (k : Int), .slice A l1.length c, .int .i64 ((l1.length : Nat) : Int), .bool false, .bool false, (u18 23), (u18 24), (u18 25), (u18 26), (u18 27), (u18 28), (u18 29), (u18 30), (u18 31), (u18 32), (u18 33), (u18 34), .int .i64 q, .int .i64 p, .bool false, .bool false, .agg (bv (matOf l0)), .int .i64 q, .bool true, .bool false, .bool false, .bool false, .agg (bv (mxOf (matOf l0) l1)), .int .i64 p, .bool true, .bool false, .bool false, undef, .bool true, .bool true, .agg (bv (matOf l0)), .int .i64 q, .int .i64 (bnd (matOf l0) q), .bool true, .bool true, .bool true, .agg (bv (matOf l0)), .int .i64 q, .int .i64 (bnd (matOf l0) q), .agg (bv (mxOf (matOf l0) l1)), .int .i64 p, .int .i64 (bnd (mxOf (matOf l0) l1) p), .bool true, .bool true], []⟩) (by kernel_rfl) ?_
            refine wp_ret ?_
            exact done1 8 (.bool true) (by kernel_rfl) (by kernel_rfl) (by kernel_rfl) ⟨rfl, M44.toBelow⟩
          ·
            refine st_callB M39 (.bool false) (by kernel_rfl) (args := #[.agg (bv (mxOf (matOf l0) l1)), .int .i64 p]) (run_value_call 23 #[(Operand.tmp 45), (Operand.tmp 46)] _ rfl Try.func23 (by kernel_rfl) (by kernel_rfl) _ (by kernel_rfl)) (refMay_f W38 (mxOf (matOf l0) l1) (mxOf_length _ _) (mxOf_BL (matOf_BL hb0) hb1) p hF47) ?_
            intro W45 M46
            refine st_val (.bool true) (by kernel_rfl) (by kernel_rfl) ?_
            refine st_val (.bool true) (by kernel_rfl) (by kernel_rfl) ?_
            refine wl_nil ?_
            refine hK33 _ _ ?_
            try clear hK33 K33
            refine wp_frame (a' := ⟨#[v0, .slice A l1.length c, .int .i64 q, .int .i64 p, undef, undef, undef, undef, .bool false, .pointer (some ⟨g5, 0, none⟩), .pointer (some ⟨g11, 0, none⟩), .int .i64 (k : Int), v0, .agg (bv (matOf l0)), .agg (bv (matOf l0)), .int .i64 (k : Int), .bool true, .bool true, .int .i64 (k : Int), .slice A l1.length c, .int .i64 ((l1.length : Nat) : Int), .bool false, .bool false, (u18 23), (u18 24), (u18 25), (u18 26), (u18 27), (u18 28), (u18 29), (u18 30), (u18 31), (u18 32), (u18 33), (u18 34), .int .i64 q, .int .i64 p, .bool false, .bool false, .agg (bv (matOf l0)), .int .i64 q, .bool true, .bool false, .bool false, .bool false, .agg (bv (mxOf (matOf l0) l1)), .int .i64 p, .bool false, .bool true, .bool true, undef, undef, undef, undef, undef, undef, undef, undef, undef, undef, undef, undef, undef, undef, undef, undef, undef], []⟩) (by kernel_rfl) ?_
            refine wp_cond_true (by kernel_rfl) ?_
            refine wp_seq_k (fun K47 hK47 => ?_)
            refine wl_region ?_
            refine st_callB M46 (.bool true) (by kernel_rfl) (args := #[]) (run_value_call 14 #[] _ rfl Try.func14 (by kernel_rfl) (by kernel_rfl) _ (by kernel_rfl)) (awake_walk W45) ?_
            intro W48 M49
            refine st_val (.bool true) (by kernel_rfl) (by kernel_rfl) ?_
            refine wl_nil ?_
            refine hK47 _ _ ?_
            try clear hK47 K47
            refine wp_ret ?_
            refine th_ret ?_
            exact done1 8 (.bool true) (by kernel_rfl) (by kernel_rfl) (by kernel_rfl) ⟨rfl, M49.toBelow⟩
        ·
          refine st_callB M34 (.bool false) (by kernel_rfl) (args := #[.agg (bv (matOf l0)), .int .i64 q]) (run_value_call 23 #[(Operand.tmp 39), (Operand.tmp 40)] _ rfl Try.func23 (by kernel_rfl) (by kernel_rfl) _ (by kernel_rfl)) (refMay_f W19 (matOf l0) (matOf_length _) (matOf_BL hb0) q hF41) ?_
          intro W50 M51
          refine st_val (.bool true) (by kernel_rfl) (by kernel_rfl) ?_
          refine st_val (.bool true) (by kernel_rfl) (by kernel_rfl) ?_
          refine st_val (.bool true) (by kernel_rfl) (by kernel_rfl) ?_
          refine st_skip (by kernel_rfl) ?_
          refine st_skip (by kernel_rfl) ?_
          refine st_skip (by kernel_rfl) ?_
          refine st_skip (by kernel_rfl) ?_
          refine st_val (.bool true) (by kernel_rfl) (by kernel_rfl) ?_
          refine wl_nil ?_
          refine hK33 _ _ ?_
          try clear hK33 K33
          refine wp_frame (a' := ⟨#[v0, .slice A l1.length c, .int .i64 q, .int .i64 p, undef, undef, undef, undef, .bool false, .pointer (some ⟨g5, 0, none⟩), .pointer (some ⟨g11, 0, none⟩), .int .i64 (k : Int), v0, .agg (bv (matOf l0)), .agg (bv (matOf l0)), .int .i64 (k : Int), .bool true, .bool true, .int .i64 (k : Int), .slice A l1.length c, .int .i64 ((l1.length : Nat) : Int), .bool false, .bool false, (u18 23), (u18 24), (u18 25), (u18 26), (u18 27), (u18 28), (u18 29), (u18 30), (u18 31), (u18 32), (u18 33), (u18 34), .int .i64 q, .int .i64 p, .bool false, .bool false, .agg (bv (matOf l0)), .int .i64 q, .bool false, .bool true, .bool true, .bool true, undef, undef, undef, undef, .bool true, undef, undef, undef, undef, undef, undef, undef, undef, undef, undef, undef, undef, undef, undef, undef, undef, undef], []⟩) (by kernel_rfl) ?_
          refine wp_cond_true (by kernel_rfl) ?_
          refine wp_seq_k (fun K52 hK52 => ?_)
          refine wl_region ?_
          refine st_callB M51 (.bool true) (by kernel_rfl) (args := #[]) (run_value_call 14 #[] _ rfl Try.func14 (by kernel_rfl) (by kernel_rfl) _ (by kernel_rfl)) (awake_walk W50) ?_
          intro W53 M54
          refine st_val (.bool true) (by kernel_rfl) (by kernel_rfl) ?_
          refine wl_nil ?_
          refine hK52 _ _ ?_
          try clear hK52 K52
          refine wp_ret ?_
          refine th_ret ?_
          exact done1 8 (.bool true) (by kernel_rfl) (by kernel_rfl) (by kernel_rfl) ⟨rfl, M54.toBelow⟩
  ·
    refine st_val (.bool false) (by kernel_rfl) (bool_of (dec_f c16) (by kernel_rfl)) ?_
    refine st_val (.bool false) (by kernel_rfl) (by kernel_rfl) ?_
    refine st_skip (by kernel_rfl) ?_
    refine st_skip (by kernel_rfl) ?_
    refine st_skip (by kernel_rfl) ?_
    refine st_skip (by kernel_rfl) ?_
    refine st_val (.bool false) (by kernel_rfl) (by kernel_rfl) ?_
    refine wl_nil ?_
    refine hK22 _ _ ?_
    try clear hK22 K22
    refine wp_cond_false (by kernel_rfl) ?_
    refine wp_exit ?_
    refine th_exit ?_
    refine th_exit ?_
    refine blk_exit ?_
    refine hK16 _ _ ?_
    try clear hK16 K16
    refine wp_seq_k (fun K55 hK55 => ?_)
    refine wp_seq_k (fun K56 hK56 => ?_)
    have M57 : Mem NoS w W19 [(g11, .cells (bv (mxOf (matOf l0) l1)) 23 (0, 0)), (g5, .cells (bv (matOf l0)) 23 (0, 0))] := by
      have hh := M20; rw [mxTo_end (matOf l0) l1 k (by omega) r2] at hh; exact hh
    refine wl_region ?_
    refine st_val (.int .i64 q) (by kernel_rfl) (by kernel_rfl) ?_
    refine st_val (.int .i64 p) (by kernel_rfl) (by kernel_rfl) ?_
    rcases Decidable.em ((q : Int) > p) with c37 | c37
    ·
      refine st_val (.bool true) (by kernel_rfl) (bool_of (dec_t c37) (by kernel_rfl)) ?_
      refine st_val (.bool true) (by kernel_rfl) (by kernel_rfl) ?_
      refine st_skip (by kernel_rfl) ?_
      refine st_skip (by kernel_rfl) ?_
      refine st_skip (by kernel_rfl) ?_
      refine st_skip (by kernel_rfl) ?_
      refine st_val (.bool true) (by kernel_rfl) (by kernel_rfl) ?_
      refine st_val (.bool true) (by kernel_rfl) (by kernel_rfl) ?_
      refine st_skip (by kernel_rfl) ?_
      refine st_skip (by kernel_rfl) ?_
      refine st_skip (by kernel_rfl) ?_
      refine st_skip (by kernel_rfl) ?_
      refine st_val (.bool true) (by kernel_rfl) (by kernel_rfl) ?_
      refine wl_nil ?_
      refine hK56 _ _ ?_
      try clear hK56 K56
      refine wp_frame (a' := ⟨#[v0, .slice A l1.length c, .int .i64 q, .int .i64 p, undef, undef, undef, undef, .bool false, .pointer (some ⟨g5, 0, none⟩), .pointer (some ⟨g11, 0, none⟩), .int .i64 (k : Int), v0, .agg (bv (matOf l0)), .agg (bv (matOf l0)), .int .i64 (k : Int), .bool false, .bool false, undef, undef, undef, undef, .bool false, (u18 23), (u18 24), (u18 25), (u18 26), (u18 27), (u18 28), (u18 29), (u18 30), (u18 31), (u18 32), (u18 33), (u18 34), .int .i64 q, .int .i64 p, .bool true, .bool true, undef, undef, undef, undef, .bool true, .bool true, undef, undef, undef, undef, .bool true, undef, undef, undef, undef, undef, undef, undef, undef, undef, undef, undef, undef, undef, undef, undef, undef, undef], []⟩) (by kernel_rfl) ?_
      refine wp_cond_true (by kernel_rfl) ?_
      refine wp_seq_k (fun K58 hK58 => ?_)
      refine wl_region ?_
      refine st_callB M57 (.bool true) (by kernel_rfl) (args := #[]) (run_value_call 14 #[] _ rfl Try.func14 (by kernel_rfl) (by kernel_rfl) _ (by kernel_rfl)) (awake_walk W19) ?_
      intro W59 M60
      refine st_val (.bool true) (by kernel_rfl) (by kernel_rfl) ?_
      refine wl_nil ?_
      refine hK58 _ _ ?_
      try clear hK58 K58
      refine wp_ret ?_
      refine th_ret ?_
      exact done1 8 (.bool true) (by kernel_rfl) (by kernel_rfl) (by kernel_rfl) ⟨rfl, M60.toBelow⟩
    ·
      refine st_val (.bool false) (by kernel_rfl) (bool_of (dec_f c37) (by kernel_rfl)) ?_
      refine st_val (.bool false) (by kernel_rfl) (by kernel_rfl) ?_
      refine st_val (.agg (bv (matOf l0))) (by kernel_rfl) (run_load_row 23 (.tmp 9) rfl g5 (by kernel_rfl) 23 (bv (matOf l0)) (0, 0) _ (M57.get 1 rfl) Try.underlying23 rfl (infoB64 _ (matOf_length _))) ?_
      refine st_val (.int .i64 q) (by kernel_rfl) (by kernel_rfl) ?_
      rcases Classical.em (Fit (matOf l0) q) with hF41 | hF41
      ·
        refine st_callB M57 (.bool true) (by kernel_rfl) (args := #[.agg (bv (matOf l0)), .int .i64 q]) (run_value_call 23 #[(Operand.tmp 39), (Operand.tmp 40)] _ rfl Try.func23 (by kernel_rfl) (by kernel_rfl) _ (by kernel_rfl)) (refMay_t W19 (matOf l0) (matOf_length _) (matOf_BL hb0) q hF41) ?_
        intro W61 M62
        refine st_val (.bool false) (by kernel_rfl) (by kernel_rfl) ?_
        refine st_val (.bool false) (by kernel_rfl) (by kernel_rfl) ?_
        refine st_val (.bool false) (by kernel_rfl) (by kernel_rfl) ?_
        refine st_val (.agg (bv (mxOf (matOf l0) l1))) (by kernel_rfl) (run_load_row 23 (.tmp 10) rfl g11 (by kernel_rfl) 23 (bv (mxOf (matOf l0) l1)) (0, 0) _ (M62.get 0 rfl) Try.underlying23 rfl (infoB64 _ (mxOf_length _ _))) ?_
        refine st_val (.int .i64 p) (by kernel_rfl) (by kernel_rfl) ?_
        rcases Classical.em (Fit (mxOf (matOf l0) l1) p) with hF47 | hF47
        ·
          refine st_callB M62 (.bool true) (by kernel_rfl) (args := #[.agg (bv (mxOf (matOf l0) l1)), .int .i64 p]) (run_value_call 23 #[(Operand.tmp 45), (Operand.tmp 46)] _ rfl Try.func23 (by kernel_rfl) (by kernel_rfl) _ (by kernel_rfl)) (refMay_t W61 (mxOf (matOf l0) l1) (mxOf_length _ _) (mxOf_BL (matOf_BL hb0) hb1) p hF47) ?_
          intro W63 M64
          refine st_val (.bool false) (by kernel_rfl) (by kernel_rfl) ?_
          refine st_val (.bool false) (by kernel_rfl) (by kernel_rfl) ?_
          refine wl_nil ?_
          refine hK56 _ _ ?_
          try clear hK56 K56
          refine wp_frame (a' := ⟨#[v0, .slice A l1.length c, .int .i64 q, .int .i64 p, undef, undef, undef, undef, .bool false, .pointer (some ⟨g5, 0, none⟩), .pointer (some ⟨g11, 0, none⟩), .int .i64 (k : Int), v0, .agg (bv (matOf l0)), .agg (bv (matOf l0)), .int .i64 (k : Int), .bool false, .bool false, undef, undef, undef, undef, .bool false, (u18 23), (u18 24), (u18 25), (u18 26), (u18 27), (u18 28), (u18 29), (u18 30), (u18 31), (u18 32), (u18 33), (u18 34), .int .i64 q, .int .i64 p, .bool false, .bool false, .agg (bv (matOf l0)), .int .i64 q, .bool true, .bool false, .bool false, .bool false, .agg (bv (mxOf (matOf l0) l1)), .int .i64 p, .bool true, .bool false, .bool false, undef, undef, undef, undef, undef, undef, undef, undef, undef, undef, undef, undef, undef, undef, undef, undef, undef], []⟩) (by kernel_rfl) ?_
          refine wp_cond_false (by kernel_rfl) ?_
          refine wp_skip ?_
          refine hK55 _ _ ?_
          try clear hK55 K55
          refine wp_seq_k (fun K65 hK65 => ?_)
          refine wl_seq 17 (fun w' => Mem NoS w w' [(g11, .cells (bv (mxOf (matOf l0) l1)) 23 (0, 0)), (g5, .cells (bv (matOf l0)) 23 (0, 0))]) (by decide) (by kernel_rfl) (by kernel_rfl) M64.drew ?_
          refine seq_call (v := .bool true) (f := 14) (args := #[]) (by decide) (by kernel_rfl) (fun w' M' => (run_value_call 14 #[] _ rfl Try.func14 (by kernel_rfl) (by kernel_rfl) _ (by kernel_rfl))) (fun w' M' => callB_mem M' (awake_walk w')) ?_
          refine seq_run (v := .bool true) (by decide) (by kernel_rfl) (fun w' M' => (by kernel_rfl)) ?_
          refine seq_run (v := .agg (bv (matOf l0))) (by decide) (by kernel_rfl) (fun w' M' => (run_load_row 23 (.tmp 9) rfl g5 (by kernel_rfl) 23 (bv (matOf l0)) (0, 0) _ (M'.get 1 rfl) Try.underlying23 rfl (infoB64 _ (matOf_length _)))) ?_
          refine seq_run (v := .int .i64 q) (by decide) (by kernel_rfl) (fun w' M' => (by kernel_rfl)) ?_
          refine seq_call (v := .int .i64 (bnd (matOf l0) q)) (f := 26) (args := #[.agg (bv (matOf l0)), .int .i64 q]) (by decide) (by kernel_rfl) (fun w' M' => (run_value_call 26 #[(Operand.tmp 53), (Operand.tmp 54)] _ rfl Try.func26 (by kernel_rfl) (by kernel_rfl) _ (by kernel_rfl))) (fun w' M' => callB_mem M' (bound_walk w' (matOf l0) q (matOf_length _) (matOf_BL hb0))) ?_
          refine seq_run (v := .bool true) (by decide) (by kernel_rfl) (fun w' M' => (bool_of (dec_t (show (bnd (matOf l0) q : Int) ≥ 1 from bnd_pos hF41 (matOf_BL hb0))) (by kernel_rfl))) ?_
          refine seq_run (v := .bool true) (by decide) (by kernel_rfl) (fun w' M' => (by kernel_rfl)) ?_
          refine seq_run (v := .bool true) (by decide) (by kernel_rfl) (fun w' M' => (by kernel_rfl)) ?_
          refine seq_run (v := .agg (bv (matOf l0))) (by decide) (by kernel_rfl) (fun w' M' => (run_load_row 23 (.tmp 9) rfl g5 (by kernel_rfl) 23 (bv (matOf l0)) (0, 0) _ (M'.get 1 rfl) Try.underlying23 rfl (infoB64 _ (matOf_length _)))) ?_
          refine seq_run (v := .int .i64 q) (by decide) (by kernel_rfl) (fun w' M' => (by kernel_rfl)) ?_
          refine seq_call (v := .int .i64 (bnd (matOf l0) q)) (f := 26) (args := #[.agg (bv (matOf l0)), .int .i64 q]) (by decide) (by kernel_rfl) (fun w' M' => (run_value_call 26 #[(Operand.tmp 59), (Operand.tmp 60)] _ rfl Try.func26 (by kernel_rfl) (by kernel_rfl) _ (by kernel_rfl))) (fun w' M' => callB_mem M' (bound_walk w' (matOf l0) q (matOf_length _) (matOf_BL hb0))) ?_
          refine seq_run (v := .agg (bv (mxOf (matOf l0) l1))) (by decide) (by kernel_rfl) (fun w' M' => (run_load_row 23 (.tmp 10) rfl g11 (by kernel_rfl) 23 (bv (mxOf (matOf l0) l1)) (0, 0) _ (M'.get 0 rfl) Try.underlying23 rfl (infoB64 _ (mxOf_length _ _)))) ?_
          refine seq_run (v := .int .i64 p) (by decide) (by kernel_rfl) (fun w' M' => (by kernel_rfl)) ?_
          refine seq_call (v := .int .i64 (bnd (mxOf (matOf l0) l1) p)) (f := 26) (args := #[.agg (bv (mxOf (matOf l0) l1)), .int .i64 p]) (by decide) (by kernel_rfl) (fun w' M' => (run_value_call 26 #[(Operand.tmp 62), (Operand.tmp 63)] _ rfl Try.func26 (by kernel_rfl) (by kernel_rfl) _ (by kernel_rfl))) (fun w' M' => callB_mem M' (bound_walk w' (mxOf (matOf l0) l1) p (mxOf_length _ _) (mxOf_BL (matOf_BL hb0) hb1))) ?_
          refine seq_run (v := .bool true) (by decide) (by kernel_rfl) (fun w' M' => (bool_of (dec_t (show (bnd (matOf l0) q : Int) ≤ bnd (mxOf (matOf l0) l1) p from bnd_mono hF41 hF47 (matOf_BL hb0) (mxOf_BL (matOf_BL hb0) hb1) (by omega) (mxOf_ge (matOf l0) l1))) (by kernel_rfl))) ?_
          refine seq_run (v := .bool true) (by decide) (by kernel_rfl) (fun w' M' => (by kernel_rfl)) ?_
          refine seq_run (v := .bool true) (by decide) (by kernel_rfl) (fun w' M' => (by kernel_rfl)) ?_
          refine seq_end (by decide) ?_
          intro W66 M67
          refine wl_nil ?_
          refine hK65 _ _ ?_
          try clear hK65 K65
          refine wp_frame (a' := ⟨#[v0, .slice A l1.length c, .int .i64 q, .int .i64 p, undef, undef, undef, undef, .bool true, .pointer (some ⟨g5, 0, none⟩), .pointer (some ⟨g11, 0, none⟩), .int .i64 (k : Int), v0, .agg (bv (matOf l0)), .agg (bv (matOf l0)), .int .i64 (k : Int), .bool false, .bool false, undef, undef, undef, undef, .bool false, (u18 23), (u18 24), (u18 25), (u18 26), (u18 27), (u18 28), (u18 29), (u18 30), (u18 31), (u18 32), (u18 33), (u18 34), .int .i64 q, .int .i64 p, .bool false, .bool false, .agg (bv (matOf l0)), .int .i64 q, .bool true, .bool false, .bool false, .bool false, .agg (bv (mxOf (matOf l0) l1)), .int .i64 p, .bool true, .bool false, .bool false, undef, .bool true, .bool true, .agg (bv (matOf l0)), .int .i64 q, .int .i64 (bnd (matOf l0) q), .bool true, .bool true, .bool true, .agg (bv (matOf l0)), .int .i64 q, .int .i64 (bnd (matOf l0) q), .agg (bv (mxOf (matOf l0) l1)), .int .i64 p, .int .i64 (bnd (mxOf (matOf l0) l1) p), .bool true, .bool true], []⟩) (by kernel_rfl) ?_
          refine wp_ret ?_
          exact done1 8 (.bool true) (by kernel_rfl) (by kernel_rfl) (by kernel_rfl) ⟨rfl, M67.toBelow⟩
        ·
          refine st_callB M62 (.bool false) (by kernel_rfl) (args := #[.agg (bv (mxOf (matOf l0) l1)), .int .i64 p]) (run_value_call 23 #[(Operand.tmp 45), (Operand.tmp 46)] _ rfl Try.func23 (by kernel_rfl) (by kernel_rfl) _ (by kernel_rfl)) (refMay_f W61 (mxOf (matOf l0) l1) (mxOf_length _ _) (mxOf_BL (matOf_BL hb0) hb1) p hF47) ?_
          intro W68 M69
          refine st_val (.bool true) (by kernel_rfl) (by kernel_rfl) ?_
          refine st_val (.bool true) (by kernel_rfl) (by kernel_rfl) ?_
          refine wl_nil ?_
          refine hK56 _ _ ?_
          try clear hK56 K56
          refine wp_frame (a' := ⟨#[v0, .slice A l1.length c, .int .i64 q, .int .i64 p, undef, undef, undef, undef, .bool false, .pointer (some ⟨g5, 0, none⟩), .pointer (some ⟨g11, 0, none⟩), .int .i64 (k : Int), v0, .agg (bv (matOf l0)), .agg (bv (matOf l0)), .int .i64 (k : Int), .bool false, .bool false, undef, undef, undef, undef, .bool false, (u18 23), (u18 24), (u18 25), (u18 26), (u18 27), (u18 28), (u18 29), (u18 30), (u18 31), (u18 32), (u18 33), (u18 34), .int .i64 q, .int .i64 p, .bool false, .bool false, .agg (bv (matOf l0)), .int .i64 q, .bool true, .bool false, .bool false, .bool false, .agg (bv (mxOf (matOf l0) l1)), .int .i64 p, .bool false, .bool true, .bool true, undef, undef, undef, undef, undef, undef, undef, undef, undef, undef, undef, undef, undef, undef, undef, undef, undef], []⟩) (by kernel_rfl) ?_
          refine wp_cond_true (by kernel_rfl) ?_
          refine wp_seq_k (fun K70 hK70 => ?_)
          refine wl_region ?_
          refine st_callB M69 (.bool true) (by kernel_rfl) (args := #[]) (run_value_call 14 #[] _ rfl Try.func14 (by kernel_rfl) (by kernel_rfl) _ (by kernel_rfl)) (awake_walk W68) ?_
          intro W71 M72
          refine st_val (.bool true) (by kernel_rfl) (by kernel_rfl) ?_
          refine wl_nil ?_
          refine hK70 _ _ ?_
          try clear hK70 K70
          refine wp_ret ?_
          refine th_ret ?_
          exact done1 8 (.bool true) (by kernel_rfl) (by kernel_rfl) (by kernel_rfl) ⟨rfl, M72.toBelow⟩
      ·
        refine st_callB M57 (.bool false) (by kernel_rfl) (args := #[.agg (bv (matOf l0)), .int .i64 q]) (run_value_call 23 #[(Operand.tmp 39), (Operand.tmp 40)] _ rfl Try.func23 (by kernel_rfl) (by kernel_rfl) _ (by kernel_rfl)) (refMay_f W19 (matOf l0) (matOf_length _) (matOf_BL hb0) q hF41) ?_
        intro W73 M74
        refine st_val (.bool true) (by kernel_rfl) (by kernel_rfl) ?_
        refine st_val (.bool true) (by kernel_rfl) (by kernel_rfl) ?_
        refine st_val (.bool true) (by kernel_rfl) (by kernel_rfl) ?_
        refine st_skip (by kernel_rfl) ?_
        refine st_skip (by kernel_rfl) ?_
        refine st_skip (by kernel_rfl) ?_
        refine st_skip (by kernel_rfl) ?_
        refine st_val (.bool true) (by kernel_rfl) (by kernel_rfl) ?_
        refine wl_nil ?_
        refine hK56 _ _ ?_
        try clear hK56 K56
        refine wp_frame (a' := ⟨#[v0, .slice A l1.length c, .int .i64 q, .int .i64 p, undef, undef, undef, undef, .bool false, .pointer (some ⟨g5, 0, none⟩), .pointer (some ⟨g11, 0, none⟩), .int .i64 (k : Int), v0, .agg (bv (matOf l0)), .agg (bv (matOf l0)), .int .i64 (k : Int), .bool false, .bool false, undef, undef, undef, undef, .bool false, (u18 23), (u18 24), (u18 25), (u18 26), (u18 27), (u18 28), (u18 29), (u18 30), (u18 31), (u18 32), (u18 33), (u18 34), .int .i64 q, .int .i64 p, .bool false, .bool false, .agg (bv (matOf l0)), .int .i64 q, .bool false, .bool true, .bool true, .bool true, undef, undef, undef, undef, .bool true, undef, undef, undef, undef, undef, undef, undef, undef, undef, undef, undef, undef, undef, undef, undef, undef, undef], []⟩) (by kernel_rfl) ?_
        refine wp_cond_true (by kernel_rfl) ?_
        refine wp_seq_k (fun K75 hK75 => ?_)
        refine wl_region ?_
        refine st_callB M74 (.bool true) (by kernel_rfl) (args := #[]) (run_value_call 14 #[] _ rfl Try.func14 (by kernel_rfl) (by kernel_rfl) _ (by kernel_rfl)) (awake_walk W73) ?_
        intro W76 M77
        refine st_val (.bool true) (by kernel_rfl) (by kernel_rfl) ?_
        refine wl_nil ?_
        refine hK75 _ _ ?_
        try clear hK75 K75
        refine wp_ret ?_
        refine th_ret ?_
        exact done1 8 (.bool true) (by kernel_rfl) (by kernel_rfl) (by kernel_rfl) ⟨rfl, M77.toBelow⟩
end Go.Proofs.Ytjclncmpfdfkfaa
