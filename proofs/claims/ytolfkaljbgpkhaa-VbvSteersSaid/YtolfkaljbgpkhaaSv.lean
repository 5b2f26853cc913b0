/- Valid sequence headers. -/
import Derived.Test.YtolfkaljbgpkhaaSq
namespace Go.Proofs.Ytolfkaljbgpkhaa
open Go.RowKit

theorem infoB {l : List Int} (h : l.length = 64) : (Try.prog.info? 24).map (·.size) = some (l.map (Value.int .u8)).length := by
  rw [List.length_map, h]; kernel_rfl
theorem SV_of {s : SeqD} (h : sB s = true) : SV s := of_decide_eq_true h
theorem sv_prods {num den br bu : Int} (h1 : 1 ≤ num) (h2 : num ≤ 1048576) (h3 : 1 ≤ den) (h4 : den ≤ 65536) (h5 : 1 ≤ br) (h6 : br ≤ 16777216) (h7 : 1 ≤ bu) (h8 : bu ≤ 8388608) :
    (0 ≤ 2 * num * bu ∧ 2 * num * bu ≤ 17592186044416) ∧ (0 ≤ 3 * den * br ∧ 3 * den * br ≤ 3298534883328) :=
  ⟨mul_in (m := 2097152) (n := 8388608) ⟨by omega, by omega⟩ ⟨by omega, h8⟩, mul_in (m := 196608) (n := 16777216) ⟨by omega, by omega⟩ ⟨by omega, h6⟩⟩
set_option maxHeartbeats 4000000 in
set_option maxRecDepth 100000 in
theorem vseq_walk (w : World) (s : SeqD) (hs : SOk s) : Calls Try.prog 30 #[.agg (sqv s)] w fun e w' => e = .returned (.bool (sB s)) ∧ Below w.heap.size w w' := by
  refine calls_of_wp Try.func30 rfl ?_
  refine wp_frame (a' := ⟨#[.agg (sqv s), undef, undef, undef, undef, undef, undef, undef, undef, undef, undef, undef, undef, undef, undef, undef, undef, undef, undef, undef, undef, undef, undef, undef, undef, undef, undef, undef, undef, undef, undef, undef, undef, undef, undef, undef, undef, undef, undef, undef, undef, undef, undef, undef, undef, undef, undef, undef, undef, undef, undef, undef, undef, undef, undef, undef, undef, undef, undef, undef, undef, undef, undef, undef, undef, undef, undef, undef, undef, undef, undef, undef, undef, undef, undef, undef, undef, undef, undef, undef, undef, undef, undef, undef, undef, undef, undef, undef, undef, undef, undef, undef, undef, undef, undef, undef, undef, undef, undef, undef, undef, undef, undef, undef, undef, undef, undef, undef, undef, undef, undef, undef], []⟩) (by kernel_rfl) ?_
  have M0 : Mem NoS w w [] := Mem.start _ _
  refine wp_seq_k (fun K1 hK1 => ?_)
  have hW := hs.W
  have hH := hs.H
  have hn := hs.num
  have hd := hs.den
  have hbr := hs.br
  have hbu := hs.bu
  refine wl_region ?_
  refine st_alloc M0 (.cells (sqv s) 26 (0, 0)) (by kernel_rfl) (by kernel_rfl) ?_
  intro g2 W3 M4
  refine st_val (.bool false) (by kernel_rfl) (by kernel_rfl) ?_
  refine wl_nil ?_
  refine hK1 _ _ ?_
  try clear hK1 K1
  refine wp_seq_k (fun K5 hK5 => ?_)
  refine wl_region ?_
  refine st_val (.int .i64 16) (by kernel_rfl) (by kernel_rfl) ?_
  refine wl_nil ?_
  refine hK5 _ _ ?_
  try clear hK5 K5
  refine wp_seq_k (fun K6 hK6 => ?_)
  refine wp_seq_k (fun K7 hK7 => ?_)
  refine wl_region ?_
  refine st_val (.pointer (some ⟨g2, 4, none⟩)) (by kernel_rfl) (by kernel_rfl) ?_
  rcases Bool.eq_false_or_eq_true s.il with hil | hil
  ·
    refine st_val (.bool true) (by kernel_rfl) (run_load_cell 4 (.tmp 5) rfl ⟨g2, 4, none⟩ (by kernel_rfl) _ (M4.cell 0 rfl 4 _ (sqv_ilt hil)) (by kernel_rfl)) ?_
    refine wl_nil ?_
    refine hK7 _ _ ?_
    try clear hK7 K7
    refine wp_cond_true (by kernel_rfl) ?_
    refine wl_region ?_
    refine st_val (.int .i64 32) (by kernel_rfl) (by kernel_rfl) ?_
    refine wl_nil ?_
    refine hK6 _ _ ?_
    try clear hK6 K6
    refine wp_seq_k (fun K8 hK8 => ?_)
    refine wp_block ?_
    refine wp_seq_k (fun K9 hK9 => ?_)
    refine wl_region ?_
    refine st_val (.pointer (some ⟨g2, 0, none⟩)) (by kernel_rfl) (by kernel_rfl) ?_
    refine st_val (.int .i64 s.W) (by kernel_rfl) (run_load_cell 3 (.tmp 8) rfl ⟨g2, 0, none⟩ (by kernel_rfl) _ (M4.cell 0 rfl 0 _ (sqv_W _)) (by kernel_rfl)) ?_
    rcases Decidable.em ((s.W : Int) < 16) with c10 | c10
    ·
      refine st_val (.bool true) (by kernel_rfl) (bool_of (dec_t c10) (by kernel_rfl)) ?_
      refine st_val (.bool true) (by kernel_rfl) (by kernel_rfl) ?_
      refine st_skip (by kernel_rfl) ?_
      refine st_skip (by kernel_rfl) ?_
      refine st_skip (by kernel_rfl) ?_
      refine st_val (.bool true) (by kernel_rfl) (by kernel_rfl) ?_
      refine st_val (.bool true) (by kernel_rfl) (by kernel_rfl) ?_
      refine st_skip (by kernel_rfl) ?_
      refine st_skip (by kernel_rfl) ?_
      refine st_skip (by kernel_rfl) ?_
      refine st_skip (by kernel_rfl) ?_
      refine st_val (.bool true) (by kernel_rfl) (by kernel_rfl) ?_
      refine st_val (.bool true) (by kernel_rfl) (by kernel_rfl) ?_
      refine st_skip (by kernel_rfl) ?_
      refine st_skip (by kernel_rfl) ?_
      refine st_skip (by kernel_rfl) ?_
      refine st_val (.bool true) (by kernel_rfl) (by kernel_rfl) ?_
      refine st_val (.bool true) (by kernel_rfl) (by kernel_rfl) ?_
      refine st_skip (by kernel_rfl) ?_
      refine st_skip (by kernel_rfl) ?_
      refine st_skip (by kernel_rfl) ?_
      refine st_val (.bool true) (by kernel_rfl) (by kernel_rfl) ?_
      refine st_val (.bool true) (by kernel_rfl) (by kernel_rfl) ?_
      refine st_skip (by kernel_rfl) ?_
      refine st_skip (by kernel_rfl) ?_
      refine st_skip (by kernel_rfl) ?_
      refine st_skip (by kernel_rfl) ?_
      refine st_skip (by kernel_rfl) ?_
      refine st_val (.bool true) (by kernel_rfl) (by kernel_rfl) ?_
      refine st_val (.bool true) (by kernel_rfl) (by kernel_rfl) ?_
      refine wl_nil ?_
      refine hK9 _ _ ?_
      try clear hK9 K9
      refine wp_frame (a' := ⟨#[.agg (sqv s), .pointer (some ⟨g2, 0, none⟩), .bool false, .int .i64 32, undef, .pointer (some ⟨g2, 4, none⟩), .bool true, .bool true, .pointer (some ⟨g2, 0, none⟩), .int .i64 s.W, .bool true, .bool true, undef, undef, undef, .bool true, .bool true, undef, undef, undef, undef, .bool true, .bool true, undef, undef, undef, .bool true, .bool true, undef, undef, undef, .bool true, .bool true, undef, undef, undef, undef, undef, .bool true, undef, undef, undef, undef, undef, undef, undef, undef, undef, undef, undef, undef, undef, undef, undef, undef, undef, undef, undef, undef, undef, undef, undef, undef, undef, undef, undef, undef, undef, undef, undef, undef, undef, undef, undef, undef, undef, undef, undef, undef, undef, undef, undef, undef, undef, undef, undef, undef, undef, undef, undef, undef, undef, undef, undef, undef, undef, undef, undef, undef, undef, undef, undef, undef, undef, undef, undef, undef, undef, undef, undef, undef, undef], []⟩) (by kernel_rfl) ?_
      refine wp_cond_true (by kernel_rfl) ?_
      refine wp_seq_k (fun K10 hK10 => ?_)
      refine wl_region ?_
      refine st_val (.bool false) (by kernel_rfl) (by kernel_rfl) ?_
      refine wl_nil ?_
      refine hK10 _ _ ?_
      try clear hK10 K10
      refine wp_ret ?_
      refine blk_ret ?_
      refine th_ret ?_
      exact done1 2 (.bool false) (by kernel_rfl) (by kernel_rfl) (by kernel_rfl) ⟨by rw [sB_f (fun h => by obtain ⟨h1, h2, h3, h4, h5, h6, h7, h8, h9, h10, h11, h12, h13, h14, h15, h16, h17, h18⟩ := h; first | omega | (have := h7 hil; omega) | (rw [hR] at h8; exact Bool.noConfusion h8) | (rw [hA] at h17; exact Bool.noConfusion h17) | (rw [hB] at h18; exact Bool.noConfusion h18))], M4.toBelow⟩
    ·
      refine st_val (.bool false) (by kernel_rfl) (bool_of (dec_f c10) (by kernel_rfl)) ?_
      refine st_val (.bool false) (by kernel_rfl) (by kernel_rfl) ?_
      refine st_val (.pointer (some ⟨g2, 0, none⟩)) (by kernel_rfl) (by kernel_rfl) ?_
      refine st_val (.int .i64 s.W) (by kernel_rfl) (run_load_cell 3 (.tmp 12) rfl ⟨g2, 0, none⟩ (by kernel_rfl) _ (M4.cell 0 rfl 0 _ (sqv_W _)) (by kernel_rfl)) ?_
      rcases Decidable.em ((s.W : Int) > 64) with c14 | c14
      ·
        refine st_val (.bool true) (by kernel_rfl) (bool_of (dec_t c14) (by kernel_rfl)) ?_
        refine st_val (.bool true) (by kernel_rfl) (by kernel_rfl) ?_
        refine st_val (.bool true) (by kernel_rfl) (by kernel_rfl) ?_
        refine st_skip (by kernel_rfl) ?_
        refine st_skip (by kernel_rfl) ?_
        refine st_skip (by kernel_rfl) ?_
        refine st_skip (by kernel_rfl) ?_
        refine st_val (.bool true) (by kernel_rfl) (by kernel_rfl) ?_
        refine st_val (.bool true) (by kernel_rfl) (by kernel_rfl) ?_
        refine st_skip (by kernel_rfl) ?_
        refine st_skip (by kernel_rfl) ?_
        refine st_skip (by kernel_rfl) ?_
        refine st_val (.bool true) (by kernel_rfl) (by kernel_rfl) ?_
        refine st_val (.bool true) (by kernel_rfl) (by kernel_rfl) ?_
        refine st_skip (by kernel_rfl) ?_
        refine st_skip (by kernel_rfl) ?_
        refine st_skip (by kernel_rfl) ?_
        refine st_val (.bool true) (by kernel_rfl) (by kernel_rfl) ?_
        refine st_val (.bool true) (by kernel_rfl) (by kernel_rfl) ?_
        refine st_skip (by kernel_rfl) ?_
        refine st_skip (by kernel_rfl) ?_
        refine st_skip (by kernel_rfl) ?_
        refine st_skip (by kernel_rfl) ?_
        refine st_skip (by kernel_rfl) ?_
        refine st_val (.bool true) (by kernel_rfl) (by kernel_rfl) ?_
        refine st_val (.bool true) (by kernel_rfl) (by kernel_rfl) ?_
        refine wl_nil ?_
        refine hK9 _ _ ?_
        try clear hK9 K9
        refine wp_frame (a' := ⟨#[.agg (sqv s), .pointer (some ⟨g2, 0, none⟩), .bool false, .int .i64 32, undef, .pointer (some ⟨g2, 4, none⟩), .bool true, .bool true, .pointer (some ⟨g2, 0, none⟩), .int .i64 s.W, .bool false, .bool false, .pointer (some ⟨g2, 0, none⟩), .int .i64 s.W, .bool true, .bool true, .bool true, undef, undef, undef, undef, .bool true, .bool true, undef, undef, undef, .bool true, .bool true, undef, undef, undef, .bool true, .bool true, undef, undef, undef, undef, undef, .bool true, undef, undef, undef, undef, undef, undef, undef, undef, undef, undef, undef, undef, undef, undef, undef, undef, undef, undef, undef, undef, undef, undef, undef, undef, undef, undef, undef, undef, undef, undef, undef, undef, undef, undef, undef, undef, undef, undef, undef, undef, undef, undef, undef, undef, undef, undef, undef, undef, undef, undef, undef, undef, undef, undef, undef, undef, undef, undef, undef, undef, undef, undef, undef, undef, undef, undef, undef, undef, undef, undef, undef, undef, undef], []⟩) (by kernel_rfl) ?_
        refine wp_cond_true (by kernel_rfl) ?_
        refine wp_seq_k (fun K11 hK11 => ?_)
        refine wl_region ?_
        refine st_val (.bool false) (by kernel_rfl) (by kernel_rfl) ?_
        refine wl_nil ?_
        refine hK11 _ _ ?_
        try clear hK11 K11
        refine wp_ret ?_
        refine blk_ret ?_
        refine th_ret ?_
        exact done1 2 (.bool false) (by kernel_rfl) (by kernel_rfl) (by kernel_rfl) ⟨by rw [sB_f (fun h => by obtain ⟨h1, h2, h3, h4, h5, h6, h7, h8, h9, h10, h11, h12, h13, h14, h15, h16, h17, h18⟩ := h; first | omega | (have := h7 hil; omega) | (rw [hR] at h8; exact Bool.noConfusion h8) | (rw [hA] at h17; exact Bool.noConfusion h17) | (rw [hB] at h18; exact Bool.noConfusion h18))], M4.toBelow⟩
      ·
        refine st_val (.bool false) (by kernel_rfl) (bool_of (dec_f c14) (by kernel_rfl)) ?_
        refine st_val (.bool false) (by kernel_rfl) (by kernel_rfl) ?_
        refine st_val (.bool false) (by kernel_rfl) (by kernel_rfl) ?_
        refine st_val (.pointer (some ⟨g2, 0, none⟩)) (by kernel_rfl) (by kernel_rfl) ?_
        refine st_val (.int .i64 s.W) (by kernel_rfl) (run_load_cell 3 (.tmp 17) rfl ⟨g2, 0, none⟩ (by kernel_rfl) _ (M4.cell 0 rfl 0 _ (sqv_W _)) (by kernel_rfl)) ?_
        refine st_val (.int .i64 (s.W % 16)) (by kernel_rfl) (int_of (rem_of s.W 16 (by omega)) (by kernel_rfl)) ?_
        rcases Decidable.em ((s.W % 16 : Int) = 0) with c20 | c20
        ·
          refine st_val (.bool false) (by kernel_rfl) (bool_of (neq_f c20) (by kernel_rfl)) ?_
          refine st_val (.bool false) (by kernel_rfl) (by kernel_rfl) ?_
          refine st_val (.bool false) (by kernel_rfl) (by kernel_rfl) ?_
          refine st_val (.pointer (some ⟨g2, 1, none⟩)) (by kernel_rfl) (by kernel_rfl) ?_
          refine st_val (.int .i64 s.H) (by kernel_rfl) (run_load_cell 3 (.tmp 23) rfl ⟨g2, 1, none⟩ (by kernel_rfl) _ (M4.cell 0 rfl 1 _ (sqv_H _)) (by kernel_rfl)) ?_
          rcases Decidable.em ((s.H : Int) < 16) with c25 | c25
          ·
            refine st_val (.bool true) (by kernel_rfl) (bool_of (dec_t c25) (by kernel_rfl)) ?_
            refine st_val (.bool true) (by kernel_rfl) (by kernel_rfl) ?_
            refine st_val (.bool true) (by kernel_rfl) (by kernel_rfl) ?_
            refine st_skip (by kernel_rfl) ?_
            refine st_skip (by kernel_rfl) ?_
            refine st_skip (by kernel_rfl) ?_
            refine st_val (.bool true) (by kernel_rfl) (by kernel_rfl) ?_
            refine st_val (.bool true) (by kernel_rfl) (by kernel_rfl) ?_
            refine st_skip (by kernel_rfl) ?_
            refine st_skip (by kernel_rfl) ?_
            refine st_skip (by kernel_rfl) ?_
            refine st_skip (by kernel_rfl) ?_
            refine st_skip (by kernel_rfl) ?_
            refine st_val (.bool true) (by kernel_rfl) (by kernel_rfl) ?_
            refine st_val (.bool true) (by kernel_rfl) (by kernel_rfl) ?_
            refine wl_nil ?_
            refine hK9 _ _ ?_
            try clear hK9 K9
            refine wp_frame (a' := ⟨#[.agg (sqv s), .pointer (some ⟨g2, 0, none⟩), .bool false, .int .i64 32, undef, .pointer (some ⟨g2, 4, none⟩), .bool true, .bool true, .pointer (some ⟨g2, 0, none⟩), .int .i64 s.W, .bool false, .bool false, .pointer (some ⟨g2, 0, none⟩), .int .i64 s.W, .bool false, .bool false, .bool false, .pointer (some ⟨g2, 0, none⟩), .int .i64 s.W, .int .i64 (s.W % 16), .bool false, .bool false, .bool false, .pointer (some ⟨g2, 1, none⟩), .int .i64 s.H, .bool true, .bool true, .bool true, undef, undef, undef, .bool true, .bool true, undef, undef, undef, undef, undef, .bool true, undef, undef, undef, undef, undef, undef, undef, undef, undef, undef, undef, undef, undef, undef, undef, undef, undef, undef, undef, undef, undef, undef, undef, undef, undef, undef, undef, undef, undef, undef, undef, undef, undef, undef, undef, undef, undef, undef, undef, undef, undef, undef, undef, undef, undef, undef, undef, undef, undef, undef, undef, undef, undef, undef, undef, undef, undef, undef, undef, undef, undef, undef, undef, undef, undef, undef, undef, undef, undef, undef, undef, undef, undef], []⟩) (by kernel_rfl) ?_
            refine wp_cond_true (by kernel_rfl) ?_
            refine wp_seq_k (fun K12 hK12 => ?_)
            refine wl_region ?_
            refine st_val (.bool false) (by kernel_rfl) (by kernel_rfl) ?_
            refine wl_nil ?_
            refine hK12 _ _ ?_
            try clear hK12 K12
            refine wp_ret ?_
            refine blk_ret ?_
            refine th_ret ?_
            exact done1 2 (.bool false) (by kernel_rfl) (by kernel_rfl) (by kernel_rfl) ⟨by rw [sB_f (fun h => by obtain ⟨h1, h2, h3, h4, h5, h6, h7, h8, h9, h10, h11, h12, h13, h14, h15, h16, h17, h18⟩ := h; first | omega | (have := h7 hil; omega) | (rw [hR] at h8; exact Bool.noConfusion h8) | (rw [hA] at h17; exact Bool.noConfusion h17) | (rw [hB] at h18; exact Bool.noConfusion h18))], M4.toBelow⟩
          ·
            refine st_val (.bool false) (by kernel_rfl) (bool_of (dec_f c25) (by kernel_rfl)) ?_
            refine st_val (.bool false) (by kernel_rfl) (by kernel_rfl) ?_
            refine st_val (.bool false) (by kernel_rfl) (by kernel_rfl) ?_
            refine st_val (.pointer (some ⟨g2, 1, none⟩)) (by kernel_rfl) (by kernel_rfl) ?_
            refine st_val (.int .i64 s.H) (by kernel_rfl) (run_load_cell 3 (.tmp 28) rfl ⟨g2, 1, none⟩ (by kernel_rfl) _ (M4.cell 0 rfl 1 _ (sqv_H _)) (by kernel_rfl)) ?_
            rcases Decidable.em ((s.H : Int) > 64) with c30 | c30
            ·
              refine st_val (.bool true) (by kernel_rfl) (bool_of (dec_t c30) (by kernel_rfl)) ?_
              refine st_val (.bool true) (by kernel_rfl) (by kernel_rfl) ?_
              refine st_val (.bool true) (by kernel_rfl) (by kernel_rfl) ?_
              refine st_skip (by kernel_rfl) ?_
              refine st_skip (by kernel_rfl) ?_
              refine st_skip (by kernel_rfl) ?_
              refine st_skip (by kernel_rfl) ?_
              refine st_skip (by kernel_rfl) ?_
              refine st_val (.bool true) (by kernel_rfl) (by kernel_rfl) ?_
              refine st_val (.bool true) (by kernel_rfl) (by kernel_rfl) ?_
              refine wl_nil ?_
              refine hK9 _ _ ?_
              try clear hK9 K9
              refine wp_frame (a' := ⟨#[.agg (sqv s), .pointer (some ⟨g2, 0, none⟩), .bool false, .int .i64 32, undef, .pointer (some ⟨g2, 4, none⟩), .bool true, .bool true, .pointer (some ⟨g2, 0, none⟩), .int .i64 s.W, .bool false, .bool false, .pointer (some ⟨g2, 0, none⟩), .int .i64 s.W, .bool false, .bool false, .bool false, .pointer (some ⟨g2, 0, none⟩), .int .i64 s.W, .int .i64 (s.W % 16), .bool false, .bool false, .bool false, .pointer (some ⟨g2, 1, none⟩), .int .i64 s.H, .bool false, .bool false, .bool false, .pointer (some ⟨g2, 1, none⟩), .int .i64 s.H, .bool true, .bool true, .bool true, undef, undef, undef, undef, undef, .bool true, undef, undef, undef, undef, undef, undef, undef, undef, undef, undef, undef, undef, undef, undef, undef, undef, undef, undef, undef, undef, undef, undef, undef, undef, undef, undef, undef, undef, undef, undef, undef, undef, undef, undef, undef, undef, undef, undef, undef, undef, undef, undef, undef, undef, undef, undef, undef, undef, undef, undef, undef, undef, undef, undef, undef, undef, undef, undef, undef, undef, undef, undef, undef, undef, undef, undef, undef, undef, undef, undef, undef, undef, undef], []⟩) (by kernel_rfl) ?_
              refine wp_cond_true (by kernel_rfl) ?_
              refine wp_seq_k (fun K13 hK13 => ?_)
              refine wl_region ?_
              refine st_val (.bool false) (by kernel_rfl) (by kernel_rfl) ?_
              refine wl_nil ?_
              refine hK13 _ _ ?_
              try clear hK13 K13
              refine wp_ret ?_
              refine blk_ret ?_
              refine th_ret ?_
              exact done1 2 (.bool false) (by kernel_rfl) (by kernel_rfl) (by kernel_rfl) ⟨by rw [sB_f (fun h => by obtain ⟨h1, h2, h3, h4, h5, h6, h7, h8, h9, h10, h11, h12, h13, h14, h15, h16, h17, h18⟩ := h; first | omega | (have := h7 hil; omega) | (rw [hR] at h8; exact Bool.noConfusion h8) | (rw [hA] at h17; exact Bool.noConfusion h17) | (rw [hB] at h18; exact Bool.noConfusion h18))], M4.toBelow⟩
            ·
              refine st_val (.bool false) (by kernel_rfl) (bool_of (dec_f c30) (by kernel_rfl)) ?_
              refine st_val (.bool false) (by kernel_rfl) (by kernel_rfl) ?_
              refine st_val (.bool false) (by kernel_rfl) (by kernel_rfl) ?_
              refine st_val (.pointer (some ⟨g2, 1, none⟩)) (by kernel_rfl) (by kernel_rfl) ?_
              refine st_val (.int .i64 s.H) (by kernel_rfl) (run_load_cell 3 (.tmp 33) rfl ⟨g2, 1, none⟩ (by kernel_rfl) _ (M4.cell 0 rfl 1 _ (sqv_H _)) (by kernel_rfl)) ?_
              refine st_val (.int .i64 32) (by kernel_rfl) (by kernel_rfl) ?_
              refine st_val (.int .i64 (s.H % 32)) (by kernel_rfl) (int_of (rem_of s.H 32 (by omega)) (by kernel_rfl)) ?_
              rcases Decidable.em ((s.H % 32 : Int) = 0) with c37 | c37
              ·
                refine st_val (.bool false) (by kernel_rfl) (bool_of (neq_f c37) (by kernel_rfl)) ?_
                refine st_val (.bool false) (by kernel_rfl) (by kernel_rfl) ?_
                refine st_val (.bool false) (by kernel_rfl) (by kernel_rfl) ?_
                refine wl_nil ?_
                refine hK9 _ _ ?_
                try clear hK9 K9
                refine wp_frame (a' := ⟨#[.agg (sqv s), .pointer (some ⟨g2, 0, none⟩), .bool false, .int .i64 32, undef, .pointer (some ⟨g2, 4, none⟩), .bool true, .bool false, .pointer (some ⟨g2, 0, none⟩), .int .i64 s.W, .bool false, .bool false, .pointer (some ⟨g2, 0, none⟩), .int .i64 s.W, .bool false, .bool false, .bool false, .pointer (some ⟨g2, 0, none⟩), .int .i64 s.W, .int .i64 (s.W % 16), .bool false, .bool false, .bool false, .pointer (some ⟨g2, 1, none⟩), .int .i64 s.H, .bool false, .bool false, .bool false, .pointer (some ⟨g2, 1, none⟩), .int .i64 s.H, .bool false, .bool false, .bool false, .pointer (some ⟨g2, 1, none⟩), .int .i64 s.H, .int .i64 32, .int .i64 (s.H % 32), .bool false, .bool false, undef, undef, undef, undef, undef, undef, undef, undef, undef, undef, undef, undef, undef, undef, undef, undef, undef, undef, undef, undef, undef, undef, undef, undef, undef, undef, undef, undef, undef, undef, undef, undef, undef, undef, undef, undef, undef, undef, undef, undef, undef, undef, undef, undef, undef, undef, undef, undef, undef, undef, undef, undef, undef, undef, undef, undef, undef, undef, undef, undef, undef, undef, undef, undef, undef, undef, undef, undef, undef, undef, undef, undef, undef], []⟩) (by kernel_rfl) ?_
                refine wp_cond_false (by kernel_rfl) ?_
                refine wp_seq_k (fun K14 hK14 => ?_)
                refine wl_region ?_
                refine st_val (.pointer (some ⟨g2, 2, none⟩)) (by kernel_rfl) (by kernel_rfl) ?_
                refine st_val (.agg #[.int .i64 s.num, .int .i64 s.den]) (by kernel_rfl) (run_load_mid 23 (.tmp 40) rfl g2 2 (by kernel_rfl) [.int .i64 s.num, .int .i64 s.den] _ (M4.range 0 rfl 2 _ (sqv_rate _)) Try.underlying23 rfl (by kernel_rfl)) ?_
                rcases Bool.eq_false_or_eq_true (rV s.num s.den) with hR | hR
                ·
                  have hR1 := rV_den hR
                  refine st_callB M4 (.bool true) (by kernel_rfl) (args := #[.agg #[.int .i64 s.num, .int .i64 s.den]]) (run_value_call 41 #[(Operand.tmp 41)] _ rfl Try.func41 (by kernel_rfl) (by kernel_rfl) _ (by kernel_rfl)) ((by have := rval_walk W3 s.num s.den hs.num hs.den; rw [hR] at this; exact this)) ?_
                  intro W15 M16
                  refine st_val (.bool false) (by kernel_rfl) (by kernel_rfl) ?_
                  refine st_val (.bool false) (by kernel_rfl) (by kernel_rfl) ?_
                  refine st_val (.pointer (some ⟨g2, 2, none⟩)) (by kernel_rfl) (by kernel_rfl) ?_
                  refine st_val (.pointer (some ⟨g2, 2, none⟩)) (by kernel_rfl) (by kernel_rfl) ?_
                  refine st_val (.int .i64 s.num) (by kernel_rfl) (run_load_cell 2 (.tmp 46) rfl ⟨g2, 2, none⟩ (by kernel_rfl) _ (M16.cell 0 rfl 2 _ (sqv_num _)) (by kernel_rfl)) ?_
                  rcases Decidable.em ((s.num : Int) < 1) with c48 | c48
                  ·
                    refine st_val (.bool true) (by kernel_rfl) (bool_of (dec_t c48) (by kernel_rfl)) ?_
                    refine st_val (.bool true) (by kernel_rfl) (by kernel_rfl) ?_
                    refine st_val (.bool true) (by kernel_rfl) (by kernel_rfl) ?_
                    refine st_skip (by kernel_rfl) ?_
                    refine st_skip (by kernel_rfl) ?_
                    refine st_skip (by kernel_rfl) ?_
                    refine st_skip (by kernel_rfl) ?_
                    refine st_val (.bool true) (by kernel_rfl) (by kernel_rfl) ?_
                    refine st_val (.bool true) (by kernel_rfl) (by kernel_rfl) ?_
                    refine st_skip (by kernel_rfl) ?_
                    refine st_skip (by kernel_rfl) ?_
                    refine st_skip (by kernel_rfl) ?_
                    refine st_skip (by kernel_rfl) ?_
                    refine st_val (.bool true) (by kernel_rfl) (by kernel_rfl) ?_
                    refine st_val (.bool true) (by kernel_rfl) (by kernel_rfl) ?_
                    refine wl_nil ?_
                    refine hK14 _ _ ?_
                    try clear hK14 K14
                    refine wp_frame (a' := ⟨#[.agg (sqv s), .pointer (some ⟨g2, 0, none⟩), .bool false, .int .i64 32, undef, .pointer (some ⟨g2, 4, none⟩), .bool true, .bool false, .pointer (some ⟨g2, 0, none⟩), .int .i64 s.W, .bool false, .bool false, .pointer (some ⟨g2, 0, none⟩), .int .i64 s.W, .bool false, .bool false, .bool false, .pointer (some ⟨g2, 0, none⟩), .int .i64 s.W, .int .i64 (s.W % 16), .bool false, .bool false, .bool false, .pointer (some ⟨g2, 1, none⟩), .int .i64 s.H, .bool false, .bool false, .bool false, .pointer (some ⟨g2, 1, none⟩), .int .i64 s.H, .bool false, .bool false, .bool false, .pointer (some ⟨g2, 1, none⟩), .int .i64 s.H, .int .i64 32, .int .i64 (s.H % 32), .bool false, .bool false, .bool true, .pointer (some ⟨g2, 2, none⟩), .agg #[.int .i64 s.num, .int .i64 s.den], .bool true, .bool false, .bool false, .pointer (some ⟨g2, 2, none⟩), .pointer (some ⟨g2, 2, none⟩), .int .i64 s.num, .bool true, .bool true, .bool true, undef, undef, undef, undef, .bool true, .bool true, undef, undef, undef, undef, .bool true, undef, undef, undef, undef, undef, undef, undef, undef, undef, undef, undef, undef, undef, undef, undef, undef, undef, undef, undef, undef, undef, undef, undef, undef, undef, undef, undef, undef, undef, undef, undef, undef, undef, undef, undef, undef, undef, undef, undef, undef, undef, undef, undef, undef, undef, undef, undef, undef, undef, undef], []⟩) (by kernel_rfl) ?_
                    refine wp_cond_true (by kernel_rfl) ?_
                    refine wp_seq_k (fun K17 hK17 => ?_)
                    refine wl_region ?_
                    refine st_val (.bool false) (by kernel_rfl) (by kernel_rfl) ?_
                    refine wl_nil ?_
                    refine hK17 _ _ ?_
                    try clear hK17 K17
                    refine wp_ret ?_
                    refine blk_ret ?_
                    refine th_ret ?_
                    exact done1 2 (.bool false) (by kernel_rfl) (by kernel_rfl) (by kernel_rfl) ⟨by rw [sB_f (fun h => by obtain ⟨h1, h2, h3, h4, h5, h6, h7, h8, h9, h10, h11, h12, h13, h14, h15, h16, h17, h18⟩ := h; first | omega | (have := h7 hil; omega) | (rw [hR] at h8; exact Bool.noConfusion h8) | (rw [hA] at h17; exact Bool.noConfusion h17) | (rw [hB] at h18; exact Bool.noConfusion h18))], M16.toBelow⟩
                  ·
                    refine st_val (.bool false) (by kernel_rfl) (bool_of (dec_f c48) (by kernel_rfl)) ?_
                    refine st_val (.bool false) (by kernel_rfl) (by kernel_rfl) ?_
                    refine st_val (.bool false) (by kernel_rfl) (by kernel_rfl) ?_
                    refine st_val (.pointer (some ⟨g2, 2, none⟩)) (by kernel_rfl) (by kernel_rfl) ?_
                    refine st_val (.pointer (some ⟨g2, 2, none⟩)) (by kernel_rfl) (by kernel_rfl) ?_
                    refine st_val (.int .i64 s.num) (by kernel_rfl) (run_load_cell 2 (.tmp 52) rfl ⟨g2, 2, none⟩ (by kernel_rfl) _ (M16.cell 0 rfl 2 _ (sqv_num _)) (by kernel_rfl)) ?_
                    rcases Decidable.em ((s.num : Int) > 1048576) with c54 | c54
                    ·
                      refine st_val (.bool true) (by kernel_rfl) (bool_of (dec_t c54) (by kernel_rfl)) ?_
                      refine st_val (.bool true) (by kernel_rfl) (by kernel_rfl) ?_
                      refine st_val (.bool true) (by kernel_rfl) (by kernel_rfl) ?_
                      refine st_skip (by kernel_rfl) ?_
                      refine st_skip (by kernel_rfl) ?_
                      refine st_skip (by kernel_rfl) ?_
                      refine st_skip (by kernel_rfl) ?_
                      refine st_val (.bool true) (by kernel_rfl) (by kernel_rfl) ?_
                      refine st_val (.bool true) (by kernel_rfl) (by kernel_rfl) ?_
                      refine wl_nil ?_
                      refine hK14 _ _ ?_
                      try clear hK14 K14
                      refine wp_frame (a' := ⟨#[.agg (sqv s), .pointer (some ⟨g2, 0, none⟩), .bool false, .int .i64 32, undef, .pointer (some ⟨g2, 4, none⟩), .bool true, .bool false, .pointer (some ⟨g2, 0, none⟩), .int .i64 s.W, .bool false, .bool false, .pointer (some ⟨g2, 0, none⟩), .int .i64 s.W, .bool false, .bool false, .bool false, .pointer (some ⟨g2, 0, none⟩), .int .i64 s.W, .int .i64 (s.W % 16), .bool false, .bool false, .bool false, .pointer (some ⟨g2, 1, none⟩), .int .i64 s.H, .bool false, .bool false, .bool false, .pointer (some ⟨g2, 1, none⟩), .int .i64 s.H, .bool false, .bool false, .bool false, .pointer (some ⟨g2, 1, none⟩), .int .i64 s.H, .int .i64 32, .int .i64 (s.H % 32), .bool false, .bool false, .bool true, .pointer (some ⟨g2, 2, none⟩), .agg #[.int .i64 s.num, .int .i64 s.den], .bool true, .bool false, .bool false, .pointer (some ⟨g2, 2, none⟩), .pointer (some ⟨g2, 2, none⟩), .int .i64 s.num, .bool false, .bool false, .bool false, .pointer (some ⟨g2, 2, none⟩), .pointer (some ⟨g2, 2, none⟩), .int .i64 s.num, .bool true, .bool true, .bool true, undef, undef, undef, undef, .bool true, undef, undef, undef, undef, undef, undef, undef, undef, undef, undef, undef, undef, undef, undef, undef, undef, undef, undef, undef, undef, undef, undef, undef, undef, undef, undef, undef, undef, undef, undef, undef, undef, undef, undef, undef, undef, undef, undef, undef, undef, undef, undef, undef, undef, undef, undef, undef, undef, undef, undef], []⟩) (by kernel_rfl) ?_
                      refine wp_cond_true (by kernel_rfl) ?_
                      refine wp_seq_k (fun K18 hK18 => ?_)
                      refine wl_region ?_
                      refine st_val (.bool false) (by kernel_rfl) (by kernel_rfl) ?_
                      refine wl_nil ?_
                      refine hK18 _ _ ?_
                      try clear hK18 K18
                      refine wp_ret ?_
                      refine blk_ret ?_
                      refine th_ret ?_
                      exact done1 2 (.bool false) (by kernel_rfl) (by kernel_rfl) (by kernel_rfl) ⟨by rw [sB_f (fun h => by obtain ⟨h1, h2, h3, h4, h5, h6, h7, h8, h9, h10, h11, h12, h13, h14, h15, h16, h17, h18⟩ := h; first | omega | (have := h7 hil; omega) | (rw [hR] at h8; exact Bool.noConfusion h8) | (rw [hA] at h17; exact Bool.noConfusion h17) | (rw [hB] at h18; exact Bool.noConfusion h18))], M16.toBelow⟩
                    ·
                      refine st_val (.bool false) (by kernel_rfl) (bool_of (dec_f c54) (by kernel_rfl)) ?_
                      refine st_val (.bool false) (by kernel_rfl) (by kernel_rfl) ?_
                      refine st_val (.bool false) (by kernel_rfl) (by kernel_rfl) ?_
                      refine st_val (.pointer (some ⟨g2, 2, none⟩)) (by kernel_rfl) (by kernel_rfl) ?_
                      refine st_val (.pointer (some ⟨g2, 3, none⟩)) (by kernel_rfl) (by kernel_rfl) ?_
                      refine st_val (.int .i64 s.den) (by kernel_rfl) (run_load_cell 2 (.tmp 58) rfl ⟨g2, 3, none⟩ (by kernel_rfl) _ (M16.cell 0 rfl 3 _ (sqv_den _)) (by kernel_rfl)) ?_
                      rcases Decidable.em ((s.den : Int) > 65536) with c60 | c60
                      ·
                        refine st_val (.bool true) (by kernel_rfl) (bool_of (dec_t c60) (by kernel_rfl)) ?_
                        refine st_val (.bool true) (by kernel_rfl) (by kernel_rfl) ?_
                        refine st_val (.bool true) (by kernel_rfl) (by kernel_rfl) ?_
                        refine wl_nil ?_
                        refine hK14 _ _ ?_
                        try clear hK14 K14
                        refine wp_frame (a' := ⟨#[.agg (sqv s), .pointer (some ⟨g2, 0, none⟩), .bool false, .int .i64 32, undef, .pointer (some ⟨g2, 4, none⟩), .bool true, .bool false, .pointer (some ⟨g2, 0, none⟩), .int .i64 s.W, .bool false, .bool false, .pointer (some ⟨g2, 0, none⟩), .int .i64 s.W, .bool false, .bool false, .bool false, .pointer (some ⟨g2, 0, none⟩), .int .i64 s.W, .int .i64 (s.W % 16), .bool false, .bool false, .bool false, .pointer (some ⟨g2, 1, none⟩), .int .i64 s.H, .bool false, .bool false, .bool false, .pointer (some ⟨g2, 1, none⟩), .int .i64 s.H, .bool false, .bool false, .bool false, .pointer (some ⟨g2, 1, none⟩), .int .i64 s.H, .int .i64 32, .int .i64 (s.H % 32), .bool false, .bool false, .bool true, .pointer (some ⟨g2, 2, none⟩), .agg #[.int .i64 s.num, .int .i64 s.den], .bool true, .bool false, .bool false, .pointer (some ⟨g2, 2, none⟩), .pointer (some ⟨g2, 2, none⟩), .int .i64 s.num, .bool false, .bool false, .bool false, .pointer (some ⟨g2, 2, none⟩), .pointer (some ⟨g2, 2, none⟩), .int .i64 s.num, .bool false, .bool false, .bool false, .pointer (some ⟨g2, 2, none⟩), .pointer (some ⟨g2, 3, none⟩), .int .i64 s.den, .bool true, .bool true, undef, undef, undef, undef, undef, undef, undef, undef, undef, undef, undef, undef, undef, undef, undef, undef, undef, undef, undef, undef, undef, undef, undef, undef, undef, undef, undef, undef, undef, undef, undef, undef, undef, undef, undef, undef, undef, undef, undef, undef, undef, undef, undef, undef, undef, undef, undef, undef, undef, undef], []⟩) (by kernel_rfl) ?_
                        refine wp_cond_true (by kernel_rfl) ?_
                        refine wp_seq_k (fun K19 hK19 => ?_)
                        refine wl_region ?_
                        refine st_val (.bool false) (by kernel_rfl) (by kernel_rfl) ?_
                        refine wl_nil ?_
                        refine hK19 _ _ ?_
                        try clear hK19 K19
                        refine wp_ret ?_
                        refine blk_ret ?_
                        refine th_ret ?_
                        exact done1 2 (.bool false) (by kernel_rfl) (by kernel_rfl) (by kernel_rfl) ⟨by rw [sB_f (fun h => by obtain ⟨h1, h2, h3, h4, h5, h6, h7, h8, h9, h10, h11, h12, h13, h14, h15, h16, h17, h18⟩ := h; first | omega | (have := h7 hil; omega) | (rw [hR] at h8; exact Bool.noConfusion h8) | (rw [hA] at h17; exact Bool.noConfusion h17) | (rw [hB] at h18; exact Bool.noConfusion h18))], M16.toBelow⟩
                      ·
                        refine st_val (.bool false) (by kernel_rfl) (bool_of (dec_f c60) (by kernel_rfl)) ?_
                        refine st_val (.bool false) (by kernel_rfl) (by kernel_rfl) ?_
                        refine st_val (.bool false) (by kernel_rfl) (by kernel_rfl) ?_
                        refine wl_nil ?_
                        refine hK14 _ _ ?_
                        try clear hK14 K14
                        refine wp_frame (a' := ⟨#[.agg (sqv s), .pointer (some ⟨g2, 0, none⟩), .bool false, .int .i64 32, undef, .pointer (some ⟨g2, 4, none⟩), .bool true, .bool false, .pointer (some ⟨g2, 0, none⟩), .int .i64 s.W, .bool false, .bool false, .pointer (some ⟨g2, 0, none⟩), .int .i64 s.W, .bool false, .bool false, .bool false, .pointer (some ⟨g2, 0, none⟩), .int .i64 s.W, .int .i64 (s.W % 16), .bool false, .bool false, .bool false, .pointer (some ⟨g2, 1, none⟩), .int .i64 s.H, .bool false, .bool false, .bool false, .pointer (some ⟨g2, 1, none⟩), .int .i64 s.H, .bool false, .bool false, .bool false, .pointer (some ⟨g2, 1, none⟩), .int .i64 s.H, .int .i64 32, .int .i64 (s.H % 32), .bool false, .bool false, .bool false, .pointer (some ⟨g2, 2, none⟩), .agg #[.int .i64 s.num, .int .i64 s.den], .bool true, .bool false, .bool false, .pointer (some ⟨g2, 2, none⟩), .pointer (some ⟨g2, 2, none⟩), .int .i64 s.num, .bool false, .bool false, .bool false, .pointer (some ⟨g2, 2, none⟩), .pointer (some ⟨g2, 2, none⟩), .int .i64 s.num, .bool false, .bool false, .bool false, .pointer (some ⟨g2, 2, none⟩), .pointer (some ⟨g2, 3, none⟩), .int .i64 s.den, .bool false, .bool false, undef, undef, undef, undef, undef, undef, undef, undef, undef, undef, undef, undef, undef, undef, undef, undef, undef, undef, undef, undef, undef, undef, undef, undef, undef, undef, undef, undef, undef, undef, undef, undef, undef, undef, undef, undef, undef, undef, undef, undef, undef, undef, undef, undef, undef, undef, undef, undef, undef, undef], []⟩) (by kernel_rfl) ?_
                        refine wp_cond_false (by kernel_rfl) ?_
                        refine wp_seq_k (fun K20 hK20 => ?_)
                        refine wl_region ?_
                        refine st_val (.pointer (some ⟨g2, 5, none⟩)) (by kernel_rfl) (by kernel_rfl) ?_
                        refine st_val (.int .i64 s.br) (by kernel_rfl) (run_load_cell 3 (.tmp 63) rfl ⟨g2, 5, none⟩ (by kernel_rfl) _ (M16.cell 0 rfl 5 _ (sqv_br _)) (by kernel_rfl)) ?_
                        rcases Decidable.em ((s.br : Int) < 1) with c65 | c65
                        ·
                          refine st_val (.bool true) (by kernel_rfl) (bool_of (dec_t c65) (by kernel_rfl)) ?_
                          refine st_val (.bool true) (by kernel_rfl) (by kernel_rfl) ?_
                          refine st_skip (by kernel_rfl) ?_
                          refine st_skip (by kernel_rfl) ?_
                          refine st_skip (by kernel_rfl) ?_
                          refine st_val (.bool true) (by kernel_rfl) (by kernel_rfl) ?_
                          refine st_val (.bool true) (by kernel_rfl) (by kernel_rfl) ?_
                          refine st_skip (by kernel_rfl) ?_
                          refine st_skip (by kernel_rfl) ?_
                          refine st_skip (by kernel_rfl) ?_
                          refine st_val (.bool true) (by kernel_rfl) (by kernel_rfl) ?_
                          refine st_val (.bool true) (by kernel_rfl) (by kernel_rfl) ?_
                          refine st_skip (by kernel_rfl) ?_
                          refine st_skip (by kernel_rfl) ?_
                          refine st_skip (by kernel_rfl) ?_
                          refine st_val (.bool true) (by kernel_rfl) (by kernel_rfl) ?_
                          refine st_val (.bool true) (by kernel_rfl) (by kernel_rfl) ?_
                          refine wl_nil ?_
                          refine hK20 _ _ ?_
                          try clear hK20 K20
                          refine wp_frame (a' := ⟨#[.agg (sqv s), .pointer (some ⟨g2, 0, none⟩), .bool false, .int .i64 32, undef, .pointer (some ⟨g2, 4, none⟩), .bool true, .bool false, .pointer (some ⟨g2, 0, none⟩), .int .i64 s.W, .bool false, .bool false, .pointer (some ⟨g2, 0, none⟩), .int .i64 s.W, .bool false, .bool false, .bool false, .pointer (some ⟨g2, 0, none⟩), .int .i64 s.W, .int .i64 (s.W % 16), .bool false, .bool false, .bool false, .pointer (some ⟨g2, 1, none⟩), .int .i64 s.H, .bool false, .bool false, .bool false, .pointer (some ⟨g2, 1, none⟩), .int .i64 s.H, .bool false, .bool false, .bool false, .pointer (some ⟨g2, 1, none⟩), .int .i64 s.H, .int .i64 32, .int .i64 (s.H % 32), .bool false, .bool false, .bool false, .pointer (some ⟨g2, 2, none⟩), .agg #[.int .i64 s.num, .int .i64 s.den], .bool true, .bool false, .bool false, .pointer (some ⟨g2, 2, none⟩), .pointer (some ⟨g2, 2, none⟩), .int .i64 s.num, .bool false, .bool false, .bool false, .pointer (some ⟨g2, 2, none⟩), .pointer (some ⟨g2, 2, none⟩), .int .i64 s.num, .bool false, .bool false, .bool false, .pointer (some ⟨g2, 2, none⟩), .pointer (some ⟨g2, 3, none⟩), .int .i64 s.den, .bool false, .bool false, .bool true, .pointer (some ⟨g2, 5, none⟩), .int .i64 s.br, .bool true, .bool true, undef, undef, undef, .bool true, .bool true, undef, undef, undef, .bool true, .bool true, undef, undef, undef, .bool true, undef, undef, undef, undef, undef, undef, undef, undef, undef, undef, undef, undef, undef, undef, undef, undef, undef, undef, undef, undef, undef, undef, undef, undef, undef, undef, undef, undef, undef, undef, undef], []⟩) (by kernel_rfl) ?_
                          refine wp_cond_true (by kernel_rfl) ?_
                          refine wp_seq_k (fun K21 hK21 => ?_)
                          refine wl_region ?_
                          refine st_val (.bool false) (by kernel_rfl) (by kernel_rfl) ?_
                          refine wl_nil ?_
                          refine hK21 _ _ ?_
                          try clear hK21 K21
                          refine wp_ret ?_
                          refine blk_ret ?_
                          refine th_ret ?_
                          exact done1 2 (.bool false) (by kernel_rfl) (by kernel_rfl) (by kernel_rfl) ⟨by rw [sB_f (fun h => by obtain ⟨h1, h2, h3, h4, h5, h6, h7, h8, h9, h10, h11, h12, h13, h14, h15, h16, h17, h18⟩ := h; first | omega | (have := h7 hil; omega) | (rw [hR] at h8; exact Bool.noConfusion h8) | (rw [hA] at h17; exact Bool.noConfusion h17) | (rw [hB] at h18; exact Bool.noConfusion h18))], M16.toBelow⟩
                        ·
                          refine st_val (.bool false) (by kernel_rfl) (bool_of (dec_f c65) (by kernel_rfl)) ?_
                          refine st_val (.bool false) (by kernel_rfl) (by kernel_rfl) ?_
                          refine st_val (.pointer (some ⟨g2, 5, none⟩)) (by kernel_rfl) (by kernel_rfl) ?_
                          refine st_val (.int .i64 s.br) (by kernel_rfl) (run_load_cell 3 (.tmp 67) rfl ⟨g2, 5, none⟩ (by kernel_rfl) _ (M16.cell 0 rfl 5 _ (sqv_br _)) (by kernel_rfl)) ?_
                          rcases Decidable.em ((s.br : Int) > 16777216) with c69 | c69
                          ·
                            refine st_val (.bool true) (by kernel_rfl) (bool_of (dec_t c69) (by kernel_rfl)) ?_
                            refine st_val (.bool true) (by kernel_rfl) (by kernel_rfl) ?_
                            refine st_val (.bool true) (by kernel_rfl) (by kernel_rfl) ?_
                            refine st_skip (by kernel_rfl) ?_
                            refine st_skip (by kernel_rfl) ?_
                            refine st_skip (by kernel_rfl) ?_
                            refine st_val (.bool true) (by kernel_rfl) (by kernel_rfl) ?_
                            refine st_val (.bool true) (by kernel_rfl) (by kernel_rfl) ?_
                            refine st_skip (by kernel_rfl) ?_
                            refine st_skip (by kernel_rfl) ?_
                            refine st_skip (by kernel_rfl) ?_
                            refine st_val (.bool true) (by kernel_rfl) (by kernel_rfl) ?_
                            refine st_val (.bool true) (by kernel_rfl) (by kernel_rfl) ?_
                            refine wl_nil ?_
                            refine hK20 _ _ ?_
                            try clear hK20 K20
                            refine wp_frame (a' := ⟨#[.agg (sqv s), .pointer (some ⟨g2, 0, none⟩), .bool false, .int .i64 32, undef, .pointer (some ⟨g2, 4, none⟩), .bool true, .bool false, .pointer (some ⟨g2, 0, none⟩), .int .i64 s.W, .bool false, .bool false, .pointer (some ⟨g2, 0, none⟩), .int .i64 s.W, .bool false, .bool false, .bool false, .pointer (some ⟨g2, 0, none⟩), .int .i64 s.W, .int .i64 (s.W % 16), .bool false, .bool false, .bool false, .pointer (some ⟨g2, 1, none⟩), .int .i64 s.H, .bool false, .bool false, .bool false, .pointer (some ⟨g2, 1, none⟩), .int .i64 s.H, .bool false, .bool false, .bool false, .pointer (some ⟨g2, 1, none⟩), .int .i64 s.H, .int .i64 32, .int .i64 (s.H % 32), .bool false, .bool false, .bool false, .pointer (some ⟨g2, 2, none⟩), .agg #[.int .i64 s.num, .int .i64 s.den], .bool true, .bool false, .bool false, .pointer (some ⟨g2, 2, none⟩), .pointer (some ⟨g2, 2, none⟩), .int .i64 s.num, .bool false, .bool false, .bool false, .pointer (some ⟨g2, 2, none⟩), .pointer (some ⟨g2, 2, none⟩), .int .i64 s.num, .bool false, .bool false, .bool false, .pointer (some ⟨g2, 2, none⟩), .pointer (some ⟨g2, 3, none⟩), .int .i64 s.den, .bool false, .bool false, .bool true, .pointer (some ⟨g2, 5, none⟩), .int .i64 s.br, .bool false, .bool false, .pointer (some ⟨g2, 5, none⟩), .int .i64 s.br, .bool true, .bool true, .bool true, undef, undef, undef, .bool true, .bool true, undef, undef, undef, .bool true, undef, undef, undef, undef, undef, undef, undef, undef, undef, undef, undef, undef, undef, undef, undef, undef, undef, undef, undef, undef, undef, undef, undef, undef, undef, undef, undef, undef, undef, undef, undef], []⟩) (by kernel_rfl) ?_
                            refine wp_cond_true (by kernel_rfl) ?_
                            refine wp_seq_k (fun K22 hK22 => ?_)
                            refine wl_region ?_
                            refine st_val (.bool false) (by kernel_rfl) (by kernel_rfl) ?_
                            refine wl_nil ?_
                            refine hK22 _ _ ?_
                            try clear hK22 K22
                            refine wp_ret ?_
                            refine blk_ret ?_
                            refine th_ret ?_
                            exact done1 2 (.bool false) (by kernel_rfl) (by kernel_rfl) (by kernel_rfl) ⟨by rw [sB_f (fun h => by obtain ⟨h1, h2, h3, h4, h5, h6, h7, h8, h9, h10, h11, h12, h13, h14, h15, h16, h17, h18⟩ := h; first | omega | (have := h7 hil; omega) | (rw [hR] at h8; exact Bool.noConfusion h8) | (rw [hA] at h17; exact Bool.noConfusion h17) | (rw [hB] at h18; exact Bool.noConfusion h18))], M16.toBelow⟩
                          ·
                            refine st_val (.bool false) (by kernel_rfl) (bool_of (dec_f c69) (by kernel_rfl)) ?_
                            refine st_val (.bool false) (by kernel_rfl) (by kernel_rfl) ?_
                            refine st_val (.bool false) (by kernel_rfl) (by kernel_rfl) ?_
                            refine st_val (.pointer (some ⟨g2, 6, none⟩)) (by kernel_rfl) (by kernel_rfl) ?_
                            refine st_val (.int .i64 s.bu) (by kernel_rfl) (run_load_cell 3 (.tmp 72) rfl ⟨g2, 6, none⟩ (by kernel_rfl) _ (M16.cell 0 rfl 6 _ (sqv_bu _)) (by kernel_rfl)) ?_
                            rcases Decidable.em ((s.bu : Int) < 1) with c74 | c74
                            ·
                              refine st_val (.bool true) (by kernel_rfl) (bool_of (dec_t c74) (by kernel_rfl)) ?_
                              refine st_val (.bool true) (by kernel_rfl) (by kernel_rfl) ?_
                              refine st_val (.bool true) (by kernel_rfl) (by kernel_rfl) ?_
                              refine st_skip (by kernel_rfl) ?_
                              refine st_skip (by kernel_rfl) ?_
                              refine st_skip (by kernel_rfl) ?_
                              refine st_val (.bool true) (by kernel_rfl) (by kernel_rfl) ?_
                              refine st_val (.bool true) (by kernel_rfl) (by kernel_rfl) ?_
                              refine wl_nil ?_
                              refine hK20 _ _ ?_
                              try clear hK20 K20
                              refine wp_frame (a' := ⟨#[.agg (sqv s), .pointer (some ⟨g2, 0, none⟩), .bool false, .int .i64 32, undef, .pointer (some ⟨g2, 4, none⟩), .bool true, .bool false, .pointer (some ⟨g2, 0, none⟩), .int .i64 s.W, .bool false, .bool false, .pointer (some ⟨g2, 0, none⟩), .int .i64 s.W, .bool false, .bool false, .bool false, .pointer (some ⟨g2, 0, none⟩), .int .i64 s.W, .int .i64 (s.W % 16), .bool false, .bool false, .bool false, .pointer (some ⟨g2, 1, none⟩), .int .i64 s.H, .bool false, .bool false, .bool false, .pointer (some ⟨g2, 1, none⟩), .int .i64 s.H, .bool false, .bool false, .bool false, .pointer (some ⟨g2, 1, none⟩), .int .i64 s.H, .int .i64 32, .int .i64 (s.H % 32), .bool false, .bool false, .bool false, .pointer (some ⟨g2, 2, none⟩), .agg #[.int .i64 s.num, .int .i64 s.den], .bool true, .bool false, .bool false, .pointer (some ⟨g2, 2, none⟩), .pointer (some ⟨g2, 2, none⟩), .int .i64 s.num, .bool false, .bool false, .bool false, .pointer (some ⟨g2, 2, none⟩), .pointer (some ⟨g2, 2, none⟩), .int .i64 s.num, .bool false, .bool false, .bool false, .pointer (some ⟨g2, 2, none⟩), .pointer (some ⟨g2, 3, none⟩), .int .i64 s.den, .bool false, .bool false, .bool true, .pointer (some ⟨g2, 5, none⟩), .int .i64 s.br, .bool false, .bool false, .pointer (some ⟨g2, 5, none⟩), .int .i64 s.br, .bool false, .bool false, .bool false, .pointer (some ⟨g2, 6, none⟩), .int .i64 s.bu, .bool true, .bool true, .bool true, undef, undef, undef, .bool true, undef, undef, undef, undef, undef, undef, undef, undef, undef, undef, undef, undef, undef, undef, undef, undef, undef, undef, undef, undef, undef, undef, undef, undef, undef, undef, undef, undef, undef, undef, undef], []⟩) (by kernel_rfl) ?_
                              refine wp_cond_true (by kernel_rfl) ?_
                              refine wp_seq_k (fun K23 hK23 => ?_)
                              refine wl_region ?_
                              refine st_val (.bool false) (by kernel_rfl) (by kernel_rfl) ?_
                              refine wl_nil ?_
                              refine hK23 _ _ ?_
                              try clear hK23 K23
                              refine wp_ret ?_
                              refine blk_ret ?_
                              refine th_ret ?_
                              exact done1 2 (.bool false) (by kernel_rfl) (by kernel_rfl) (by kernel_rfl) ⟨by rw [sB_f (fun h => by obtain ⟨h1, h2, h3, h4, h5, h6, h7, h8, h9, h10, h11, h12, h13, h14, h15, h16, h17, h18⟩ := h; first | omega | (have := h7 hil; omega) | (rw [hR] at h8; exact Bool.noConfusion h8) | (rw [hA] at h17; exact Bool.noConfusion h17) | (rw [hB] at h18; exact Bool.noConfusion h18))], M16.toBelow⟩
                            ·
                              refine st_val (.bool false) (by kernel_rfl) (bool_of (dec_f c74) (by kernel_rfl)) ?_
                              refine st_val (.bool false) (by kernel_rfl) (by kernel_rfl) ?_
                              refine st_val (.bool false) (by kernel_rfl) (by kernel_rfl) ?_
                              refine st_val (.pointer (some ⟨g2, 6, none⟩)) (by kernel_rfl) (by kernel_rfl) ?_
                              refine st_val (.int .i64 s.bu) (by kernel_rfl) (run_load_cell 3 (.tmp 77) rfl ⟨g2, 6, none⟩ (by kernel_rfl) _ (M16.cell 0 rfl 6 _ (sqv_bu _)) (by kernel_rfl)) ?_
                              rcases Decidable.em ((s.bu : Int) > 8388608) with c79 | c79
                              ·
                                refine st_val (.bool true) (by kernel_rfl) (bool_of (dec_t c79) (by kernel_rfl)) ?_
                                refine st_val (.bool true) (by kernel_rfl) (by kernel_rfl) ?_
                                refine st_val (.bool true) (by kernel_rfl) (by kernel_rfl) ?_
                                refine wl_nil ?_
                                refine hK20 _ _ ?_
                                try clear hK20 K20
                                refine wp_frame (a' := ⟨#[.agg (sqv s), .pointer (some ⟨g2, 0, none⟩), .bool false, .int .i64 32, undef, .pointer (some ⟨g2, 4, none⟩), .bool true, .bool false, .pointer (some ⟨g2, 0, none⟩), .int .i64 s.W, .bool false, .bool false, .pointer (some ⟨g2, 0, none⟩), .int .i64 s.W, .bool false, .bool false, .bool false, .pointer (some ⟨g2, 0, none⟩), .int .i64 s.W, .int .i64 (s.W % 16), .bool false, .bool false, .bool false, .pointer (some ⟨g2, 1, none⟩), .int .i64 s.H, .bool false, .bool false, .bool false, .pointer (some ⟨g2, 1, none⟩), .int .i64 s.H, .bool false, .bool false, .bool false, .pointer (some ⟨g2, 1, none⟩), .int .i64 s.H, .int .i64 32, .int .i64 (s.H % 32), .bool false, .bool false, .bool false, .pointer (some ⟨g2, 2, none⟩), .agg #[.int .i64 s.num, .int .i64 s.den], .bool true, .bool false, .bool false, .pointer (some ⟨g2, 2, none⟩), .pointer (some ⟨g2, 2, none⟩), .int .i64 s.num, .bool false, .bool false, .bool false, .pointer (some ⟨g2, 2, none⟩), .pointer (some ⟨g2, 2, none⟩), .int .i64 s.num, .bool false, .bool false, .bool false, .pointer (some ⟨g2, 2, none⟩), .pointer (some ⟨g2, 3, none⟩), .int .i64 s.den, .bool false, .bool false, .bool true, .pointer (some ⟨g2, 5, none⟩), .int .i64 s.br, .bool false, .bool false, .pointer (some ⟨g2, 5, none⟩), .int .i64 s.br, .bool false, .bool false, .bool false, .pointer (some ⟨g2, 6, none⟩), .int .i64 s.bu, .bool false, .bool false, .bool false, .pointer (some ⟨g2, 6, none⟩), .int .i64 s.bu, .bool true, .bool true, undef, undef, undef, undef, undef, undef, undef, undef, undef, undef, undef, undef, undef, undef, undef, undef, undef, undef, undef, undef, undef, undef, undef, undef, undef, undef, undef, undef, undef, undef, undef], []⟩) (by kernel_rfl) ?_
                                refine wp_cond_true (by kernel_rfl) ?_
                                refine wp_seq_k (fun K24 hK24 => ?_)
                                refine wl_region ?_
                                refine st_val (.bool false) (by kernel_rfl) (by kernel_rfl) ?_
                                refine wl_nil ?_
                                refine hK24 _ _ ?_
                                try clear hK24 K24
                                refine wp_ret ?_
                                refine blk_ret ?_
                                refine th_ret ?_
                                exact done1 2 (.bool false) (by kernel_rfl) (by kernel_rfl) (by kernel_rfl) ⟨by rw [sB_f (fun h => by obtain ⟨h1, h2, h3, h4, h5, h6, h7, h8, h9, h10, h11, h12, h13, h14, h15, h16, h17, h18⟩ := h; first | omega | (have := h7 hil; omega) | (rw [hR] at h8; exact Bool.noConfusion h8) | (rw [hA] at h17; exact Bool.noConfusion h17) | (rw [hB] at h18; exact Bool.noConfusion h18))], M16.toBelow⟩
                              ·
                                refine st_val (.bool false) (by kernel_rfl) (bool_of (dec_f c79) (by kernel_rfl)) ?_
                                refine st_val (.bool false) (by kernel_rfl) (by kernel_rfl) ?_
                                refine st_val (.bool false) (by kernel_rfl) (by kernel_rfl) ?_
                                refine wl_nil ?_
                                refine hK20 _ _ ?_
                                try clear hK20 K20
                                refine wp_frame (a' := ⟨#[.agg (sqv s), .pointer (some ⟨g2, 0, none⟩), .bool false, .int .i64 32, undef, .pointer (some ⟨g2, 4, none⟩), .bool true, .bool false, .pointer (some ⟨g2, 0, none⟩), .int .i64 s.W, .bool false, .bool false, .pointer (some ⟨g2, 0, none⟩), .int .i64 s.W, .bool false, .bool false, .bool false, .pointer (some ⟨g2, 0, none⟩), .int .i64 s.W, .int .i64 (s.W % 16), .bool false, .bool false, .bool false, .pointer (some ⟨g2, 1, none⟩), .int .i64 s.H, .bool false, .bool false, .bool false, .pointer (some ⟨g2, 1, none⟩), .int .i64 s.H, .bool false, .bool false, .bool false, .pointer (some ⟨g2, 1, none⟩), .int .i64 s.H, .int .i64 32, .int .i64 (s.H % 32), .bool false, .bool false, .bool false, .pointer (some ⟨g2, 2, none⟩), .agg #[.int .i64 s.num, .int .i64 s.den], .bool true, .bool false, .bool false, .pointer (some ⟨g2, 2, none⟩), .pointer (some ⟨g2, 2, none⟩), .int .i64 s.num, .bool false, .bool false, .bool false, .pointer (some ⟨g2, 2, none⟩), .pointer (some ⟨g2, 2, none⟩), .int .i64 s.num, .bool false, .bool false, .bool false, .pointer (some ⟨g2, 2, none⟩), .pointer (some ⟨g2, 3, none⟩), .int .i64 s.den, .bool false, .bool false, .bool false, .pointer (some ⟨g2, 5, none⟩), .int .i64 s.br, .bool false, .bool false, .pointer (some ⟨g2, 5, none⟩), .int .i64 s.br, .bool false, .bool false, .bool false, .pointer (some ⟨g2, 6, none⟩), .int .i64 s.bu, .bool false, .bool false, .bool false, .pointer (some ⟨g2, 6, none⟩), .int .i64 s.bu, .bool false, .bool false, undef, undef, undef, undef, undef, undef, undef, undef, undef, undef, undef, undef, undef, undef, undef, undef, undef, undef, undef, undef, undef, undef, undef, undef, undef, undef, undef, undef, undef, undef, undef], []⟩) (by kernel_rfl) ?_
                                refine wp_cond_false (by kernel_rfl) ?_
                                refine wp_skip ?_
                                refine blk_normal ?_
                                refine hK8 _ _ ?_
                                try clear hK8 K8
                                refine wp_seq_k (fun K25 hK25 => ?_)
                                have hP := sv_prods (num := s.num) (den := s.den) (br := s.br) (bu := s.bu) (by omega) (by omega) (by omega) (by omega) (by omega) (by omega) (by omega) (by omega)
                                refine wl_region ?_
                                refine st_val (.pointer (some ⟨g2, 2, none⟩)) (by kernel_rfl) (by kernel_rfl) ?_
                                refine st_val (.pointer (some ⟨g2, 2, none⟩)) (by kernel_rfl) (by kernel_rfl) ?_
                                refine st_val (.int .i64 s.num) (by kernel_rfl) (run_load_cell 2 (.tmp 82) rfl ⟨g2, 2, none⟩ (by kernel_rfl) _ (M16.cell 0 rfl 2 _ (sqv_num _)) (by kernel_rfl)) ?_
                                refine st_val (.int .i64 (2 * s.num)) (by kernel_rfl) (i64_of (by omega) (by kernel_rfl)) ?_
                                refine st_val (.pointer (some ⟨g2, 6, none⟩)) (by kernel_rfl) (by kernel_rfl) ?_
                                refine st_val (.int .i64 s.bu) (by kernel_rfl) (run_load_cell 3 (.tmp 85) rfl ⟨g2, 6, none⟩ (by kernel_rfl) _ (M16.cell 0 rfl 6 _ (sqv_bu _)) (by kernel_rfl)) ?_
                                refine st_val (.int .i64 ((2 * s.num) * s.bu)) (by kernel_rfl) (i64_of (by omega) (by kernel_rfl)) ?_
                                refine st_val (.int .i64 ((2 * s.num) * s.bu)) (by kernel_rfl) (by kernel_rfl) ?_
                                refine wl_nil ?_
                                refine hK25 _ _ ?_
                                try clear hK25 K25
                                refine wp_seq_k (fun K26 hK26 => ?_)
                                refine wl_region ?_
                                refine st_val (.int .i64 ((2 * s.num) * s.bu)) (by kernel_rfl) (by kernel_rfl) ?_
                                refine st_val (.pointer (some ⟨g2, 2, none⟩)) (by kernel_rfl) (by kernel_rfl) ?_
                                refine st_val (.pointer (some ⟨g2, 3, none⟩)) (by kernel_rfl) (by kernel_rfl) ?_
                                refine st_val (.int .i64 s.den) (by kernel_rfl) (run_load_cell 2 (.tmp 90) rfl ⟨g2, 3, none⟩ (by kernel_rfl) _ (M16.cell 0 rfl 3 _ (sqv_den _)) (by kernel_rfl)) ?_
                                refine st_val (.int .i64 (3 * s.den)) (by kernel_rfl) (i64_of (by omega) (by kernel_rfl)) ?_
                                refine st_val (.pointer (some ⟨g2, 5, none⟩)) (by kernel_rfl) (by kernel_rfl) ?_
                                refine st_val (.int .i64 s.br) (by kernel_rfl) (run_load_cell 3 (.tmp 93) rfl ⟨g2, 5, none⟩ (by kernel_rfl) _ (M16.cell 0 rfl 5 _ (sqv_br _)) (by kernel_rfl)) ?_
                                refine st_val (.int .i64 ((3 * s.den) * s.br)) (by kernel_rfl) (i64_of (by omega) (by kernel_rfl)) ?_
                                refine st_val (.pointer (some ⟨g2, 2, none⟩)) (by kernel_rfl) (by kernel_rfl) ?_
                                refine st_val (.pointer (some ⟨g2, 2, none⟩)) (by kernel_rfl) (by kernel_rfl) ?_
                                refine st_val (.int .i64 s.num) (by kernel_rfl) (run_load_cell 2 (.tmp 97) rfl ⟨g2, 2, none⟩ (by kernel_rfl) _ (M16.cell 0 rfl 2 _ (sqv_num _)) (by kernel_rfl)) ?_
                                refine st_val (.int .i64 (32 * s.num)) (by kernel_rfl) (i64_of (by omega) (by kernel_rfl)) ?_
                                refine st_val (.int .i64 (((3 * s.den) * s.br) + (32 * s.num))) (by kernel_rfl) (i64_of (by omega) (by kernel_rfl)) ?_
                                rcases Decidable.em (((2 * s.num) * s.bu : Int) ≥ ((3 * s.den) * s.br) + (32 * s.num)) with c101 | c101
                                ·
                                  refine st_val (.bool true) (by kernel_rfl) (bool_of (dec_t c101) (by kernel_rfl)) ?_
                                  refine st_val (.bool true) (by kernel_rfl) (by kernel_rfl) ?_
                                  refine st_val (.pointer (some ⟨g2, 7, none⟩)) (by kernel_rfl) (by kernel_rfl) ?_
                                  refine st_val (.agg (bv s.a)) (by kernel_rfl) (run_load_mid 24 (.tmp 103) rfl g2 7 (by kernel_rfl) (s.a.map (Value.int .u8)) _ (M16.range 0 rfl 7 _ (sqv_a _)) Try.underlying24 rfl (infoB hs.la)) ?_
                                  rcases Bool.eq_false_or_eq_true (vB s.a) with hA | hA
                                  ·
                                    refine st_callB M16 (.bool true) (by kernel_rfl) (args := #[.agg (bv s.a)]) (run_value_call 42 #[(Operand.tmp 104)] _ rfl Try.func42 (by kernel_rfl) (by kernel_rfl) _ (by kernel_rfl)) ((by have := valid_walk W15 s.a hs.la hs.ba; rw [hA] at this; exact this)) ?_
                                    intro W27 M28
                                    refine st_val (.bool true) (by kernel_rfl) (by kernel_rfl) ?_
                                    refine st_val (.bool true) (by kernel_rfl) (by kernel_rfl) ?_
                                    refine st_val (.pointer (some ⟨g2, 71, none⟩)) (by kernel_rfl) (by kernel_rfl) ?_
                                    refine st_val (.agg (bv s.b)) (by kernel_rfl) (run_load_mid 24 (.tmp 108) rfl g2 71 (by kernel_rfl) (s.b.map (Value.int .u8)) _ (M28.range 0 rfl 71 _ (sqv_b hs.la)) Try.underlying24 rfl (infoB hs.lb)) ?_
                                    rcases Bool.eq_false_or_eq_true (vB s.b) with hB | hB
                                    ·
                                      refine st_callB M28 (.bool true) (by kernel_rfl) (args := #[.agg (bv s.b)]) (run_value_call 42 #[(Operand.tmp 109)] _ rfl Try.func42 (by kernel_rfl) (by kernel_rfl) _ (by kernel_rfl)) ((by have := valid_walk W27 s.b hs.lb hs.bb; rw [hB] at this; exact this)) ?_
                                      intro W29 M30
                                      refine st_val (.bool true) (by kernel_rfl) (by kernel_rfl) ?_
                                      refine st_val (.bool true) (by kernel_rfl) (by kernel_rfl) ?_
                                      refine wl_nil ?_
                                      refine hK26 _ _ ?_
                                      try clear hK26 K26
                                      refine wp_frame (a' := ⟨#[.agg (sqv s), .pointer (some ⟨g2, 0, none⟩), .bool true, .int .i64 32, .int .i64 ((2 * s.num) * s.bu), .pointer (some ⟨g2, 4, none⟩), .bool true, .bool false, .pointer (some ⟨g2, 0, none⟩), .int .i64 s.W, .bool false, .bool false, .pointer (some ⟨g2, 0, none⟩), .int .i64 s.W, .bool false, .bool false, .bool false, .pointer (some ⟨g2, 0, none⟩), .int .i64 s.W, .int .i64 (s.W % 16), .bool false, .bool false, .bool false, .pointer (some ⟨g2, 1, none⟩), .int .i64 s.H, .bool false, .bool false, .bool false, .pointer (some ⟨g2, 1, none⟩), .int .i64 s.H, .bool false, .bool false, .bool false, .pointer (some ⟨g2, 1, none⟩), .int .i64 s.H, .int .i64 32, .int .i64 (s.H % 32), .bool false, .bool false, .bool false, .pointer (some ⟨g2, 2, none⟩), .agg #[.int .i64 s.num, .int .i64 s.den], .bool true, .bool false, .bool false, .pointer (some ⟨g2, 2, none⟩), .pointer (some ⟨g2, 2, none⟩), .int .i64 s.num, .bool false, .bool false, .bool false, .pointer (some ⟨g2, 2, none⟩), .pointer (some ⟨g2, 2, none⟩), .int .i64 s.num, .bool false, .bool false, .bool false, .pointer (some ⟨g2, 2, none⟩), .pointer (some ⟨g2, 3, none⟩), .int .i64 s.den, .bool false, .bool false, .bool false, .pointer (some ⟨g2, 5, none⟩), .int .i64 s.br, .bool false, .bool false, .pointer (some ⟨g2, 5, none⟩), .int .i64 s.br, .bool false, .bool false, .bool false, .pointer (some ⟨g2, 6, none⟩), .int .i64 s.bu, .bool false, .bool false, .bool false, .pointer (some ⟨g2, 6, none⟩), .int .i64 s.bu, .bool false, .bool false, .pointer (some ⟨g2, 2, none⟩), .pointer (some ⟨g2, 2, none⟩), .int .i64 s.num, .int .i64 (2 * s.num), .pointer (some ⟨g2, 6, none⟩), .int .i64 s.bu, .int .i64 ((2 * s.num) * s.bu), .int .i64 ((2 * s.num) * s.bu), .pointer (some ⟨g2, 2, none⟩), .pointer (some ⟨g2, 3, none⟩), .int .i64 s.den, .int .i64 (3 * s.den), .pointer (some ⟨g2, 5, none⟩), .int .i64 s.br, .int .i64 ((3 * s.den) * s.br), .pointer (some ⟨g2, 2, none⟩), .pointer (some ⟨g2, 2, none⟩), .int .i64 s.num, .int .i64 (32 * s.num), .int .i64 (((3 * s.den) * s.br) + (32 * s.num)), .bool true, .bool true, .pointer (some ⟨g2, 7, none⟩), .agg (bv s.a), .bool true, .bool true, .bool true, .pointer (some ⟨g2, 71, none⟩), .agg (bv s.b), .bool true, .bool true], []⟩) (by kernel_rfl) ?_
                                      refine wp_ret ?_
                                      exact done1 2 (.bool true) (by kernel_rfl) (by kernel_rfl) (by kernel_rfl) ⟨by rw [sB_t ⟨by omega, by omega, by omega, by omega, by omega, by omega, (fun h => by first | omega | (rw [hil] at h; cases h)), hR, by omega, by omega, by omega, by omega, by omega, by omega, by omega, by omega, hA, hB⟩], M30.toBelow⟩
                                    ·
                                      refine st_callB M28 (.bool false) (by kernel_rfl) (args := #[.agg (bv s.b)]) (run_value_call 42 #[(Operand.tmp 109)] _ rfl Try.func42 (by kernel_rfl) (by kernel_rfl) _ (by kernel_rfl)) ((by have := valid_walk W27 s.b hs.lb hs.bb; rw [hB] at this; exact this)) ?_
                                      intro W31 M32
                                      refine st_val (.bool false) (by kernel_rfl) (by kernel_rfl) ?_
                                      refine st_val (.bool false) (by kernel_rfl) (by kernel_rfl) ?_
                                      refine wl_nil ?_
                                      refine hK26 _ _ ?_
                                      try clear hK26 K26
                                      refine wp_frame (a' := ⟨#[.agg (sqv s), .pointer (some ⟨g2, 0, none⟩), .bool false, .int .i64 32, .int .i64 ((2 * s.num) * s.bu), .pointer (some ⟨g2, 4, none⟩), .bool true, .bool false, .pointer (some ⟨g2, 0, none⟩), .int .i64 s.W, .bool false, .bool false, .pointer (some ⟨g2, 0, none⟩), .int .i64 s.W, .bool false, .bool false, .bool false, .pointer (some ⟨g2, 0, none⟩), .int .i64 s.W, .int .i64 (s.W % 16), .bool false, .bool false, .bool false, .pointer (some ⟨g2, 1, none⟩), .int .i64 s.H, .bool false, .bool false, .bool false, .pointer (some ⟨g2, 1, none⟩), .int .i64 s.H, .bool false, .bool false, .bool false, .pointer (some ⟨g2, 1, none⟩), .int .i64 s.H, .int .i64 32, .int .i64 (s.H % 32), .bool false, .bool false, .bool false, .pointer (some ⟨g2, 2, none⟩), .agg #[.int .i64 s.num, .int .i64 s.den], .bool true, .bool false, .bool false, .pointer (some ⟨g2, 2, none⟩), .pointer (some ⟨g2, 2, none⟩), .int .i64 s.num, .bool false, .bool false, .bool false, .pointer (some ⟨g2, 2, none⟩), .pointer (some ⟨g2, 2, none⟩), .int .i64 s.num, .bool false, .bool false, .bool false, .pointer (some ⟨g2, 2, none⟩), .pointer (some ⟨g2, 3, none⟩), .int .i64 s.den, .bool false, .bool false, .bool false, .pointer (some ⟨g2, 5, none⟩), .int .i64 s.br, .bool false, .bool false, .pointer (some ⟨g2, 5, none⟩), .int .i64 s.br, .bool false, .bool false, .bool false, .pointer (some ⟨g2, 6, none⟩), .int .i64 s.bu, .bool false, .bool false, .bool false, .pointer (some ⟨g2, 6, none⟩), .int .i64 s.bu, .bool false, .bool false, .pointer (some ⟨g2, 2, none⟩), .pointer (some ⟨g2, 2, none⟩), .int .i64 s.num, .int .i64 (2 * s.num), .pointer (some ⟨g2, 6, none⟩), .int .i64 s.bu, .int .i64 ((2 * s.num) * s.bu), .int .i64 ((2 * s.num) * s.bu), .pointer (some ⟨g2, 2, none⟩), .pointer (some ⟨g2, 3, none⟩), .int .i64 s.den, .int .i64 (3 * s.den), .pointer (some ⟨g2, 5, none⟩), .int .i64 s.br, .int .i64 ((3 * s.den) * s.br), .pointer (some ⟨g2, 2, none⟩), .pointer (some ⟨g2, 2, none⟩), .int .i64 s.num, .int .i64 (32 * s.num), .int .i64 (((3 * s.den) * s.br) + (32 * s.num)), .bool true, .bool true, .pointer (some ⟨g2, 7, none⟩), .agg (bv s.a), .bool true, .bool true, .bool true, .pointer (some ⟨g2, 71, none⟩), .agg (bv s.b), .bool false, .bool false], []⟩) (by kernel_rfl) ?_
                                      refine wp_ret ?_
                                      exact done1 2 (.bool false) (by kernel_rfl) (by kernel_rfl) (by kernel_rfl) ⟨by rw [sB_f (fun h => by obtain ⟨h1, h2, h3, h4, h5, h6, h7, h8, h9, h10, h11, h12, h13, h14, h15, h16, h17, h18⟩ := h; first | omega | (have := h7 hil; omega) | (rw [hR] at h8; exact Bool.noConfusion h8) | (rw [hA] at h17; exact Bool.noConfusion h17) | (rw [hB] at h18; exact Bool.noConfusion h18))], M32.toBelow⟩
                                  ·
                                    refine st_callB M16 (.bool false) (by kernel_rfl) (args := #[.agg (bv s.a)]) (run_value_call 42 #[(Operand.tmp 104)] _ rfl Try.func42 (by kernel_rfl) (by kernel_rfl) _ (by kernel_rfl)) ((by have := valid_walk W15 s.a hs.la hs.ba; rw [hA] at this; exact this)) ?_
                                    intro W33 M34
                                    refine st_val (.bool false) (by kernel_rfl) (by kernel_rfl) ?_
                                    refine st_val (.bool false) (by kernel_rfl) (by kernel_rfl) ?_
                                    refine st_skip (by kernel_rfl) ?_
                                    refine st_skip (by kernel_rfl) ?_
                                    refine st_skip (by kernel_rfl) ?_
                                    refine st_val (.bool false) (by kernel_rfl) (by kernel_rfl) ?_
                                    refine st_val (.bool false) (by kernel_rfl) (by kernel_rfl) ?_
                                    refine wl_nil ?_
                                    refine hK26 _ _ ?_
                                    try clear hK26 K26
                                    refine wp_frame (a' := ⟨#[.agg (sqv s), .pointer (some ⟨g2, 0, none⟩), .bool false, .int .i64 32, .int .i64 ((2 * s.num) * s.bu), .pointer (some ⟨g2, 4, none⟩), .bool true, .bool false, .pointer (some ⟨g2, 0, none⟩), .int .i64 s.W, .bool false, .bool false, .pointer (some ⟨g2, 0, none⟩), .int .i64 s.W, .bool false, .bool false, .bool false, .pointer (some ⟨g2, 0, none⟩), .int .i64 s.W, .int .i64 (s.W % 16), .bool false, .bool false, .bool false, .pointer (some ⟨g2, 1, none⟩), .int .i64 s.H, .bool false, .bool false, .bool false, .pointer (some ⟨g2, 1, none⟩), .int .i64 s.H, .bool false, .bool false, .bool false, .pointer (some ⟨g2, 1, none⟩), .int .i64 s.H, .int .i64 32, .int .i64 (s.H % 32), .bool false, .bool false, .bool false, .pointer (some ⟨g2, 2, none⟩), .agg #[.int .i64 s.num, .int .i64 s.den], .bool true, .bool false, .bool false, .pointer (some ⟨g2, 2, none⟩), .pointer (some ⟨g2, 2, none⟩), .int .i64 s.num, .bool false, .bool false, .bool false, .pointer (some ⟨g2, 2, none⟩), .pointer (some ⟨g2, 2, none⟩), .int .i64 s.num, .bool false, .bool false, .bool false, .pointer (some ⟨g2, 2, none⟩), .pointer (some ⟨g2, 3, none⟩), .int .i64 s.den, .bool false, .bool false, .bool false, .pointer (some ⟨g2, 5, none⟩), .int .i64 s.br, .bool false, .bool false, .pointer (some ⟨g2, 5, none⟩), .int .i64 s.br, .bool false, .bool false, .bool false, .pointer (some ⟨g2, 6, none⟩), .int .i64 s.bu, .bool false, .bool false, .bool false, .pointer (some ⟨g2, 6, none⟩), .int .i64 s.bu, .bool false, .bool false, .pointer (some ⟨g2, 2, none⟩), .pointer (some ⟨g2, 2, none⟩), .int .i64 s.num, .int .i64 (2 * s.num), .pointer (some ⟨g2, 6, none⟩), .int .i64 s.bu, .int .i64 ((2 * s.num) * s.bu), .int .i64 ((2 * s.num) * s.bu), .pointer (some ⟨g2, 2, none⟩), .pointer (some ⟨g2, 3, none⟩), .int .i64 s.den, .int .i64 (3 * s.den), .pointer (some ⟨g2, 5, none⟩), .int .i64 s.br, .int .i64 ((3 * s.den) * s.br), .pointer (some ⟨g2, 2, none⟩), .pointer (some ⟨g2, 2, none⟩), .int .i64 s.num, .int .i64 (32 * s.num), .int .i64 (((3 * s.den) * s.br) + (32 * s.num)), .bool true, .bool true, .pointer (some ⟨g2, 7, none⟩), .agg (bv s.a), .bool false, .bool false, .bool false, undef, undef, undef, .bool false], []⟩) (by kernel_rfl) ?_
                                    refine wp_ret ?_
                                    exact done1 2 (.bool false) (by kernel_rfl) (by kernel_rfl) (by kernel_rfl) ⟨by rw [sB_f (fun h => by obtain ⟨h1, h2, h3, h4, h5, h6, h7, h8, h9, h10, h11, h12, h13, h14, h15, h16, h17, h18⟩ := h; first | omega | (have := h7 hil; omega) | (rw [hR] at h8; exact Bool.noConfusion h8) | (rw [hA] at h17; exact Bool.noConfusion h17) | (rw [hB] at h18; exact Bool.noConfusion h18))], M34.toBelow⟩
                                ·
                                  refine st_val (.bool false) (by kernel_rfl) (bool_of (dec_f c101) (by kernel_rfl)) ?_
                                  refine st_val (.bool false) (by kernel_rfl) (by kernel_rfl) ?_
                                  refine st_skip (by kernel_rfl) ?_
                                  refine st_skip (by kernel_rfl) ?_
                                  refine st_skip (by kernel_rfl) ?_
                                  refine st_val (.bool false) (by kernel_rfl) (by kernel_rfl) ?_
                                  refine st_val (.bool false) (by kernel_rfl) (by kernel_rfl) ?_
                                  refine st_skip (by kernel_rfl) ?_
                                  refine st_skip (by kernel_rfl) ?_
                                  refine st_skip (by kernel_rfl) ?_
                                  refine st_val (.bool false) (by kernel_rfl) (by kernel_rfl) ?_
                                  refine st_val (.bool false) (by kernel_rfl) (by kernel_rfl) ?_
                                  refine wl_nil ?_
                                  refine hK26 _ _ ?_
                                  try clear hK26 K26
                                  refine wp_frame (a' := ⟨#[.agg (sqv s), .pointer (some ⟨g2, 0, none⟩), .bool false, .int .i64 32, .int .i64 ((2 * s.num) * s.bu), .pointer (some ⟨g2, 4, none⟩), .bool true, .bool false, .pointer (some ⟨g2, 0, none⟩), .int .i64 s.W, .bool false, .bool false, .pointer (some ⟨g2, 0, none⟩), .int .i64 s.W, .bool false, .bool false, .bool false, .pointer (some ⟨g2, 0, none⟩), .int .i64 s.W, .int .i64 (s.W % 16), .bool false, .bool false, .bool false, .pointer (some ⟨g2, 1, none⟩), .int .i64 s.H, .bool false, .bool false, .bool false, .pointer (some ⟨g2, 1, none⟩), .int .i64 s.H, .bool false, .bool false, .bool false, .pointer (some ⟨g2, 1, none⟩), .int .i64 s.H, .int .i64 32, .int .i64 (s.H % 32), .bool false, .bool false, .bool false, .pointer (some ⟨g2, 2, none⟩), .agg #[.int .i64 s.num, .int .i64 s.den], .bool true, .bool false, .bool false, .pointer (some ⟨g2, 2, none⟩), .pointer (some ⟨g2, 2, none⟩), .int .i64 s.num, .bool false, .bool false, .bool false, .pointer (some ⟨g2, 2, none⟩), .pointer (some ⟨g2, 2, none⟩), .int .i64 s.num, .bool false, .bool false, .bool false, .pointer (some ⟨g2, 2, none⟩), .pointer (some ⟨g2, 3, none⟩), .int .i64 s.den, .bool false, .bool false, .bool false, .pointer (some ⟨g2, 5, none⟩), .int .i64 s.br, .bool false, .bool false, .pointer (some ⟨g2, 5, none⟩), .int .i64 s.br, .bool false, .bool false, .bool false, .pointer (some ⟨g2, 6, none⟩), .int .i64 s.bu, .bool false, .bool false, .bool false, .pointer (some ⟨g2, 6, none⟩), .int .i64 s.bu, .bool false, .bool false, .pointer (some ⟨g2, 2, none⟩), .pointer (some ⟨g2, 2, none⟩), .int .i64 s.num, .int .i64 (2 * s.num), .pointer (some ⟨g2, 6, none⟩), .int .i64 s.bu, .int .i64 ((2 * s.num) * s.bu), .int .i64 ((2 * s.num) * s.bu), .pointer (some ⟨g2, 2, none⟩), .pointer (some ⟨g2, 3, none⟩), .int .i64 s.den, .int .i64 (3 * s.den), .pointer (some ⟨g2, 5, none⟩), .int .i64 s.br, .int .i64 ((3 * s.den) * s.br), .pointer (some ⟨g2, 2, none⟩), .pointer (some ⟨g2, 2, none⟩), .int .i64 s.num, .int .i64 (32 * s.num), .int .i64 (((3 * s.den) * s.br) + (32 * s.num)), .bool false, .bool false, undef, undef, undef, .bool false, .bool false, undef, undef, undef, .bool false], []⟩) (by kernel_rfl) ?_
                                  refine wp_ret ?_
                                  exact done1 2 (.bool false) (by kernel_rfl) (by kernel_rfl) (by kernel_rfl) ⟨by rw [sB_f (fun h => by obtain ⟨h1, h2, h3, h4, h5, h6, h7, h8, h9, h10, h11, h12, h13, h14, h15, h16, h17, h18⟩ := h; first | omega | (have := h7 hil; omega) | (rw [hR] at h8; exact Bool.noConfusion h8) | (rw [hA] at h17; exact Bool.noConfusion h17) | (rw [hB] at h18; exact Bool.noConfusion h18))], M16.toBelow⟩
                ·
                  refine st_callB M4 (.bool false) (by kernel_rfl) (args := #[.agg #[.int .i64 s.num, .int .i64 s.den]]) (run_value_call 41 #[(Operand.tmp 41)] _ rfl Try.func41 (by kernel_rfl) (by kernel_rfl) _ (by kernel_rfl)) ((by have := rval_walk W3 s.num s.den hs.num hs.den; rw [hR] at this; exact this)) ?_
                  intro W35 M36
                  refine st_val (.bool true) (by kernel_rfl) (by kernel_rfl) ?_
                  refine st_val (.bool true) (by kernel_rfl) (by kernel_rfl) ?_
                  refine st_skip (by kernel_rfl) ?_
                  refine st_skip (by kernel_rfl) ?_
                  refine st_skip (by kernel_rfl) ?_
                  refine st_skip (by kernel_rfl) ?_
                  refine st_val (.bool true) (by kernel_rfl) (by kernel_rfl) ?_
                  refine st_val (.bool true) (by kernel_rfl) (by kernel_rfl) ?_
                  refine st_skip (by kernel_rfl) ?_
                  refine st_skip (by kernel_rfl) ?_
                  refine st_skip (by kernel_rfl) ?_
                  refine st_skip (by kernel_rfl) ?_
                  refine st_val (.bool true) (by kernel_rfl) (by kernel_rfl) ?_
                  refine st_val (.bool true) (by kernel_rfl) (by kernel_rfl) ?_
                  refine st_skip (by kernel_rfl) ?_
                  refine st_skip (by kernel_rfl) ?_
                  refine st_skip (by kernel_rfl) ?_
                  refine st_skip (by kernel_rfl) ?_
                  refine st_val (.bool true) (by kernel_rfl) (by kernel_rfl) ?_
                  refine st_val (.bool true) (by kernel_rfl) (by kernel_rfl) ?_
                  refine wl_nil ?_
                  refine hK14 _ _ ?_
                  try clear hK14 K14
                  refine wp_frame (a' := ⟨#[.agg (sqv s), .pointer (some ⟨g2, 0, none⟩), .bool false, .int .i64 32, undef, .pointer (some ⟨g2, 4, none⟩), .bool true, .bool false, .pointer (some ⟨g2, 0, none⟩), .int .i64 s.W, .bool false, .bool false, .pointer (some ⟨g2, 0, none⟩), .int .i64 s.W, .bool false, .bool false, .bool false, .pointer (some ⟨g2, 0, none⟩), .int .i64 s.W, .int .i64 (s.W % 16), .bool false, .bool false, .bool false, .pointer (some ⟨g2, 1, none⟩), .int .i64 s.H, .bool false, .bool false, .bool false, .pointer (some ⟨g2, 1, none⟩), .int .i64 s.H, .bool false, .bool false, .bool false, .pointer (some ⟨g2, 1, none⟩), .int .i64 s.H, .int .i64 32, .int .i64 (s.H % 32), .bool false, .bool false, .bool true, .pointer (some ⟨g2, 2, none⟩), .agg #[.int .i64 s.num, .int .i64 s.den], .bool false, .bool true, .bool true, undef, undef, undef, undef, .bool true, .bool true, undef, undef, undef, undef, .bool true, .bool true, undef, undef, undef, undef, .bool true, undef, undef, undef, undef, undef, undef, undef, undef, undef, undef, undef, undef, undef, undef, undef, undef, undef, undef, undef, undef, undef, undef, undef, undef, undef, undef, undef, undef, undef, undef, undef, undef, undef, undef, undef, undef, undef, undef, undef, undef, undef, undef, undef, undef, undef, undef, undef, undef, undef, undef], []⟩) (by kernel_rfl) ?_
                  refine wp_cond_true (by kernel_rfl) ?_
                  refine wp_seq_k (fun K37 hK37 => ?_)
                  refine wl_region ?_
                  refine st_val (.bool false) (by kernel_rfl) (by kernel_rfl) ?_
                  refine wl_nil ?_
                  refine hK37 _ _ ?_
                  try clear hK37 K37
                  refine wp_ret ?_
                  refine blk_ret ?_
                  refine th_ret ?_
                  exact done1 2 (.bool false) (by kernel_rfl) (by kernel_rfl) (by kernel_rfl) ⟨by rw [sB_f (fun h => by obtain ⟨h1, h2, h3, h4, h5, h6, h7, h8, h9, h10, h11, h12, h13, h14, h15, h16, h17, h18⟩ := h; first | omega | (have := h7 hil; omega) | (rw [hR] at h8; exact Bool.noConfusion h8) | (rw [hA] at h17; exact Bool.noConfusion h17) | (rw [hB] at h18; exact Bool.noConfusion h18))], M36.toBelow⟩
              ·
                refine st_val (.bool true) (by kernel_rfl) (bool_of (neq_t c37) (by kernel_rfl)) ?_
                refine st_val (.bool true) (by kernel_rfl) (by kernel_rfl) ?_
                refine st_val (.bool true) (by kernel_rfl) (by kernel_rfl) ?_
                refine wl_nil ?_
                refine hK9 _ _ ?_
                try clear hK9 K9
                refine wp_frame (a' := ⟨#[.agg (sqv s), .pointer (some ⟨g2, 0, none⟩), .bool false, .int .i64 32, undef, .pointer (some ⟨g2, 4, none⟩), .bool true, .bool true, .pointer (some ⟨g2, 0, none⟩), .int .i64 s.W, .bool false, .bool false, .pointer (some ⟨g2, 0, none⟩), .int .i64 s.W, .bool false, .bool false, .bool false, .pointer (some ⟨g2, 0, none⟩), .int .i64 s.W, .int .i64 (s.W % 16), .bool false, .bool false, .bool false, .pointer (some ⟨g2, 1, none⟩), .int .i64 s.H, .bool false, .bool false, .bool false, .pointer (some ⟨g2, 1, none⟩), .int .i64 s.H, .bool false, .bool false, .bool false, .pointer (some ⟨g2, 1, none⟩), .int .i64 s.H, .int .i64 32, .int .i64 (s.H % 32), .bool true, .bool true, undef, undef, undef, undef, undef, undef, undef, undef, undef, undef, undef, undef, undef, undef, undef, undef, undef, undef, undef, undef, undef, undef, undef, undef, undef, undef, undef, undef, undef, undef, undef, undef, undef, undef, undef, undef, undef, undef, undef, undef, undef, undef, undef, undef, undef, undef, undef, undef, undef, undef, undef, undef, undef, undef, undef, undef, undef, undef, undef, undef, undef, undef, undef, undef, undef, undef, undef, undef, undef, undef, undef, undef, undef], []⟩) (by kernel_rfl) ?_
                refine wp_cond_true (by kernel_rfl) ?_
                refine wp_seq_k (fun K38 hK38 => ?_)
                refine wl_region ?_
                refine st_val (.bool false) (by kernel_rfl) (by kernel_rfl) ?_
                refine wl_nil ?_
                refine hK38 _ _ ?_
                try clear hK38 K38
                refine wp_ret ?_
                refine blk_ret ?_
                refine th_ret ?_
                exact done1 2 (.bool false) (by kernel_rfl) (by kernel_rfl) (by kernel_rfl) ⟨by rw [sB_f (fun h => by obtain ⟨h1, h2, h3, h4, h5, h6, h7, h8, h9, h10, h11, h12, h13, h14, h15, h16, h17, h18⟩ := h; first | omega | (have := h7 hil; omega) | (rw [hR] at h8; exact Bool.noConfusion h8) | (rw [hA] at h17; exact Bool.noConfusion h17) | (rw [hB] at h18; exact Bool.noConfusion h18))], M4.toBelow⟩
        ·
          refine st_val (.bool true) (by kernel_rfl) (bool_of (neq_t c20) (by kernel_rfl)) ?_
          refine st_val (.bool true) (by kernel_rfl) (by kernel_rfl) ?_
          refine st_val (.bool true) (by kernel_rfl) (by kernel_rfl) ?_
          refine st_skip (by kernel_rfl) ?_
          refine st_skip (by kernel_rfl) ?_
          refine st_skip (by kernel_rfl) ?_
          refine st_val (.bool true) (by kernel_rfl) (by kernel_rfl) ?_
          refine st_val (.bool true) (by kernel_rfl) (by kernel_rfl) ?_
          refine st_skip (by kernel_rfl) ?_
          refine st_skip (by kernel_rfl) ?_
          refine st_skip (by kernel_rfl) ?_
          refine st_val (.bool true) (by kernel_rfl) (by kernel_rfl) ?_
          refine st_val (.bool true) (by kernel_rfl) (by kernel_rfl) ?_
          refine st_skip (by kernel_rfl) ?_
          refine st_skip (by kernel_rfl) ?_
          refine st_skip (by kernel_rfl) ?_
          refine st_skip (by kernel_rfl) ?_
          refine st_skip (by kernel_rfl) ?_
          refine st_val (.bool true) (by kernel_rfl) (by kernel_rfl) ?_
          refine st_val (.bool true) (by kernel_rfl) (by kernel_rfl) ?_
          refine wl_nil ?_
          refine hK9 _ _ ?_
          try clear hK9 K9
          refine wp_frame (a' := ⟨#[.agg (sqv s), .pointer (some ⟨g2, 0, none⟩), .bool false, .int .i64 32, undef, .pointer (some ⟨g2, 4, none⟩), .bool true, .bool true, .pointer (some ⟨g2, 0, none⟩), .int .i64 s.W, .bool false, .bool false, .pointer (some ⟨g2, 0, none⟩), .int .i64 s.W, .bool false, .bool false, .bool false, .pointer (some ⟨g2, 0, none⟩), .int .i64 s.W, .int .i64 (s.W % 16), .bool true, .bool true, .bool true, undef, undef, undef, .bool true, .bool true, undef, undef, undef, .bool true, .bool true, undef, undef, undef, undef, undef, .bool true, undef, undef, undef, undef, undef, undef, undef, undef, undef, undef, undef, undef, undef, undef, undef, undef, undef, undef, undef, undef, undef, undef, undef, undef, undef, undef, undef, undef, undef, undef, undef, undef, undef, undef, undef, undef, undef, undef, undef, undef, undef, undef, undef, undef, undef, undef, undef, undef, undef, undef, undef, undef, undef, undef, undef, undef, undef, undef, undef, undef, undef, undef, undef, undef, undef, undef, undef, undef, undef, undef, undef, undef, undef], []⟩) (by kernel_rfl) ?_
          refine wp_cond_true (by kernel_rfl) ?_
          refine wp_seq_k (fun K39 hK39 => ?_)
          refine wl_region ?_
          refine st_val (.bool false) (by kernel_rfl) (by kernel_rfl) ?_
          refine wl_nil ?_
          refine hK39 _ _ ?_
          try clear hK39 K39
          refine wp_ret ?_
          refine blk_ret ?_
          refine th_ret ?_
          exact done1 2 (.bool false) (by kernel_rfl) (by kernel_rfl) (by kernel_rfl) ⟨by rw [sB_f (fun h => by obtain ⟨h1, h2, h3, h4, h5, h6, h7, h8, h9, h10, h11, h12, h13, h14, h15, h16, h17, h18⟩ := h; first | omega | (have := h7 hil; omega) | (rw [hR] at h8; exact Bool.noConfusion h8) | (rw [hA] at h17; exact Bool.noConfusion h17) | (rw [hB] at h18; exact Bool.noConfusion h18))], M4.toBelow⟩
  ·
    refine st_val (.bool false) (by kernel_rfl) (run_load_cell 4 (.tmp 5) rfl ⟨g2, 4, none⟩ (by kernel_rfl) _ (M4.cell 0 rfl 4 _ (sqv_ilf hil)) (by kernel_rfl)) ?_
    refine wl_nil ?_
    refine hK7 _ _ ?_
    try clear hK7 K7
    refine wp_cond_false (by kernel_rfl) ?_
    refine wp_skip ?_
    refine hK6 _ _ ?_
    try clear hK6 K6
    refine wp_seq_k (fun K40 hK40 => ?_)
    refine wp_block ?_
    refine wp_seq_k (fun K41 hK41 => ?_)
    refine wl_region ?_
    refine st_val (.pointer (some ⟨g2, 0, none⟩)) (by kernel_rfl) (by kernel_rfl) ?_
    refine st_val (.int .i64 s.W) (by kernel_rfl) (run_load_cell 3 (.tmp 8) rfl ⟨g2, 0, none⟩ (by kernel_rfl) _ (M4.cell 0 rfl 0 _ (sqv_W _)) (by kernel_rfl)) ?_
    rcases Decidable.em ((s.W : Int) < 16) with c10 | c10
    ·
      refine st_val (.bool true) (by kernel_rfl) (bool_of (dec_t c10) (by kernel_rfl)) ?_
      refine st_val (.bool true) (by kernel_rfl) (by kernel_rfl) ?_
      refine st_skip (by kernel_rfl) ?_
      refine st_skip (by kernel_rfl) ?_
      refine st_skip (by kernel_rfl) ?_
      refine st_val (.bool true) (by kernel_rfl) (by kernel_rfl) ?_
      refine st_val (.bool true) (by kernel_rfl) (by kernel_rfl) ?_
      refine st_skip (by kernel_rfl) ?_
      refine st_skip (by kernel_rfl) ?_
      refine st_skip (by kernel_rfl) ?_
      refine st_skip (by kernel_rfl) ?_
      refine st_val (.bool true) (by kernel_rfl) (by kernel_rfl) ?_
      refine st_val (.bool true) (by kernel_rfl) (by kernel_rfl) ?_
      refine st_skip (by kernel_rfl) ?_
      refine st_skip (by kernel_rfl) ?_
      refine st_skip (by kernel_rfl) ?_
      refine st_val (.bool true) (by kernel_rfl) (by kernel_rfl) ?_
      refine st_val (.bool true) (by kernel_rfl) (by kernel_rfl) ?_
      refine st_skip (by kernel_rfl) ?_
      refine st_skip (by kernel_rfl) ?_
      refine st_skip (by kernel_rfl) ?_
      refine st_val (.bool true) (by kernel_rfl) (by kernel_rfl) ?_
      refine st_val (.bool true) (by kernel_rfl) (by kernel_rfl) ?_
      refine st_skip (by kernel_rfl) ?_
      refine st_skip (by kernel_rfl) ?_
      refine st_skip (by kernel_rfl) ?_
      refine st_skip (by kernel_rfl) ?_
      refine st_skip (by kernel_rfl) ?_
      refine st_val (.bool true) (by kernel_rfl) (by kernel_rfl) ?_
      refine st_val (.bool true) (by kernel_rfl) (by kernel_rfl) ?_
      refine wl_nil ?_
      refine hK41 _ _ ?_
      try clear hK41 K41
      refine wp_frame (a' := ⟨#[.agg (sqv s), .pointer (some ⟨g2, 0, none⟩), .bool false, .int .i64 16, undef, .pointer (some ⟨g2, 4, none⟩), .bool false, .bool true, .pointer (some ⟨g2, 0, none⟩), .int .i64 s.W, .bool true, .bool true, undef, undef, undef, .bool true, .bool true, undef, undef, undef, undef, .bool true, .bool true, undef, undef, undef, .bool true, .bool true, undef, undef, undef, .bool true, .bool true, undef, undef, undef, undef, undef, .bool true, undef, undef, undef, undef, undef, undef, undef, undef, undef, undef, undef, undef, undef, undef, undef, undef, undef, undef, undef, undef, undef, undef, undef, undef, undef, undef, undef, undef, undef, undef, undef, undef, undef, undef, undef, undef, undef, undef, undef, undef, undef, undef, undef, undef, undef, undef, undef, undef, undef, undef, undef, undef, undef, undef, undef, undef, undef, undef, undef, undef, undef, undef, undef, undef, undef, undef, undef, undef, undef, undef, undef, undef, undef], []⟩) (by kernel_rfl) ?_
      refine wp_cond_true (by kernel_rfl) ?_
      refine wp_seq_k (fun K42 hK42 => ?_)
      refine wl_region ?_
      refine st_val (.bool false) (by kernel_rfl) (by kernel_rfl) ?_
      refine wl_nil ?_
      refine hK42 _ _ ?_
      try clear hK42 K42
      refine wp_ret ?_
      refine blk_ret ?_
      refine th_ret ?_
      exact done1 2 (.bool false) (by kernel_rfl) (by kernel_rfl) (by kernel_rfl) ⟨by rw [sB_f (fun h => by obtain ⟨h1, h2, h3, h4, h5, h6, h7, h8, h9, h10, h11, h12, h13, h14, h15, h16, h17, h18⟩ := h; first | omega | (have := h7 hil; omega) | (rw [hR] at h8; exact Bool.noConfusion h8) | (rw [hA] at h17; exact Bool.noConfusion h17) | (rw [hB] at h18; exact Bool.noConfusion h18))], M4.toBelow⟩
    ·
      refine st_val (.bool false) (by kernel_rfl) (bool_of (dec_f c10) (by kernel_rfl)) ?_
      refine st_val (.bool false) (by kernel_rfl) (by kernel_rfl) ?_
      refine st_val (.pointer (some ⟨g2, 0, none⟩)) (by kernel_rfl) (by kernel_rfl) ?_
      refine st_val (.int .i64 s.W) (by kernel_rfl) (run_load_cell 3 (.tmp 12) rfl ⟨g2, 0, none⟩ (by kernel_rfl) _ (M4.cell 0 rfl 0 _ (sqv_W _)) (by kernel_rfl)) ?_
      rcases Decidable.em ((s.W : Int) > 64) with c14 | c14
      ·
        refine st_val (.bool true) (by kernel_rfl) (bool_of (dec_t c14) (by kernel_rfl)) ?_
        refine st_val (.bool true) (by kernel_rfl) (by kernel_rfl) ?_
        refine st_val (.bool true) (by kernel_rfl) (by kernel_rfl) ?_
        refine st_skip (by kernel_rfl) ?_
        refine st_skip (by kernel_rfl) ?_
        refine st_skip (by kernel_rfl) ?_
        refine st_skip (by kernel_rfl) ?_
        refine st_val (.bool true) (by kernel_rfl) (by kernel_rfl) ?_
        refine st_val (.bool true) (by kernel_rfl) (by kernel_rfl) ?_
        refine st_skip (by kernel_rfl) ?_
        refine st_skip (by kernel_rfl) ?_
        refine st_skip (by kernel_rfl) ?_
        refine st_val (.bool true) (by kernel_rfl) (by kernel_rfl) ?_
        refine st_val (.bool true) (by kernel_rfl) (by kernel_rfl) ?_
        refine st_skip (by kernel_rfl) ?_
        refine st_skip (by kernel_rfl) ?_
        refine st_skip (by kernel_rfl) ?_
        refine st_val (.bool true) (by kernel_rfl) (by kernel_rfl) ?_
        refine st_val (.bool true) (by kernel_rfl) (by kernel_rfl) ?_
        refine st_skip (by kernel_rfl) ?_
        refine st_skip (by kernel_rfl) ?_
        refine st_skip (by kernel_rfl) ?_
        refine st_skip (by kernel_rfl) ?_
        refine st_skip (by kernel_rfl) ?_
        refine st_val (.bool true) (by kernel_rfl) (by kernel_rfl) ?_
        refine st_val (.bool true) (by kernel_rfl) (by kernel_rfl) ?_
        refine wl_nil ?_
        refine hK41 _ _ ?_
        try clear hK41 K41
        refine wp_frame (a' := ⟨#[.agg (sqv s), .pointer (some ⟨g2, 0, none⟩), .bool false, .int .i64 16, undef, .pointer (some ⟨g2, 4, none⟩), .bool false, .bool true, .pointer (some ⟨g2, 0, none⟩), .int .i64 s.W, .bool false, .bool false, .pointer (some ⟨g2, 0, none⟩), .int .i64 s.W, .bool true, .bool true, .bool true, undef, undef, undef, undef, .bool true, .bool true, undef, undef, undef, .bool true, .bool true, undef, undef, undef, .bool true, .bool true, undef, undef, undef, undef, undef, .bool true, undef, undef, undef, undef, undef, undef, undef, undef, undef, undef, undef, undef, undef, undef, undef, undef, undef, undef, undef, undef, undef, undef, undef, undef, undef, undef, undef, undef, undef, undef, undef, undef, undef, undef, undef, undef, undef, undef, undef, undef, undef, undef, undef, undef, undef, undef, undef, undef, undef, undef, undef, undef, undef, undef, undef, undef, undef, undef, undef, undef, undef, undef, undef, undef, undef, undef, undef, undef, undef, undef, undef, undef, undef], []⟩) (by kernel_rfl) ?_
        refine wp_cond_true (by kernel_rfl) ?_
        refine wp_seq_k (fun K43 hK43 => ?_)
        refine wl_region ?_
        refine st_val (.bool false) (by kernel_rfl) (by kernel_rfl) ?_
        refine wl_nil ?_
        refine hK43 _ _ ?_
        try clear hK43 K43
        refine wp_ret ?_
        refine blk_ret ?_
        refine th_ret ?_
        exact done1 2 (.bool false) (by kernel_rfl) (by kernel_rfl) (by kernel_rfl) ⟨by rw [sB_f (fun h => by obtain ⟨h1, h2, h3, h4, h5, h6, h7, h8, h9, h10, h11, h12, h13, h14, h15, h16, h17, h18⟩ := h; first | omega | (have := h7 hil; omega) | (rw [hR] at h8; exact Bool.noConfusion h8) | (rw [hA] at h17; exact Bool.noConfusion h17) | (rw [hB] at h18; exact Bool.noConfusion h18))], M4.toBelow⟩
      ·
        refine st_val (.bool false) (by kernel_rfl) (bool_of (dec_f c14) (by kernel_rfl)) ?_
        refine st_val (.bool false) (by kernel_rfl) (by kernel_rfl) ?_
        refine st_val (.bool false) (by kernel_rfl) (by kernel_rfl) ?_
        refine st_val (.pointer (some ⟨g2, 0, none⟩)) (by kernel_rfl) (by kernel_rfl) ?_
        refine st_val (.int .i64 s.W) (by kernel_rfl) (run_load_cell 3 (.tmp 17) rfl ⟨g2, 0, none⟩ (by kernel_rfl) _ (M4.cell 0 rfl 0 _ (sqv_W _)) (by kernel_rfl)) ?_
        refine st_val (.int .i64 (s.W % 16)) (by kernel_rfl) (int_of (rem_of s.W 16 (by omega)) (by kernel_rfl)) ?_
        rcases Decidable.em ((s.W % 16 : Int) = 0) with c20 | c20
        ·
          refine st_val (.bool false) (by kernel_rfl) (bool_of (neq_f c20) (by kernel_rfl)) ?_
          refine st_val (.bool false) (by kernel_rfl) (by kernel_rfl) ?_
          refine st_val (.bool false) (by kernel_rfl) (by kernel_rfl) ?_
          refine st_val (.pointer (some ⟨g2, 1, none⟩)) (by kernel_rfl) (by kernel_rfl) ?_
          refine st_val (.int .i64 s.H) (by kernel_rfl) (run_load_cell 3 (.tmp 23) rfl ⟨g2, 1, none⟩ (by kernel_rfl) _ (M4.cell 0 rfl 1 _ (sqv_H _)) (by kernel_rfl)) ?_
          rcases Decidable.em ((s.H : Int) < 16) with c25 | c25
          ·
            refine st_val (.bool true) (by kernel_rfl) (bool_of (dec_t c25) (by kernel_rfl)) ?_
            refine st_val (.bool true) (by kernel_rfl) (by kernel_rfl) ?_
            refine st_val (.bool true) (by kernel_rfl) (by kernel_rfl) ?_
            refine st_skip (by kernel_rfl) ?_
            refine st_skip (by kernel_rfl) ?_
            refine st_skip (by kernel_rfl) ?_
            refine st_val (.bool true) (by kernel_rfl) (by kernel_rfl) ?_
            refine st_val (.bool true) (by kernel_rfl) (by kernel_rfl) ?_
            refine st_skip (by kernel_rfl) ?_
            refine st_skip (by kernel_rfl) ?_
            refine st_skip (by kernel_rfl) ?_
            refine st_skip (by kernel_rfl) ?_
            refine st_skip (by kernel_rfl) ?_
            refine st_val (.bool true) (by kernel_rfl) (by kernel_rfl) ?_
            refine st_val (.bool true) (by kernel_rfl) (by kernel_rfl) ?_
            refine wl_nil ?_
            refine hK41 _ _ ?_
            try clear hK41 K41
            refine wp_frame (a' := ⟨#[.agg (sqv s), .pointer (some ⟨g2, 0, none⟩), .bool false, .int .i64 16, undef, .pointer (some ⟨g2, 4, none⟩), .bool false, .bool true, .pointer (some ⟨g2, 0, none⟩), .int .i64 s.W, .bool false, .bool false, .pointer (some ⟨g2, 0, none⟩), .int .i64 s.W, .bool false, .bool false, .bool false, .pointer (some ⟨g2, 0, none⟩), .int .i64 s.W, .int .i64 (s.W % 16), .bool false, .bool false, .bool false, .pointer (some ⟨g2, 1, none⟩), .int .i64 s.H, .bool true, .bool true, .bool true, undef, undef, undef, .bool true, .bool true, undef, undef, undef, undef, undef, .bool true, undef, undef, undef, undef, undef, undef, undef, undef, undef, undef, undef, undef, undef, undef, undef, undef, undef, undef, undef, undef, undef, undef, undef, undef, undef, undef, undef, undef, undef, undef, undef, undef, undef, undef, undef, undef, undef, undef, undef, undef, undef, undef, undef, undef, undef, undef, undef, undef, undef, undef, undef, undef, undef, undef, undef, undef, undef, undef, undef, undef, undef, undef, undef, undef, undef, undef, undef, undef, undef, undef, undef, undef, undef], []⟩) (by kernel_rfl) ?_
            refine wp_cond_true (by kernel_rfl) ?_
            refine wp_seq_k (fun K44 hK44 => ?_)
            refine wl_region ?_
            refine st_val (.bool false) (by kernel_rfl) (by kernel_rfl) ?_
            refine wl_nil ?_
            refine hK44 _ _ ?_
            try clear hK44 K44
            refine wp_ret ?_
            refine blk_ret ?_
            refine th_ret ?_
            exact done1 2 (.bool false) (by kernel_rfl) (by kernel_rfl) (by kernel_rfl) ⟨by rw [sB_f (fun h => by obtain ⟨h1, h2, h3, h4, h5, h6, h7, h8, h9, h10, h11, h12, h13, h14, h15, h16, h17, h18⟩ := h; first | omega | (have := h7 hil; omega) | (rw [hR] at h8; exact Bool.noConfusion h8) | (rw [hA] at h17; exact Bool.noConfusion h17) | (rw [hB] at h18; exact Bool.noConfusion h18))], M4.toBelow⟩
          ·
            refine st_val (.bool false) (by kernel_rfl) (bool_of (dec_f c25) (by kernel_rfl)) ?_
            refine st_val (.bool false) (by kernel_rfl) (by kernel_rfl) ?_
            refine st_val (.bool false) (by kernel_rfl) (by kernel_rfl) ?_
            refine st_val (.pointer (some ⟨g2, 1, none⟩)) (by kernel_rfl) (by kernel_rfl) ?_
            refine st_val (.int .i64 s.H) (by kernel_rfl) (run_load_cell 3 (.tmp 28) rfl ⟨g2, 1, none⟩ (by kernel_rfl) _ (M4.cell 0 rfl 1 _ (sqv_H _)) (by kernel_rfl)) ?_
            rcases Decidable.em ((s.H : Int) > 64) with c30 | c30
            ·
              refine st_val (.bool true) (by kernel_rfl) (bool_of (dec_t c30) (by kernel_rfl)) ?_
              refine st_val (.bool true) (by kernel_rfl) (by kernel_rfl) ?_
              refine st_val (.bool true) (by kernel_rfl) (by kernel_rfl) ?_
              refine st_skip (by kernel_rfl) ?_
              refine st_skip (by kernel_rfl) ?_
              refine st_skip (by kernel_rfl) ?_
              refine st_skip (by kernel_rfl) ?_
              refine st_skip (by kernel_rfl) ?_
              refine st_val (.bool true) (by kernel_rfl) (by kernel_rfl) ?_
              refine st_val (.bool true) (by kernel_rfl) (by kernel_rfl) ?_
              refine wl_nil ?_
              refine hK41 _ _ ?_
              try clear hK41 K41
              refine wp_frame (a' := ⟨#[.agg (sqv s), .pointer (some ⟨g2, 0, none⟩), .bool false, .int .i64 16, undef, .pointer (some ⟨g2, 4, none⟩), .bool false, .bool true, .pointer (some ⟨g2, 0, none⟩), .int .i64 s.W, .bool false, .bool false, .pointer (some ⟨g2, 0, none⟩), .int .i64 s.W, .bool false, .bool false, .bool false, .pointer (some ⟨g2, 0, none⟩), .int .i64 s.W, .int .i64 (s.W % 16), .bool false, .bool false, .bool false, .pointer (some ⟨g2, 1, none⟩), .int .i64 s.H, .bool false, .bool false, .bool false, .pointer (some ⟨g2, 1, none⟩), .int .i64 s.H, .bool true, .bool true, .bool true, undef, undef, undef, undef, undef, .bool true, undef, undef, undef, undef, undef, undef, undef, undef, undef, undef, undef, undef, undef, undef, undef, undef, undef, undef, undef, undef, undef, undef, undef, undef, undef, undef, undef, undef, undef, undef, undef, undef, undef, undef, undef, undef, undef, undef, undef, undef, undef, undef, undef, undef, undef, undef, undef, undef, undef, undef, undef, undef, undef, undef, undef, undef, undef, undef, undef, undef, undef, undef, undef, undef, undef, undef, undef, undef, undef, undef, undef, undef, undef], []⟩) (by kernel_rfl) ?_
              refine wp_cond_true (by kernel_rfl) ?_
              refine wp_seq_k (fun K45 hK45 => ?_)
              refine wl_region ?_
              refine st_val (.bool false) (by kernel_rfl) (by kernel_rfl) ?_
              refine wl_nil ?_
              refine hK45 _ _ ?_
              try clear hK45 K45
              refine wp_ret ?_
              refine blk_ret ?_
              refine th_ret ?_
              exact done1 2 (.bool false) (by kernel_rfl) (by kernel_rfl) (by kernel_rfl) ⟨by rw [sB_f (fun h => by obtain ⟨h1, h2, h3, h4, h5, h6, h7, h8, h9, h10, h11, h12, h13, h14, h15, h16, h17, h18⟩ := h; first | omega | (have := h7 hil; omega) | (rw [hR] at h8; exact Bool.noConfusion h8) | (rw [hA] at h17; exact Bool.noConfusion h17) | (rw [hB] at h18; exact Bool.noConfusion h18))], M4.toBelow⟩
            ·
              refine st_val (.bool false) (by kernel_rfl) (bool_of (dec_f c30) (by kernel_rfl)) ?_
              refine st_val (.bool false) (by kernel_rfl) (by kernel_rfl) ?_
              refine st_val (.bool false) (by kernel_rfl) (by kernel_rfl) ?_
              refine st_val (.pointer (some ⟨g2, 1, none⟩)) (by kernel_rfl) (by kernel_rfl) ?_
              refine st_val (.int .i64 s.H) (by kernel_rfl) (run_load_cell 3 (.tmp 33) rfl ⟨g2, 1, none⟩ (by kernel_rfl) _ (M4.cell 0 rfl 1 _ (sqv_H _)) (by kernel_rfl)) ?_
              refine st_val (.int .i64 16) (by kernel_rfl) (by kernel_rfl) ?_
              refine st_val (.int .i64 (s.H % 16)) (by kernel_rfl) (int_of (rem_of s.H 16 (by omega)) (by kernel_rfl)) ?_
              rcases Decidable.em ((s.H % 16 : Int) = 0) with c37 | c37
              ·
                refine st_val (.bool false) (by kernel_rfl) (bool_of (neq_f c37) (by kernel_rfl)) ?_
                refine st_val (.bool false) (by kernel_rfl) (by kernel_rfl) ?_
                refine st_val (.bool false) (by kernel_rfl) (by kernel_rfl) ?_
                refine wl_nil ?_
                refine hK41 _ _ ?_
                try clear hK41 K41
                refine wp_frame (a' := ⟨#[.agg (sqv s), .pointer (some ⟨g2, 0, none⟩), .bool false, .int .i64 16, undef, .pointer (some ⟨g2, 4, none⟩), .bool false, .bool false, .pointer (some ⟨g2, 0, none⟩), .int .i64 s.W, .bool false, .bool false, .pointer (some ⟨g2, 0, none⟩), .int .i64 s.W, .bool false, .bool false, .bool false, .pointer (some ⟨g2, 0, none⟩), .int .i64 s.W, .int .i64 (s.W % 16), .bool false, .bool false, .bool false, .pointer (some ⟨g2, 1, none⟩), .int .i64 s.H, .bool false, .bool false, .bool false, .pointer (some ⟨g2, 1, none⟩), .int .i64 s.H, .bool false, .bool false, .bool false, .pointer (some ⟨g2, 1, none⟩), .int .i64 s.H, .int .i64 16, .int .i64 (s.H % 16), .bool false, .bool false, undef, undef, undef, undef, undef, undef, undef, undef, undef, undef, undef, undef, undef, undef, undef, undef, undef, undef, undef, undef, undef, undef, undef, undef, undef, undef, undef, undef, undef, undef, undef, undef, undef, undef, undef, undef, undef, undef, undef, undef, undef, undef, undef, undef, undef, undef, undef, undef, undef, undef, undef, undef, undef, undef, undef, undef, undef, undef, undef, undef, undef, undef, undef, undef, undef, undef, undef, undef, undef, undef, undef, undef, undef], []⟩) (by kernel_rfl) ?_
                refine wp_cond_false (by kernel_rfl) ?_
                refine wp_seq_k (fun K46 hK46 => ?_)
                refine wl_region ?_
                refine st_val (.pointer (some ⟨g2, 2, none⟩)) (by kernel_rfl) (by kernel_rfl) ?_
                refine st_val (.agg #[.int .i64 s.num, .int .i64 s.den]) (by kernel_rfl) (run_load_mid 23 (.tmp 40) rfl g2 2 (by kernel_rfl) [.int .i64 s.num, .int .i64 s.den] _ (M4.range 0 rfl 2 _ (sqv_rate _)) Try.underlying23 rfl (by kernel_rfl)) ?_
                rcases Bool.eq_false_or_eq_true (rV s.num s.den) with hR | hR
                ·
                  have hR1 := rV_den hR
                  refine st_callB M4 (.bool true) (by kernel_rfl) (args := #[.agg #[.int .i64 s.num, .int .i64 s.den]]) (run_value_call 41 #[(Operand.tmp 41)] _ rfl Try.func41 (by kernel_rfl) (by kernel_rfl) _ (by kernel_rfl)) ((by have := rval_walk W3 s.num s.den hs.num hs.den; rw [hR] at this; exact this)) ?_
                  intro W47 M48
                  refine st_val (.bool false) (by kernel_rfl) (by kernel_rfl) ?_
                  refine st_val (.bool false) (by kernel_rfl) (by kernel_rfl) ?_
                  refine st_val (.pointer (some ⟨g2, 2, none⟩)) (by kernel_rfl) (by kernel_rfl) ?_
                  refine st_val (.pointer (some ⟨g2, 2, none⟩)) (by kernel_rfl) (by kernel_rfl) ?_
                  refine st_val (.int .i64 s.num) (by kernel_rfl) (run_load_cell 2 (.tmp 46) rfl ⟨g2, 2, none⟩ (by kernel_rfl) _ (M48.cell 0 rfl 2 _ (sqv_num _)) (by kernel_rfl)) ?_
                  rcases Decidable.em ((s.num : Int) < 1) with c48 | c48
                  ·
                    refine st_val (.bool true) (by kernel_rfl) (bool_of (dec_t c48) (by kernel_rfl)) ?_
                    refine st_val (.bool true) (by kernel_rfl) (by kernel_rfl) ?_
                    refine st_val (.bool true) (by kernel_rfl) (by kernel_rfl) ?_
                    refine st_skip (by kernel_rfl) ?_
                    refine st_skip (by kernel_rfl) ?_
                    refine st_skip (by kernel_rfl) ?_
                    refine st_skip (by kernel_rfl) ?_
                    refine st_val (.bool true) (by kernel_rfl) (by kernel_rfl) ?_
                    refine st_val (.bool true) (by kernel_rfl) (by kernel_rfl) ?_
                    refine st_skip (by kernel_rfl) ?_
                    refine st_skip (by kernel_rfl) ?_
                    refine st_skip (by kernel_rfl) ?_
                    refine st_skip (by kernel_rfl) ?_
                    refine st_val (.bool true) (by kernel_rfl) (by kernel_rfl) ?_
                    refine st_val (.bool true) (by kernel_rfl) (by kernel_rfl) ?_
                    refine wl_nil ?_
                    refine hK46 _ _ ?_
                    try clear hK46 K46
                    refine wp_frame (a' := ⟨#[.agg (sqv s), .pointer (some ⟨g2, 0, none⟩), .bool false, .int .i64 16, undef, .pointer (some ⟨g2, 4, none⟩), .bool false, .bool false, .pointer (some ⟨g2, 0, none⟩), .int .i64 s.W, .bool false, .bool false, .pointer (some ⟨g2, 0, none⟩), .int .i64 s.W, .bool false, .bool false, .bool false, .pointer (some ⟨g2, 0, none⟩), .int .i64 s.W, .int .i64 (s.W % 16), .bool false, .bool false, .bool false, .pointer (some ⟨g2, 1, none⟩), .int .i64 s.H, .bool false, .bool false, .bool false, .pointer (some ⟨g2, 1, none⟩), .int .i64 s.H, .bool false, .bool false, .bool false, .pointer (some ⟨g2, 1, none⟩), .int .i64 s.H, .int .i64 16, .int .i64 (s.H % 16), .bool false, .bool false, .bool true, .pointer (some ⟨g2, 2, none⟩), .agg #[.int .i64 s.num, .int .i64 s.den], .bool true, .bool false, .bool false, .pointer (some ⟨g2, 2, none⟩), .pointer (some ⟨g2, 2, none⟩), .int .i64 s.num, .bool true, .bool true, .bool true, undef, undef, undef, undef, .bool true, .bool true, undef, undef, undef, undef, .bool true, undef, undef, undef, undef, undef, undef, undef, undef, undef, undef, undef, undef, undef, undef, undef, undef, undef, undef, undef, undef, undef, undef, undef, undef, undef, undef, undef, undef, undef, undef, undef, undef, undef, undef, undef, undef, undef, undef, undef, undef, undef, undef, undef, undef, undef, undef, undef, undef, undef, undef], []⟩) (by kernel_rfl) ?_
                    refine wp_cond_true (by kernel_rfl) ?_
                    refine wp_seq_k (fun K49 hK49 => ?_)
                    refine wl_region ?_
                    refine st_val (.bool false) (by kernel_rfl) (by kernel_rfl) ?_
                    refine wl_nil ?_
                    refine hK49 _ _ ?_
                    try clear hK49 K49
                    refine wp_ret ?_
                    refine blk_ret ?_
                    refine th_ret ?_
                    exact done1 2 (.bool false) (by kernel_rfl) (by kernel_rfl) (by kernel_rfl) ⟨by rw [sB_f (fun h => by obtain ⟨h1, h2, h3, h4, h5, h6, h7, h8, h9, h10, h11, h12, h13, h14, h15, h16, h17, h18⟩ := h; first | omega | (have := h7 hil; omega) | (rw [hR] at h8; exact Bool.noConfusion h8) | (rw [hA] at h17; exact Bool.noConfusion h17) | (rw [hB] at h18; exact Bool.noConfusion h18))], M48.toBelow⟩
                  ·
                    refine st_val (.bool false) (by kernel_rfl) (bool_of (dec_f c48) (by kernel_rfl)) ?_
                    refine st_val (.bool false) (by kernel_rfl) (by kernel_rfl) ?_
                    refine st_val (.bool false) (by kernel_rfl) (by kernel_rfl) ?_
                    refine st_val (.pointer (some ⟨g2, 2, none⟩)) (by kernel_rfl) (by kernel_rfl) ?_
                    refine st_val (.pointer (some ⟨g2, 2, none⟩)) (by kernel_rfl) (by kernel_rfl) ?_
                    refine st_val (.int .i64 s.num) (by kernel_rfl) (run_load_cell 2 (.tmp 52) rfl ⟨g2, 2, none⟩ (by kernel_rfl) _ (M48.cell 0 rfl 2 _ (sqv_num _)) (by kernel_rfl)) ?_
                    rcases Decidable.em ((s.num : Int) > 1048576) with c54 | c54
                    ·
                      refine st_val (.bool true) (by kernel_rfl) (bool_of (dec_t c54) (by kernel_rfl)) ?_
                      refine st_val (.bool true) (by kernel_rfl) (by kernel_rfl) ?_
                      refine st_val (.bool true) (by kernel_rfl) (by kernel_rfl) ?_
                      refine st_skip (by kernel_rfl) ?_
                      refine st_skip (by kernel_rfl) ?_
                      refine st_skip (by kernel_rfl) ?_
                      refine st_skip (by kernel_rfl) ?_
                      refine st_val (.bool true) (by kernel_rfl) (by kernel_rfl) ?_
                      refine st_val (.bool true) (by kernel_rfl) (by kernel_rfl) ?_
                      refine wl_nil ?_
                      refine hK46 _ _ ?_
                      try clear hK46 K46
                      refine wp_frame (a' := ⟨#[.agg (sqv s), .pointer (some ⟨g2, 0, none⟩), .bool false, .int .i64 16, undef, .pointer (some ⟨g2, 4, none⟩), .bool false, .bool false, .pointer (some ⟨g2, 0, none⟩), .int .i64 s.W, .bool false, .bool false, .pointer (some ⟨g2, 0, none⟩), .int .i64 s.W, .bool false, .bool false, .bool false, .pointer (some ⟨g2, 0, none⟩), .int .i64 s.W, .int .i64 (s.W % 16), .bool false, .bool false, .bool false, .pointer (some ⟨g2, 1, none⟩), .int .i64 s.H, .bool false, .bool false, .bool false, .pointer (some ⟨g2, 1, none⟩), .int .i64 s.H, .bool false, .bool false, .bool false, .pointer (some ⟨g2, 1, none⟩), .int .i64 s.H, .int .i64 16, .int .i64 (s.H % 16), .bool false, .bool false, .bool true, .pointer (some ⟨g2, 2, none⟩), .agg #[.int .i64 s.num, .int .i64 s.den], .bool true, .bool false, .bool false, .pointer (some ⟨g2, 2, none⟩), .pointer (some ⟨g2, 2, none⟩), .int .i64 s.num, .bool false, .bool false, .bool false, .pointer (some ⟨g2, 2, none⟩), .pointer (some ⟨g2, 2, none⟩), .int .i64 s.num, .bool true, .bool true, .bool true, undef, undef, undef, undef, .bool true, undef, undef, undef, undef, undef, undef, undef, undef, undef, undef, undef, undef, undef, undef, undef, undef, undef, undef, undef, undef, undef, undef, undef, undef, undef, undef, undef, undef, undef, undef, undef, undef, undef, undef, undef, undef, undef, undef, undef, undef, undef, undef, undef, undef, undef, undef, undef, undef, undef, undef], []⟩) (by kernel_rfl) ?_
                      refine wp_cond_true (by kernel_rfl) ?_
                      refine wp_seq_k (fun K50 hK50 => ?_)
                      refine wl_region ?_
                      refine st_val (.bool false) (by kernel_rfl) (by kernel_rfl) ?_
                      refine wl_nil ?_
                      refine hK50 _ _ ?_
                      try clear hK50 K50
                      refine wp_ret ?_
                      refine blk_ret ?_
                      refine th_ret ?_
                      exact done1 2 (.bool false) (by kernel_rfl) (by kernel_rfl) (by kernel_rfl) ⟨by rw [sB_f (fun h => by obtain ⟨h1, h2, h3, h4, h5, h6, h7, h8, h9, h10, h11, h12, h13, h14, h15, h16, h17, h18⟩ := h; first | omega | (have := h7 hil; omega) | (rw [hR] at h8; exact Bool.noConfusion h8) | (rw [hA] at h17; exact Bool.noConfusion h17) | (rw [hB] at h18; exact Bool.noConfusion h18))], M48.toBelow⟩
                    ·
                      refine st_val (.bool false) (by kernel_rfl) (bool_of (dec_f c54) (by kernel_rfl)) ?_
                      refine st_val (.bool false) (by kernel_rfl) (by kernel_rfl) ?_
                      refine st_val (.bool false) (by kernel_rfl) (by kernel_rfl) ?_
                      refine st_val (.pointer (some ⟨g2, 2, none⟩)) (by kernel_rfl) (by kernel_rfl) ?_
                      refine st_val (.pointer (some ⟨g2, 3, none⟩)) (by kernel_rfl) (by kernel_rfl) ?_
                      refine st_val (.int .i64 s.den) (by kernel_rfl) (run_load_cell 2 (.tmp 58) rfl ⟨g2, 3, none⟩ (by kernel_rfl) _ (M48.cell 0 rfl 3 _ (sqv_den _)) (by kernel_rfl)) ?_
                      rcases Decidable.em ((s.den : Int) > 65536) with c60 | c60
                      ·
                        refine st_val (.bool true) (by kernel_rfl) (bool_of (dec_t c60) (by kernel_rfl)) ?_
                        refine st_val (.bool true) (by kernel_rfl) (by kernel_rfl) ?_
                        refine st_val (.bool true) (by kernel_rfl) (by kernel_rfl) ?_
                        refine wl_nil ?_
                        refine hK46 _ _ ?_
                        try clear hK46 K46
                        refine wp_frame (a' := ⟨#[.agg (sqv s), .pointer (some ⟨g2, 0, none⟩), .bool false, .int .i64 16, undef, .pointer (some ⟨g2, 4, none⟩), .bool false, .bool false, .pointer (some ⟨g2, 0, none⟩), .int .i64 s.W, .bool false, .bool false, .pointer (some ⟨g2, 0, none⟩), .int .i64 s.W, .bool false, .bool false, .bool false, .pointer (some ⟨g2, 0, none⟩), .int .i64 s.W, .int .i64 (s.W % 16), .bool false, .bool false, .bool false, .pointer (some ⟨g2, 1, none⟩), .int .i64 s.H, .bool false, .bool false, .bool false, .pointer (some ⟨g2, 1, none⟩), .int .i64 s.H, .bool false, .bool false, .bool false, .pointer (some ⟨g2, 1, none⟩), .int .i64 s.H, .int .i64 16, .int .i64 (s.H % 16), .bool false, .bool false, .bool true, .pointer (some ⟨g2, 2, none⟩), .agg #[.int .i64 s.num, .int .i64 s.den], .bool true, .bool false, .bool false, .pointer (some ⟨g2, 2, none⟩), .pointer (some ⟨g2, 2, none⟩), .int .i64 s.num, .bool false, .bool false, .bool false, .pointer (some ⟨g2, 2, none⟩), .pointer (some ⟨g2, 2, none⟩), .int .i64 s.num, .bool false, .bool false, .bool false, .pointer (some ⟨g2, 2, none⟩), .pointer (some ⟨g2, 3, none⟩), .int .i64 s.den, .bool true, .bool true, undef, undef, undef, undef, undef, undef, undef, undef, undef, undef, undef, undef, undef, undef, undef, undef, undef, undef, undef, undef, undef, undef, undef, undef, undef, undef, undef, undef, undef, undef, undef, undef, undef, undef, undef, undef, undef, undef, undef, undef, undef, undef, undef, undef, undef, undef, undef, undef, undef, undef], []⟩) (by kernel_rfl) ?_
                        refine wp_cond_true (by kernel_rfl) ?_
                        refine wp_seq_k (fun K51 hK51 => ?_)
                        refine wl_region ?_
                        refine st_val (.bool false) (by kernel_rfl) (by kernel_rfl) ?_
                        refine wl_nil ?_
                        refine hK51 _ _ ?_
                        try clear hK51 K51
                        refine wp_ret ?_
                        refine blk_ret ?_
                        refine th_ret ?_
                        exact done1 2 (.bool false) (by kernel_rfl) (by kernel_rfl) (by kernel_rfl) ⟨by rw [sB_f (fun h => by obtain ⟨h1, h2, h3, h4, h5, h6, h7, h8, h9, h10, h11, h12, h13, h14, h15, h16, h17, h18⟩ := h; first | omega | (have := h7 hil; omega) | (rw [hR] at h8; exact Bool.noConfusion h8) | (rw [hA] at h17; exact Bool.noConfusion h17) | (rw [hB] at h18; exact Bool.noConfusion h18))], M48.toBelow⟩
                      ·
                        refine st_val (.bool false) (by kernel_rfl) (bool_of (dec_f c60) (by kernel_rfl)) ?_
                        refine st_val (.bool false) (by kernel_rfl) (by kernel_rfl) ?_
                        refine st_val (.bool false) (by kernel_rfl) (by kernel_rfl) ?_
                        refine wl_nil ?_
                        refine hK46 _ _ ?_
                        try clear hK46 K46
                        refine wp_frame (a' := ⟨#[.agg (sqv s), .pointer (some ⟨g2, 0, none⟩), .bool false, .int .i64 16, undef, .pointer (some ⟨g2, 4, none⟩), .bool false, .bool false, .pointer (some ⟨g2, 0, none⟩), .int .i64 s.W, .bool false, .bool false, .pointer (some ⟨g2, 0, none⟩), .int .i64 s.W, .bool false, .bool false, .bool false, .pointer (some ⟨g2, 0, none⟩), .int .i64 s.W, .int .i64 (s.W % 16), .bool false, .bool false, .bool false, .pointer (some ⟨g2, 1, none⟩), .int .i64 s.H, .bool false, .bool false, .bool false, .pointer (some ⟨g2, 1, none⟩), .int .i64 s.H, .bool false, .bool false, .bool false, .pointer (some ⟨g2, 1, none⟩), .int .i64 s.H, .int .i64 16, .int .i64 (s.H % 16), .bool false, .bool false, .bool false, .pointer (some ⟨g2, 2, none⟩), .agg #[.int .i64 s.num, .int .i64 s.den], .bool true, .bool false, .bool false, .pointer (some ⟨g2, 2, none⟩), .pointer (some ⟨g2, 2, none⟩), .int .i64 s.num, .bool false, .bool false, .bool false, .pointer (some ⟨g2, 2, none⟩), .pointer (some ⟨g2, 2, none⟩), .int .i64 s.num, .bool false, .bool false, .bool false, .pointer (some ⟨g2, 2, none⟩), .pointer (some ⟨g2, 3, none⟩), .int .i64 s.den, .bool false, .bool false, undef, undef, undef, undef, undef, undef, undef, undef, undef, undef, undef, undef, undef, undef, undef, undef, undef, undef, undef, undef, undef, undef, undef, undef, undef, undef, undef, undef, undef, undef, undef, undef, undef, undef, undef, undef, undef, undef, undef, undef, undef, undef, undef, undef, undef, undef, undef, undef, undef, undef], []⟩) (by kernel_rfl) ?_
                        refine wp_cond_false (by kernel_rfl) ?_
                        refine wp_seq_k (fun K52 hK52 => ?_)
                        refine wl_region ?_
                        refine st_val (.pointer (some ⟨g2, 5, none⟩)) (by kernel_rfl) (by kernel_rfl) ?_
                        refine st_val (.int .i64 s.br) (by kernel_rfl) (run_load_cell 3 (.tmp 63) rfl ⟨g2, 5, none⟩ (by kernel_rfl) _ (M48.cell 0 rfl 5 _ (sqv_br _)) (by kernel_rfl)) ?_
                        rcases Decidable.em ((s.br : Int) < 1) with c65 | c65
                        ·
                          refine st_val (.bool true) (by kernel_rfl) (bool_of (dec_t c65) (by kernel_rfl)) ?_
                          refine st_val (.bool true) (by kernel_rfl) (by kernel_rfl) ?_
                          refine st_skip (by kernel_rfl) ?_
                          refine st_skip (by kernel_rfl) ?_
                          refine st_skip (by kernel_rfl) ?_
                          refine st_val (.bool true) (by kernel_rfl) (by kernel_rfl) ?_
                          refine st_val (.bool true) (by kernel_rfl) (by kernel_rfl) ?_
                          refine st_skip (by kernel_rfl) ?_
                          refine st_skip (by kernel_rfl) ?_
                          refine st_skip (by kernel_rfl) ?_
                          refine st_val (.bool true) (by kernel_rfl) (by kernel_rfl) ?_
                          refine st_val (.bool true) (by kernel_rfl) (by kernel_rfl) ?_
                          refine st_skip (by kernel_rfl) ?_
                          refine st_skip (by kernel_rfl) ?_
                          refine st_skip (by kernel_rfl) ?_
                          refine st_val (.bool true) (by kernel_rfl) (by kernel_rfl) ?_
                          refine st_val (.bool true) (by kernel_rfl) (by kernel_rfl) ?_
                          refine wl_nil ?_
                          refine hK52 _ _ ?_
                          try clear hK52 K52
                          refine wp_frame (a' := ⟨#[.agg (sqv s), .pointer (some ⟨g2, 0, none⟩), .bool false, .int .i64 16, undef, .pointer (some ⟨g2, 4, none⟩), .bool false, .bool false, .pointer (some ⟨g2, 0, none⟩), .int .i64 s.W, .bool false, .bool false, .pointer (some ⟨g2, 0, none⟩), .int .i64 s.W, .bool false, .bool false, .bool false, .pointer (some ⟨g2, 0, none⟩), .int .i64 s.W, .int .i64 (s.W % 16), .bool false, .bool false, .bool false, .pointer (some ⟨g2, 1, none⟩), .int .i64 s.H, .bool false, .bool false, .bool false, .pointer (some ⟨g2, 1, none⟩), .int .i64 s.H, .bool false, .bool false, .bool false, .pointer (some ⟨g2, 1, none⟩), .int .i64 s.H, .int .i64 16, .int .i64 (s.H % 16), .bool false, .bool false, .bool false, .pointer (some ⟨g2, 2, none⟩), .agg #[.int .i64 s.num, .int .i64 s.den], .bool true, .bool false, .bool false, .pointer (some ⟨g2, 2, none⟩), .pointer (some ⟨g2, 2, none⟩), .int .i64 s.num, .bool false, .bool false, .bool false, .pointer (some ⟨g2, 2, none⟩), .pointer (some ⟨g2, 2, none⟩), .int .i64 s.num, .bool false, .bool false, .bool false, .pointer (some ⟨g2, 2, none⟩), .pointer (some ⟨g2, 3, none⟩), .int .i64 s.den, .bool false, .bool false, .bool true, .pointer (some ⟨g2, 5, none⟩), .int .i64 s.br, .bool true, .bool true, undef, undef, undef, .bool true, .bool true, undef, undef, undef, .bool true, .bool true, undef, undef, undef, .bool true, undef, undef, undef, undef, undef, undef, undef, undef, undef, undef, undef, undef, undef, undef, undef, undef, undef, undef, undef, undef, undef, undef, undef, undef, undef, undef, undef, undef, undef, undef, undef], []⟩) (by kernel_rfl) ?_
                          refine wp_cond_true (by kernel_rfl) ?_
                          refine wp_seq_k (fun K53 hK53 => ?_)
                          refine wl_region ?_
                          refine st_val (.bool false) (by kernel_rfl) (by kernel_rfl) ?_
                          refine wl_nil ?_
                          refine hK53 _ _ ?_
                          try clear hK53 K53
                          refine wp_ret ?_
                          refine blk_ret ?_
                          refine th_ret ?_
                          exact done1 2 (.bool false) (by kernel_rfl) (by kernel_rfl) (by kernel_rfl) ⟨by rw [sB_f (fun h => by obtain ⟨h1, h2, h3, h4, h5, h6, h7, h8, h9, h10, h11, h12, h13, h14, h15, h16, h17, h18⟩ := h; first | omega | (have := h7 hil; omega) | (rw [hR] at h8; exact Bool.noConfusion h8) | (rw [hA] at h17; exact Bool.noConfusion h17) | (rw [hB] at h18; exact Bool.noConfusion h18))], M48.toBelow⟩
                        ·
                          refine st_val (.bool false) (by kernel_rfl) (bool_of (dec_f c65) (by kernel_rfl)) ?_
                          refine st_val (.bool false) (by kernel_rfl) (by kernel_rfl) ?_
                          refine st_val (.pointer (some ⟨g2, 5, none⟩)) (by kernel_rfl) (by kernel_rfl) ?_
                          refine st_val (.int .i64 s.br) (by kernel_rfl) (run_load_cell 3 (.tmp 67) rfl ⟨g2, 5, none⟩ (by kernel_rfl) _ (M48.cell 0 rfl 5 _ (sqv_br _)) (by kernel_rfl)) ?_
                          rcases Decidable.em ((s.br : Int) > 16777216) with c69 | c69
                          ·
                            refine st_val (.bool true) (by kernel_rfl) (bool_of (dec_t c69) (by kernel_rfl)) ?_
                            refine st_val (.bool true) (by kernel_rfl) (by kernel_rfl) ?_
                            refine st_val (.bool true) (by kernel_rfl) (by kernel_rfl) ?_
                            refine st_skip (by kernel_rfl) ?_
                            refine st_skip (by kernel_rfl) ?_
                            refine st_skip (by kernel_rfl) ?_
                            refine st_val (.bool true) (by kernel_rfl) (by kernel_rfl) ?_
                            refine st_val (.bool true) (by kernel_rfl) (by kernel_rfl) ?_
                            refine st_skip (by kernel_rfl) ?_
                            refine st_skip (by kernel_rfl) ?_
                            refine st_skip (by kernel_rfl) ?_
                            refine st_val (.bool true) (by kernel_rfl) (by kernel_rfl) ?_
                            refine st_val (.bool true) (by kernel_rfl) (by kernel_rfl) ?_
                            refine wl_nil ?_
                            refine hK52 _ _ ?_
                            try clear hK52 K52
                            refine wp_frame (a' := ⟨#[.agg (sqv s), .pointer (some ⟨g2, 0, none⟩), .bool false, .int .i64 16, undef, .pointer (some ⟨g2, 4, none⟩), .bool false, .bool false, .pointer (some ⟨g2, 0, none⟩), .int .i64 s.W, .bool false, .bool false, .pointer (some ⟨g2, 0, none⟩), .int .i64 s.W, .bool false, .bool false, .bool false, .pointer (some ⟨g2, 0, none⟩), .int .i64 s.W, .int .i64 (s.W % 16), .bool false, .bool false, .bool false, .pointer (some ⟨g2, 1, none⟩), .int .i64 s.H, .bool false, .bool false, .bool false, .pointer (some ⟨g2, 1, none⟩), .int .i64 s.H, .bool false, .bool false, .bool false, .pointer (some ⟨g2, 1, none⟩), .int .i64 s.H, .int .i64 16, .int .i64 (s.H % 16), .bool false, .bool false, .bool false, .pointer (some ⟨g2, 2, none⟩), .agg #[.int .i64 s.num, .int .i64 s.den], .bool true, .bool false, .bool false, .pointer (some ⟨g2, 2, none⟩), .pointer (some ⟨g2, 2, none⟩), .int .i64 s.num, .bool false, .bool false, .bool false, .pointer (some ⟨g2, 2, none⟩), .pointer (some ⟨g2, 2, none⟩), .int .i64 s.num, .bool false, .bool false, .bool false, .pointer (some ⟨g2, 2, none⟩), .pointer (some ⟨g2, 3, none⟩), .int .i64 s.den, .bool false, .bool false, .bool true, .pointer (some ⟨g2, 5, none⟩), .int .i64 s.br, .bool false, .bool false, .pointer (some ⟨g2, 5, none⟩), .int .i64 s.br, .bool true, .bool true, .bool true, undef, undef, undef, .bool true, .bool true, undef, undef, undef, .bool true, undef, undef, undef, undef, undef, undef, undef, undef, undef, undef, undef, undef, undef, undef, undef, undef, undef, undef, undef, undef, undef, undef, undef, undef, undef, undef, undef, undef, undef, undef, undef], []⟩) (by kernel_rfl) ?_
                            refine wp_cond_true (by kernel_rfl) ?_
                            refine wp_seq_k (fun K54 hK54 => ?_)
                            refine wl_region ?_
                            refine st_val (.bool false) (by kernel_rfl) (by kernel_rfl) ?_
                            refine wl_nil ?_
                            refine hK54 _ _ ?_
                            try clear hK54 K54
                            refine wp_ret ?_
                            refine blk_ret ?_
                            refine th_ret ?_
                            exact done1 2 (.bool false) (by kernel_rfl) (by kernel_rfl) (by kernel_rfl) ⟨by rw [sB_f (fun h => by obtain ⟨h1, h2, h3, h4, h5, h6, h7, h8, h9, h10, h11, h12, h13, h14, h15, h16, h17, h18⟩ := h; first | omega | (have := h7 hil; omega) | (rw [hR] at h8; exact Bool.noConfusion h8) | (rw [hA] at h17; exact Bool.noConfusion h17) | (rw [hB] at h18; exact Bool.noConfusion h18))], M48.toBelow⟩
                          ·
                            refine st_val (.bool false) (by kernel_rfl) (bool_of (dec_f c69) (by kernel_rfl)) ?_
                            refine st_val (.bool false) (by kernel_rfl) (by kernel_rfl) ?_
                            refine st_val (.bool false) (by kernel_rfl) (by kernel_rfl) ?_
                            refine st_val (.pointer (some ⟨g2, 6, none⟩)) (by kernel_rfl) (by kernel_rfl) ?_
                            refine st_val (.int .i64 s.bu) (by kernel_rfl) (run_load_cell 3 (.tmp 72) rfl ⟨g2, 6, none⟩ (by kernel_rfl) _ (M48.cell 0 rfl 6 _ (sqv_bu _)) (by kernel_rfl)) ?_
                            rcases Decidable.em ((s.bu : Int) < 1) with c74 | c74
                            ·
                              refine st_val (.bool true) (by kernel_rfl) (bool_of (dec_t c74) (by kernel_rfl)) ?_
                              refine st_val (.bool true) (by kernel_rfl) (by kernel_rfl) ?_
                              refine st_val (.bool true) (by kernel_rfl) (by kernel_rfl) ?_
                              refine st_skip (by kernel_rfl) ?_
                              refine st_skip (by kernel_rfl) ?_
                              refine st_skip (by kernel_rfl) ?_
                              refine st_val (.bool true) (by kernel_rfl) (by kernel_rfl) ?_
                              refine st_val (.bool true) (by kernel_rfl) (by kernel_rfl) ?_
                              refine wl_nil ?_
                              refine hK52 _ _ ?_
                              try clear hK52 K52
                              refine wp_frame (a' := ⟨#[.agg (sqv s), .pointer (some ⟨g2, 0, none⟩), .bool false, .int .i64 16, undef, .pointer (some ⟨g2, 4, none⟩), .bool false, .bool false, .pointer (some ⟨g2, 0, none⟩), .int .i64 s.W, .bool false, .bool false, .pointer (some ⟨g2, 0, none⟩), .int .i64 s.W, .bool false, .bool false, .bool false, .pointer (some ⟨g2, 0, none⟩), .int .i64 s.W, .int .i64 (s.W % 16), .bool false, .bool false, .bool false, .pointer (some ⟨g2, 1, none⟩), .int .i64 s.H, .bool false, .bool false, .bool false, .pointer (some ⟨g2, 1, none⟩), .int .i64 s.H, .bool false, .bool false, .bool false, .pointer (some ⟨g2, 1, none⟩), .int .i64 s.H, .int .i64 16, .int .i64 (s.H % 16), .bool false, .bool false, .bool false, .pointer (some ⟨g2, 2, none⟩), .agg #[.int .i64 s.num, .int .i64 s.den], .bool true, .bool false, .bool false, .pointer (some ⟨g2, 2, none⟩), .pointer (some ⟨g2, 2, none⟩), .int .i64 s.num, .bool false, .bool false, .bool false, .pointer (some ⟨g2, 2, none⟩), .pointer (some ⟨g2, 2, none⟩), .int .i64 s.num, .bool false, .bool false, .bool false, .pointer (some ⟨g2, 2, none⟩), .pointer (some ⟨g2, 3, none⟩), .int .i64 s.den, .bool false, .bool false, .bool true, .pointer (some ⟨g2, 5, none⟩), .int .i64 s.br, .bool false, .bool false, .pointer (some ⟨g2, 5, none⟩), .int .i64 s.br, .bool false, .bool false, .bool false, .pointer (some ⟨g2, 6, none⟩), .int .i64 s.bu, .bool true, .bool true, .bool true, undef, undef, undef, .bool true, undef, undef, undef, undef, undef, undef, undef, undef, undef, undef, undef, undef, undef, undef, undef, undef, undef, undef, undef, undef, undef, undef, undef, undef, undef, undef, undef, undef, undef, undef, undef], []⟩) (by kernel_rfl) ?_
                              refine wp_cond_true (by kernel_rfl) ?_
                              refine wp_seq_k (fun K55 hK55 => ?_)
                              refine wl_region ?_
                              refine st_val (.bool false) (by kernel_rfl) (by kernel_rfl) ?_
                              refine wl_nil ?_
                              refine hK55 _ _ ?_
                              try clear hK55 K55
                              refine wp_ret ?_
                              refine blk_ret ?_
                              refine th_ret ?_
                              exact done1 2 (.bool false) (by kernel_rfl) (by kernel_rfl) (by kernel_rfl) ⟨by rw [sB_f (fun h => by obtain ⟨h1, h2, h3, h4, h5, h6, h7, h8, h9, h10, h11, h12, h13, h14, h15, h16, h17, h18⟩ := h; first | omega | (have := h7 hil; omega) | (rw [hR] at h8; exact Bool.noConfusion h8) | (rw [hA] at h17; exact Bool.noConfusion h17) | (rw [hB] at h18; exact Bool.noConfusion h18))], M48.toBelow⟩
                            ·
                              refine st_val (.bool false) (by kernel_rfl) (bool_of (dec_f c74) (by kernel_rfl)) ?_
                              refine st_val (.bool false) (by kernel_rfl) (by kernel_rfl) ?_
                              refine st_val (.bool false) (by kernel_rfl) (by kernel_rfl) ?_
                              refine st_val (.pointer (some ⟨g2, 6, none⟩)) (by kernel_rfl) (by kernel_rfl) ?_
                              refine st_val (.int .i64 s.bu) (by kernel_rfl) (run_load_cell 3 (.tmp 77) rfl ⟨g2, 6, none⟩ (by kernel_rfl) _ (M48.cell 0 rfl 6 _ (sqv_bu _)) (by kernel_rfl)) ?_
                              rcases Decidable.em ((s.bu : Int) > 8388608) with c79 | c79
                              ·
                                refine st_val (.bool true) (by kernel_rfl) (bool_of (dec_t c79) (by kernel_rfl)) ?_
                                refine st_val (.bool true) (by kernel_rfl) (by kernel_rfl) ?_
                                refine st_val (.bool true) (by kernel_rfl) (by kernel_rfl) ?_
                                refine wl_nil ?_
                                refine hK52 _ _ ?_
                                try clear hK52 K52
                                refine wp_frame (a' := ⟨#[.agg (sqv s), .pointer (some ⟨g2, 0, none⟩), .bool false, .int .i64 16, undef, .pointer (some ⟨g2, 4, none⟩), .bool false, .bool false, .pointer (some ⟨g2, 0, none⟩), .int .i64 s.W, .bool false, .bool false, .pointer (some ⟨g2, 0, none⟩), .int .i64 s.W, .bool false, .bool false, .bool false, .pointer (some ⟨g2, 0, none⟩), .int .i64 s.W, .int .i64 (s.W % 16), .bool false, .bool false, .bool false, .pointer (some ⟨g2, 1, none⟩), .int .i64 s.H, .bool false, .bool false, .bool false, .pointer (some ⟨g2, 1, none⟩), .int .i64 s.H, .bool false, .bool false, .bool false, .pointer (some ⟨g2, 1, none⟩), .int .i64 s.H, .int .i64 16, .int .i64 (s.H % 16), .bool false, .bool false, .bool false, .pointer (some ⟨g2, 2, none⟩), .agg #[.int .i64 s.num, .int .i64 s.den], .bool true, .bool false, .bool false, .pointer (some ⟨g2, 2, none⟩), .pointer (some ⟨g2, 2, none⟩), .int .i64 s.num, .bool false, .bool false, .bool false, .pointer (some ⟨g2, 2, none⟩), .pointer (some ⟨g2, 2, none⟩), .int .i64 s.num, .bool false, .bool false, .bool false, .pointer (some ⟨g2, 2, none⟩), .pointer (some ⟨g2, 3, none⟩), .int .i64 s.den, .bool false, .bool false, .bool true, .pointer (some ⟨g2, 5, none⟩), .int .i64 s.br, .bool false, .bool false, .pointer (some ⟨g2, 5, none⟩), .int .i64 s.br, .bool false, .bool false, .bool false, .pointer (some ⟨g2, 6, none⟩), .int .i64 s.bu, .bool false, .bool false, .bool false, .pointer (some ⟨g2, 6, none⟩), .int .i64 s.bu, .bool true, .bool true, undef, undef, undef, undef, undef, undef, undef, undef, undef, undef, undef, undef, undef, undef, undef, undef, undef, undef, undef, undef, undef, undef, undef, undef, undef, undef, undef, undef, undef, undef, undef], []⟩) (by kernel_rfl) ?_
                                refine wp_cond_true (by kernel_rfl) ?_
                                refine wp_seq_k (fun K56 hK56 => ?_)
                                refine wl_region ?_
                                refine st_val (.bool false) (by kernel_rfl) (by kernel_rfl) ?_
                                refine wl_nil ?_
                                refine hK56 _ _ ?_
                                try clear hK56 K56
                                refine wp_ret ?_
                                refine blk_ret ?_
                                refine th_ret ?_
                                exact done1 2 (.bool false) (by kernel_rfl) (by kernel_rfl) (by kernel_rfl) ⟨by rw [sB_f (fun h => by obtain ⟨h1, h2, h3, h4, h5, h6, h7, h8, h9, h10, h11, h12, h13, h14, h15, h16, h17, h18⟩ := h; first | omega | (have := h7 hil; omega) | (rw [hR] at h8; exact Bool.noConfusion h8) | (rw [hA] at h17; exact Bool.noConfusion h17) | (rw [hB] at h18; exact Bool.noConfusion h18))], M48.toBelow⟩
                              ·
                                refine st_val (.bool false) (by kernel_rfl) (bool_of (dec_f c79) (by kernel_rfl)) ?_
                                refine st_val (.bool false) (by kernel_rfl) (by kernel_rfl) ?_
                                refine st_val (.bool false) (by kernel_rfl) (by kernel_rfl) ?_
                                refine wl_nil ?_
                                refine hK52 _ _ ?_
                                try clear hK52 K52
                                refine wp_frame (a' := ⟨#[.agg (sqv s), .pointer (some ⟨g2, 0, none⟩), .bool false, .int .i64 16, undef, .pointer (some ⟨g2, 4, none⟩), .bool false, .bool false, .pointer (some ⟨g2, 0, none⟩), .int .i64 s.W, .bool false, .bool false, .pointer (some ⟨g2, 0, none⟩), .int .i64 s.W, .bool false, .bool false, .bool false, .pointer (some ⟨g2, 0, none⟩), .int .i64 s.W, .int .i64 (s.W % 16), .bool false, .bool false, .bool false, .pointer (some ⟨g2, 1, none⟩), .int .i64 s.H, .bool false, .bool false, .bool false, .pointer (some ⟨g2, 1, none⟩), .int .i64 s.H, .bool false, .bool false, .bool false, .pointer (some ⟨g2, 1, none⟩), .int .i64 s.H, .int .i64 16, .int .i64 (s.H % 16), .bool false, .bool false, .bool false, .pointer (some ⟨g2, 2, none⟩), .agg #[.int .i64 s.num, .int .i64 s.den], .bool true, .bool false, .bool false, .pointer (some ⟨g2, 2, none⟩), .pointer (some ⟨g2, 2, none⟩), .int .i64 s.num, .bool false, .bool false, .bool false, .pointer (some ⟨g2, 2, none⟩), .pointer (some ⟨g2, 2, none⟩), .int .i64 s.num, .bool false, .bool false, .bool false, .pointer (some ⟨g2, 2, none⟩), .pointer (some ⟨g2, 3, none⟩), .int .i64 s.den, .bool false, .bool false, .bool false, .pointer (some ⟨g2, 5, none⟩), .int .i64 s.br, .bool false, .bool false, .pointer (some ⟨g2, 5, none⟩), .int .i64 s.br, .bool false, .bool false, .bool false, .pointer (some ⟨g2, 6, none⟩), .int .i64 s.bu, .bool false, .bool false, .bool false, .pointer (some ⟨g2, 6, none⟩), .int .i64 s.bu, .bool false, .bool false, undef, undef, undef, undef, undef, undef, undef, undef, undef, undef, undef, undef, undef, undef, undef, undef, undef, undef, undef, undef, undef, undef, undef, undef, undef, undef, undef, undef, undef, undef, undef], []⟩) (by kernel_rfl) ?_
                                refine wp_cond_false (by kernel_rfl) ?_
                                refine wp_skip ?_
                                refine blk_normal ?_
                                refine hK40 _ _ ?_
                                try clear hK40 K40
                                refine wp_seq_k (fun K57 hK57 => ?_)
                                have hP := sv_prods (num := s.num) (den := s.den) (br := s.br) (bu := s.bu) (by omega) (by omega) (by omega) (by omega) (by omega) (by omega) (by omega) (by omega)
                                refine wl_region ?_
                                refine st_val (.pointer (some ⟨g2, 2, none⟩)) (by kernel_rfl) (by kernel_rfl) ?_
                                refine st_val (.pointer (some ⟨g2, 2, none⟩)) (by kernel_rfl) (by kernel_rfl) ?_
                                refine st_val (.int .i64 s.num) (by kernel_rfl) (run_load_cell 2 (.tmp 82) rfl ⟨g2, 2, none⟩ (by kernel_rfl) _ (M48.cell 0 rfl 2 _ (sqv_num _)) (by kernel_rfl)) ?_
                                refine st_val (.int .i64 (2 * s.num)) (by kernel_rfl) (i64_of (by omega) (by kernel_rfl)) ?_
                                refine st_val (.pointer (some ⟨g2, 6, none⟩)) (by kernel_rfl) (by kernel_rfl) ?_
                                refine st_val (.int .i64 s.bu) (by kernel_rfl) (run_load_cell 3 (.tmp 85) rfl ⟨g2, 6, none⟩ (by kernel_rfl) _ (M48.cell 0 rfl 6 _ (sqv_bu _)) (by kernel_rfl)) ?_
                                refine st_val (.int .i64 ((2 * s.num) * s.bu)) (by kernel_rfl) (i64_of (by omega) (by kernel_rfl)) ?_
                                refine st_val (.int .i64 ((2 * s.num) * s.bu)) (by kernel_rfl) (by kernel_rfl) ?_
                                refine wl_nil ?_
                                refine hK57 _ _ ?_
                                try clear hK57 K57
                                refine wp_seq_k (fun K58 hK58 => ?_)
                                refine wl_region ?_
                                refine st_val (.int .i64 ((2 * s.num) * s.bu)) (by kernel_rfl) (by kernel_rfl) ?_
                                refine st_val (.pointer (some ⟨g2, 2, none⟩)) (by kernel_rfl) (by kernel_rfl) ?_
                                refine st_val (.pointer (some ⟨g2, 3, none⟩)) (by kernel_rfl) (by kernel_rfl) ?_
                                refine st_val (.int .i64 s.den) (by kernel_rfl) (run_load_cell 2 (.tmp 90) rfl ⟨g2, 3, none⟩ (by kernel_rfl) _ (M48.cell 0 rfl 3 _ (sqv_den _)) (by kernel_rfl)) ?_
                                refine st_val (.int .i64 (3 * s.den)) (by kernel_rfl) (i64_of (by omega) (by kernel_rfl)) ?_
                                refine st_val (.pointer (some ⟨g2, 5, none⟩)) (by kernel_rfl) (by kernel_rfl) ?_
                                refine st_val (.int .i64 s.br) (by kernel_rfl) (run_load_cell 3 (.tmp 93) rfl ⟨g2, 5, none⟩ (by kernel_rfl) _ (M48.cell 0 rfl 5 _ (sqv_br _)) (by kernel_rfl)) ?_
                                refine st_val (.int .i64 ((3 * s.den) * s.br)) (by kernel_rfl) (i64_of (by omega) (by kernel_rfl)) ?_
                                refine st_val (.pointer (some ⟨g2, 2, none⟩)) (by kernel_rfl) (by kernel_rfl) ?_
                                refine st_val (.pointer (some ⟨g2, 2, none⟩)) (by kernel_rfl) (by kernel_rfl) ?_
                                refine st_val (.int .i64 s.num) (by kernel_rfl) (run_load_cell 2 (.tmp 97) rfl ⟨g2, 2, none⟩ (by kernel_rfl) _ (M48.cell 0 rfl 2 _ (sqv_num _)) (by kernel_rfl)) ?_
                                refine st_val (.int .i64 (32 * s.num)) (by kernel_rfl) (i64_of (by omega) (by kernel_rfl)) ?_
                                refine st_val (.int .i64 (((3 * s.den) * s.br) + (32 * s.num))) (by kernel_rfl) (i64_of (by omega) (by kernel_rfl)) ?_
                                rcases Decidable.em (((2 * s.num) * s.bu : Int) ≥ ((3 * s.den) * s.br) + (32 * s.num)) with c101 | c101
                                ·
                                  refine st_val (.bool true) (by kernel_rfl) (bool_of (dec_t c101) (by kernel_rfl)) ?_
                                  refine st_val (.bool true) (by kernel_rfl) (by kernel_rfl) ?_
                                  refine st_val (.pointer (some ⟨g2, 7, none⟩)) (by kernel_rfl) (by kernel_rfl) ?_
                                  refine st_val (.agg (bv s.a)) (by kernel_rfl) (run_load_mid 24 (.tmp 103) rfl g2 7 (by kernel_rfl) (s.a.map (Value.int .u8)) _ (M48.range 0 rfl 7 _ (sqv_a _)) Try.underlying24 rfl (infoB hs.la)) ?_
                                  rcases Bool.eq_false_or_eq_true (vB s.a) with hA | hA
                                  ·
                                    refine st_callB M48 (.bool true) (by kernel_rfl) (args := #[.agg (bv s.a)]) (run_value_call 42 #[(Operand.tmp 104)] _ rfl Try.func42 (by kernel_rfl) (by kernel_rfl) _ (by kernel_rfl)) ((by have := valid_walk W47 s.a hs.la hs.ba; rw [hA] at this; exact this)) ?_
                                    intro W59 M60
                                    refine st_val (.bool true) (by kernel_rfl) (by kernel_rfl) ?_
                                    refine st_val (.bool true) (by kernel_rfl) (by kernel_rfl) ?_
                                    refine st_val (.pointer (some ⟨g2, 71, none⟩)) (by kernel_rfl) (by kernel_rfl) ?_
                                    refine st_val (.agg (bv s.b)) (by kernel_rfl) (run_load_mid 24 (.tmp 108) rfl g2 71 (by kernel_rfl) (s.b.map (Value.int .u8)) _ (M60.range 0 rfl 71 _ (sqv_b hs.la)) Try.underlying24 rfl (infoB hs.lb)) ?_
                                    rcases Bool.eq_false_or_eq_true (vB s.b) with hB | hB
                                    ·
                                      refine st_callB M60 (.bool true) (by kernel_rfl) (args := #[.agg (bv s.b)]) (run_value_call 42 #[(Operand.tmp 109)] _ rfl Try.func42 (by kernel_rfl) (by kernel_rfl) _ (by kernel_rfl)) ((by have := valid_walk W59 s.b hs.lb hs.bb; rw [hB] at this; exact this)) ?_
                                      intro W61 M62
                                      refine st_val (.bool true) (by kernel_rfl) (by kernel_rfl) ?_
                                      refine st_val (.bool true) (by kernel_rfl) (by kernel_rfl) ?_
                                      refine wl_nil ?_
                                      refine hK58 _ _ ?_
                                      try clear hK58 K58
                                      refine wp_frame (a' := ⟨#[.agg (sqv s), .pointer (some ⟨g2, 0, none⟩), .bool true, .int .i64 16, .int .i64 ((2 * s.num) * s.bu), .pointer (some ⟨g2, 4, none⟩), .bool false, .bool false, .pointer (some ⟨g2, 0, none⟩), .int .i64 s.W, .bool false, .bool false, .pointer (some ⟨g2, 0, none⟩), .int .i64 s.W, .bool false, .bool false, .bool false, .pointer (some ⟨g2, 0, none⟩), .int .i64 s.W, .int .i64 (s.W % 16), .bool false, .bool false, .bool false, .pointer (some ⟨g2, 1, none⟩), .int .i64 s.H, .bool false, .bool false, .bool false, .pointer (some ⟨g2, 1, none⟩), .int .i64 s.H, .bool false, .bool false, .bool false, .pointer (some ⟨g2, 1, none⟩), .int .i64 s.H, .int .i64 16, .int .i64 (s.H % 16), .bool false, .bool false, .bool false, .pointer (some ⟨g2, 2, none⟩), .agg #[.int .i64 s.num, .int .i64 s.den], .bool true, .bool false, .bool false, .pointer (some ⟨g2, 2, none⟩), .pointer (some ⟨g2, 2, none⟩), .int .i64 s.num, .bool false, .bool false, .bool false, .pointer (some ⟨g2, 2, none⟩), .pointer (some ⟨g2, 2, none⟩), .int .i64 s.num, .bool false, .bool false, .bool false, .pointer (some ⟨g2, 2, none⟩), .pointer (some ⟨g2, 3, none⟩), .int .i64 s.den, .bool false, .bool false, .bool false, .pointer (some ⟨g2, 5, none⟩), .int .i64 s.br, .bool false, .bool false, .pointer (some ⟨g2, 5, none⟩), .int .i64 s.br, .bool false, .bool false, .bool false, .pointer (some ⟨g2, 6, none⟩), .int .i64 s.bu, .bool false, .bool false, .bool false, .pointer (some ⟨g2, 6, none⟩), .int .i64 s.bu, .bool false, .bool false, .pointer (some ⟨g2, 2, none⟩), .pointer (some ⟨g2, 2, none⟩), .int .i64 s.num, .int .i64 (2 * s.num), .pointer (some ⟨g2, 6, none⟩), .int .i64 s.bu, .int .i64 ((2 * s.num) * s.bu), .int .i64 ((2 * s.num) * s.bu), .pointer (some ⟨g2, 2, none⟩), .pointer (some ⟨g2, 3, none⟩), .int .i64 s.den, .int .i64 (3 * s.den), .pointer (some ⟨g2, 5, none⟩), .int .i64 s.br, .int .i64 ((3 * s.den) * s.br), .pointer (some ⟨g2, 2, none⟩), .pointer (some ⟨g2, 2, none⟩), .int .i64 s.num, .int .i64 (32 * s.num), .int .i64 (((3 * s.den) * s.br) + (32 * s.num)), .bool true, .bool true, .pointer (some ⟨g2, 7, none⟩), .agg (bv s.a), .bool true, .bool true, .bool true, .pointer (some ⟨g2, 71, none⟩), .agg (bv s.b), .bool true, .bool true], []⟩) (by kernel_rfl) ?_
                                      refine wp_ret ?_
                                      exact done1 2 (.bool true) (by kernel_rfl) (by kernel_rfl) (by kernel_rfl) ⟨by rw [sB_t ⟨by omega, by omega, by omega, by omega, by omega, by omega, (fun h => by first | omega | (rw [hil] at h; cases h)), hR, by omega, by omega, by omega, by omega, by omega, by omega, by omega, by omega, hA, hB⟩], M62.toBelow⟩
                                    ·
                                      refine st_callB M60 (.bool false) (by kernel_rfl) (args := #[.agg (bv s.b)]) (run_value_call 42 #[(Operand.tmp 109)] _ rfl Try.func42 (by kernel_rfl) (by kernel_rfl) _ (by kernel_rfl)) ((by have := valid_walk W59 s.b hs.lb hs.bb; rw [hB] at this; exact this)) ?_
                                      intro W63 M64
                                      refine st_val (.bool false) (by kernel_rfl) (by kernel_rfl) ?_
                                      refine st_val (.bool false) (by kernel_rfl) (by kernel_rfl) ?_
                                      refine wl_nil ?_
                                      refine hK58 _ _ ?_
                                      try clear hK58 K58
                                      refine wp_frame (a' := ⟨#[.agg (sqv s), .pointer (some ⟨g2, 0, none⟩), .bool false, .int .i64 16, .int .i64 ((2 * s.num) * s.bu), .pointer (some ⟨g2, 4, none⟩), .bool false, .bool false, .pointer (some ⟨g2, 0, none⟩), .int .i64 s.W, .bool false, .bool false, .pointer (some ⟨g2, 0, none⟩), .int .i64 s.W, .bool false, .bool false, .bool false, .pointer (some ⟨g2, 0, none⟩), .int .i64 s.W, .int .i64 (s.W % 16), .bool false, .bool false, .bool false, .pointer (some ⟨g2, 1, none⟩), .int .i64 s.H, .bool false, .bool false, .bool false, .pointer (some ⟨g2, 1, none⟩), .int .i64 s.H, .bool false, .bool false, .bool false, .pointer (some ⟨g2, 1, none⟩), .int .i64 s.H, .int .i64 16, .int .i64 (s.H % 16), .bool false, .bool false, .bool false, .pointer (some ⟨g2, 2, none⟩), .agg #[.int .i64 s.num, .int .i64 s.den], .bool true, .bool false, .bool false, .pointer (some ⟨g2, 2, none⟩), .pointer (some ⟨g2, 2, none⟩), .int .i64 s.num, .bool false, .bool false, .bool false, .pointer (some ⟨g2, 2, none⟩), .pointer (some ⟨g2, 2, none⟩), .int .i64 s.num, .bool false, .bool false, .bool false, .pointer (some ⟨g2, 2, none⟩), .pointer (some ⟨g2, 3, none⟩), .int .i64 s.den, .bool false, .bool false, .bool false, .pointer (some ⟨g2, 5, none⟩), .int .i64 s.br, .bool false, .bool false, .pointer (some ⟨g2, 5, none⟩), .int .i64 s.br, .bool false, .bool false, .bool false, .pointer (some ⟨g2, 6, none⟩), .int .i64 s.bu, .bool false, .bool false, .bool false, .pointer (some ⟨g2, 6, none⟩), .int .i64 s.bu, .bool false, .bool false, .pointer (some ⟨g2, 2, none⟩), .pointer (some ⟨g2, 2, none⟩), .int .i64 s.num, .int .i64 (2 * s.num), .pointer (some ⟨g2, 6, none⟩), .int .i64 s.bu, .int .i64 ((2 * s.num) * s.bu), .int .i64 ((2 * s.num) * s.bu), .pointer (some ⟨g2, 2, none⟩), .pointer (some ⟨g2, 3, none⟩), .int .i64 s.den, .int .i64 (3 * s.den), .pointer (some ⟨g2, 5, none⟩), .int .i64 s.br, .int .i64 ((3 * s.den) * s.br), .pointer (some ⟨g2, 2, none⟩), .pointer (some ⟨g2, 2, none⟩), .int .i64 s.num, .int .i64 (32 * s.num), .int .i64 (((3 * s.den) * s.br) + (32 * s.num)), .bool true, .bool true, .pointer (some ⟨g2, 7, none⟩), .agg (bv s.a), .bool true, .bool true, .bool true, .pointer (some ⟨g2, 71, none⟩), .agg (bv s.b), .bool false, .bool false], []⟩) (by kernel_rfl) ?_
                                      refine wp_ret ?_
                                      exact done1 2 (.bool false) (by kernel_rfl) (by kernel_rfl) (by kernel_rfl) ⟨by rw [sB_f (fun h => by obtain ⟨h1, h2, h3, h4, h5, h6, h7, h8, h9, h10, h11, h12, h13, h14, h15, h16, h17, h18⟩ := h; first | omega | (have := h7 hil; omega) | (rw [hR] at h8; exact Bool.noConfusion h8) | (rw [hA] at h17; exact Bool.noConfusion h17) | (rw [hB] at h18; exact Bool.noConfusion h18))], M64.toBelow⟩
                                  ·
                                    refine st_callB M48 (.bool false) (by kernel_rfl) (args := #[.agg (bv s.a)]) (run_value_call 42 #[(Operand.tmp 104)] _ rfl Try.func42 (by kernel_rfl) (by kernel_rfl) _ (by kernel_rfl)) ((by have := valid_walk W47 s.a hs.la hs.ba; rw [hA] at this; exact this)) ?_
                                    intro W65 M66
                                    refine st_val (.bool false) (by kernel_rfl) (by kernel_rfl) ?_
                                    refine st_val (.bool false) (by kernel_rfl) (by kernel_rfl) ?_
                                    refine st_skip (by kernel_rfl) ?_
                                    refine st_skip (by kernel_rfl) ?_
                                    refine st_skip (by kernel_rfl) ?_
                                    refine st_val (.bool false) (by kernel_rfl) (by kernel_rfl) ?_
                                    refine st_val (.bool false) (by kernel_rfl) (by kernel_rfl) ?_
                                    refine wl_nil ?_
                                    refine hK58 _ _ ?_
                                    try clear hK58 K58
                                    refine wp_frame (a' := ⟨#[.agg (sqv s), .pointer (some ⟨g2, 0, none⟩), .bool false, .int .i64 16, .int .i64 ((2 * s.num) * s.bu), .pointer (some ⟨g2, 4, none⟩), .bool false, .bool false, .pointer (some ⟨g2, 0, none⟩), .int .i64 s.W, .bool false, .bool false, .pointer (some ⟨g2, 0, none⟩), .int .i64 s.W, .bool false, .bool false, .bool false, .pointer (some ⟨g2, 0, none⟩), .int .i64 s.W, .int .i64 (s.W % 16), .bool false, .bool false, .bool false, .pointer (some ⟨g2, 1, none⟩), .int .i64 s.H, .bool false, .bool false, .bool false, .pointer (some ⟨g2, 1, none⟩), .int .i64 s.H, .bool false, .bool false, .bool false, .pointer (some ⟨g2, 1, none⟩), .int .i64 s.H, .int .i64 16, .int .i64 (s.H % 16), .bool false, .bool false, .bool false, .pointer (some ⟨g2, 2, none⟩), .agg #[.int .i64 s.num, .int .i64 s.den], .bool true, .bool false, .bool false, .pointer (some ⟨g2, 2, none⟩), .pointer (some ⟨g2, 2, none⟩), .int .i64 s.num, .bool false, .bool false, .bool false, .pointer (some ⟨g2, 2, none⟩), .pointer (some ⟨g2, 2, none⟩), .int .i64 s.num, .bool false, .bool false, .bool false, .pointer (some ⟨g2, 2, none⟩), .pointer (some ⟨g2, 3, none⟩), .int .i64 s.den, .bool false, .bool false, .bool false, .pointer (some ⟨g2, 5, none⟩), .int .i64 s.br, .bool false, .bool false, .pointer (some ⟨g2, 5, none⟩), .int .i64 s.br, .bool false, .bool false, .bool false, .pointer (some ⟨g2, 6, none⟩), .int .i64 s.bu, .bool false, .bool false, .bool false, .pointer (some ⟨g2, 6, none⟩), .int .i64 s.bu, .bool false, .bool false, .pointer (some ⟨g2, 2, none⟩), .pointer (some ⟨g2, 2, none⟩), .int .i64 s.num, .int .i64 (2 * s.num), .pointer (some ⟨g2, 6, none⟩), .int .i64 s.bu, .int .i64 ((2 * s.num) * s.bu), .int .i64 ((2 * s.num) * s.bu), .pointer (some ⟨g2, 2, none⟩), .pointer (some ⟨g2, 3, none⟩), .int .i64 s.den, .int .i64 (3 * s.den), .pointer (some ⟨g2, 5, none⟩), .int .i64 s.br, .int .i64 ((3 * s.den) * s.br), .pointer (some ⟨g2, 2, none⟩), .pointer (some ⟨g2, 2, none⟩), .int .i64 s.num, .int .i64 (32 * s.num), .int .i64 (((3 * s.den) * s.br) + (32 * s.num)), .bool true, .bool true, .pointer (some ⟨g2, 7, none⟩), .agg (bv s.a), .bool false, .bool false, .bool false, undef, undef, undef, .bool false], []⟩) (by kernel_rfl) ?_
                                    refine wp_ret ?_
                                    exact done1 2 (.bool false) (by kernel_rfl) (by kernel_rfl) (by kernel_rfl) ⟨by rw [sB_f (fun h => by obtain ⟨h1, h2, h3, h4, h5, h6, h7, h8, h9, h10, h11, h12, h13, h14, h15, h16, h17, h18⟩ := h; first | omega | (have := h7 hil; omega) | (rw [hR] at h8; exact Bool.noConfusion h8) | (rw [hA] at h17; exact Bool.noConfusion h17) | (rw [hB] at h18; exact Bool.noConfusion h18))], M66.toBelow⟩
                                ·
                                  refine st_val (.bool false) (by kernel_rfl) (bool_of (dec_f c101) (by kernel_rfl)) ?_
                                  refine st_val (.bool false) (by kernel_rfl) (by kernel_rfl) ?_
                                  refine st_skip (by kernel_rfl) ?_
                                  refine st_skip (by kernel_rfl) ?_
                                  refine st_skip (by kernel_rfl) ?_
                                  refine st_val (.bool false) (by kernel_rfl) (by kernel_rfl) ?_
                                  refine st_val (.bool false) (by kernel_rfl) (by kernel_rfl) ?_
                                  refine st_skip (by kernel_rfl) ?_
                                  refine st_skip (by kernel_rfl) ?_
                                  refine st_skip (by kernel_rfl) ?_
                                  refine st_val (.bool false) (by kernel_rfl) (by kernel_rfl) ?_
                                  refine st_val (.bool false) (by kernel_rfl) (by kernel_rfl) ?_
                                  refine wl_nil ?_
                                  refine hK58 _ _ ?_
                                  try clear hK58 K58
                                  refine wp_frame (a' := ⟨#[.agg (sqv s), .pointer (some ⟨g2, 0, none⟩), .bool false, .int .i64 16, .int .i64 ((2 * s.num) * s.bu), .pointer (some ⟨g2, 4, none⟩), .bool false, .bool false, .pointer (some ⟨g2, 0, none⟩), .int .i64 s.W, .bool false, .bool false, .pointer (some ⟨g2, 0, none⟩), .int .i64 s.W, .bool false, .bool false, .bool false, .pointer (some ⟨g2, 0, none⟩), .int .i64 s.W, .int .i64 (s.W % 16), .bool false, .bool false, .bool false, .pointer (some ⟨g2, 1, none⟩), .int .i64 s.H, .bool false, .bool false, .bool false, .pointer (some ⟨g2, 1, none⟩), .int .i64 s.H, .bool false, .bool false, .bool false, .pointer (some ⟨g2, 1, none⟩), .int .i64 s.H, .int .i64 16, .int .i64 (s.H % 16), .bool false, .bool false, .bool false, .pointer (some ⟨g2, 2, none⟩), .agg #[.int .i64 s.num, .int .i64 s.den], .bool true, .bool false, .bool false, .pointer (some ⟨g2, 2, none⟩), .pointer (some ⟨g2, 2, none⟩), .int .i64 s.num, .bool false, .bool false, .bool false, .pointer (some ⟨g2, 2, none⟩), .pointer (some ⟨g2, 2, none⟩), .int .i64 s.num, .bool false, .bool false, .bool false, .pointer (some ⟨g2, 2, none⟩), .pointer (some ⟨g2, 3, none⟩), .int .i64 s.den, .bool false, .bool false, .bool false, .pointer (some ⟨g2, 5, none⟩), .int .i64 s.br, .bool false, .bool false, .pointer (some ⟨g2, 5, none⟩), .int .i64 s.br, .bool false, .bool false, .bool false, .pointer (some ⟨g2, 6, none⟩), .int .i64 s.bu, .bool false, .bool false, .bool false, .pointer (some ⟨g2, 6, none⟩), .int .i64 s.bu, .bool false, .bool false, .pointer (some ⟨g2, 2, none⟩), .pointer (some ⟨g2, 2, none⟩), .int .i64 s.num, .int .i64 (2 * s.num), .pointer (some ⟨g2, 6, none⟩), .int .i64 s.bu, .int .i64 ((2 * s.num) * s.bu), .int .i64 ((2 * s.num) * s.bu), .pointer (some ⟨g2, 2, none⟩), .pointer (some ⟨g2, 3, none⟩), .int .i64 s.den, .int .i64 (3 * s.den), .pointer (some ⟨g2, 5, none⟩), .int .i64 s.br, .int .i64 ((3 * s.den) * s.br), .pointer (some ⟨g2, 2, none⟩), .pointer (some ⟨g2, 2, none⟩), .int .i64 s.num, .int .i64 (32 * s.num), .int .i64 (((3 * s.den) * s.br) + (32 * s.num)), .bool false, .bool false, undef, undef, undef, .bool false, .bool false, undef, undef, undef, .bool false], []⟩) (by kernel_rfl) ?_
                                  refine wp_ret ?_
                                  exact done1 2 (.bool false) (by kernel_rfl) (by kernel_rfl) (by kernel_rfl) ⟨by rw [sB_f (fun h => by obtain ⟨h1, h2, h3, h4, h5, h6, h7, h8, h9, h10, h11, h12, h13, h14, h15, h16, h17, h18⟩ := h; first | omega | (have := h7 hil; omega) | (rw [hR] at h8; exact Bool.noConfusion h8) | (rw [hA] at h17; exact Bool.noConfusion h17) | (rw [hB] at h18; exact Bool.noConfusion h18))], M48.toBelow⟩
                ·
                  refine st_callB M4 (.bool false) (by kernel_rfl) (args := #[.agg #[.int .i64 s.num, .int .i64 s.den]]) (run_value_call 41 #[(Operand.tmp 41)] _ rfl Try.func41 (by kernel_rfl) (by kernel_rfl) _ (by kernel_rfl)) ((by have := rval_walk W3 s.num s.den hs.num hs.den; rw [hR] at this; exact this)) ?_
                  intro W67 M68
                  refine st_val (.bool true) (by kernel_rfl) (by kernel_rfl) ?_
                  refine st_val (.bool true) (by kernel_rfl) (by kernel_rfl) ?_
                  refine st_skip (by kernel_rfl) ?_
                  refine st_skip (by kernel_rfl) ?_
                  refine st_skip (by kernel_rfl) ?_
                  refine st_skip (by kernel_rfl) ?_
                  refine st_val (.bool true) (by kernel_rfl) (by kernel_rfl) ?_
                  refine st_val (.bool true) (by kernel_rfl) (by kernel_rfl) ?_
                  refine st_skip (by kernel_rfl) ?_
                  refine st_skip (by kernel_rfl) ?_
                  refine st_skip (by kernel_rfl) ?_
                  refine st_skip (by kernel_rfl) ?_
                  refine st_val (.bool true) (by kernel_rfl) (by kernel_rfl) ?_
                  refine st_val (.bool true) (by kernel_rfl) (by kernel_rfl) ?_
                  refine st_skip (by kernel_rfl) ?_
                  refine st_skip (by kernel_rfl) ?_
                  refine st_skip (by kernel_rfl) ?_
                  refine st_skip (by kernel_rfl) ?_
                  refine st_val (.bool true) (by kernel_rfl) (by kernel_rfl) ?_
                  refine st_val (.bool true) (by kernel_rfl) (by kernel_rfl) ?_
                  refine wl_nil ?_
                  refine hK46 _ _ ?_
                  try clear hK46 K46
                  refine wp_frame (a' := ⟨#[.agg (sqv s), .pointer (some ⟨g2, 0, none⟩), .bool false, .int .i64 16, undef, .pointer (some ⟨g2, 4, none⟩), .bool false, .bool false, .pointer (some ⟨g2, 0, none⟩), .int .i64 s.W, .bool false, .bool false, .pointer (some ⟨g2, 0, none⟩), .int .i64 s.W, .bool false, .bool false, .bool false, .pointer (some ⟨g2, 0, none⟩), .int .i64 s.W, .int .i64 (s.W % 16), .bool false, .bool false, .bool false, .pointer (some ⟨g2, 1, none⟩), .int .i64 s.H, .bool false, .bool false, .bool false, .pointer (some ⟨g2, 1, none⟩), .int .i64 s.H, .bool false, .bool false, .bool false, .pointer (some ⟨g2, 1, none⟩), .int .i64 s.H, .int .i64 16, .int .i64 (s.H % 16), .bool false, .bool false, .bool true, .pointer (some ⟨g2, 2, none⟩), .agg #[.int .i64 s.num, .int .i64 s.den], .bool false, .bool true, .bool true, undef, undef, undef, undef, .bool true, .bool true, undef, undef, undef, undef, .bool true, .bool true, undef, undef, undef, undef, .bool true, undef, undef, undef, undef, undef, undef, undef, undef, undef, undef, undef, undef, undef, undef, undef, undef, undef, undef, undef, undef, undef, undef, undef, undef, undef, undef, undef, undef, undef, undef, undef, undef, undef, undef, undef, undef, undef, undef, undef, undef, undef, undef, undef, undef, undef, undef, undef, undef, undef, undef], []⟩) (by kernel_rfl) ?_
                  refine wp_cond_true (by kernel_rfl) ?_
                  refine wp_seq_k (fun K69 hK69 => ?_)
                  refine wl_region ?_
                  refine st_val (.bool false) (by kernel_rfl) (by kernel_rfl) ?_
                  refine wl_nil ?_
                  refine hK69 _ _ ?_
                  try clear hK69 K69
                  refine wp_ret ?_
                  refine blk_ret ?_
                  refine th_ret ?_
                  exact done1 2 (.bool false) (by kernel_rfl) (by kernel_rfl) (by kernel_rfl) ⟨by rw [sB_f (fun h => by obtain ⟨h1, h2, h3, h4, h5, h6, h7, h8, h9, h10, h11, h12, h13, h14, h15, h16, h17, h18⟩ := h; first | omega | (have := h7 hil; omega) | (rw [hR] at h8; exact Bool.noConfusion h8) | (rw [hA] at h17; exact Bool.noConfusion h17) | (rw [hB] at h18; exact Bool.noConfusion h18))], M68.toBelow⟩
              ·
                refine st_val (.bool true) (by kernel_rfl) (bool_of (neq_t c37) (by kernel_rfl)) ?_
                refine st_val (.bool true) (by kernel_rfl) (by kernel_rfl) ?_
                refine st_val (.bool true) (by kernel_rfl) (by kernel_rfl) ?_
                refine wl_nil ?_
                refine hK41 _ _ ?_
                try clear hK41 K41
                refine wp_frame (a' := ⟨#[.agg (sqv s), .pointer (some ⟨g2, 0, none⟩), .bool false, .int .i64 16, undef, .pointer (some ⟨g2, 4, none⟩), .bool false, .bool true, .pointer (some ⟨g2, 0, none⟩), .int .i64 s.W, .bool false, .bool false, .pointer (some ⟨g2, 0, none⟩), .int .i64 s.W, .bool false, .bool false, .bool false, .pointer (some ⟨g2, 0, none⟩), .int .i64 s.W, .int .i64 (s.W % 16), .bool false, .bool false, .bool false, .pointer (some ⟨g2, 1, none⟩), .int .i64 s.H, .bool false, .bool false, .bool false, .pointer (some ⟨g2, 1, none⟩), .int .i64 s.H, .bool false, .bool false, .bool false, .pointer (some ⟨g2, 1, none⟩), .int .i64 s.H, .int .i64 16, .int .i64 (s.H % 16), .bool true, .bool true, undef, undef, undef, undef, undef, undef, undef, undef, undef, undef, undef, undef, undef, undef, undef, undef, undef, undef, undef, undef, undef, undef, undef, undef, undef, undef, undef, undef, undef, undef, undef, undef, undef, undef, undef, undef, undef, undef, undef, undef, undef, undef, undef, undef, undef, undef, undef, undef, undef, undef, undef, undef, undef, undef, undef, undef, undef, undef, undef, undef, undef, undef, undef, undef, undef, undef, undef, undef, undef, undef, undef, undef, undef], []⟩) (by kernel_rfl) ?_
                refine wp_cond_true (by kernel_rfl) ?_
                refine wp_seq_k (fun K70 hK70 => ?_)
                refine wl_region ?_
                refine st_val (.bool false) (by kernel_rfl) (by kernel_rfl) ?_
                refine wl_nil ?_
                refine hK70 _ _ ?_
                try clear hK70 K70
                refine wp_ret ?_
                refine blk_ret ?_
                refine th_ret ?_
                exact done1 2 (.bool false) (by kernel_rfl) (by kernel_rfl) (by kernel_rfl) ⟨by rw [sB_f (fun h => by obtain ⟨h1, h2, h3, h4, h5, h6, h7, h8, h9, h10, h11, h12, h13, h14, h15, h16, h17, h18⟩ := h; first | omega | (have := h7 hil; omega) | (rw [hR] at h8; exact Bool.noConfusion h8) | (rw [hA] at h17; exact Bool.noConfusion h17) | (rw [hB] at h18; exact Bool.noConfusion h18))], M4.toBelow⟩
        ·
          refine st_val (.bool true) (by kernel_rfl) (bool_of (neq_t c20) (by kernel_rfl)) ?_
          refine st_val (.bool true) (by kernel_rfl) (by kernel_rfl) ?_
          refine st_val (.bool true) (by kernel_rfl) (by kernel_rfl) ?_
          refine st_skip (by kernel_rfl) ?_
          refine st_skip (by kernel_rfl) ?_
          refine st_skip (by kernel_rfl) ?_
          refine st_val (.bool true) (by kernel_rfl) (by kernel_rfl) ?_
          refine st_val (.bool true) (by kernel_rfl) (by kernel_rfl) ?_
          refine st_skip (by kernel_rfl) ?_
          refine st_skip (by kernel_rfl) ?_
          refine st_skip (by kernel_rfl) ?_
          refine st_val (.bool true) (by kernel_rfl) (by kernel_rfl) ?_
          refine st_val (.bool true) (by kernel_rfl) (by kernel_rfl) ?_
          refine st_skip (by kernel_rfl) ?_
          refine st_skip (by kernel_rfl) ?_
          refine st_skip (by kernel_rfl) ?_
          refine st_skip (by kernel_rfl) ?_
          refine st_skip (by kernel_rfl) ?_
          refine st_val (.bool true) (by kernel_rfl) (by kernel_rfl) ?_
          refine st_val (.bool true) (by kernel_rfl) (by kernel_rfl) ?_
          refine wl_nil ?_
          refine hK41 _ _ ?_
          try clear hK41 K41
          refine wp_frame (a' := ⟨#[.agg (sqv s), .pointer (some ⟨g2, 0, none⟩), .bool false, .int .i64 16, undef, .pointer (some ⟨g2, 4, none⟩), .bool false, .bool true, .pointer (some ⟨g2, 0, none⟩), .int .i64 s.W, .bool false, .bool false, .pointer (some ⟨g2, 0, none⟩), .int .i64 s.W, .bool false, .bool false, .bool false, .pointer (some ⟨g2, 0, none⟩), .int .i64 s.W, .int .i64 (s.W % 16), .bool true, .bool true, .bool true, undef, undef, undef, .bool true, .bool true, undef, undef, undef, .bool true, .bool true, undef, undef, undef, undef, undef, .bool true, undef, undef, undef, undef, undef, undef, undef, undef, undef, undef, undef, undef, undef, undef, undef, undef, undef, undef, undef, undef, undef, undef, undef, undef, undef, undef, undef, undef, undef, undef, undef, undef, undef, undef, undef, undef, undef, undef, undef, undef, undef, undef, undef, undef, undef, undef, undef, undef, undef, undef, undef, undef, undef, undef, undef, undef, undef, undef, undef, undef, undef, undef, undef, undef, undef, undef, undef, undef, undef, undef, undef, undef, undef], []⟩) (by kernel_rfl) ?_
          refine wp_cond_true (by kernel_rfl) ?_
          refine wp_seq_k (fun K71 hK71 => ?_)
          refine wl_region ?_
          refine st_val (.bool false) (by kernel_rfl) (by kernel_rfl) ?_
          refine wl_nil ?_
          refine hK71 _ _ ?_
          try clear hK71 K71
          refine wp_ret ?_
          refine blk_ret ?_
          refine th_ret ?_
          exact done1 2 (.bool false) (by kernel_rfl) (by kernel_rfl) (by kernel_rfl) ⟨by rw [sB_f (fun h => by obtain ⟨h1, h2, h3, h4, h5, h6, h7, h8, h9, h10, h11, h12, h13, h14, h15, h16, h17, h18⟩ := h; first | omega | (have := h7 hil; omega) | (rw [hR] at h8; exact Bool.noConfusion h8) | (rw [hA] at h17; exact Bool.noConfusion h17) | (rw [hB] at h18; exact Bool.noConfusion h18))], M4.toBelow⟩
end Go.Proofs.Ytolfkaljbgpkhaa
