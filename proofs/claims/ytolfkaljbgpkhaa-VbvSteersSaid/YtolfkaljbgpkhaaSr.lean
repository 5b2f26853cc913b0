/- Valid sequence headers, as the reference has them. -/
import Derived.Test.YtolfkaljbgpkhaaSv
namespace Go.Proofs.Ytolfkaljbgpkhaa
open Go.RowKit
set_option maxHeartbeats 4000000 in
set_option maxRecDepth 100000 in
theorem refVseq_walk (w : World) (s : SeqD) (hs : SOk s) : Calls Try.prog 28 #[.agg (sqv s)] w fun e w' => e = .returned (.bool (sB s)) ∧ Below w.heap.size w w' := by
  refine calls_of_wp Try.func28 rfl ?_
  refine wp_frame (a' := ⟨#[.agg (sqv s), undef, undef, undef, undef, undef, undef, undef, undef, undef, undef, undef, undef, undef, undef, undef, undef, undef, undef, undef, undef, undef, undef, undef, undef, undef, undef, undef, undef, undef, undef, undef, undef, undef, undef, undef, undef, undef, undef, undef, undef, undef, undef, undef, undef, undef, undef, undef, undef, undef, undef, undef, undef, undef, undef, undef, undef, undef, undef, undef, undef, undef, undef, undef, undef, undef, undef, undef, undef, undef, undef, undef, undef, undef, undef, undef, undef, undef, undef, undef, undef, undef, undef, undef, undef, undef, undef, undef, undef, undef, undef, undef, undef, undef, undef, undef, undef, undef, undef, undef, undef, undef, undef, undef, undef, undef, undef, undef, undef, undef, undef], []⟩) (by kernel_rfl) ?_
  have M0 : Mem NoS w w [] := Mem.start _ _
  refine wp_seq_k (fun K1 hK1 => ?_)
  have hW := hs.W
  have hH := hs.H
  have hn := hs.num
  have hd := hs.den
  have hbr := hs.br
  have hbu := hs.bu
  refine wl_region ?_
  refine st_alloc M0 (.cells (sqv s) 26 (0, 0)) (by kernel_rfl) (by kernel_rfl) ?_
  intro g2 W3 M4
  refine st_val (.bool false) (by kernel_rfl) (by kernel_rfl) ?_
  refine wl_nil ?_
  refine hK1 _ _ ?_
  try clear hK1 K1
  refine wp_seq_k (fun K5 hK5 => ?_)
  refine wp_seq_k (fun K6 hK6 => ?_)
  refine wl_region ?_
  refine st_val (.pointer (some ⟨g2, 0, none⟩)) (by kernel_rfl) (by kernel_rfl) ?_
  refine st_val (.int .i64 s.W) (by kernel_rfl) (run_load_cell 3 (.tmp 3) rfl ⟨g2, 0, none⟩ (by kernel_rfl) _ (M4.cell 0 rfl 0 _ (sqv_W _)) (by kernel_rfl)) ?_
  rcases Decidable.em ((s.W : Int) < 16) with c5 | c5
  ·
    refine st_val (.bool true) (by kernel_rfl) (bool_of (dec_t c5) (by kernel_rfl)) ?_
    refine st_val (.bool true) (by kernel_rfl) (by kernel_rfl) ?_
    refine st_skip (by kernel_rfl) ?_
    refine st_skip (by kernel_rfl) ?_
    refine st_skip (by kernel_rfl) ?_
    refine st_val (.bool true) (by kernel_rfl) (by kernel_rfl) ?_
    refine st_val (.bool true) (by kernel_rfl) (by kernel_rfl) ?_
    refine st_skip (by kernel_rfl) ?_
    refine st_skip (by kernel_rfl) ?_
    refine st_skip (by kernel_rfl) ?_
    refine st_skip (by kernel_rfl) ?_
    refine st_val (.bool true) (by kernel_rfl) (by kernel_rfl) ?_
    refine st_val (.bool true) (by kernel_rfl) (by kernel_rfl) ?_
    refine st_skip (by kernel_rfl) ?_
    refine st_skip (by kernel_rfl) ?_
    refine st_skip (by kernel_rfl) ?_
    refine st_val (.bool true) (by kernel_rfl) (by kernel_rfl) ?_
    refine st_val (.bool true) (by kernel_rfl) (by kernel_rfl) ?_
    refine st_skip (by kernel_rfl) ?_
    refine st_skip (by kernel_rfl) ?_
    refine st_skip (by kernel_rfl) ?_
    refine st_val (.bool true) (by kernel_rfl) (by kernel_rfl) ?_
    refine st_val (.bool true) (by kernel_rfl) (by kernel_rfl) ?_
    refine st_skip (by kernel_rfl) ?_
    refine st_skip (by kernel_rfl) ?_
    refine st_skip (by kernel_rfl) ?_
    refine st_skip (by kernel_rfl) ?_
    refine st_val (.bool true) (by kernel_rfl) (by kernel_rfl) ?_
    refine st_val (.bool true) (by kernel_rfl) (by kernel_rfl) ?_
    refine st_skip (by kernel_rfl) ?_
    refine st_skip (by kernel_rfl) ?_
    refine st_skip (by kernel_rfl) ?_
    refine st_skip (by kernel_rfl) ?_
    refine st_skip (by kernel_rfl) ?_
    refine st_skip (by kernel_rfl) ?_
    refine st_skip (by kernel_rfl) ?_
    refine st_skip (by kernel_rfl) ?_
    refine st_val (.bool true) (by kernel_rfl) (by kernel_rfl) ?_
    refine wl_nil ?_
    refine hK6 _ _ ?_
    try clear hK6 K6
    refine wp_frame (a' := ⟨#[.agg (sqv s), .pointer (some ⟨g2, 0, none⟩), .bool false, .pointer (some ⟨g2, 0, none⟩), .int .i64 s.W, .bool true, .bool true, undef, undef, undef, .bool true, .bool true, undef, undef, undef, undef, .bool true, .bool true, undef, undef, undef, .bool true, .bool true, undef, undef, undef, .bool true, .bool true, undef, undef, undef, undef, .bool true, .bool true, undef, undef, undef, undef, undef, undef, undef, undef, .bool true, undef, undef, undef, undef, undef, undef, undef, undef, undef, undef, undef, undef, undef, undef, undef, undef, undef, undef, undef, undef, undef, undef, undef, undef, undef, undef, undef, undef, undef, undef, undef, undef, undef, undef, undef, undef, undef, undef, undef, undef, undef, undef, undef, undef, undef, undef, undef, undef, undef, undef, undef, undef, undef, undef, undef, undef, undef, undef, undef, undef, undef, undef, undef, undef, undef, undef, undef, undef], []⟩) (by kernel_rfl) ?_
    refine wp_cond_true (by kernel_rfl) ?_
    refine wp_seq_k (fun K7 hK7 => ?_)
    refine wl_region ?_
    refine st_val (.bool false) (by kernel_rfl) (by kernel_rfl) ?_
    refine wl_nil ?_
    refine hK7 _ _ ?_
    try clear hK7 K7
    refine wp_ret ?_
    refine th_ret ?_
    exact done1 2 (.bool false) (by kernel_rfl) (by kernel_rfl) (by kernel_rfl) ⟨by rw [sB_f (fun h => by obtain ⟨h1, h2, h3, h4, h5, h6, h7, h8, h9, h10, h11, h12, h13, h14, h15, h16, h17, h18⟩ := h; first | omega | (have := h7 hil; omega) | (rw [hR] at h8; exact Bool.noConfusion h8) | (rw [hA] at h17; exact Bool.noConfusion h17) | (rw [hB] at h18; exact Bool.noConfusion h18))], M4.toBelow⟩
  ·
    refine st_val (.bool false) (by kernel_rfl) (bool_of (dec_f c5) (by kernel_rfl)) ?_
    refine st_val (.bool false) (by kernel_rfl) (by kernel_rfl) ?_
    refine st_val (.pointer (some ⟨g2, 0, none⟩)) (by kernel_rfl) (by kernel_rfl) ?_
    refine st_val (.int .i64 s.W) (by kernel_rfl) (run_load_cell 3 (.tmp 7) rfl ⟨g2, 0, none⟩ (by kernel_rfl) _ (M4.cell 0 rfl 0 _ (sqv_W _)) (by kernel_rfl)) ?_
    rcases Decidable.em ((s.W : Int) > 64) with c9 | c9
    ·
      refine st_val (.bool true) (by kernel_rfl) (bool_of (dec_t c9) (by kernel_rfl)) ?_
      refine st_val (.bool true) (by kernel_rfl) (by kernel_rfl) ?_
      refine st_val (.bool true) (by kernel_rfl) (by kernel_rfl) ?_
      refine st_skip (by kernel_rfl) ?_
      refine st_skip (by kernel_rfl) ?_
      refine st_skip (by kernel_rfl) ?_
      refine st_skip (by kernel_rfl) ?_
      refine st_val (.bool true) (by kernel_rfl) (by kernel_rfl) ?_
      refine st_val (.bool true) (by kernel_rfl) (by kernel_rfl) ?_
      refine st_skip (by kernel_rfl) ?_
      refine st_skip (by kernel_rfl) ?_
      refine st_skip (by kernel_rfl) ?_
      refine st_val (.bool true) (by kernel_rfl) (by kernel_rfl) ?_
      refine st_val (.bool true) (by kernel_rfl) (by kernel_rfl) ?_
      refine st_skip (by kernel_rfl) ?_
      refine st_skip (by kernel_rfl) ?_
      refine st_skip (by kernel_rfl) ?_
      refine st_val (.bool true) (by kernel_rfl) (by kernel_rfl) ?_
      refine st_val (.bool true) (by kernel_rfl) (by kernel_rfl) ?_
      refine st_skip (by kernel_rfl) ?_
      refine st_skip (by kernel_rfl) ?_
      refine st_skip (by kernel_rfl) ?_
      refine st_skip (by kernel_rfl) ?_
      refine st_val (.bool true) (by kernel_rfl) (by kernel_rfl) ?_
      refine st_val (.bool true) (by kernel_rfl) (by kernel_rfl) ?_
      refine st_skip (by kernel_rfl) ?_
      refine st_skip (by kernel_rfl) ?_
      refine st_skip (by kernel_rfl) ?_
      refine st_skip (by kernel_rfl) ?_
      refine st_skip (by kernel_rfl) ?_
      refine st_skip (by kernel_rfl) ?_
      refine st_skip (by kernel_rfl) ?_
      refine st_skip (by kernel_rfl) ?_
      refine st_val (.bool true) (by kernel_rfl) (by kernel_rfl) ?_
      refine wl_nil ?_
      refine hK6 _ _ ?_
      try clear hK6 K6
      refine wp_frame (a' := ⟨#[.agg (sqv s), .pointer (some ⟨g2, 0, none⟩), .bool false, .pointer (some ⟨g2, 0, none⟩), .int .i64 s.W, .bool false, .bool false, .pointer (some ⟨g2, 0, none⟩), .int .i64 s.W, .bool true, .bool true, .bool true, undef, undef, undef, undef, .bool true, .bool true, undef, undef, undef, .bool true, .bool true, undef, undef, undef, .bool true, .bool true, undef, undef, undef, undef, .bool true, .bool true, undef, undef, undef, undef, undef, undef, undef, undef, .bool true, undef, undef, undef, undef, undef, undef, undef, undef, undef, undef, undef, undef, undef, undef, undef, undef, undef, undef, undef, undef, undef, undef, undef, undef, undef, undef, undef, undef, undef, undef, undef, undef, undef, undef, undef, undef, undef, undef, undef, undef, undef, undef, undef, undef, undef, undef, undef, undef, undef, undef, undef, undef, undef, undef, undef, undef, undef, undef, undef, undef, undef, undef, undef, undef, undef, undef, undef, undef], []⟩) (by kernel_rfl) ?_
      refine wp_cond_true (by kernel_rfl) ?_
      refine wp_seq_k (fun K8 hK8 => ?_)
      refine wl_region ?_
      refine st_val (.bool false) (by kernel_rfl) (by kernel_rfl) ?_
      refine wl_nil ?_
      refine hK8 _ _ ?_
      try clear hK8 K8
      refine wp_ret ?_
      refine th_ret ?_
      exact done1 2 (.bool false) (by kernel_rfl) (by kernel_rfl) (by kernel_rfl) ⟨by rw [sB_f (fun h => by obtain ⟨h1, h2, h3, h4, h5, h6, h7, h8, h9, h10, h11, h12, h13, h14, h15, h16, h17, h18⟩ := h; first | omega | (have := h7 hil; omega) | (rw [hR] at h8; exact Bool.noConfusion h8) | (rw [hA] at h17; exact Bool.noConfusion h17) | (rw [hB] at h18; exact Bool.noConfusion h18))], M4.toBelow⟩
    ·
      refine st_val (.bool false) (by kernel_rfl) (bool_of (dec_f c9) (by kernel_rfl)) ?_
      refine st_val (.bool false) (by kernel_rfl) (by kernel_rfl) ?_
      refine st_val (.bool false) (by kernel_rfl) (by kernel_rfl) ?_
      refine st_val (.pointer (some ⟨g2, 0, none⟩)) (by kernel_rfl) (by kernel_rfl) ?_
      refine st_val (.int .i64 s.W) (by kernel_rfl) (run_load_cell 3 (.tmp 12) rfl ⟨g2, 0, none⟩ (by kernel_rfl) _ (M4.cell 0 rfl 0 _ (sqv_W _)) (by kernel_rfl)) ?_
      refine st_val (.int .i64 (s.W % 16)) (by kernel_rfl) (int_of (rem_of s.W 16 (by omega)) (by kernel_rfl)) ?_
      rcases Decidable.em ((s.W % 16 : Int) = 0) with c15 | c15
      ·
        refine st_val (.bool false) (by kernel_rfl) (bool_of (neq_f c15) (by kernel_rfl)) ?_
        refine st_val (.bool false) (by kernel_rfl) (by kernel_rfl) ?_
        refine st_val (.bool false) (by kernel_rfl) (by kernel_rfl) ?_
        refine st_val (.pointer (some ⟨g2, 1, none⟩)) (by kernel_rfl) (by kernel_rfl) ?_
        refine st_val (.int .i64 s.H) (by kernel_rfl) (run_load_cell 3 (.tmp 18) rfl ⟨g2, 1, none⟩ (by kernel_rfl) _ (M4.cell 0 rfl 1 _ (sqv_H _)) (by kernel_rfl)) ?_
        rcases Decidable.em ((s.H : Int) < 16) with c20 | c20
        ·
          refine st_val (.bool true) (by kernel_rfl) (bool_of (dec_t c20) (by kernel_rfl)) ?_
          refine st_val (.bool true) (by kernel_rfl) (by kernel_rfl) ?_
          refine st_val (.bool true) (by kernel_rfl) (by kernel_rfl) ?_
          refine st_skip (by kernel_rfl) ?_
          refine st_skip (by kernel_rfl) ?_
          refine st_skip (by kernel_rfl) ?_
          refine st_val (.bool true) (by kernel_rfl) (by kernel_rfl) ?_
          refine st_val (.bool true) (by kernel_rfl) (by kernel_rfl) ?_
          refine st_skip (by kernel_rfl) ?_
          refine st_skip (by kernel_rfl) ?_
          refine st_skip (by kernel_rfl) ?_
          refine st_skip (by kernel_rfl) ?_
          refine st_val (.bool true) (by kernel_rfl) (by kernel_rfl) ?_
          refine st_val (.bool true) (by kernel_rfl) (by kernel_rfl) ?_
          refine st_skip (by kernel_rfl) ?_
          refine st_skip (by kernel_rfl) ?_
          refine st_skip (by kernel_rfl) ?_
          refine st_skip (by kernel_rfl) ?_
          refine st_skip (by kernel_rfl) ?_
          refine st_skip (by kernel_rfl) ?_
          refine st_skip (by kernel_rfl) ?_
          refine st_skip (by kernel_rfl) ?_
          refine st_val (.bool true) (by kernel_rfl) (by kernel_rfl) ?_
          refine wl_nil ?_
          refine hK6 _ _ ?_
          try clear hK6 K6
          refine wp_frame (a' := ⟨#[.agg (sqv s), .pointer (some ⟨g2, 0, none⟩), .bool false, .pointer (some ⟨g2, 0, none⟩), .int .i64 s.W, .bool false, .bool false, .pointer (some ⟨g2, 0, none⟩), .int .i64 s.W, .bool false, .bool false, .bool false, .pointer (some ⟨g2, 0, none⟩), .int .i64 s.W, .int .i64 (s.W % 16), .bool false, .bool false, .bool false, .pointer (some ⟨g2, 1, none⟩), .int .i64 s.H, .bool true, .bool true, .bool true, undef, undef, undef, .bool true, .bool true, undef, undef, undef, undef, .bool true, .bool true, undef, undef, undef, undef, undef, undef, undef, undef, .bool true, undef, undef, undef, undef, undef, undef, undef, undef, undef, undef, undef, undef, undef, undef, undef, undef, undef, undef, undef, undef, undef, undef, undef, undef, undef, undef, undef, undef, undef, undef, undef, undef, undef, undef, undef, undef, undef, undef, undef, undef, undef, undef, undef, undef, undef, undef, undef, undef, undef, undef, undef, undef, undef, undef, undef, undef, undef, undef, undef, undef, undef, undef, undef, undef, undef, undef, undef, undef], []⟩) (by kernel_rfl) ?_
          refine wp_cond_true (by kernel_rfl) ?_
          refine wp_seq_k (fun K9 hK9 => ?_)
          refine wl_region ?_
          refine st_val (.bool false) (by kernel_rfl) (by kernel_rfl) ?_
          refine wl_nil ?_
          refine hK9 _ _ ?_
          try clear hK9 K9
          refine wp_ret ?_
          refine th_ret ?_
          exact done1 2 (.bool false) (by kernel_rfl) (by kernel_rfl) (by kernel_rfl) ⟨by rw [sB_f (fun h => by obtain ⟨h1, h2, h3, h4, h5, h6, h7, h8, h9, h10, h11, h12, h13, h14, h15, h16, h17, h18⟩ := h; first | omega | (have := h7 hil; omega) | (rw [hR] at h8; exact Bool.noConfusion h8) | (rw [hA] at h17; exact Bool.noConfusion h17) | (rw [hB] at h18; exact Bool.noConfusion h18))], M4.toBelow⟩
        ·
          refine st_val (.bool false) (by kernel_rfl) (bool_of (dec_f c20) (by kernel_rfl)) ?_
          refine st_val (.bool false) (by kernel_rfl) (by kernel_rfl) ?_
          refine st_val (.bool false) (by kernel_rfl) (by kernel_rfl) ?_
          refine st_val (.pointer (some ⟨g2, 1, none⟩)) (by kernel_rfl) (by kernel_rfl) ?_
          refine st_val (.int .i64 s.H) (by kernel_rfl) (run_load_cell 3 (.tmp 23) rfl ⟨g2, 1, none⟩ (by kernel_rfl) _ (M4.cell 0 rfl 1 _ (sqv_H _)) (by kernel_rfl)) ?_
          rcases Decidable.em ((s.H : Int) > 64) with c25 | c25
          ·
            refine st_val (.bool true) (by kernel_rfl) (bool_of (dec_t c25) (by kernel_rfl)) ?_
            refine st_val (.bool true) (by kernel_rfl) (by kernel_rfl) ?_
            refine st_val (.bool true) (by kernel_rfl) (by kernel_rfl) ?_
            refine st_skip (by kernel_rfl) ?_
            refine st_skip (by kernel_rfl) ?_
            refine st_skip (by kernel_rfl) ?_
            refine st_skip (by kernel_rfl) ?_
            refine st_val (.bool true) (by kernel_rfl) (by kernel_rfl) ?_
            refine st_val (.bool true) (by kernel_rfl) (by kernel_rfl) ?_
            refine st_skip (by kernel_rfl) ?_
            refine st_skip (by kernel_rfl) ?_
            refine st_skip (by kernel_rfl) ?_
            refine st_skip (by kernel_rfl) ?_
            refine st_skip (by kernel_rfl) ?_
            refine st_skip (by kernel_rfl) ?_
            refine st_skip (by kernel_rfl) ?_
            refine st_skip (by kernel_rfl) ?_
            refine st_val (.bool true) (by kernel_rfl) (by kernel_rfl) ?_
            refine wl_nil ?_
            refine hK6 _ _ ?_
            try clear hK6 K6
            refine wp_frame (a' := ⟨#[.agg (sqv s), .pointer (some ⟨g2, 0, none⟩), .bool false, .pointer (some ⟨g2, 0, none⟩), .int .i64 s.W, .bool false, .bool false, .pointer (some ⟨g2, 0, none⟩), .int .i64 s.W, .bool false, .bool false, .bool false, .pointer (some ⟨g2, 0, none⟩), .int .i64 s.W, .int .i64 (s.W % 16), .bool false, .bool false, .bool false, .pointer (some ⟨g2, 1, none⟩), .int .i64 s.H, .bool false, .bool false, .bool false, .pointer (some ⟨g2, 1, none⟩), .int .i64 s.H, .bool true, .bool true, .bool true, undef, undef, undef, undef, .bool true, .bool true, undef, undef, undef, undef, undef, undef, undef, undef, .bool true, undef, undef, undef, undef, undef, undef, undef, undef, undef, undef, undef, undef, undef, undef, undef, undef, undef, undef, undef, undef, undef, undef, undef, undef, undef, undef, undef, undef, undef, undef, undef, undef, undef, undef, undef, undef, undef, undef, undef, undef, undef, undef, undef, undef, undef, undef, undef, undef, undef, undef, undef, undef, undef, undef, undef, undef, undef, undef, undef, undef, undef, undef, undef, undef, undef, undef, undef, undef], []⟩) (by kernel_rfl) ?_
            refine wp_cond_true (by kernel_rfl) ?_
            refine wp_seq_k (fun K10 hK10 => ?_)
            refine wl_region ?_
            refine st_val (.bool false) (by kernel_rfl) (by kernel_rfl) ?_
            refine wl_nil ?_
            refine hK10 _ _ ?_
            try clear hK10 K10
            refine wp_ret ?_
            refine th_ret ?_
            exact done1 2 (.bool false) (by kernel_rfl) (by kernel_rfl) (by kernel_rfl) ⟨by rw [sB_f (fun h => by obtain ⟨h1, h2, h3, h4, h5, h6, h7, h8, h9, h10, h11, h12, h13, h14, h15, h16, h17, h18⟩ := h; first | omega | (have := h7 hil; omega) | (rw [hR] at h8; exact Bool.noConfusion h8) | (rw [hA] at h17; exact Bool.noConfusion h17) | (rw [hB] at h18; exact Bool.noConfusion h18))], M4.toBelow⟩
          ·
            refine st_val (.bool false) (by kernel_rfl) (bool_of (dec_f c25) (by kernel_rfl)) ?_
            refine st_val (.bool false) (by kernel_rfl) (by kernel_rfl) ?_
            refine st_val (.bool false) (by kernel_rfl) (by kernel_rfl) ?_
            refine st_val (.pointer (some ⟨g2, 1, none⟩)) (by kernel_rfl) (by kernel_rfl) ?_
            refine st_val (.int .i64 s.H) (by kernel_rfl) (run_load_cell 3 (.tmp 28) rfl ⟨g2, 1, none⟩ (by kernel_rfl) _ (M4.cell 0 rfl 1 _ (sqv_H _)) (by kernel_rfl)) ?_
            refine st_val (.int .i64 (s.H % 16)) (by kernel_rfl) (int_of (rem_of s.H 16 (by omega)) (by kernel_rfl)) ?_
            rcases Decidable.em ((s.H % 16 : Int) = 0) with c31 | c31
            ·
              refine st_val (.bool false) (by kernel_rfl) (bool_of (neq_f c31) (by kernel_rfl)) ?_
              refine st_val (.bool false) (by kernel_rfl) (by kernel_rfl) ?_
              refine st_val (.bool false) (by kernel_rfl) (by kernel_rfl) ?_
              refine st_val (.pointer (some ⟨g2, 4, none⟩)) (by kernel_rfl) (by kernel_rfl) ?_
              rcases Bool.eq_false_or_eq_true s.il with hil | hil
              ·
                refine st_val (.bool true) (by kernel_rfl) (run_load_cell 4 (.tmp 34) rfl ⟨g2, 4, none⟩ (by kernel_rfl) _ (M4.cell 0 rfl 4 _ (sqv_ilt hil)) (by kernel_rfl)) ?_
                refine st_val (.bool true) (by kernel_rfl) (by kernel_rfl) ?_
                refine st_val (.pointer (some ⟨g2, 1, none⟩)) (by kernel_rfl) (by kernel_rfl) ?_
                refine st_val (.int .i64 s.H) (by kernel_rfl) (run_load_cell 3 (.tmp 37) rfl ⟨g2, 1, none⟩ (by kernel_rfl) _ (M4.cell 0 rfl 1 _ (sqv_H _)) (by kernel_rfl)) ?_
                refine st_val (.int .i64 (s.H % 32)) (by kernel_rfl) (int_of (rem_of s.H 32 (by omega)) (by kernel_rfl)) ?_
                rcases Decidable.em ((s.H % 32 : Int) = 0) with c40 | c40
                ·
                  refine st_val (.bool false) (by kernel_rfl) (bool_of (neq_f c40) (by kernel_rfl)) ?_
                  refine st_val (.bool false) (by kernel_rfl) (by kernel_rfl) ?_
                  refine st_val (.bool false) (by kernel_rfl) (by kernel_rfl) ?_
                  refine wl_nil ?_
                  refine hK6 _ _ ?_
                  try clear hK6 K6
                  refine wp_frame (a' := ⟨#[.agg (sqv s), .pointer (some ⟨g2, 0, none⟩), .bool false, .pointer (some ⟨g2, 0, none⟩), .int .i64 s.W, .bool false, .bool false, .pointer (some ⟨g2, 0, none⟩), .int .i64 s.W, .bool false, .bool false, .bool false, .pointer (some ⟨g2, 0, none⟩), .int .i64 s.W, .int .i64 (s.W % 16), .bool false, .bool false, .bool false, .pointer (some ⟨g2, 1, none⟩), .int .i64 s.H, .bool false, .bool false, .bool false, .pointer (some ⟨g2, 1, none⟩), .int .i64 s.H, .bool false, .bool false, .bool false, .pointer (some ⟨g2, 1, none⟩), .int .i64 s.H, .int .i64 (s.H % 16), .bool false, .bool false, .bool false, .pointer (some ⟨g2, 4, none⟩), .bool true, .bool true, .pointer (some ⟨g2, 1, none⟩), .int .i64 s.H, .int .i64 (s.H % 32), .bool false, .bool false, .bool false, undef, undef, undef, undef, undef, undef, undef, undef, undef, undef, undef, undef, undef, undef, undef, undef, undef, undef, undef, undef, undef, undef, undef, undef, undef, undef, undef, undef, undef, undef, undef, undef, undef, undef, undef, undef, undef, undef, undef, undef, undef, undef, undef, undef, undef, undef, undef, undef, undef, undef, undef, undef, undef, undef, undef, undef, undef, undef, undef, undef, undef, undef, undef, undef, undef, undef, undef, undef], []⟩) (by kernel_rfl) ?_
                  refine wp_cond_false (by kernel_rfl) ?_
                  refine wp_skip ?_
                  refine hK5 _ _ ?_
                  try clear hK5 K5
                  refine wp_seq_k (fun K11 hK11 => ?_)
                  refine wp_seq_k (fun K12 hK12 => ?_)
                  refine wl_region ?_
                  refine st_val (.pointer (some ⟨g2, 2, none⟩)) (by kernel_rfl) (by kernel_rfl) ?_
                  refine st_val (.agg #[.int .i64 s.num, .int .i64 s.den]) (by kernel_rfl) (run_load_mid 23 (.tmp 43) rfl g2 2 (by kernel_rfl) [.int .i64 s.num, .int .i64 s.den] _ (M4.range 0 rfl 2 _ (sqv_rate _)) Try.underlying23 rfl (by kernel_rfl)) ?_
                  rcases Bool.eq_false_or_eq_true (rV s.num s.den) with hR | hR
                  ·
                    have hR1 := rV_den hR
                    refine st_callB M4 (.bool true) (by kernel_rfl) (args := #[.agg #[.int .i64 s.num, .int .i64 s.den]]) (run_value_call 39 #[(Operand.tmp 44)] _ rfl Try.func39 (by kernel_rfl) (by kernel_rfl) _ (by kernel_rfl)) ((by have := refRval_walk W3 s.num s.den hs.num hs.den; rw [hR] at this; exact this)) ?_
                    intro W13 M14
                    refine st_val (.bool false) (by kernel_rfl) (by kernel_rfl) ?_
                    refine st_val (.bool false) (by kernel_rfl) (by kernel_rfl) ?_
                    refine st_val (.pointer (some ⟨g2, 2, none⟩)) (by kernel_rfl) (by kernel_rfl) ?_
                    refine st_val (.pointer (some ⟨g2, 2, none⟩)) (by kernel_rfl) (by kernel_rfl) ?_
                    refine st_val (.int .i64 s.num) (by kernel_rfl) (run_load_cell 2 (.tmp 49) rfl ⟨g2, 2, none⟩ (by kernel_rfl) _ (M14.cell 0 rfl 2 _ (sqv_num _)) (by kernel_rfl)) ?_
                    rcases Decidable.em ((s.num : Int) < 1) with c51 | c51
                    ·
                      refine st_val (.bool true) (by kernel_rfl) (bool_of (dec_t c51) (by kernel_rfl)) ?_
                      refine st_val (.bool true) (by kernel_rfl) (by kernel_rfl) ?_
                      refine st_val (.bool true) (by kernel_rfl) (by kernel_rfl) ?_
                      refine st_skip (by kernel_rfl) ?_
                      refine st_skip (by kernel_rfl) ?_
                      refine st_skip (by kernel_rfl) ?_
                      refine st_skip (by kernel_rfl) ?_
                      refine st_val (.bool true) (by kernel_rfl) (by kernel_rfl) ?_
                      refine st_val (.bool true) (by kernel_rfl) (by kernel_rfl) ?_
                      refine st_skip (by kernel_rfl) ?_
                      refine st_skip (by kernel_rfl) ?_
                      refine st_skip (by kernel_rfl) ?_
                      refine st_skip (by kernel_rfl) ?_
                      refine st_val (.bool true) (by kernel_rfl) (by kernel_rfl) ?_
                      refine wl_nil ?_
                      refine hK12 _ _ ?_
                      try clear hK12 K12
                      refine wp_frame (a' := ⟨#[.agg (sqv s), .pointer (some ⟨g2, 0, none⟩), .bool false, .pointer (some ⟨g2, 0, none⟩), .int .i64 s.W, .bool false, .bool false, .pointer (some ⟨g2, 0, none⟩), .int .i64 s.W, .bool false, .bool false, .bool false, .pointer (some ⟨g2, 0, none⟩), .int .i64 s.W, .int .i64 (s.W % 16), .bool false, .bool false, .bool false, .pointer (some ⟨g2, 1, none⟩), .int .i64 s.H, .bool false, .bool false, .bool false, .pointer (some ⟨g2, 1, none⟩), .int .i64 s.H, .bool false, .bool false, .bool false, .pointer (some ⟨g2, 1, none⟩), .int .i64 s.H, .int .i64 (s.H % 16), .bool false, .bool false, .bool false, .pointer (some ⟨g2, 4, none⟩), .bool true, .bool true, .pointer (some ⟨g2, 1, none⟩), .int .i64 s.H, .int .i64 (s.H % 32), .bool false, .bool false, .bool false, .pointer (some ⟨g2, 2, none⟩), .agg #[.int .i64 s.num, .int .i64 s.den], .bool true, .bool false, .bool false, .pointer (some ⟨g2, 2, none⟩), .pointer (some ⟨g2, 2, none⟩), .int .i64 s.num, .bool true, .bool true, .bool true, undef, undef, undef, undef, .bool true, .bool true, undef, undef, undef, undef, .bool true, undef, undef, undef, undef, undef, undef, undef, undef, undef, undef, undef, undef, undef, undef, undef, undef, undef, undef, undef, undef, undef, undef, undef, undef, undef, undef, undef, undef, undef, undef, undef, undef, undef, undef, undef, undef, undef, undef, undef, undef, undef, undef, undef, undef, undef, undef], []⟩) (by kernel_rfl) ?_
                      refine wp_cond_true (by kernel_rfl) ?_
                      refine wp_seq_k (fun K15 hK15 => ?_)
                      refine wl_region ?_
                      refine st_val (.bool false) (by kernel_rfl) (by kernel_rfl) ?_
                      refine wl_nil ?_
                      refine hK15 _ _ ?_
                      try clear hK15 K15
                      refine wp_ret ?_
                      refine th_ret ?_
                      exact done1 2 (.bool false) (by kernel_rfl) (by kernel_rfl) (by kernel_rfl) ⟨by rw [sB_f (fun h => by obtain ⟨h1, h2, h3, h4, h5, h6, h7, h8, h9, h10, h11, h12, h13, h14, h15, h16, h17, h18⟩ := h; first | omega | (have := h7 hil; omega) | (rw [hR] at h8; exact Bool.noConfusion h8) | (rw [hA] at h17; exact Bool.noConfusion h17) | (rw [hB] at h18; exact Bool.noConfusion h18))], M14.toBelow⟩
                    ·
                      refine st_val (.bool false) (by kernel_rfl) (bool_of (dec_f c51) (by kernel_rfl)) ?_
                      refine st_val (.bool false) (by kernel_rfl) (by kernel_rfl) ?_
                      refine st_val (.bool false) (by kernel_rfl) (by kernel_rfl) ?_
                      refine st_val (.pointer (some ⟨g2, 2, none⟩)) (by kernel_rfl) (by kernel_rfl) ?_
                      refine st_val (.pointer (some ⟨g2, 2, none⟩)) (by kernel_rfl) (by kernel_rfl) ?_
                      refine st_val (.int .i64 s.num) (by kernel_rfl) (run_load_cell 2 (.tmp 55) rfl ⟨g2, 2, none⟩ (by kernel_rfl) _ (M14.cell 0 rfl 2 _ (sqv_num _)) (by kernel_rfl)) ?_
                      rcases Decidable.em ((s.num : Int) > 1048576) with c57 | c57
                      ·
                        refine st_val (.bool true) (by kernel_rfl) (bool_of (dec_t c57) (by kernel_rfl)) ?_
                        refine st_val (.bool true) (by kernel_rfl) (by kernel_rfl) ?_
                        refine st_val (.bool true) (by kernel_rfl) (by kernel_rfl) ?_
                        refine st_skip (by kernel_rfl) ?_
                        refine st_skip (by kernel_rfl) ?_
                        refine st_skip (by kernel_rfl) ?_
                        refine st_skip (by kernel_rfl) ?_
                        refine st_val (.bool true) (by kernel_rfl) (by kernel_rfl) ?_
                        refine wl_nil ?_
                        refine hK12 _ _ ?_
                        try clear hK12 K12
                        refine wp_frame (a' := ⟨#[.agg (sqv s), .pointer (some ⟨g2, 0, none⟩), .bool false, .pointer (some ⟨g2, 0, none⟩), .int .i64 s.W, .bool false, .bool false, .pointer (some ⟨g2, 0, none⟩), .int .i64 s.W, .bool false, .bool false, .bool false, .pointer (some ⟨g2, 0, none⟩), .int .i64 s.W, .int .i64 (s.W % 16), .bool false, .bool false, .bool false, .pointer (some ⟨g2, 1, none⟩), .int .i64 s.H, .bool false, .bool false, .bool false, .pointer (some ⟨g2, 1, none⟩), .int .i64 s.H, .bool false, .bool false, .bool false, .pointer (some ⟨g2, 1, none⟩), .int .i64 s.H, .int .i64 (s.H % 16), .bool false, .bool false, .bool false, .pointer (some ⟨g2, 4, none⟩), .bool true, .bool true, .pointer (some ⟨g2, 1, none⟩), .int .i64 s.H, .int .i64 (s.H % 32), .bool false, .bool false, .bool false, .pointer (some ⟨g2, 2, none⟩), .agg #[.int .i64 s.num, .int .i64 s.den], .bool true, .bool false, .bool false, .pointer (some ⟨g2, 2, none⟩), .pointer (some ⟨g2, 2, none⟩), .int .i64 s.num, .bool false, .bool false, .bool false, .pointer (some ⟨g2, 2, none⟩), .pointer (some ⟨g2, 2, none⟩), .int .i64 s.num, .bool true, .bool true, .bool true, undef, undef, undef, undef, .bool true, undef, undef, undef, undef, undef, undef, undef, undef, undef, undef, undef, undef, undef, undef, undef, undef, undef, undef, undef, undef, undef, undef, undef, undef, undef, undef, undef, undef, undef, undef, undef, undef, undef, undef, undef, undef, undef, undef, undef, undef, undef, undef, undef, undef, undef, undef], []⟩) (by kernel_rfl) ?_
                        refine wp_cond_true (by kernel_rfl) ?_
                        refine wp_seq_k (fun K16 hK16 => ?_)
                        refine wl_region ?_
                        refine st_val (.bool false) (by kernel_rfl) (by kernel_rfl) ?_
                        refine wl_nil ?_
                        refine hK16 _ _ ?_
                        try clear hK16 K16
                        refine wp_ret ?_
                        refine th_ret ?_
                        exact done1 2 (.bool false) (by kernel_rfl) (by kernel_rfl) (by kernel_rfl) ⟨by rw [sB_f (fun h => by obtain ⟨h1, h2, h3, h4, h5, h6, h7, h8, h9, h10, h11, h12, h13, h14, h15, h16, h17, h18⟩ := h; first | omega | (have := h7 hil; omega) | (rw [hR] at h8; exact Bool.noConfusion h8) | (rw [hA] at h17; exact Bool.noConfusion h17) | (rw [hB] at h18; exact Bool.noConfusion h18))], M14.toBelow⟩
                      ·
                        refine st_val (.bool false) (by kernel_rfl) (bool_of (dec_f c57) (by kernel_rfl)) ?_
                        refine st_val (.bool false) (by kernel_rfl) (by kernel_rfl) ?_
                        refine st_val (.bool false) (by kernel_rfl) (by kernel_rfl) ?_
                        refine st_val (.pointer (some ⟨g2, 2, none⟩)) (by kernel_rfl) (by kernel_rfl) ?_
                        refine st_val (.pointer (some ⟨g2, 3, none⟩)) (by kernel_rfl) (by kernel_rfl) ?_
                        refine st_val (.int .i64 s.den) (by kernel_rfl) (run_load_cell 2 (.tmp 61) rfl ⟨g2, 3, none⟩ (by kernel_rfl) _ (M14.cell 0 rfl 3 _ (sqv_den _)) (by kernel_rfl)) ?_
                        rcases Decidable.em ((s.den : Int) > 65536) with c63 | c63
                        ·
                          refine st_val (.bool true) (by kernel_rfl) (bool_of (dec_t c63) (by kernel_rfl)) ?_
                          refine st_val (.bool true) (by kernel_rfl) (by kernel_rfl) ?_
                          refine wl_nil ?_
                          refine hK12 _ _ ?_
                          try clear hK12 K12
                          refine wp_frame (a' := ⟨#[.agg (sqv s), .pointer (some ⟨g2, 0, none⟩), .bool false, .pointer (some ⟨g2, 0, none⟩), .int .i64 s.W, .bool false, .bool false, .pointer (some ⟨g2, 0, none⟩), .int .i64 s.W, .bool false, .bool false, .bool false, .pointer (some ⟨g2, 0, none⟩), .int .i64 s.W, .int .i64 (s.W % 16), .bool false, .bool false, .bool false, .pointer (some ⟨g2, 1, none⟩), .int .i64 s.H, .bool false, .bool false, .bool false, .pointer (some ⟨g2, 1, none⟩), .int .i64 s.H, .bool false, .bool false, .bool false, .pointer (some ⟨g2, 1, none⟩), .int .i64 s.H, .int .i64 (s.H % 16), .bool false, .bool false, .bool false, .pointer (some ⟨g2, 4, none⟩), .bool true, .bool true, .pointer (some ⟨g2, 1, none⟩), .int .i64 s.H, .int .i64 (s.H % 32), .bool false, .bool false, .bool false, .pointer (some ⟨g2, 2, none⟩), .agg #[.int .i64 s.num, .int .i64 s.den], .bool true, .bool false, .bool false, .pointer (some ⟨g2, 2, none⟩), .pointer (some ⟨g2, 2, none⟩), .int .i64 s.num, .bool false, .bool false, .bool false, .pointer (some ⟨g2, 2, none⟩), .pointer (some ⟨g2, 2, none⟩), .int .i64 s.num, .bool false, .bool false, .bool false, .pointer (some ⟨g2, 2, none⟩), .pointer (some ⟨g2, 3, none⟩), .int .i64 s.den, .bool true, .bool true, undef, undef, undef, undef, undef, undef, undef, undef, undef, undef, undef, undef, undef, undef, undef, undef, undef, undef, undef, undef, undef, undef, undef, undef, undef, undef, undef, undef, undef, undef, undef, undef, undef, undef, undef, undef, undef, undef, undef, undef, undef, undef, undef, undef, undef, undef], []⟩) (by kernel_rfl) ?_
                          refine wp_cond_true (by kernel_rfl) ?_
                          refine wp_seq_k (fun K17 hK17 => ?_)
                          refine wl_region ?_
                          refine st_val (.bool false) (by kernel_rfl) (by kernel_rfl) ?_
                          refine wl_nil ?_
                          refine hK17 _ _ ?_
                          try clear hK17 K17
                          refine wp_ret ?_
                          refine th_ret ?_
                          exact done1 2 (.bool false) (by kernel_rfl) (by kernel_rfl) (by kernel_rfl) ⟨by rw [sB_f (fun h => by obtain ⟨h1, h2, h3, h4, h5, h6, h7, h8, h9, h10, h11, h12, h13, h14, h15, h16, h17, h18⟩ := h; first | omega | (have := h7 hil; omega) | (rw [hR] at h8; exact Bool.noConfusion h8) | (rw [hA] at h17; exact Bool.noConfusion h17) | (rw [hB] at h18; exact Bool.noConfusion h18))], M14.toBelow⟩
                        ·
                          refine st_val (.bool false) (by kernel_rfl) (bool_of (dec_f c63) (by kernel_rfl)) ?_
                          refine st_val (.bool false) (by kernel_rfl) (by kernel_rfl) ?_
                          refine wl_nil ?_
                          refine hK12 _ _ ?_
                          try clear hK12 K12
                          refine wp_frame (a' := ⟨#[.agg (sqv s), .pointer (some ⟨g2, 0, none⟩), .bool false, .pointer (some ⟨g2, 0, none⟩), .int .i64 s.W, .bool false, .bool false, .pointer (some ⟨g2, 0, none⟩), .int .i64 s.W, .bool false, .bool false, .bool false, .pointer (some ⟨g2, 0, none⟩), .int .i64 s.W, .int .i64 (s.W % 16), .bool false, .bool false, .bool false, .pointer (some ⟨g2, 1, none⟩), .int .i64 s.H, .bool false, .bool false, .bool false, .pointer (some ⟨g2, 1, none⟩), .int .i64 s.H, .bool false, .bool false, .bool false, .pointer (some ⟨g2, 1, none⟩), .int .i64 s.H, .int .i64 (s.H % 16), .bool false, .bool false, .bool false, .pointer (some ⟨g2, 4, none⟩), .bool true, .bool true, .pointer (some ⟨g2, 1, none⟩), .int .i64 s.H, .int .i64 (s.H % 32), .bool false, .bool false, .bool false, .pointer (some ⟨g2, 2, none⟩), .agg #[.int .i64 s.num, .int .i64 s.den], .bool true, .bool false, .bool false, .pointer (some ⟨g2, 2, none⟩), .pointer (some ⟨g2, 2, none⟩), .int .i64 s.num, .bool false, .bool false, .bool false, .pointer (some ⟨g2, 2, none⟩), .pointer (some ⟨g2, 2, none⟩), .int .i64 s.num, .bool false, .bool false, .bool false, .pointer (some ⟨g2, 2, none⟩), .pointer (some ⟨g2, 3, none⟩), .int .i64 s.den, .bool false, .bool false, undef, undef, undef, undef, undef, undef, undef, undef, undef, undef, undef, undef, undef, undef, undef, undef, undef, undef, undef, undef, undef, undef, undef, undef, undef, undef, undef, undef, undef, undef, undef, undef, undef, undef, undef, undef, undef, undef, undef, undef, undef, undef, undef, undef, undef, undef], []⟩) (by kernel_rfl) ?_
                          refine wp_cond_false (by kernel_rfl) ?_
                          refine wp_skip ?_
                          refine hK11 _ _ ?_
                          try clear hK11 K11
                          refine wp_seq_k (fun K18 hK18 => ?_)
                          refine wp_seq_k (fun K19 hK19 => ?_)
                          refine wl_region ?_
                          refine st_val (.pointer (some ⟨g2, 5, none⟩)) (by kernel_rfl) (by kernel_rfl) ?_
                          refine st_val (.int .i64 s.br) (by kernel_rfl) (run_load_cell 3 (.tmp 65) rfl ⟨g2, 5, none⟩ (by kernel_rfl) _ (M14.cell 0 rfl 5 _ (sqv_br _)) (by kernel_rfl)) ?_
                          rcases Decidable.em ((s.br : Int) < 1) with c67 | c67
                          ·
                            refine st_val (.bool true) (by kernel_rfl) (bool_of (dec_t c67) (by kernel_rfl)) ?_
                            refine st_val (.bool true) (by kernel_rfl) (by kernel_rfl) ?_
                            refine st_skip (by kernel_rfl) ?_
                            refine st_skip (by kernel_rfl) ?_
                            refine st_skip (by kernel_rfl) ?_
                            refine st_val (.bool true) (by kernel_rfl) (by kernel_rfl) ?_
                            refine st_val (.bool true) (by kernel_rfl) (by kernel_rfl) ?_
                            refine st_skip (by kernel_rfl) ?_
                            refine st_skip (by kernel_rfl) ?_
                            refine st_skip (by kernel_rfl) ?_
                            refine st_val (.bool true) (by kernel_rfl) (by kernel_rfl) ?_
                            refine st_val (.bool true) (by kernel_rfl) (by kernel_rfl) ?_
                            refine st_skip (by kernel_rfl) ?_
                            refine st_skip (by kernel_rfl) ?_
                            refine st_skip (by kernel_rfl) ?_
                            refine st_val (.bool true) (by kernel_rfl) (by kernel_rfl) ?_
                            refine wl_nil ?_
                            refine hK19 _ _ ?_
                            try clear hK19 K19
                            refine wp_frame (a' := ⟨#[.agg (sqv s), .pointer (some ⟨g2, 0, none⟩), .bool false, .pointer (some ⟨g2, 0, none⟩), .int .i64 s.W, .bool false, .bool false, .pointer (some ⟨g2, 0, none⟩), .int .i64 s.W, .bool false, .bool false, .bool false, .pointer (some ⟨g2, 0, none⟩), .int .i64 s.W, .int .i64 (s.W % 16), .bool false, .bool false, .bool false, .pointer (some ⟨g2, 1, none⟩), .int .i64 s.H, .bool false, .bool false, .bool false, .pointer (some ⟨g2, 1, none⟩), .int .i64 s.H, .bool false, .bool false, .bool false, .pointer (some ⟨g2, 1, none⟩), .int .i64 s.H, .int .i64 (s.H % 16), .bool false, .bool false, .bool false, .pointer (some ⟨g2, 4, none⟩), .bool true, .bool true, .pointer (some ⟨g2, 1, none⟩), .int .i64 s.H, .int .i64 (s.H % 32), .bool false, .bool false, .bool false, .pointer (some ⟨g2, 2, none⟩), .agg #[.int .i64 s.num, .int .i64 s.den], .bool true, .bool false, .bool false, .pointer (some ⟨g2, 2, none⟩), .pointer (some ⟨g2, 2, none⟩), .int .i64 s.num, .bool false, .bool false, .bool false, .pointer (some ⟨g2, 2, none⟩), .pointer (some ⟨g2, 2, none⟩), .int .i64 s.num, .bool false, .bool false, .bool false, .pointer (some ⟨g2, 2, none⟩), .pointer (some ⟨g2, 3, none⟩), .int .i64 s.den, .bool false, .bool false, .pointer (some ⟨g2, 5, none⟩), .int .i64 s.br, .bool true, .bool true, undef, undef, undef, .bool true, .bool true, undef, undef, undef, .bool true, .bool true, undef, undef, undef, .bool true, undef, undef, undef, undef, undef, undef, undef, undef, undef, undef, undef, undef, undef, undef, undef, undef, undef, undef, undef, undef, undef, undef, undef, undef, undef, undef, undef, undef], []⟩) (by kernel_rfl) ?_
                            refine wp_cond_true (by kernel_rfl) ?_
                            refine wp_seq_k (fun K20 hK20 => ?_)
                            refine wl_region ?_
                            refine st_val (.bool false) (by kernel_rfl) (by kernel_rfl) ?_
                            refine wl_nil ?_
                            refine hK20 _ _ ?_
                            try clear hK20 K20
                            refine wp_ret ?_
                            refine th_ret ?_
                            exact done1 2 (.bool false) (by kernel_rfl) (by kernel_rfl) (by kernel_rfl) ⟨by rw [sB_f (fun h => by obtain ⟨h1, h2, h3, h4, h5, h6, h7, h8, h9, h10, h11, h12, h13, h14, h15, h16, h17, h18⟩ := h; first | omega | (have := h7 hil; omega) | (rw [hR] at h8; exact Bool.noConfusion h8) | (rw [hA] at h17; exact Bool.noConfusion h17) | (rw [hB] at h18; exact Bool.noConfusion h18))], M14.toBelow⟩
                          ·
                            refine st_val (.bool false) (by kernel_rfl) (bool_of (dec_f c67) (by kernel_rfl)) ?_
                            refine st_val (.bool false) (by kernel_rfl) (by kernel_rfl) ?_
                            refine st_val (.pointer (some ⟨g2, 5, none⟩)) (by kernel_rfl) (by kernel_rfl) ?_
                            refine st_val (.int .i64 s.br) (by kernel_rfl) (run_load_cell 3 (.tmp 69) rfl ⟨g2, 5, none⟩ (by kernel_rfl) _ (M14.cell 0 rfl 5 _ (sqv_br _)) (by kernel_rfl)) ?_
                            rcases Decidable.em ((s.br : Int) > 16777216) with c71 | c71
                            ·
                              refine st_val (.bool true) (by kernel_rfl) (bool_of (dec_t c71) (by kernel_rfl)) ?_
                              refine st_val (.bool true) (by kernel_rfl) (by kernel_rfl) ?_
                              refine st_val (.bool true) (by kernel_rfl) (by kernel_rfl) ?_
                              refine st_skip (by kernel_rfl) ?_
                              refine st_skip (by kernel_rfl) ?_
                              refine st_skip (by kernel_rfl) ?_
                              refine st_val (.bool true) (by kernel_rfl) (by kernel_rfl) ?_
                              refine st_val (.bool true) (by kernel_rfl) (by kernel_rfl) ?_
                              refine st_skip (by kernel_rfl) ?_
                              refine st_skip (by kernel_rfl) ?_
                              refine st_skip (by kernel_rfl) ?_
                              refine st_val (.bool true) (by kernel_rfl) (by kernel_rfl) ?_
                              refine wl_nil ?_
                              refine hK19 _ _ ?_
                              try clear hK19 K19
                              refine wp_frame (a' := ⟨#[.agg (sqv s), .pointer (some ⟨g2, 0, none⟩), .bool false, .pointer (some ⟨g2, 0, none⟩), .int .i64 s.W, .bool false, .bool false, .pointer (some ⟨g2, 0, none⟩), .int .i64 s.W, .bool false, .bool false, .bool false, .pointer (some ⟨g2, 0, none⟩), .int .i64 s.W, .int .i64 (s.W % 16), .bool false, .bool false, .bool false, .pointer (some ⟨g2, 1, none⟩), .int .i64 s.H, .bool false, .bool false, .bool false, .pointer (some ⟨g2, 1, none⟩), .int .i64 s.H, .bool false, .bool false, .bool false, .pointer (some ⟨g2, 1, none⟩), .int .i64 s.H, .int .i64 (s.H % 16), .bool false, .bool false, .bool false, .pointer (some ⟨g2, 4, none⟩), .bool true, .bool true, .pointer (some ⟨g2, 1, none⟩), .int .i64 s.H, .int .i64 (s.H % 32), .bool false, .bool false, .bool false, .pointer (some ⟨g2, 2, none⟩), .agg #[.int .i64 s.num, .int .i64 s.den], .bool true, .bool false, .bool false, .pointer (some ⟨g2, 2, none⟩), .pointer (some ⟨g2, 2, none⟩), .int .i64 s.num, .bool false, .bool false, .bool false, .pointer (some ⟨g2, 2, none⟩), .pointer (some ⟨g2, 2, none⟩), .int .i64 s.num, .bool false, .bool false, .bool false, .pointer (some ⟨g2, 2, none⟩), .pointer (some ⟨g2, 3, none⟩), .int .i64 s.den, .bool false, .bool false, .pointer (some ⟨g2, 5, none⟩), .int .i64 s.br, .bool false, .bool false, .pointer (some ⟨g2, 5, none⟩), .int .i64 s.br, .bool true, .bool true, .bool true, undef, undef, undef, .bool true, .bool true, undef, undef, undef, .bool true, undef, undef, undef, undef, undef, undef, undef, undef, undef, undef, undef, undef, undef, undef, undef, undef, undef, undef, undef, undef, undef, undef, undef, undef, undef, undef, undef, undef], []⟩) (by kernel_rfl) ?_
                              refine wp_cond_true (by kernel_rfl) ?_
                              refine wp_seq_k (fun K21 hK21 => ?_)
                              refine wl_region ?_
                              refine st_val (.bool false) (by kernel_rfl) (by kernel_rfl) ?_
                              refine wl_nil ?_
                              refine hK21 _ _ ?_
                              try clear hK21 K21
                              refine wp_ret ?_
                              refine th_ret ?_
                              exact done1 2 (.bool false) (by kernel_rfl) (by kernel_rfl) (by kernel_rfl) ⟨by rw [sB_f (fun h => by obtain ⟨h1, h2, h3, h4, h5, h6, h7, h8, h9, h10, h11, h12, h13, h14, h15, h16, h17, h18⟩ := h; first | omega | (have := h7 hil; omega) | (rw [hR] at h8; exact Bool.noConfusion h8) | (rw [hA] at h17; exact Bool.noConfusion h17) | (rw [hB] at h18; exact Bool.noConfusion h18))], M14.toBelow⟩
                            ·
                              refine st_val (.bool false) (by kernel_rfl) (bool_of (dec_f c71) (by kernel_rfl)) ?_
                              refine st_val (.bool false) (by kernel_rfl) (by kernel_rfl) ?_
                              refine st_val (.bool false) (by kernel_rfl) (by kernel_rfl) ?_
                              refine st_val (.pointer (some ⟨g2, 6, none⟩)) (by kernel_rfl) (by kernel_rfl) ?_
                              refine st_val (.int .i64 s.bu) (by kernel_rfl) (run_load_cell 3 (.tmp 74) rfl ⟨g2, 6, none⟩ (by kernel_rfl) _ (M14.cell 0 rfl 6 _ (sqv_bu _)) (by kernel_rfl)) ?_
                              rcases Decidable.em ((s.bu : Int) < 1) with c76 | c76
                              ·
                                refine st_val (.bool true) (by kernel_rfl) (bool_of (dec_t c76) (by kernel_rfl)) ?_
                                refine st_val (.bool true) (by kernel_rfl) (by kernel_rfl) ?_
                                refine st_val (.bool true) (by kernel_rfl) (by kernel_rfl) ?_
                                refine st_skip (by kernel_rfl) ?_
                                refine st_skip (by kernel_rfl) ?_
                                refine st_skip (by kernel_rfl) ?_
                                refine st_val (.bool true) (by kernel_rfl) (by kernel_rfl) ?_
                                refine wl_nil ?_
                                refine hK19 _ _ ?_
                                try clear hK19 K19
                                refine wp_frame (a' := ⟨#[.agg (sqv s), .pointer (some ⟨g2, 0, none⟩), .bool false, .pointer (some ⟨g2, 0, none⟩), .int .i64 s.W, .bool false, .bool false, .pointer (some ⟨g2, 0, none⟩), .int .i64 s.W, .bool false, .bool false, .bool false, .pointer (some ⟨g2, 0, none⟩), .int .i64 s.W, .int .i64 (s.W % 16), .bool false, .bool false, .bool false, .pointer (some ⟨g2, 1, none⟩), .int .i64 s.H, .bool false, .bool false, .bool false, .pointer (some ⟨g2, 1, none⟩), .int .i64 s.H, .bool false, .bool false, .bool false, .pointer (some ⟨g2, 1, none⟩), .int .i64 s.H, .int .i64 (s.H % 16), .bool false, .bool false, .bool false, .pointer (some ⟨g2, 4, none⟩), .bool true, .bool true, .pointer (some ⟨g2, 1, none⟩), .int .i64 s.H, .int .i64 (s.H % 32), .bool false, .bool false, .bool false, .pointer (some ⟨g2, 2, none⟩), .agg #[.int .i64 s.num, .int .i64 s.den], .bool true, .bool false, .bool false, .pointer (some ⟨g2, 2, none⟩), .pointer (some ⟨g2, 2, none⟩), .int .i64 s.num, .bool false, .bool false, .bool false, .pointer (some ⟨g2, 2, none⟩), .pointer (some ⟨g2, 2, none⟩), .int .i64 s.num, .bool false, .bool false, .bool false, .pointer (some ⟨g2, 2, none⟩), .pointer (some ⟨g2, 3, none⟩), .int .i64 s.den, .bool false, .bool false, .pointer (some ⟨g2, 5, none⟩), .int .i64 s.br, .bool false, .bool false, .pointer (some ⟨g2, 5, none⟩), .int .i64 s.br, .bool false, .bool false, .bool false, .pointer (some ⟨g2, 6, none⟩), .int .i64 s.bu, .bool true, .bool true, .bool true, undef, undef, undef, .bool true, undef, undef, undef, undef, undef, undef, undef, undef, undef, undef, undef, undef, undef, undef, undef, undef, undef, undef, undef, undef, undef, undef, undef, undef, undef, undef, undef, undef], []⟩) (by kernel_rfl) ?_
                                refine wp_cond_true (by kernel_rfl) ?_
                                refine wp_seq_k (fun K22 hK22 => ?_)
                                refine wl_region ?_
                                refine st_val (.bool false) (by kernel_rfl) (by kernel_rfl) ?_
                                refine wl_nil ?_
                                refine hK22 _ _ ?_
                                try clear hK22 K22
                                refine wp_ret ?_
                                refine th_ret ?_
                                exact done1 2 (.bool false) (by kernel_rfl) (by kernel_rfl) (by kernel_rfl) ⟨by rw [sB_f (fun h => by obtain ⟨h1, h2, h3, h4, h5, h6, h7, h8, h9, h10, h11, h12, h13, h14, h15, h16, h17, h18⟩ := h; first | omega | (have := h7 hil; omega) | (rw [hR] at h8; exact Bool.noConfusion h8) | (rw [hA] at h17; exact Bool.noConfusion h17) | (rw [hB] at h18; exact Bool.noConfusion h18))], M14.toBelow⟩
                              ·
                                refine st_val (.bool false) (by kernel_rfl) (bool_of (dec_f c76) (by kernel_rfl)) ?_
                                refine st_val (.bool false) (by kernel_rfl) (by kernel_rfl) ?_
                                refine st_val (.bool false) (by kernel_rfl) (by kernel_rfl) ?_
                                refine st_val (.pointer (some ⟨g2, 6, none⟩)) (by kernel_rfl) (by kernel_rfl) ?_
                                refine st_val (.int .i64 s.bu) (by kernel_rfl) (run_load_cell 3 (.tmp 79) rfl ⟨g2, 6, none⟩ (by kernel_rfl) _ (M14.cell 0 rfl 6 _ (sqv_bu _)) (by kernel_rfl)) ?_
                                rcases Decidable.em ((s.bu : Int) > 8388608) with c81 | c81
                                ·
                                  refine st_val (.bool true) (by kernel_rfl) (bool_of (dec_t c81) (by kernel_rfl)) ?_
                                  refine st_val (.bool true) (by kernel_rfl) (by kernel_rfl) ?_
                                  refine wl_nil ?_
                                  refine hK19 _ _ ?_
                                  try clear hK19 K19
                                  refine wp_frame (a' := ⟨#[.agg (sqv s), .pointer (some ⟨g2, 0, none⟩), .bool false, .pointer (some ⟨g2, 0, none⟩), .int .i64 s.W, .bool false, .bool false, .pointer (some ⟨g2, 0, none⟩), .int .i64 s.W, .bool false, .bool false, .bool false, .pointer (some ⟨g2, 0, none⟩), .int .i64 s.W, .int .i64 (s.W % 16), .bool false, .bool false, .bool false, .pointer (some ⟨g2, 1, none⟩), .int .i64 s.H, .bool false, .bool false, .bool false, .pointer (some ⟨g2, 1, none⟩), .int .i64 s.H, .bool false, .bool false, .bool false, .pointer (some ⟨g2, 1, none⟩), .int .i64 s.H, .int .i64 (s.H % 16), .bool false, .bool false, .bool false, .pointer (some ⟨g2, 4, none⟩), .bool true, .bool true, .pointer (some ⟨g2, 1, none⟩), .int .i64 s.H, .int .i64 (s.H % 32), .bool false, .bool false, .bool false, .pointer (some ⟨g2, 2, none⟩), .agg #[.int .i64 s.num, .int .i64 s.den], .bool true, .bool false, .bool false, .pointer (some ⟨g2, 2, none⟩), .pointer (some ⟨g2, 2, none⟩), .int .i64 s.num, .bool false, .bool false, .bool false, .pointer (some ⟨g2, 2, none⟩), .pointer (some ⟨g2, 2, none⟩), .int .i64 s.num, .bool false, .bool false, .bool false, .pointer (some ⟨g2, 2, none⟩), .pointer (some ⟨g2, 3, none⟩), .int .i64 s.den, .bool false, .bool false, .pointer (some ⟨g2, 5, none⟩), .int .i64 s.br, .bool false, .bool false, .pointer (some ⟨g2, 5, none⟩), .int .i64 s.br, .bool false, .bool false, .bool false, .pointer (some ⟨g2, 6, none⟩), .int .i64 s.bu, .bool false, .bool false, .bool false, .pointer (some ⟨g2, 6, none⟩), .int .i64 s.bu, .bool true, .bool true, undef, undef, undef, undef, undef, undef, undef, undef, undef, undef, undef, undef, undef, undef, undef, undef, undef, undef, undef, undef, undef, undef, undef, undef, undef, undef, undef, undef], []⟩) (by kernel_rfl) ?_
                                  refine wp_cond_true (by kernel_rfl) ?_
                                  refine wp_seq_k (fun K23 hK23 => ?_)
                                  refine wl_region ?_
                                  refine st_val (.bool false) (by kernel_rfl) (by kernel_rfl) ?_
                                  refine wl_nil ?_
                                  refine hK23 _ _ ?_
                                  try clear hK23 K23
                                  refine wp_ret ?_
                                  refine th_ret ?_
                                  exact done1 2 (.bool false) (by kernel_rfl) (by kernel_rfl) (by kernel_rfl) ⟨by rw [sB_f (fun h => by obtain ⟨h1, h2, h3, h4, h5, h6, h7, h8, h9, h10, h11, h12, h13, h14, h15, h16, h17, h18⟩ := h; first | omega | (have := h7 hil; omega) | (rw [hR] at h8; exact Bool.noConfusion h8) | (rw [hA] at h17; exact Bool.noConfusion h17) | (rw [hB] at h18; exact Bool.noConfusion h18))], M14.toBelow⟩
                                ·
                                  refine st_val (.bool false) (by kernel_rfl) (bool_of (dec_f c81) (by kernel_rfl)) ?_
                                  refine st_val (.bool false) (by kernel_rfl) (by kernel_rfl) ?_
                                  refine wl_nil ?_
                                  refine hK19 _ _ ?_
                                  try clear hK19 K19
                                  refine wp_frame (a' := ⟨#[.agg (sqv s), .pointer (some ⟨g2, 0, none⟩), .bool false, .pointer (some ⟨g2, 0, none⟩), .int .i64 s.W, .bool false, .bool false, .pointer (some ⟨g2, 0, none⟩), .int .i64 s.W, .bool false, .bool false, .bool false, .pointer (some ⟨g2, 0, none⟩), .int .i64 s.W, .int .i64 (s.W % 16), .bool false, .bool false, .bool false, .pointer (some ⟨g2, 1, none⟩), .int .i64 s.H, .bool false, .bool false, .bool false, .pointer (some ⟨g2, 1, none⟩), .int .i64 s.H, .bool false, .bool false, .bool false, .pointer (some ⟨g2, 1, none⟩), .int .i64 s.H, .int .i64 (s.H % 16), .bool false, .bool false, .bool false, .pointer (some ⟨g2, 4, none⟩), .bool true, .bool true, .pointer (some ⟨g2, 1, none⟩), .int .i64 s.H, .int .i64 (s.H % 32), .bool false, .bool false, .bool false, .pointer (some ⟨g2, 2, none⟩), .agg #[.int .i64 s.num, .int .i64 s.den], .bool true, .bool false, .bool false, .pointer (some ⟨g2, 2, none⟩), .pointer (some ⟨g2, 2, none⟩), .int .i64 s.num, .bool false, .bool false, .bool false, .pointer (some ⟨g2, 2, none⟩), .pointer (some ⟨g2, 2, none⟩), .int .i64 s.num, .bool false, .bool false, .bool false, .pointer (some ⟨g2, 2, none⟩), .pointer (some ⟨g2, 3, none⟩), .int .i64 s.den, .bool false, .bool false, .pointer (some ⟨g2, 5, none⟩), .int .i64 s.br, .bool false, .bool false, .pointer (some ⟨g2, 5, none⟩), .int .i64 s.br, .bool false, .bool false, .bool false, .pointer (some ⟨g2, 6, none⟩), .int .i64 s.bu, .bool false, .bool false, .bool false, .pointer (some ⟨g2, 6, none⟩), .int .i64 s.bu, .bool false, .bool false, undef, undef, undef, undef, undef, undef, undef, undef, undef, undef, undef, undef, undef, undef, undef, undef, undef, undef, undef, undef, undef, undef, undef, undef, undef, undef, undef, undef], []⟩) (by kernel_rfl) ?_
                                  refine wp_cond_false (by kernel_rfl) ?_
                                  refine wp_skip ?_
                                  refine hK18 _ _ ?_
                                  try clear hK18 K18
                                  refine wp_seq_k (fun K24 hK24 => ?_)
                                  refine wp_seq_k (fun K25 hK25 => ?_)
                                  have hP := sv_prods (num := s.num) (den := s.den) (br := s.br) (bu := s.bu) (by omega) (by omega) (by omega) (by omega) (by omega) (by omega) (by omega) (by omega)
                                  refine wl_region ?_
                                  refine st_val (.pointer (some ⟨g2, 2, none⟩)) (by kernel_rfl) (by kernel_rfl) ?_
                                  refine st_val (.pointer (some ⟨g2, 2, none⟩)) (by kernel_rfl) (by kernel_rfl) ?_
                                  refine st_val (.int .i64 s.num) (by kernel_rfl) (run_load_cell 2 (.tmp 84) rfl ⟨g2, 2, none⟩ (by kernel_rfl) _ (M14.cell 0 rfl 2 _ (sqv_num _)) (by kernel_rfl)) ?_
                                  refine st_val (.int .i64 (2 * s.num)) (by kernel_rfl) (i64_of (by omega) (by kernel_rfl)) ?_
                                  refine st_val (.pointer (some ⟨g2, 6, none⟩)) (by kernel_rfl) (by kernel_rfl) ?_
                                  refine st_val (.int .i64 s.bu) (by kernel_rfl) (run_load_cell 3 (.tmp 87) rfl ⟨g2, 6, none⟩ (by kernel_rfl) _ (M14.cell 0 rfl 6 _ (sqv_bu _)) (by kernel_rfl)) ?_
                                  refine st_val (.int .i64 ((2 * s.num) * s.bu)) (by kernel_rfl) (i64_of (by omega) (by kernel_rfl)) ?_
                                  refine st_val (.pointer (some ⟨g2, 2, none⟩)) (by kernel_rfl) (by kernel_rfl) ?_
                                  refine st_val (.pointer (some ⟨g2, 3, none⟩)) (by kernel_rfl) (by kernel_rfl) ?_
                                  refine st_val (.int .i64 s.den) (by kernel_rfl) (run_load_cell 2 (.tmp 91) rfl ⟨g2, 3, none⟩ (by kernel_rfl) _ (M14.cell 0 rfl 3 _ (sqv_den _)) (by kernel_rfl)) ?_
                                  refine st_val (.int .i64 (3 * s.den)) (by kernel_rfl) (i64_of (by omega) (by kernel_rfl)) ?_
                                  refine st_val (.pointer (some ⟨g2, 5, none⟩)) (by kernel_rfl) (by kernel_rfl) ?_
                                  refine st_val (.int .i64 s.br) (by kernel_rfl) (run_load_cell 3 (.tmp 94) rfl ⟨g2, 5, none⟩ (by kernel_rfl) _ (M14.cell 0 rfl 5 _ (sqv_br _)) (by kernel_rfl)) ?_
                                  refine st_val (.int .i64 ((3 * s.den) * s.br)) (by kernel_rfl) (i64_of (by omega) (by kernel_rfl)) ?_
                                  refine st_val (.pointer (some ⟨g2, 2, none⟩)) (by kernel_rfl) (by kernel_rfl) ?_
                                  refine st_val (.pointer (some ⟨g2, 2, none⟩)) (by kernel_rfl) (by kernel_rfl) ?_
                                  refine st_val (.int .i64 s.num) (by kernel_rfl) (run_load_cell 2 (.tmp 98) rfl ⟨g2, 2, none⟩ (by kernel_rfl) _ (M14.cell 0 rfl 2 _ (sqv_num _)) (by kernel_rfl)) ?_
                                  refine st_val (.int .i64 (32 * s.num)) (by kernel_rfl) (i64_of (by omega) (by kernel_rfl)) ?_
                                  refine st_val (.int .i64 (((3 * s.den) * s.br) + (32 * s.num))) (by kernel_rfl) (i64_of (by omega) (by kernel_rfl)) ?_
                                  rcases Decidable.em (((2 * s.num) * s.bu : Int) < ((3 * s.den) * s.br) + (32 * s.num)) with c102 | c102
                                  ·
                                    refine st_val (.bool true) (by kernel_rfl) (bool_of (dec_t c102) (by kernel_rfl)) ?_
                                    refine wl_nil ?_
                                    refine hK25 _ _ ?_
                                    try clear hK25 K25
                                    refine wp_frame (a' := ⟨#[.agg (sqv s), .pointer (some ⟨g2, 0, none⟩), .bool false, .pointer (some ⟨g2, 0, none⟩), .int .i64 s.W, .bool false, .bool false, .pointer (some ⟨g2, 0, none⟩), .int .i64 s.W, .bool false, .bool false, .bool false, .pointer (some ⟨g2, 0, none⟩), .int .i64 s.W, .int .i64 (s.W % 16), .bool false, .bool false, .bool false, .pointer (some ⟨g2, 1, none⟩), .int .i64 s.H, .bool false, .bool false, .bool false, .pointer (some ⟨g2, 1, none⟩), .int .i64 s.H, .bool false, .bool false, .bool false, .pointer (some ⟨g2, 1, none⟩), .int .i64 s.H, .int .i64 (s.H % 16), .bool false, .bool false, .bool false, .pointer (some ⟨g2, 4, none⟩), .bool true, .bool true, .pointer (some ⟨g2, 1, none⟩), .int .i64 s.H, .int .i64 (s.H % 32), .bool false, .bool false, .bool false, .pointer (some ⟨g2, 2, none⟩), .agg #[.int .i64 s.num, .int .i64 s.den], .bool true, .bool false, .bool false, .pointer (some ⟨g2, 2, none⟩), .pointer (some ⟨g2, 2, none⟩), .int .i64 s.num, .bool false, .bool false, .bool false, .pointer (some ⟨g2, 2, none⟩), .pointer (some ⟨g2, 2, none⟩), .int .i64 s.num, .bool false, .bool false, .bool false, .pointer (some ⟨g2, 2, none⟩), .pointer (some ⟨g2, 3, none⟩), .int .i64 s.den, .bool false, .bool false, .pointer (some ⟨g2, 5, none⟩), .int .i64 s.br, .bool false, .bool false, .pointer (some ⟨g2, 5, none⟩), .int .i64 s.br, .bool false, .bool false, .bool false, .pointer (some ⟨g2, 6, none⟩), .int .i64 s.bu, .bool false, .bool false, .bool false, .pointer (some ⟨g2, 6, none⟩), .int .i64 s.bu, .bool false, .bool false, .pointer (some ⟨g2, 2, none⟩), .pointer (some ⟨g2, 2, none⟩), .int .i64 s.num, .int .i64 (2 * s.num), .pointer (some ⟨g2, 6, none⟩), .int .i64 s.bu, .int .i64 ((2 * s.num) * s.bu), .pointer (some ⟨g2, 2, none⟩), .pointer (some ⟨g2, 3, none⟩), .int .i64 s.den, .int .i64 (3 * s.den), .pointer (some ⟨g2, 5, none⟩), .int .i64 s.br, .int .i64 ((3 * s.den) * s.br), .pointer (some ⟨g2, 2, none⟩), .pointer (some ⟨g2, 2, none⟩), .int .i64 s.num, .int .i64 (32 * s.num), .int .i64 (((3 * s.den) * s.br) + (32 * s.num)), .bool true, undef, undef, undef, undef, undef, undef, undef, undef], []⟩) (by kernel_rfl) ?_
                                    refine wp_cond_true (by kernel_rfl) ?_
                                    refine wp_seq_k (fun K26 hK26 => ?_)
                                    refine wl_region ?_
                                    refine st_val (.bool false) (by kernel_rfl) (by kernel_rfl) ?_
                                    refine wl_nil ?_
                                    refine hK26 _ _ ?_
                                    try clear hK26 K26
                                    refine wp_ret ?_
                                    refine th_ret ?_
                                    exact done1 2 (.bool false) (by kernel_rfl) (by kernel_rfl) (by kernel_rfl) ⟨by rw [sB_f (fun h => by obtain ⟨h1, h2, h3, h4, h5, h6, h7, h8, h9, h10, h11, h12, h13, h14, h15, h16, h17, h18⟩ := h; first | omega | (have := h7 hil; omega) | (rw [hR] at h8; exact Bool.noConfusion h8) | (rw [hA] at h17; exact Bool.noConfusion h17) | (rw [hB] at h18; exact Bool.noConfusion h18))], M14.toBelow⟩
                                  ·
                                    refine st_val (.bool false) (by kernel_rfl) (bool_of (dec_f c102) (by kernel_rfl)) ?_
                                    refine wl_nil ?_
                                    refine hK25 _ _ ?_
                                    try clear hK25 K25
                                    refine wp_frame (a' := ⟨#[.agg (sqv s), .pointer (some ⟨g2, 0, none⟩), .bool false, .pointer (some ⟨g2, 0, none⟩), .int .i64 s.W, .bool false, .bool false, .pointer (some ⟨g2, 0, none⟩), .int .i64 s.W, .bool false, .bool false, .bool false, .pointer (some ⟨g2, 0, none⟩), .int .i64 s.W, .int .i64 (s.W % 16), .bool false, .bool false, .bool false, .pointer (some ⟨g2, 1, none⟩), .int .i64 s.H, .bool false, .bool false, .bool false, .pointer (some ⟨g2, 1, none⟩), .int .i64 s.H, .bool false, .bool false, .bool false, .pointer (some ⟨g2, 1, none⟩), .int .i64 s.H, .int .i64 (s.H % 16), .bool false, .bool false, .bool false, .pointer (some ⟨g2, 4, none⟩), .bool true, .bool true, .pointer (some ⟨g2, 1, none⟩), .int .i64 s.H, .int .i64 (s.H % 32), .bool false, .bool false, .bool false, .pointer (some ⟨g2, 2, none⟩), .agg #[.int .i64 s.num, .int .i64 s.den], .bool true, .bool false, .bool false, .pointer (some ⟨g2, 2, none⟩), .pointer (some ⟨g2, 2, none⟩), .int .i64 s.num, .bool false, .bool false, .bool false, .pointer (some ⟨g2, 2, none⟩), .pointer (some ⟨g2, 2, none⟩), .int .i64 s.num, .bool false, .bool false, .bool false, .pointer (some ⟨g2, 2, none⟩), .pointer (some ⟨g2, 3, none⟩), .int .i64 s.den, .bool false, .bool false, .pointer (some ⟨g2, 5, none⟩), .int .i64 s.br, .bool false, .bool false, .pointer (some ⟨g2, 5, none⟩), .int .i64 s.br, .bool false, .bool false, .bool false, .pointer (some ⟨g2, 6, none⟩), .int .i64 s.bu, .bool false, .bool false, .bool false, .pointer (some ⟨g2, 6, none⟩), .int .i64 s.bu, .bool false, .bool false, .pointer (some ⟨g2, 2, none⟩), .pointer (some ⟨g2, 2, none⟩), .int .i64 s.num, .int .i64 (2 * s.num), .pointer (some ⟨g2, 6, none⟩), .int .i64 s.bu, .int .i64 ((2 * s.num) * s.bu), .pointer (some ⟨g2, 2, none⟩), .pointer (some ⟨g2, 3, none⟩), .int .i64 s.den, .int .i64 (3 * s.den), .pointer (some ⟨g2, 5, none⟩), .int .i64 s.br, .int .i64 ((3 * s.den) * s.br), .pointer (some ⟨g2, 2, none⟩), .pointer (some ⟨g2, 2, none⟩), .int .i64 s.num, .int .i64 (32 * s.num), .int .i64 (((3 * s.den) * s.br) + (32 * s.num)), .bool false, undef, undef, undef, undef, undef, undef, undef, undef], []⟩) (by kernel_rfl) ?_
                                    refine wp_cond_false (by kernel_rfl) ?_
                                    refine wp_skip ?_
                                    refine hK24 _ _ ?_
                                    try clear hK24 K24
                                    refine wp_seq_k (fun K27 hK27 => ?_)
                                    refine wl_region ?_
                                    refine st_val (.pointer (some ⟨g2, 7, none⟩)) (by kernel_rfl) (by kernel_rfl) ?_
                                    refine st_val (.agg (bv s.a)) (by kernel_rfl) (run_load_mid 24 (.tmp 103) rfl g2 7 (by kernel_rfl) (s.a.map (Value.int .u8)) _ (M14.range 0 rfl 7 _ (sqv_a _)) Try.underlying24 rfl (infoB hs.la)) ?_
                                    rcases Bool.eq_false_or_eq_true (vB s.a) with hA | hA
                                    ·
                                      refine st_callB M14 (.bool true) (by kernel_rfl) (args := #[.agg (bv s.a)]) (run_value_call 40 #[(Operand.tmp 104)] _ rfl Try.func40 (by kernel_rfl) (by kernel_rfl) _ (by kernel_rfl)) ((by have := refValid_walk W13 s.a hs.la; rw [hA] at this; exact this)) ?_
                                      intro W28 M29
                                      refine st_val (.bool true) (by kernel_rfl) (by kernel_rfl) ?_
                                      refine st_val (.pointer (some ⟨g2, 71, none⟩)) (by kernel_rfl) (by kernel_rfl) ?_
                                      refine st_val (.agg (bv s.b)) (by kernel_rfl) (run_load_mid 24 (.tmp 107) rfl g2 71 (by kernel_rfl) (s.b.map (Value.int .u8)) _ (M29.range 0 rfl 71 _ (sqv_b hs.la)) Try.underlying24 rfl (infoB hs.lb)) ?_
                                      rcases Bool.eq_false_or_eq_true (vB s.b) with hB | hB
                                      ·
                                        refine st_callB M29 (.bool true) (by kernel_rfl) (args := #[.agg (bv s.b)]) (run_value_call 40 #[(Operand.tmp 108)] _ rfl Try.func40 (by kernel_rfl) (by kernel_rfl) _ (by kernel_rfl)) ((by have := refValid_walk W28 s.b hs.lb; rw [hB] at this; exact this)) ?_
                                        intro W30 M31
                                        refine st_val (.bool true) (by kernel_rfl) (by kernel_rfl) ?_
                                        refine st_val (.bool true) (by kernel_rfl) (by kernel_rfl) ?_
                                        refine wl_nil ?_
                                        refine hK27 _ _ ?_
                                        try clear hK27 K27
                                        refine wp_ret ?_
                                        exact done1 2 (.bool true) (by kernel_rfl) (by kernel_rfl) (by kernel_rfl) ⟨by rw [sB_t ⟨by omega, by omega, by omega, by omega, by omega, by omega, (fun h => by first | omega | (rw [hil] at h; cases h)), hR, by omega, by omega, by omega, by omega, by omega, by omega, by omega, by omega, hA, hB⟩], M31.toBelow⟩
                                      ·
                                        refine st_callB M29 (.bool false) (by kernel_rfl) (args := #[.agg (bv s.b)]) (run_value_call 40 #[(Operand.tmp 108)] _ rfl Try.func40 (by kernel_rfl) (by kernel_rfl) _ (by kernel_rfl)) ((by have := refValid_walk W28 s.b hs.lb; rw [hB] at this; exact this)) ?_
                                        intro W32 M33
                                        refine st_val (.bool false) (by kernel_rfl) (by kernel_rfl) ?_
                                        refine st_val (.bool false) (by kernel_rfl) (by kernel_rfl) ?_
                                        refine wl_nil ?_
                                        refine hK27 _ _ ?_
                                        try clear hK27 K27
                                        refine wp_ret ?_
                                        exact done1 2 (.bool false) (by kernel_rfl) (by kernel_rfl) (by kernel_rfl) ⟨by rw [sB_f (fun h => by obtain ⟨h1, h2, h3, h4, h5, h6, h7, h8, h9, h10, h11, h12, h13, h14, h15, h16, h17, h18⟩ := h; first | omega | (have := h7 hil; omega) | (rw [hR] at h8; exact Bool.noConfusion h8) | (rw [hA] at h17; exact Bool.noConfusion h17) | (rw [hB] at h18; exact Bool.noConfusion h18))], M33.toBelow⟩
                                    ·
                                      refine st_callB M14 (.bool false) (by kernel_rfl) (args := #[.agg (bv s.a)]) (run_value_call 40 #[(Operand.tmp 104)] _ rfl Try.func40 (by kernel_rfl) (by kernel_rfl) _ (by kernel_rfl)) ((by have := refValid_walk W13 s.a hs.la; rw [hA] at this; exact this)) ?_
                                      intro W34 M35
                                      refine st_val (.bool false) (by kernel_rfl) (by kernel_rfl) ?_
                                      refine st_skip (by kernel_rfl) ?_
                                      refine st_skip (by kernel_rfl) ?_
                                      refine st_skip (by kernel_rfl) ?_
                                      refine st_val (.bool false) (by kernel_rfl) (by kernel_rfl) ?_
                                      refine st_val (.bool false) (by kernel_rfl) (by kernel_rfl) ?_
                                      refine wl_nil ?_
                                      refine hK27 _ _ ?_
                                      try clear hK27 K27
                                      refine wp_ret ?_
                                      exact done1 2 (.bool false) (by kernel_rfl) (by kernel_rfl) (by kernel_rfl) ⟨by rw [sB_f (fun h => by obtain ⟨h1, h2, h3, h4, h5, h6, h7, h8, h9, h10, h11, h12, h13, h14, h15, h16, h17, h18⟩ := h; first | omega | (have := h7 hil; omega) | (rw [hR] at h8; exact Bool.noConfusion h8) | (rw [hA] at h17; exact Bool.noConfusion h17) | (rw [hB] at h18; exact Bool.noConfusion h18))], M35.toBelow⟩
                  ·
                    refine st_callB M4 (.bool false) (by kernel_rfl) (args := #[.agg #[.int .i64 s.num, .int .i64 s.den]]) (run_value_call 39 #[(Operand.tmp 44)] _ rfl Try.func39 (by kernel_rfl) (by kernel_rfl) _ (by kernel_rfl)) ((by have := refRval_walk W3 s.num s.den hs.num hs.den; rw [hR] at this; exact this)) ?_
                    intro W36 M37
                    refine st_val (.bool true) (by kernel_rfl) (by kernel_rfl) ?_
                    refine st_val (.bool true) (by kernel_rfl) (by kernel_rfl) ?_
                    refine st_skip (by kernel_rfl) ?_
                    refine st_skip (by kernel_rfl) ?_
                    refine st_skip (by kernel_rfl) ?_
                    refine st_skip (by kernel_rfl) ?_
                    refine st_val (.bool true) (by kernel_rfl) (by kernel_rfl) ?_
                    refine st_val (.bool true) (by kernel_rfl) (by kernel_rfl) ?_
                    refine st_skip (by kernel_rfl) ?_
                    refine st_skip (by kernel_rfl) ?_
                    refine st_skip (by kernel_rfl) ?_
                    refine st_skip (by kernel_rfl) ?_
                    refine st_val (.bool true) (by kernel_rfl) (by kernel_rfl) ?_
                    refine st_val (.bool true) (by kernel_rfl) (by kernel_rfl) ?_
                    refine st_skip (by kernel_rfl) ?_
                    refine st_skip (by kernel_rfl) ?_
                    refine st_skip (by kernel_rfl) ?_
                    refine st_skip (by kernel_rfl) ?_
                    refine st_val (.bool true) (by kernel_rfl) (by kernel_rfl) ?_
                    refine wl_nil ?_
                    refine hK12 _ _ ?_
                    try clear hK12 K12
                    refine wp_frame (a' := ⟨#[.agg (sqv s), .pointer (some ⟨g2, 0, none⟩), .bool false, .pointer (some ⟨g2, 0, none⟩), .int .i64 s.W, .bool false, .bool false, .pointer (some ⟨g2, 0, none⟩), .int .i64 s.W, .bool false, .bool false, .bool false, .pointer (some ⟨g2, 0, none⟩), .int .i64 s.W, .int .i64 (s.W % 16), .bool false, .bool false, .bool false, .pointer (some ⟨g2, 1, none⟩), .int .i64 s.H, .bool false, .bool false, .bool false, .pointer (some ⟨g2, 1, none⟩), .int .i64 s.H, .bool false, .bool false, .bool false, .pointer (some ⟨g2, 1, none⟩), .int .i64 s.H, .int .i64 (s.H % 16), .bool false, .bool false, .bool false, .pointer (some ⟨g2, 4, none⟩), .bool true, .bool true, .pointer (some ⟨g2, 1, none⟩), .int .i64 s.H, .int .i64 (s.H % 32), .bool false, .bool false, .bool false, .pointer (some ⟨g2, 2, none⟩), .agg #[.int .i64 s.num, .int .i64 s.den], .bool false, .bool true, .bool true, undef, undef, undef, undef, .bool true, .bool true, undef, undef, undef, undef, .bool true, .bool true, undef, undef, undef, undef, .bool true, undef, undef, undef, undef, undef, undef, undef, undef, undef, undef, undef, undef, undef, undef, undef, undef, undef, undef, undef, undef, undef, undef, undef, undef, undef, undef, undef, undef, undef, undef, undef, undef, undef, undef, undef, undef, undef, undef, undef, undef, undef, undef, undef, undef, undef, undef], []⟩) (by kernel_rfl) ?_
                    refine wp_cond_true (by kernel_rfl) ?_
                    refine wp_seq_k (fun K38 hK38 => ?_)
                    refine wl_region ?_
                    refine st_val (.bool false) (by kernel_rfl) (by kernel_rfl) ?_
                    refine wl_nil ?_
                    refine hK38 _ _ ?_
                    try clear hK38 K38
                    refine wp_ret ?_
                    refine th_ret ?_
                    exact done1 2 (.bool false) (by kernel_rfl) (by kernel_rfl) (by kernel_rfl) ⟨by rw [sB_f (fun h => by obtain ⟨h1, h2, h3, h4, h5, h6, h7, h8, h9, h10, h11, h12, h13, h14, h15, h16, h17, h18⟩ := h; first | omega | (have := h7 hil; omega) | (rw [hR] at h8; exact Bool.noConfusion h8) | (rw [hA] at h17; exact Bool.noConfusion h17) | (rw [hB] at h18; exact Bool.noConfusion h18))], M37.toBelow⟩
                ·
                  refine st_val (.bool true) (by kernel_rfl) (bool_of (neq_t c40) (by kernel_rfl)) ?_
                  refine st_val (.bool true) (by kernel_rfl) (by kernel_rfl) ?_
                  refine st_val (.bool true) (by kernel_rfl) (by kernel_rfl) ?_
                  refine wl_nil ?_
                  refine hK6 _ _ ?_
                  try clear hK6 K6
                  refine wp_frame (a' := ⟨#[.agg (sqv s), .pointer (some ⟨g2, 0, none⟩), .bool false, .pointer (some ⟨g2, 0, none⟩), .int .i64 s.W, .bool false, .bool false, .pointer (some ⟨g2, 0, none⟩), .int .i64 s.W, .bool false, .bool false, .bool false, .pointer (some ⟨g2, 0, none⟩), .int .i64 s.W, .int .i64 (s.W % 16), .bool false, .bool false, .bool false, .pointer (some ⟨g2, 1, none⟩), .int .i64 s.H, .bool false, .bool false, .bool false, .pointer (some ⟨g2, 1, none⟩), .int .i64 s.H, .bool false, .bool false, .bool false, .pointer (some ⟨g2, 1, none⟩), .int .i64 s.H, .int .i64 (s.H % 16), .bool false, .bool false, .bool false, .pointer (some ⟨g2, 4, none⟩), .bool true, .bool true, .pointer (some ⟨g2, 1, none⟩), .int .i64 s.H, .int .i64 (s.H % 32), .bool true, .bool true, .bool true, undef, undef, undef, undef, undef, undef, undef, undef, undef, undef, undef, undef, undef, undef, undef, undef, undef, undef, undef, undef, undef, undef, undef, undef, undef, undef, undef, undef, undef, undef, undef, undef, undef, undef, undef, undef, undef, undef, undef, undef, undef, undef, undef, undef, undef, undef, undef, undef, undef, undef, undef, undef, undef, undef, undef, undef, undef, undef, undef, undef, undef, undef, undef, undef, undef, undef, undef, undef], []⟩) (by kernel_rfl) ?_
                  refine wp_cond_true (by kernel_rfl) ?_
                  refine wp_seq_k (fun K39 hK39 => ?_)
                  refine wl_region ?_
                  refine st_val (.bool false) (by kernel_rfl) (by kernel_rfl) ?_
                  refine wl_nil ?_
                  refine hK39 _ _ ?_
                  try clear hK39 K39
                  refine wp_ret ?_
                  refine th_ret ?_
                  exact done1 2 (.bool false) (by kernel_rfl) (by kernel_rfl) (by kernel_rfl) ⟨by rw [sB_f (fun h => by obtain ⟨h1, h2, h3, h4, h5, h6, h7, h8, h9, h10, h11, h12, h13, h14, h15, h16, h17, h18⟩ := h; first | omega | (have := h7 hil; omega) | (rw [hR] at h8; exact Bool.noConfusion h8) | (rw [hA] at h17; exact Bool.noConfusion h17) | (rw [hB] at h18; exact Bool.noConfusion h18))], M4.toBelow⟩
              ·
                refine st_val (.bool false) (by kernel_rfl) (run_load_cell 4 (.tmp 34) rfl ⟨g2, 4, none⟩ (by kernel_rfl) _ (M4.cell 0 rfl 4 _ (sqv_ilf hil)) (by kernel_rfl)) ?_
                refine st_val (.bool false) (by kernel_rfl) (by kernel_rfl) ?_
                refine st_skip (by kernel_rfl) ?_
                refine st_skip (by kernel_rfl) ?_
                refine st_skip (by kernel_rfl) ?_
                refine st_skip (by kernel_rfl) ?_
                refine st_val (.bool false) (by kernel_rfl) (by kernel_rfl) ?_
                refine st_val (.bool false) (by kernel_rfl) (by kernel_rfl) ?_
                refine wl_nil ?_
                refine hK6 _ _ ?_
                try clear hK6 K6
                refine wp_frame (a' := ⟨#[.agg (sqv s), .pointer (some ⟨g2, 0, none⟩), .bool false, .pointer (some ⟨g2, 0, none⟩), .int .i64 s.W, .bool false, .bool false, .pointer (some ⟨g2, 0, none⟩), .int .i64 s.W, .bool false, .bool false, .bool false, .pointer (some ⟨g2, 0, none⟩), .int .i64 s.W, .int .i64 (s.W % 16), .bool false, .bool false, .bool false, .pointer (some ⟨g2, 1, none⟩), .int .i64 s.H, .bool false, .bool false, .bool false, .pointer (some ⟨g2, 1, none⟩), .int .i64 s.H, .bool false, .bool false, .bool false, .pointer (some ⟨g2, 1, none⟩), .int .i64 s.H, .int .i64 (s.H % 16), .bool false, .bool false, .bool false, .pointer (some ⟨g2, 4, none⟩), .bool false, .bool false, undef, undef, undef, undef, .bool false, .bool false, undef, undef, undef, undef, undef, undef, undef, undef, undef, undef, undef, undef, undef, undef, undef, undef, undef, undef, undef, undef, undef, undef, undef, undef, undef, undef, undef, undef, undef, undef, undef, undef, undef, undef, undef, undef, undef, undef, undef, undef, undef, undef, undef, undef, undef, undef, undef, undef, undef, undef, undef, undef, undef, undef, undef, undef, undef, undef, undef, undef, undef, undef, undef, undef, undef, undef, undef, undef], []⟩) (by kernel_rfl) ?_
                refine wp_cond_false (by kernel_rfl) ?_
                refine wp_skip ?_
                refine hK5 _ _ ?_
                try clear hK5 K5
                refine wp_seq_k (fun K40 hK40 => ?_)
                refine wp_seq_k (fun K41 hK41 => ?_)
                refine wl_region ?_
                refine st_val (.pointer (some ⟨g2, 2, none⟩)) (by kernel_rfl) (by kernel_rfl) ?_
                refine st_val (.agg #[.int .i64 s.num, .int .i64 s.den]) (by kernel_rfl) (run_load_mid 23 (.tmp 43) rfl g2 2 (by kernel_rfl) [.int .i64 s.num, .int .i64 s.den] _ (M4.range 0 rfl 2 _ (sqv_rate _)) Try.underlying23 rfl (by kernel_rfl)) ?_
                rcases Bool.eq_false_or_eq_true (rV s.num s.den) with hR | hR
                ·
                  have hR1 := rV_den hR
                  refine st_callB M4 (.bool true) (by kernel_rfl) (args := #[.agg #[.int .i64 s.num, .int .i64 s.den]]) (run_value_call 39 #[(Operand.tmp 44)] _ rfl Try.func39 (by kernel_rfl) (by kernel_rfl) _ (by kernel_rfl)) ((by have := refRval_walk W3 s.num s.den hs.num hs.den; rw [hR] at this; exact this)) ?_
                  intro W42 M43
                  refine st_val (.bool false) (by kernel_rfl) (by kernel_rfl) ?_
                  refine st_val (.bool false) (by kernel_rfl) (by kernel_rfl) ?_
                  refine st_val (.pointer (some ⟨g2, 2, none⟩)) (by kernel_rfl) (by kernel_rfl) ?_
                  refine st_val (.pointer (some ⟨g2, 2, none⟩)) (by kernel_rfl) (by kernel_rfl) ?_
                  refine st_val (.int .i64 s.num) (by kernel_rfl) (run_load_cell 2 (.tmp 49) rfl ⟨g2, 2, none⟩ (by kernel_rfl) _ (M43.cell 0 rfl 2 _ (sqv_num _)) (by kernel_rfl)) ?_
                  rcases Decidable.em ((s.num : Int) < 1) with c51 | c51
                  ·
                    refine st_val (.bool true) (by kernel_rfl) (bool_of (dec_t c51) (by kernel_rfl)) ?_
                    refine st_val (.bool true) (by kernel_rfl) (by kernel_rfl) ?_
                    refine st_val (.bool true) (by kernel_rfl) (by kernel_rfl) ?_
                    refine st_skip (by kernel_rfl) ?_
                    refine st_skip (by kernel_rfl) ?_
                    refine st_skip (by kernel_rfl) ?_
                    refine st_skip (by kernel_rfl) ?_
                    refine st_val (.bool true) (by kernel_rfl) (by kernel_rfl) ?_
                    refine st_val (.bool true) (by kernel_rfl) (by kernel_rfl) ?_
                    refine st_skip (by kernel_rfl) ?_
                    refine st_skip (by kernel_rfl) ?_
                    refine st_skip (by kernel_rfl) ?_
                    refine st_skip (by kernel_rfl) ?_
                    refine st_val (.bool true) (by kernel_rfl) (by kernel_rfl) ?_
                    refine wl_nil ?_
                    refine hK41 _ _ ?_
                    try clear hK41 K41
                    refine wp_frame (a' := ⟨#[.agg (sqv s), .pointer (some ⟨g2, 0, none⟩), .bool false, .pointer (some ⟨g2, 0, none⟩), .int .i64 s.W, .bool false, .bool false, .pointer (some ⟨g2, 0, none⟩), .int .i64 s.W, .bool false, .bool false, .bool false, .pointer (some ⟨g2, 0, none⟩), .int .i64 s.W, .int .i64 (s.W % 16), .bool false, .bool false, .bool false, .pointer (some ⟨g2, 1, none⟩), .int .i64 s.H, .bool false, .bool false, .bool false, .pointer (some ⟨g2, 1, none⟩), .int .i64 s.H, .bool false, .bool false, .bool false, .pointer (some ⟨g2, 1, none⟩), .int .i64 s.H, .int .i64 (s.H % 16), .bool false, .bool false, .bool false, .pointer (some ⟨g2, 4, none⟩), .bool false, .bool false, undef, undef, undef, undef, .bool false, .bool false, .pointer (some ⟨g2, 2, none⟩), .agg #[.int .i64 s.num, .int .i64 s.den], .bool true, .bool false, .bool false, .pointer (some ⟨g2, 2, none⟩), .pointer (some ⟨g2, 2, none⟩), .int .i64 s.num, .bool true, .bool true, .bool true, undef, undef, undef, undef, .bool true, .bool true, undef, undef, undef, undef, .bool true, undef, undef, undef, undef, undef, undef, undef, undef, undef, undef, undef, undef, undef, undef, undef, undef, undef, undef, undef, undef, undef, undef, undef, undef, undef, undef, undef, undef, undef, undef, undef, undef, undef, undef, undef, undef, undef, undef, undef, undef, undef, undef, undef, undef, undef, undef], []⟩) (by kernel_rfl) ?_
                    refine wp_cond_true (by kernel_rfl) ?_
                    refine wp_seq_k (fun K44 hK44 => ?_)
                    refine wl_region ?_
                    refine st_val (.bool false) (by kernel_rfl) (by kernel_rfl) ?_
                    refine wl_nil ?_
                    refine hK44 _ _ ?_
                    try clear hK44 K44
                    refine wp_ret ?_
                    refine th_ret ?_
                    exact done1 2 (.bool false) (by kernel_rfl) (by kernel_rfl) (by kernel_rfl) ⟨by rw [sB_f (fun h => by obtain ⟨h1, h2, h3, h4, h5, h6, h7, h8, h9, h10, h11, h12, h13, h14, h15, h16, h17, h18⟩ := h; first | omega | (have := h7 hil; omega) | (rw [hR] at h8; exact Bool.noConfusion h8) | (rw [hA] at h17; exact Bool.noConfusion h17) | (rw [hB] at h18; exact Bool.noConfusion h18))], M43.toBelow⟩
                  ·
                    refine st_val (.bool false) (by kernel_rfl) (bool_of (dec_f c51) (by kernel_rfl)) ?_
                    refine st_val (.bool false) (by kernel_rfl) (by kernel_rfl) ?_
                    refine st_val (.bool false) (by kernel_rfl) (by kernel_rfl) ?_
                    refine st_val (.pointer (some ⟨g2, 2, none⟩)) (by kernel_rfl) (by kernel_rfl) ?_
                    refine st_val (.pointer (some ⟨g2, 2, none⟩)) (by kernel_rfl) (by kernel_rfl) ?_
                    refine st_val (.int .i64 s.num) (by kernel_rfl) (run_load_cell 2 (.tmp 55) rfl ⟨g2, 2, none⟩ (by kernel_rfl) _ (M43.cell 0 rfl 2 _ (sqv_num _)) (by kernel_rfl)) ?_
                    rcases Decidable.em ((s.num : Int) > 1048576) with c57 | c57
                    ·
                      refine st_val (.bool true) (by kernel_rfl) (bool_of (dec_t c57) (by kernel_rfl)) ?_
                      refine st_val (.bool true) (by kernel_rfl) (by kernel_rfl) ?_
                      refine st_val (.bool true) (by kernel_rfl) (by kernel_rfl) ?_
                      refine st_skip (by kernel_rfl) ?_
                      refine st_skip (by kernel_rfl) ?_
                      refine st_skip (by kernel_rfl) ?_
                      refine st_skip (by kernel_rfl) ?_
                      refine st_val (.bool true) (by kernel_rfl) (by kernel_rfl) ?_
                      refine wl_nil ?_
                      refine hK41 _ _ ?_
                      try clear hK41 K41
                      refine wp_frame (a' := ⟨#[.agg (sqv s), .pointer (some ⟨g2, 0, none⟩), .bool false, .pointer (some ⟨g2, 0, none⟩), .int .i64 s.W, .bool false, .bool false, .pointer (some ⟨g2, 0, none⟩), .int .i64 s.W, .bool false, .bool false, .bool false, .pointer (some ⟨g2, 0, none⟩), .int .i64 s.W, .int .i64 (s.W % 16), .bool false, .bool false, .bool false, .pointer (some ⟨g2, 1, none⟩), .int .i64 s.H, .bool false, .bool false, .bool false, .pointer (some ⟨g2, 1, none⟩), .int .i64 s.H, .bool false, .bool false, .bool false, .pointer (some ⟨g2, 1, none⟩), .int .i64 s.H, .int .i64 (s.H % 16), .bool false, .bool false, .bool false, .pointer (some ⟨g2, 4, none⟩), .bool false, .bool false, undef, undef, undef, undef, .bool false, .bool false, .pointer (some ⟨g2, 2, none⟩), .agg #[.int .i64 s.num, .int .i64 s.den], .bool true, .bool false, .bool false, .pointer (some ⟨g2, 2, none⟩), .pointer (some ⟨g2, 2, none⟩), .int .i64 s.num, .bool false, .bool false, .bool false, .pointer (some ⟨g2, 2, none⟩), .pointer (some ⟨g2, 2, none⟩), .int .i64 s.num, .bool true, .bool true, .bool true, undef, undef, undef, undef, .bool true, undef, undef, undef, undef, undef, undef, undef, undef, undef, undef, undef, undef, undef, undef, undef, undef, undef, undef, undef, undef, undef, undef, undef, undef, undef, undef, undef, undef, undef, undef, undef, undef, undef, undef, undef, undef, undef, undef, undef, undef, undef, undef, undef, undef, undef, undef], []⟩) (by kernel_rfl) ?_
                      refine wp_cond_true (by kernel_rfl) ?_
                      refine wp_seq_k (fun K45 hK45 => ?_)
                      refine wl_region ?_
                      refine st_val (.bool false) (by kernel_rfl) (by kernel_rfl) ?_
                      refine wl_nil ?_
                      refine hK45 _ _ ?_
                      try clear hK45 K45
                      refine wp_ret ?_
                      refine th_ret ?_
                      exact done1 2 (.bool false) (by kernel_rfl) (by kernel_rfl) (by kernel_rfl) ⟨by rw [sB_f (fun h => by obtain ⟨h1, h2, h3, h4, h5, h6, h7, h8, h9, h10, h11, h12, h13, h14, h15, h16, h17, h18⟩ := h; first | omega | (have := h7 hil; omega) | (rw [hR] at h8; exact Bool.noConfusion h8) | (rw [hA] at h17; exact Bool.noConfusion h17) | (rw [hB] at h18; exact Bool.noConfusion h18))], M43.toBelow⟩
                    ·
                      refine st_val (.bool false) (by kernel_rfl) (bool_of (dec_f c57) (by kernel_rfl)) ?_
                      refine st_val (.bool false) (by kernel_rfl) (by kernel_rfl) ?_
                      refine st_val (.bool false) (by kernel_rfl) (by kernel_rfl) ?_
                      refine st_val (.pointer (some ⟨g2, 2, none⟩)) (by kernel_rfl) (by kernel_rfl) ?_
                      refine st_val (.pointer (some ⟨g2, 3, none⟩)) (by kernel_rfl) (by kernel_rfl) ?_
                      refine st_val (.int .i64 s.den) (by kernel_rfl) (run_load_cell 2 (.tmp 61) rfl ⟨g2, 3, none⟩ (by kernel_rfl) _ (M43.cell 0 rfl 3 _ (sqv_den _)) (by kernel_rfl)) ?_
                      rcases Decidable.em ((s.den : Int) > 65536) with c63 | c63
                      ·
                        refine st_val (.bool true) (by kernel_rfl) (bool_of (dec_t c63) (by kernel_rfl)) ?_
                        refine st_val (.bool true) (by kernel_rfl) (by kernel_rfl) ?_
                        refine wl_nil ?_
                        refine hK41 _ _ ?_
                        try clear hK41 K41
                        refine wp_frame (a' := ⟨#[.agg (sqv s), .pointer (some ⟨g2, 0, none⟩), .bool false, .pointer (some ⟨g2, 0, none⟩), .int .i64 s.W, .bool false, .bool false, .pointer (some ⟨g2, 0, none⟩), .int .i64 s.W, .bool false, .bool false, .bool false, .pointer (some ⟨g2, 0, none⟩), .int .i64 s.W, .int .i64 (s.W % 16), .bool false, .bool false, .bool false, .pointer (some ⟨g2, 1, none⟩), .int .i64 s.H, .bool false, .bool false, .bool false, .pointer (some ⟨g2, 1, none⟩), .int .i64 s.H, .bool false, .bool false, .bool false, .pointer (some ⟨g2, 1, none⟩), .int .i64 s.H, .int .i64 (s.H % 16), .bool false, .bool false, .bool false, .pointer (some ⟨g2, 4, none⟩), .bool false, .bool false, undef, undef, undef, undef, .bool false, .bool false, .pointer (some ⟨g2, 2, none⟩), .agg #[.int .i64 s.num, .int .i64 s.den], .bool true, .bool false, .bool false, .pointer (some ⟨g2, 2, none⟩), .pointer (some ⟨g2, 2, none⟩), .int .i64 s.num, .bool false, .bool false, .bool false, .pointer (some ⟨g2, 2, none⟩), .pointer (some ⟨g2, 2, none⟩), .int .i64 s.num, .bool false, .bool false, .bool false, .pointer (some ⟨g2, 2, none⟩), .pointer (some ⟨g2, 3, none⟩), .int .i64 s.den, .bool true, .bool true, undef, undef, undef, undef, undef, undef, undef, undef, undef, undef, undef, undef, undef, undef, undef, undef, undef, undef, undef, undef, undef, undef, undef, undef, undef, undef, undef, undef, undef, undef, undef, undef, undef, undef, undef, undef, undef, undef, undef, undef, undef, undef, undef, undef, undef, undef], []⟩) (by kernel_rfl) ?_
                        refine wp_cond_true (by kernel_rfl) ?_
                        refine wp_seq_k (fun K46 hK46 => ?_)
                        refine wl_region ?_
                        refine st_val (.bool false) (by kernel_rfl) (by kernel_rfl) ?_
                        refine wl_nil ?_
                        refine hK46 _ _ ?_
                        try clear hK46 K46
                        refine wp_ret ?_
                        refine th_ret ?_
                        exact done1 2 (.bool false) (by kernel_rfl) (by kernel_rfl) (by kernel_rfl) ⟨by rw [sB_f (fun h => by obtain ⟨h1, h2, h3, h4, h5, h6, h7, h8, h9, h10, h11, h12, h13, h14, h15, h16, h17, h18⟩ := h; first | omega | (have := h7 hil; omega) | (rw [hR] at h8; exact Bool.noConfusion h8) | (rw [hA] at h17; exact Bool.noConfusion h17) | (rw [hB] at h18; exact Bool.noConfusion h18))], M43.toBelow⟩
                      ·
                        refine st_val (.bool false) (by kernel_rfl) (bool_of (dec_f c63) (by kernel_rfl)) ?_
                        refine st_val (.bool false) (by kernel_rfl) (by kernel_rfl) ?_
                        refine wl_nil ?_
                        refine hK41 _ _ ?_
                        try clear hK41 K41
                        refine wp_frame (a' := ⟨#[.agg (sqv s), .pointer (some ⟨g2, 0, none⟩), .bool false, .pointer (some ⟨g2, 0, none⟩), .int .i64 s.W, .bool false, .bool false, .pointer (some ⟨g2, 0, none⟩), .int .i64 s.W, .bool false, .bool false, .bool false, .pointer (some ⟨g2, 0, none⟩), .int .i64 s.W, .int .i64 (s.W % 16), .bool false, .bool false, .bool false, .pointer (some ⟨g2, 1, none⟩), .int .i64 s.H, .bool false, .bool false, .bool false, .pointer (some ⟨g2, 1, none⟩), .int .i64 s.H, .bool false, .bool false, .bool false, .pointer (some ⟨g2, 1, none⟩), .int .i64 s.H, .int .i64 (s.H % 16), .bool false, .bool false, .bool false, .pointer (some ⟨g2, 4, none⟩), .bool false, .bool false, undef, undef, undef, undef, .bool false, .bool false, .pointer (some ⟨g2, 2, none⟩), .agg #[.int .i64 s.num, .int .i64 s.den], .bool true, .bool false, .bool false, .pointer (some ⟨g2, 2, none⟩), .pointer (some ⟨g2, 2, none⟩), .int .i64 s.num, .bool false, .bool false, .bool false, .pointer (some ⟨g2, 2, none⟩), .pointer (some ⟨g2, 2, none⟩), .int .i64 s.num, .bool false, .bool false, .bool false, .pointer (some ⟨g2, 2, none⟩), .pointer (some ⟨g2, 3, none⟩), .int .i64 s.den, .bool false, .bool false, undef, undef, undef, undef, undef, undef, undef, undef, undef, undef, undef, undef, undef, undef, undef, undef, undef, undef, undef, undef, undef, undef, undef, undef, undef, undef, undef, undef, undef, undef, undef, undef, undef, undef, undef, undef, undef, undef, undef, undef, undef, undef, undef, undef, undef, undef], []⟩) (by kernel_rfl) ?_
                        refine wp_cond_false (by kernel_rfl) ?_
                        refine wp_skip ?_
                        refine hK40 _ _ ?_
                        try clear hK40 K40
                        refine wp_seq_k (fun K47 hK47 => ?_)
                        refine wp_seq_k (fun K48 hK48 => ?_)
                        refine wl_region ?_
                        refine st_val (.pointer (some ⟨g2, 5, none⟩)) (by kernel_rfl) (by kernel_rfl) ?_
                        refine st_val (.int .i64 s.br) (by kernel_rfl) (run_load_cell 3 (.tmp 65) rfl ⟨g2, 5, none⟩ (by kernel_rfl) _ (M43.cell 0 rfl 5 _ (sqv_br _)) (by kernel_rfl)) ?_
                        rcases Decidable.em ((s.br : Int) < 1) with c67 | c67
                        ·
                          refine st_val (.bool true) (by kernel_rfl) (bool_of (dec_t c67) (by kernel_rfl)) ?_
                          refine st_val (.bool true) (by kernel_rfl) (by kernel_rfl) ?_
                          refine st_skip (by kernel_rfl) ?_
                          refine st_skip (by kernel_rfl) ?_
                          refine st_skip (by kernel_rfl) ?_
                          refine st_val (.bool true) (by kernel_rfl) (by kernel_rfl) ?_
                          refine st_val (.bool true) (by kernel_rfl) (by kernel_rfl) ?_
                          refine st_skip (by kernel_rfl) ?_
                          refine st_skip (by kernel_rfl) ?_
                          refine st_skip (by kernel_rfl) ?_
                          refine st_val (.bool true) (by kernel_rfl) (by kernel_rfl) ?_
                          refine st_val (.bool true) (by kernel_rfl) (by kernel_rfl) ?_
                          refine st_skip (by kernel_rfl) ?_
                          refine st_skip (by kernel_rfl) ?_
                          refine st_skip (by kernel_rfl) ?_
                          refine st_val (.bool true) (by kernel_rfl) (by kernel_rfl) ?_
                          refine wl_nil ?_
                          refine hK48 _ _ ?_
                          try clear hK48 K48
                          refine wp_frame (a' := ⟨#[.agg (sqv s), .pointer (some ⟨g2, 0, none⟩), .bool false, .pointer (some ⟨g2, 0, none⟩), .int .i64 s.W, .bool false, .bool false, .pointer (some ⟨g2, 0, none⟩), .int .i64 s.W, .bool false, .bool false, .bool false, .pointer (some ⟨g2, 0, none⟩), .int .i64 s.W, .int .i64 (s.W % 16), .bool false, .bool false, .bool false, .pointer (some ⟨g2, 1, none⟩), .int .i64 s.H, .bool false, .bool false, .bool false, .pointer (some ⟨g2, 1, none⟩), .int .i64 s.H, .bool false, .bool false, .bool false, .pointer (some ⟨g2, 1, none⟩), .int .i64 s.H, .int .i64 (s.H % 16), .bool false, .bool false, .bool false, .pointer (some ⟨g2, 4, none⟩), .bool false, .bool false, undef, undef, undef, undef, .bool false, .bool false, .pointer (some ⟨g2, 2, none⟩), .agg #[.int .i64 s.num, .int .i64 s.den], .bool true, .bool false, .bool false, .pointer (some ⟨g2, 2, none⟩), .pointer (some ⟨g2, 2, none⟩), .int .i64 s.num, .bool false, .bool false, .bool false, .pointer (some ⟨g2, 2, none⟩), .pointer (some ⟨g2, 2, none⟩), .int .i64 s.num, .bool false, .bool false, .bool false, .pointer (some ⟨g2, 2, none⟩), .pointer (some ⟨g2, 3, none⟩), .int .i64 s.den, .bool false, .bool false, .pointer (some ⟨g2, 5, none⟩), .int .i64 s.br, .bool true, .bool true, undef, undef, undef, .bool true, .bool true, undef, undef, undef, .bool true, .bool true, undef, undef, undef, .bool true, undef, undef, undef, undef, undef, undef, undef, undef, undef, undef, undef, undef, undef, undef, undef, undef, undef, undef, undef, undef, undef, undef, undef, undef, undef, undef, undef, undef], []⟩) (by kernel_rfl) ?_
                          refine wp_cond_true (by kernel_rfl) ?_
                          refine wp_seq_k (fun K49 hK49 => ?_)
                          refine wl_region ?_
                          refine st_val (.bool false) (by kernel_rfl) (by kernel_rfl) ?_
                          refine wl_nil ?_
                          refine hK49 _ _ ?_
                          try clear hK49 K49
                          refine wp_ret ?_
                          refine th_ret ?_
                          exact done1 2 (.bool false) (by kernel_rfl) (by kernel_rfl) (by kernel_rfl) ⟨by rw [sB_f (fun h => by obtain ⟨h1, h2, h3, h4, h5, h6, h7, h8, h9, h10, h11, h12, h13, h14, h15, h16, h17, h18⟩ := h; first | omega | (have := h7 hil; omega) | (rw [hR] at h8; exact Bool.noConfusion h8) | (rw [hA] at h17; exact Bool.noConfusion h17) | (rw [hB] at h18; exact Bool.noConfusion h18))], M43.toBelow⟩
                        ·
                          refine st_val (.bool false) (by kernel_rfl) (bool_of (dec_f c67) (by kernel_rfl)) ?_
                          refine st_val (.bool false) (by kernel_rfl) (by kernel_rfl) ?_
                          refine st_val (.pointer (some ⟨g2, 5, none⟩)) (by kernel_rfl) (by kernel_rfl) ?_
                          refine st_val (.int .i64 s.br) (by kernel_rfl) (run_load_cell 3 (.tmp 69) rfl ⟨g2, 5, none⟩ (by kernel_rfl) _ (M43.cell 0 rfl 5 _ (sqv_br _)) (by kernel_rfl)) ?_
                          rcases Decidable.em ((s.br : Int) > 16777216) with c71 | c71
                          ·
                            refine st_val (.bool true) (by kernel_rfl) (bool_of (dec_t c71) (by kernel_rfl)) ?_
                            refine st_val (.bool true) (by kernel_rfl) (by kernel_rfl) ?_
                            refine st_val (.bool true) (by kernel_rfl) (by kernel_rfl) ?_
                            refine st_skip (by kernel_rfl) ?_
                            refine st_skip (by kernel_rfl) ?_
                            refine st_skip (by kernel_rfl) ?_
                            refine st_val (.bool true) (by kernel_rfl) (by kernel_rfl) ?_
                            refine st_val (.bool true) (by kernel_rfl) (by kernel_rfl) ?_
                            refine st_skip (by kernel_rfl) ?_
                            refine st_skip (by kernel_rfl) ?_
                            refine st_skip (by kernel_rfl) ?_
                            refine st_val (.bool true) (by kernel_rfl) (by kernel_rfl) ?_
                            refine wl_nil ?_
                            refine hK48 _ _ ?_
                            try clear hK48 K48
                            refine wp_frame (a' := ⟨#[.agg (sqv s), .pointer (some ⟨g2, 0, none⟩), .bool false, .pointer (some ⟨g2, 0, none⟩), .int .i64 s.W, .bool false, .bool false, .pointer (some ⟨g2, 0, none⟩), .int .i64 s.W, .bool false, .bool false, .bool false, .pointer (some ⟨g2, 0, none⟩), .int .i64 s.W, .int .i64 (s.W % 16), .bool false, .bool false, .bool false, .pointer (some ⟨g2, 1, none⟩), .int .i64 s.H, .bool false, .bool false, .bool false, .pointer (some ⟨g2, 1, none⟩), .int .i64 s.H, .bool false, .bool false, .bool false, .pointer (some ⟨g2, 1, none⟩), .int .i64 s.H, .int .i64 (s.H % 16), .bool false, .bool false, .bool false, .pointer (some ⟨g2, 4, none⟩), .bool false, .bool false, undef, undef, undef, undef, .bool false, .bool false, .pointer (some ⟨g2, 2, none⟩), .agg #[.int .i64 s.num, .int .i64 s.den], .bool true, .bool false, .bool false, .pointer (some ⟨g2, 2, none⟩), .pointer (some ⟨g2, 2, none⟩), .int .i64 s.num, .bool false, .bool false, .bool false, .pointer (some ⟨g2, 2, none⟩), .pointer (some ⟨g2, 2, none⟩), .int .i64 s.num, .bool false, .bool false, .bool false, .pointer (some ⟨g2, 2, none⟩), .pointer (some ⟨g2, 3, none⟩), .int .i64 s.den, .bool false, .bool false, .pointer (some ⟨g2, 5, none⟩), .int .i64 s.br, .bool false, .bool false, .pointer (some ⟨g2, 5, none⟩), .int .i64 s.br, .bool true, .bool true, .bool true, undef, undef, undef, .bool true, .bool true, undef, undef, undef, .bool true, undef, undef, undef, undef, undef, undef, undef, undef, undef, undef, undef, undef, undef, undef, undef, undef, undef, undef, undef, undef, undef, undef, undef, undef, undef, undef, undef, undef], []⟩) (by kernel_rfl) ?_
                            refine wp_cond_true (by kernel_rfl) ?_
                            refine wp_seq_k (fun K50 hK50 => ?_)
                            refine wl_region ?_
                            refine st_val (.bool false) (by kernel_rfl) (by kernel_rfl) ?_
                            refine wl_nil ?_
                            refine hK50 _ _ ?_
                            try clear hK50 K50
                            refine wp_ret ?_
                            refine th_ret ?_
                            exact done1 2 (.bool false) (by kernel_rfl) (by kernel_rfl) (by kernel_rfl) ⟨by rw [sB_f (fun h => by obtain ⟨h1, h2, h3, h4, h5, h6, h7, h8, h9, h10, h11, h12, h13, h14, h15, h16, h17, h18⟩ := h; first | omega | (have := h7 hil; omega) | (rw [hR] at h8; exact Bool.noConfusion h8) | (rw [hA] at h17; exact Bool.noConfusion h17) | (rw [hB] at h18; exact Bool.noConfusion h18))], M43.toBelow⟩
                          ·
                            refine st_val (.bool false) (by kernel_rfl) (bool_of (dec_f c71) (by kernel_rfl)) ?_
                            refine st_val (.bool false) (by kernel_rfl) (by kernel_rfl) ?_
                            refine st_val (.bool false) (by kernel_rfl) (by kernel_rfl) ?_
                            refine st_val (.pointer (some ⟨g2, 6, none⟩)) (by kernel_rfl) (by kernel_rfl) ?_
                            refine st_val (.int .i64 s.bu) (by kernel_rfl) (run_load_cell 3 (.tmp 74) rfl ⟨g2, 6, none⟩ (by kernel_rfl) _ (M43.cell 0 rfl 6 _ (sqv_bu _)) (by kernel_rfl)) ?_
                            rcases Decidable.em ((s.bu : Int) < 1) with c76 | c76
                            ·
                              refine st_val (.bool true) (by kernel_rfl) (bool_of (dec_t c76) (by kernel_rfl)) ?_
                              refine st_val (.bool true) (by kernel_rfl) (by kernel_rfl) ?_
                              refine st_val (.bool true) (by kernel_rfl) (by kernel_rfl) ?_
                              refine st_skip (by kernel_rfl) ?_
                              refine st_skip (by kernel_rfl) ?_
                              refine st_skip (by kernel_rfl) ?_
                              refine st_val (.bool true) (by kernel_rfl) (by kernel_rfl) ?_
                              refine wl_nil ?_
                              refine hK48 _ _ ?_
                              try clear hK48 K48
                              refine wp_frame (a' := ⟨#[.agg (sqv s), .pointer (some ⟨g2, 0, none⟩), .bool false, .pointer (some ⟨g2, 0, none⟩), .int .i64 s.W, .bool false, .bool false, .pointer (some ⟨g2, 0, none⟩), .int .i64 s.W, .bool false, .bool false, .bool false, .pointer (some ⟨g2, 0, none⟩), .int .i64 s.W, .int .i64 (s.W % 16), .bool false, .bool false, .bool false, .pointer (some ⟨g2, 1, none⟩), .int .i64 s.H, .bool false, .bool false, .bool false, .pointer (some ⟨g2, 1, none⟩), .int .i64 s.H, .bool false, .bool false, .bool false, .pointer (some ⟨g2, 1, none⟩), .int .i64 s.H, .int .i64 (s.H % 16), .bool false, .bool false, .bool false, .pointer (some ⟨g2, 4, none⟩), .bool false, .bool false, undef, undef, undef, undef, .bool false, .bool false, .pointer (some ⟨g2, 2, none⟩), .agg #[.int .i64 s.num, .int .i64 s.den], .bool true, .bool false, .bool false, .pointer (some ⟨g2, 2, none⟩), .pointer (some ⟨g2, 2, none⟩), .int .i64 s.num, .bool false, .bool false, .bool false, .pointer (some ⟨g2, 2, none⟩), .pointer (some ⟨g2, 2, none⟩), .int .i64 s.num, .bool false, .bool false, .bool false, .pointer (some ⟨g2, 2, none⟩), .pointer (some ⟨g2, 3, none⟩), .int .i64 s.den, .bool false, .bool false, .pointer (some ⟨g2, 5, none⟩), .int .i64 s.br, .bool false, .bool false, .pointer (some ⟨g2, 5, none⟩), .int .i64 s.br, .bool false, .bool false, .bool false, .pointer (some ⟨g2, 6, none⟩), .int .i64 s.bu, .bool true, .bool true, .bool true, undef, undef, undef, .bool true, undef, undef, undef, undef, undef, undef, undef, undef, undef, undef, undef, undef, undef, undef, undef, undef, undef, undef, undef, undef, undef, undef, undef, undef, undef, undef, undef, undef], []⟩) (by kernel_rfl) ?_
                              refine wp_cond_true (by kernel_rfl) ?_
                              refine wp_seq_k (fun K51 hK51 => ?_)
                              refine wl_region ?_
                              refine st_val (.bool false) (by kernel_rfl) (by kernel_rfl) ?_
                              refine wl_nil ?_
                              refine hK51 _ _ ?_
                              try clear hK51 K51
                              refine wp_ret ?_
                              refine th_ret ?_
                              exact done1 2 (.bool false) (by kernel_rfl) (by kernel_rfl) (by kernel_rfl) ⟨by rw [sB_f (fun h => by obtain ⟨h1, h2, h3, h4, h5, h6, h7, h8, h9, h10, h11, h12, h13, h14, h15, h16, h17, h18⟩ := h; first | omega | (have := h7 hil; omega) | (rw [hR] at h8; exact Bool.noConfusion h8) | (rw [hA] at h17; exact Bool.noConfusion h17) | (rw [hB] at h18; exact Bool.noConfusion h18))], M43.toBelow⟩
                            ·
                              refine st_val (.bool false) (by kernel_rfl) (bool_of (dec_f c76) (by kernel_rfl)) ?_
                              refine st_val (.bool false) (by kernel_rfl) (by kernel_rfl) ?_
                              refine st_val (.bool false) (by kernel_rfl) (by kernel_rfl) ?_
                              refine st_val (.pointer (some ⟨g2, 6, none⟩)) (by kernel_rfl) (by kernel_rfl) ?_
                              refine st_val (.int .i64 s.bu) (by kernel_rfl) (run_load_cell 3 (.tmp 79) rfl ⟨g2, 6, none⟩ (by kernel_rfl) _ (M43.cell 0 rfl 6 _ (sqv_bu _)) (by kernel_rfl)) ?_
                              rcases Decidable.em ((s.bu : Int) > 8388608) with c81 | c81
                              ·
                                refine st_val (.bool true) (by kernel_rfl) (bool_of (dec_t c81) (by kernel_rfl)) ?_
                                refine st_val (.bool true) (by kernel_rfl) (by kernel_rfl) ?_
                                refine wl_nil ?_
                                refine hK48 _ _ ?_
                                try clear hK48 K48
                                refine wp_frame (a' := ⟨#[.agg (sqv s), .pointer (some ⟨g2, 0, none⟩), .bool false, .pointer (some ⟨g2, 0, none⟩), .int .i64 s.W, .bool false, .bool false, .pointer (some ⟨g2, 0, none⟩), .int .i64 s.W, .bool false, .bool false, .bool false, .pointer (some ⟨g2, 0, none⟩), .int .i64 s.W, .int .i64 (s.W % 16), .bool false, .bool false, .bool false, .pointer (some ⟨g2, 1, none⟩), .int .i64 s.H, .bool false, .bool false, .bool false, .pointer (some ⟨g2, 1, none⟩), .int .i64 s.H, .bool false, .bool false, .bool false, .pointer (some ⟨g2, 1, none⟩), .int .i64 s.H, .int .i64 (s.H % 16), .bool false, .bool false, .bool false, .pointer (some ⟨g2, 4, none⟩), .bool false, .bool false, undef, undef, undef, undef, .bool false, .bool false, .pointer (some ⟨g2, 2, none⟩), .agg #[.int .i64 s.num, .int .i64 s.den], .bool true, .bool false, .bool false, .pointer (some ⟨g2, 2, none⟩), .pointer (some ⟨g2, 2, none⟩), .int .i64 s.num, .bool false, .bool false, .bool false, .pointer (some ⟨g2, 2, none⟩), .pointer (some ⟨g2, 2, none⟩), .int .i64 s.num, .bool false, .bool false, .bool false, .pointer (some ⟨g2, 2, none⟩), .pointer (some ⟨g2, 3, none⟩), .int .i64 s.den, .bool false, .bool false, .pointer (some ⟨g2, 5, none⟩), .int .i64 s.br, .bool false, .bool false, .pointer (some ⟨g2, 5, none⟩), .int .i64 s.br, .bool false, .bool false, .bool false, .pointer (some ⟨g2, 6, none⟩), .int .i64 s.bu, .bool false, .bool false, .bool false, .pointer (some ⟨g2, 6, none⟩), .int .i64 s.bu, .bool true, .bool true, undef, undef, undef, undef, undef, undef, undef, undef, undef, undef, undef, undef, undef, undef, undef, undef, undef, undef, undef, undef, undef, undef, undef, undef, undef, undef, undef, undef], []⟩) (by kernel_rfl) ?_
                                refine wp_cond_true (by kernel_rfl) ?_
                                refine wp_seq_k (fun K52 hK52 => ?_)
                                refine wl_region ?_
                                refine st_val (.bool false) (by kernel_rfl) (by kernel_rfl) ?_
                                refine wl_nil ?_
                                refine hK52 _ _ ?_
                                try clear hK52 K52
                                refine wp_ret ?_
                                refine th_ret ?_
                                exact done1 2 (.bool false) (by kernel_rfl) (by kernel_rfl) (by kernel_rfl) ⟨by rw [sB_f (fun h => by obtain ⟨h1, h2, h3, h4, h5, h6, h7, h8, h9, h10, h11, h12, h13, h14, h15, h16, h17, h18⟩ := h; first | omega | (have := h7 hil; omega) | (rw [hR] at h8; exact Bool.noConfusion h8) | (rw [hA] at h17; exact Bool.noConfusion h17) | (rw [hB] at h18; exact Bool.noConfusion h18))], M43.toBelow⟩
                              ·
                                refine st_val (.bool false) (by kernel_rfl) (bool_of (dec_f c81) (by kernel_rfl)) ?_
                                refine st_val (.bool false) (by kernel_rfl) (by kernel_rfl) ?_
                                refine wl_nil ?_
                                refine hK48 _ _ ?_
                                try clear hK48 K48
                                refine wp_frame (a' := ⟨#[.agg (sqv s), .pointer (some ⟨g2, 0, none⟩), .bool false, .pointer (some ⟨g2, 0, none⟩), .int .i64 s.W, .bool false, .bool false, .pointer (some ⟨g2, 0, none⟩), .int .i64 s.W, .bool false, .bool false, .bool false, .pointer (some ⟨g2, 0, none⟩), .int .i64 s.W, .int .i64 (s.W % 16), .bool false, .bool false, .bool false, .pointer (some ⟨g2, 1, none⟩), .int .i64 s.H, .bool false, .bool false, .bool false, .pointer (some ⟨g2, 1, none⟩), .int .i64 s.H, .bool false, .bool false, .bool false, .pointer (some ⟨g2, 1, none⟩), .int .i64 s.H, .int .i64 (s.H % 16), .bool false, .bool false, .bool false, .pointer (some ⟨g2, 4, none⟩), .bool false, .bool false, undef, undef, undef, undef, .bool false, .bool false, .pointer (some ⟨g2, 2, none⟩), .agg #[.int .i64 s.num, .int .i64 s.den], .bool true, .bool false, .bool false, .pointer (some ⟨g2, 2, none⟩), .pointer (some ⟨g2, 2, none⟩), .int .i64 s.num, .bool false, .bool false, .bool false, .pointer (some ⟨g2, 2, none⟩), .pointer (some ⟨g2, 2, none⟩), .int .i64 s.num, .bool false, .bool false, .bool false, .pointer (some ⟨g2, 2, none⟩), .pointer (some ⟨g2, 3, none⟩), .int .i64 s.den, .bool false, .bool false, .pointer (some ⟨g2, 5, none⟩), .int .i64 s.br, .bool false, .bool false, .pointer (some ⟨g2, 5, none⟩), .int .i64 s.br, .bool false, .bool false, .bool false, .pointer (some ⟨g2, 6, none⟩), .int .i64 s.bu, .bool false, .bool false, .bool false, .pointer (some ⟨g2, 6, none⟩), .int .i64 s.bu, .bool false, .bool false, undef, undef, undef, undef, undef, undef, undef, undef, undef, undef, undef, undef, undef, undef, undef, undef, undef, undef, undef, undef, undef, undef, undef, undef, undef, undef, undef, undef], []⟩) (by kernel_rfl) ?_
                                refine wp_cond_false (by kernel_rfl) ?_
                                refine wp_skip ?_
                                refine hK47 _ _ ?_
                                try clear hK47 K47
                                refine wp_seq_k (fun K53 hK53 => ?_)
                                refine wp_seq_k (fun K54 hK54 => ?_)
                                have hP := sv_prods (num := s.num) (den := s.den) (br := s.br) (bu := s.bu) (by omega) (by omega) (by omega) (by omega) (by omega) (by omega) (by omega) (by omega)
                                refine wl_region ?_
                                refine st_val (.pointer (some ⟨g2, 2, none⟩)) (by kernel_rfl) (by kernel_rfl) ?_
                                refine st_val (.pointer (some ⟨g2, 2, none⟩)) (by kernel_rfl) (by kernel_rfl) ?_
                                refine st_val (.int .i64 s.num) (by kernel_rfl) (run_load_cell 2 (.tmp 84) rfl ⟨g2, 2, none⟩ (by kernel_rfl) _ (M43.cell 0 rfl 2 _ (sqv_num _)) (by kernel_rfl)) ?_
                                refine st_val (.int .i64 (2 * s.num)) (by kernel_rfl) (i64_of (by omega) (by kernel_rfl)) ?_
                                refine st_val (.pointer (some ⟨g2, 6, none⟩)) (by kernel_rfl) (by kernel_rfl) ?_
                                refine st_val (.int .i64 s.bu) (by kernel_rfl) (run_load_cell 3 (.tmp 87) rfl ⟨g2, 6, none⟩ (by kernel_rfl) _ (M43.cell 0 rfl 6 _ (sqv_bu _)) (by kernel_rfl)) ?_
                                refine st_val (.int .i64 ((2 * s.num) * s.bu)) (by kernel_rfl) (i64_of (by omega) (by kernel_rfl)) ?_
                                refine st_val (.pointer (some ⟨g2, 2, none⟩)) (by kernel_rfl) (by kernel_rfl) ?_
                                refine st_val (.pointer (some ⟨g2, 3, none⟩)) (by kernel_rfl) (by kernel_rfl) ?_
                                refine st_val (.int .i64 s.den) (by kernel_rfl) (run_load_cell 2 (.tmp 91) rfl ⟨g2, 3, none⟩ (by kernel_rfl) _ (M43.cell 0 rfl 3 _ (sqv_den _)) (by kernel_rfl)) ?_
                                refine st_val (.int .i64 (3 * s.den)) (by kernel_rfl) (i64_of (by omega) (by kernel_rfl)) ?_
                                refine st_val (.pointer (some ⟨g2, 5, none⟩)) (by kernel_rfl) (by kernel_rfl) ?_
                                refine st_val (.int .i64 s.br) (by kernel_rfl) (run_load_cell 3 (.tmp 94) rfl ⟨g2, 5, none⟩ (by kernel_rfl) _ (M43.cell 0 rfl 5 _ (sqv_br _)) (by kernel_rfl)) ?_
                                refine st_val (.int .i64 ((3 * s.den) * s.br)) (by kernel_rfl) (i64_of (by omega) (by kernel_rfl)) ?_
                                refine st_val (.pointer (some ⟨g2, 2, none⟩)) (by kernel_rfl) (by kernel_rfl) ?_
                                refine st_val (.pointer (some ⟨g2, 2, none⟩)) (by kernel_rfl) (by kernel_rfl) ?_
                                refine st_val (.int .i64 s.num) (by kernel_rfl) (run_load_cell 2 (.tmp 98) rfl ⟨g2, 2, none⟩ (by kernel_rfl) _ (M43.cell 0 rfl 2 _ (sqv_num _)) (by kernel_rfl)) ?_
                                refine st_val (.int .i64 (32 * s.num)) (by kernel_rfl) (i64_of (by omega) (by kernel_rfl)) ?_
                                refine st_val (.int .i64 (((3 * s.den) * s.br) + (32 * s.num))) (by kernel_rfl) (i64_of (by omega) (by kernel_rfl)) ?_
                                rcases Decidable.em (((2 * s.num) * s.bu : Int) < ((3 * s.den) * s.br) + (32 * s.num)) with c102 | c102
                                ·
                                  refine st_val (.bool true) (by kernel_rfl) (bool_of (dec_t c102) (by kernel_rfl)) ?_
                                  refine wl_nil ?_
                                  refine hK54 _ _ ?_
                                  try clear hK54 K54
                                  refine wp_frame (a' := ⟨#[.agg (sqv s), .pointer (some ⟨g2, 0, none⟩), .bool false, .pointer (some ⟨g2, 0, none⟩), .int .i64 s.W, .bool false, .bool false, .pointer (some ⟨g2, 0, none⟩), .int .i64 s.W, .bool false, .bool false, .bool false, .pointer (some ⟨g2, 0, none⟩), .int .i64 s.W, .int .i64 (s.W % 16), .bool false, .bool false, .bool false, .pointer (some ⟨g2, 1, none⟩), .int .i64 s.H, .bool false, .bool false, .bool false, .pointer (some ⟨g2, 1, none⟩), .int .i64 s.H, .bool false, .bool false, .bool false, .pointer (some ⟨g2, 1, none⟩), .int .i64 s.H, .int .i64 (s.H % 16), .bool false, .bool false, .bool false, .pointer (some ⟨g2, 4, none⟩), .bool false, .bool false, undef, undef, undef, undef, .bool false, .bool false, .pointer (some ⟨g2, 2, none⟩), .agg #[.int .i64 s.num, .int .i64 s.den], .bool true, .bool false, .bool false, .pointer (some ⟨g2, 2, none⟩), .pointer (some ⟨g2, 2, none⟩), .int .i64 s.num, .bool false, .bool false, .bool false, .pointer (some ⟨g2, 2, none⟩), .pointer (some ⟨g2, 2, none⟩), .int .i64 s.num, .bool false, .bool false, .bool false, .pointer (some ⟨g2, 2, none⟩), .pointer (some ⟨g2, 3, none⟩), .int .i64 s.den, .bool false, .bool false, .pointer (some ⟨g2, 5, none⟩), .int .i64 s.br, .bool false, .bool false, .pointer (some ⟨g2, 5, none⟩), .int .i64 s.br, .bool false, .bool false, .bool false, .pointer (some ⟨g2, 6, none⟩), .int .i64 s.bu, .bool false, .bool false, .bool false, .pointer (some ⟨g2, 6, none⟩), .int .i64 s.bu, .bool false, .bool false, .pointer (some ⟨g2, 2, none⟩), .pointer (some ⟨g2, 2, none⟩), .int .i64 s.num, .int .i64 (2 * s.num), .pointer (some ⟨g2, 6, none⟩), .int .i64 s.bu, .int .i64 ((2 * s.num) * s.bu), .pointer (some ⟨g2, 2, none⟩), .pointer (some ⟨g2, 3, none⟩), .int .i64 s.den, .int .i64 (3 * s.den), .pointer (some ⟨g2, 5, none⟩), .int .i64 s.br, .int .i64 ((3 * s.den) * s.br), .pointer (some ⟨g2, 2, none⟩), .pointer (some ⟨g2, 2, none⟩), .int .i64 s.num, .int .i64 (32 * s.num), .int .i64 (((3 * s.den) * s.br) + (32 * s.num)), .bool true, undef, undef, undef, undef, undef, undef, undef, undef], []⟩) (by kernel_rfl) ?_
                                  refine wp_cond_true (by kernel_rfl) ?_
                                  refine wp_seq_k (fun K55 hK55 => ?_)
                                  refine wl_region ?_
                                  refine st_val (.bool false) (by kernel_rfl) (by kernel_rfl) ?_
                                  refine wl_nil ?_
                                  refine hK55 _ _ ?_
                                  try clear hK55 K55
                                  refine wp_ret ?_
                                  refine th_ret ?_
                                  exact done1 2 (.bool false) (by kernel_rfl) (by kernel_rfl) (by kernel_rfl) ⟨by rw [sB_f (fun h => by obtain ⟨h1, h2, h3, h4, h5, h6, h7, h8, h9, h10, h11, h12, h13, h14, h15, h16, h17, h18⟩ := h; first | omega | (have := h7 hil; omega) | (rw [hR] at h8; exact Bool.noConfusion h8) | (rw [hA] at h17; exact Bool.noConfusion h17) | (rw [hB] at h18; exact Bool.noConfusion h18))], M43.toBelow⟩
                                ·
                                  refine st_val (.bool false) (by kernel_rfl) (bool_of (dec_f c102) (by kernel_rfl)) ?_
                                  refine wl_nil ?_
                                  refine hK54 _ _ ?_
                                  try clear hK54 K54
                                  refine wp_frame (a' := ⟨#[.agg (sqv s), .pointer (some ⟨g2, 0, none⟩), .bool false, .pointer (some ⟨g2, 0, none⟩), .int .i64 s.W, .bool false, .bool false, .pointer (some ⟨g2, 0, none⟩), .int .i64 s.W, .bool false, .bool false, .bool false, .pointer (some ⟨g2, 0, none⟩), .int .i64 s.W, .int .i64 (s.W % 16), .bool false, .bool false, .bool false, .pointer (some ⟨g2, 1, none⟩), .int .i64 s.H, .bool false, .bool false, .bool false, .pointer (some ⟨g2, 1, none⟩), .int .i64 s.H, .bool false, .bool false, .bool false, .pointer (some ⟨g2, 1, none⟩), .int .i64 s.H, .int .i64 (s.H % 16), .bool false, .bool false, .bool false, .pointer (some ⟨g2, 4, none⟩), .bool false, .bool false, undef, undef, undef, undef, .bool false, .bool false, .pointer (some ⟨g2, 2, none⟩), .agg #[.int .i64 s.num, .int .i64 s.den], .bool true, .bool false, .bool false, .pointer (some ⟨g2, 2, none⟩), .pointer (some ⟨g2, 2, none⟩), .int .i64 s.num, .bool false, .bool false, .bool false, .pointer (some ⟨g2, 2, none⟩), .pointer (some ⟨g2, 2, none⟩), .int .i64 s.num, .bool false, .bool false, .bool false, .pointer (some ⟨g2, 2, none⟩), .pointer (some ⟨g2, 3, none⟩), .int .i64 s.den, .bool false, .bool false, .pointer (some ⟨g2, 5, none⟩), .int .i64 s.br, .bool false, .bool false, .pointer (some ⟨g2, 5, none⟩), .int .i64 s.br, .bool false, .bool false, .bool false, .pointer (some ⟨g2, 6, none⟩), .int .i64 s.bu, .bool false, .bool false, .bool false, .pointer (some ⟨g2, 6, none⟩), .int .i64 s.bu, .bool false, .bool false, .pointer (some ⟨g2, 2, none⟩), .pointer (some ⟨g2, 2, none⟩), .int .i64 s.num, .int .i64 (2 * s.num), .pointer (some ⟨g2, 6, none⟩), .int .i64 s.bu, .int .i64 ((2 * s.num) * s.bu), .pointer (some ⟨g2, 2, none⟩), .pointer (some ⟨g2, 3, none⟩), .int .i64 s.den, .int .i64 (3 * s.den), .pointer (some ⟨g2, 5, none⟩), .int .i64 s.br, .int .i64 ((3 * s.den) * s.br), .pointer (some ⟨g2, 2, none⟩), .pointer (some ⟨g2, 2, none⟩), .int .i64 s.num, .int .i64 (32 * s.num), .int .i64 (((3 * s.den) * s.br) + (32 * s.num)), .bool false, undef, undef, undef, undef, undef, undef, undef, undef], []⟩) (by kernel_rfl) ?_
                                  refine wp_cond_false (by kernel_rfl) ?_
                                  refine wp_skip ?_
                                  refine hK53 _ _ ?_
                                  try clear hK53 K53
                                  refine wp_seq_k (fun K56 hK56 => ?_)
                                  refine wl_region ?_
                                  refine st_val (.pointer (some ⟨g2, 7, none⟩)) (by kernel_rfl) (by kernel_rfl) ?_
                                  refine st_val (.agg (bv s.a)) (by kernel_rfl) (run_load_mid 24 (.tmp 103) rfl g2 7 (by kernel_rfl) (s.a.map (Value.int .u8)) _ (M43.range 0 rfl 7 _ (sqv_a _)) Try.underlying24 rfl (infoB hs.la)) ?_
                                  rcases Bool.eq_false_or_eq_true (vB s.a) with hA | hA
                                  ·
                                    refine st_callB M43 (.bool true) (by kernel_rfl) (args := #[.agg (bv s.a)]) (run_value_call 40 #[(Operand.tmp 104)] _ rfl Try.func40 (by kernel_rfl) (by kernel_rfl) _ (by kernel_rfl)) ((by have := refValid_walk W42 s.a hs.la; rw [hA] at this; exact this)) ?_
                                    intro W57 M58
                                    refine st_val (.bool true) (by kernel_rfl) (by kernel_rfl) ?_
                                    refine st_val (.pointer (some ⟨g2, 71, none⟩)) (by kernel_rfl) (by kernel_rfl) ?_
                                    refine st_val (.agg (bv s.b)) (by kernel_rfl) (run_load_mid 24 (.tmp 107) rfl g2 71 (by kernel_rfl) (s.b.map (Value.int .u8)) _ (M58.range 0 rfl 71 _ (sqv_b hs.la)) Try.underlying24 rfl (infoB hs.lb)) ?_
                                    rcases Bool.eq_false_or_eq_true (vB s.b) with hB | hB
                                    ·
                                      refine st_callB M58 (.bool true) (by kernel_rfl) (args := #[.agg (bv s.b)]) (run_value_call 40 #[(Operand.tmp 108)] _ rfl Try.func40 (by kernel_rfl) (by kernel_rfl) _ (by kernel_rfl)) ((by have := refValid_walk W57 s.b hs.lb; rw [hB] at this; exact this)) ?_
                                      intro W59 M60
                                      refine st_val (.bool true) (by kernel_rfl) (by kernel_rfl) ?_
                                      refine st_val (.bool true) (by kernel_rfl) (by kernel_rfl) ?_
                                      refine wl_nil ?_
                                      refine hK56 _ _ ?_
                                      try clear hK56 K56
                                      refine wp_ret ?_
                                      exact done1 2 (.bool true) (by kernel_rfl) (by kernel_rfl) (by kernel_rfl) ⟨by rw [sB_t ⟨by omega, by omega, by omega, by omega, by omega, by omega, (fun h => by first | omega | (rw [hil] at h; cases h)), hR, by omega, by omega, by omega, by omega, by omega, by omega, by omega, by omega, hA, hB⟩], M60.toBelow⟩
                                    ·
                                      refine st_callB M58 (.bool false) (by kernel_rfl) (args := #[.agg (bv s.b)]) (run_value_call 40 #[(Operand.tmp 108)] _ rfl Try.func40 (by kernel_rfl) (by kernel_rfl) _ (by kernel_rfl)) ((by have := refValid_walk W57 s.b hs.lb; rw [hB] at this; exact this)) ?_
                                      intro W61 M62
                                      refine st_val (.bool false) (by kernel_rfl) (by kernel_rfl) ?_
                                      refine st_val (.bool false) (by kernel_rfl) (by kernel_rfl) ?_
                                      refine wl_nil ?_
                                      refine hK56 _ _ ?_
                                      try clear hK56 K56
                                      refine wp_ret ?_
                                      exact done1 2 (.bool false) (by kernel_rfl) (by kernel_rfl) (by kernel_rfl) ⟨by rw [sB_f (fun h => by obtain ⟨h1, h2, h3, h4, h5, h6, h7, h8, h9, h10, h11, h12, h13, h14, h15, h16, h17, h18⟩ := h; first | omega | (have := h7 hil; omega) | (rw [hR] at h8; exact Bool.noConfusion h8) | (rw [hA] at h17; exact Bool.noConfusion h17) | (rw [hB] at h18; exact Bool.noConfusion h18))], M62.toBelow⟩
                                  ·
                                    refine st_callB M43 (.bool false) (by kernel_rfl) (args := #[.agg (bv s.a)]) (run_value_call 40 #[(Operand.tmp 104)] _ rfl Try.func40 (by kernel_rfl) (by kernel_rfl) _ (by kernel_rfl)) ((by have := refValid_walk W42 s.a hs.la; rw [hA] at this; exact this)) ?_
                                    intro W63 M64
                                    refine st_val (.bool false) (by kernel_rfl) (by kernel_rfl) ?_
                                    refine st_skip (by kernel_rfl) ?_
                                    refine st_skip (by kernel_rfl) ?_
                                    refine st_skip (by kernel_rfl) ?_
                                    refine st_val (.bool false) (by kernel_rfl) (by kernel_rfl) ?_
                                    refine st_val (.bool false) (by kernel_rfl) (by kernel_rfl) ?_
                                    refine wl_nil ?_
                                    refine hK56 _ _ ?_
                                    try clear hK56 K56
                                    refine wp_ret ?_
                                    exact done1 2 (.bool false) (by kernel_rfl) (by kernel_rfl) (by kernel_rfl) ⟨by rw [sB_f (fun h => by obtain ⟨h1, h2, h3, h4, h5, h6, h7, h8, h9, h10, h11, h12, h13, h14, h15, h16, h17, h18⟩ := h; first | omega | (have := h7 hil; omega) | (rw [hR] at h8; exact Bool.noConfusion h8) | (rw [hA] at h17; exact Bool.noConfusion h17) | (rw [hB] at h18; exact Bool.noConfusion h18))], M64.toBelow⟩
                ·
                  refine st_callB M4 (.bool false) (by kernel_rfl) (args := #[.agg #[.int .i64 s.num, .int .i64 s.den]]) (run_value_call 39 #[(Operand.tmp 44)] _ rfl Try.func39 (by kernel_rfl) (by kernel_rfl) _ (by kernel_rfl)) ((by have := refRval_walk W3 s.num s.den hs.num hs.den; rw [hR] at this; exact this)) ?_
                  intro W65 M66
                  refine st_val (.bool true) (by kernel_rfl) (by kernel_rfl) ?_
                  refine st_val (.bool true) (by kernel_rfl) (by kernel_rfl) ?_
                  refine st_skip (by kernel_rfl) ?_
                  refine st_skip (by kernel_rfl) ?_
                  refine st_skip (by kernel_rfl) ?_
                  refine st_skip (by kernel_rfl) ?_
                  refine st_val (.bool true) (by kernel_rfl) (by kernel_rfl) ?_
                  refine st_val (.bool true) (by kernel_rfl) (by kernel_rfl) ?_
                  refine st_skip (by kernel_rfl) ?_
                  refine st_skip (by kernel_rfl) ?_
                  refine st_skip (by kernel_rfl) ?_
                  refine st_skip (by kernel_rfl) ?_
                  refine st_val (.bool true) (by kernel_rfl) (by kernel_rfl) ?_
                  refine st_val (.bool true) (by kernel_rfl) (by kernel_rfl) ?_
                  refine st_skip (by kernel_rfl) ?_
                  refine st_skip (by kernel_rfl) ?_
                  refine st_skip (by kernel_rfl) ?_
                  refine st_skip (by kernel_rfl) ?_
                  refine st_val (.bool true) (by kernel_rfl) (by kernel_rfl) ?_
                  refine wl_nil ?_
                  refine hK41 _ _ ?_
                  try clear hK41 K41
                  refine wp_frame (a' := ⟨#[.agg (sqv s), .pointer (some ⟨g2, 0, none⟩), .bool false, .pointer (some ⟨g2, 0, none⟩), .int .i64 s.W, .bool false, .bool false, .pointer (some ⟨g2, 0, none⟩), .int .i64 s.W, .bool false, .bool false, .bool false, .pointer (some ⟨g2, 0, none⟩), .int .i64 s.W, .int .i64 (s.W % 16), .bool false, .bool false, .bool false, .pointer (some ⟨g2, 1, none⟩), .int .i64 s.H, .bool false, .bool false, .bool false, .pointer (some ⟨g2, 1, none⟩), .int .i64 s.H, .bool false, .bool false, .bool false, .pointer (some ⟨g2, 1, none⟩), .int .i64 s.H, .int .i64 (s.H % 16), .bool false, .bool false, .bool false, .pointer (some ⟨g2, 4, none⟩), .bool false, .bool false, undef, undef, undef, undef, .bool false, .bool false, .pointer (some ⟨g2, 2, none⟩), .agg #[.int .i64 s.num, .int .i64 s.den], .bool false, .bool true, .bool true, undef, undef, undef, undef, .bool true, .bool true, undef, undef, undef, undef, .bool true, .bool true, undef, undef, undef, undef, .bool true, undef, undef, undef, undef, undef, undef, undef, undef, undef, undef, undef, undef, undef, undef, undef, undef, undef, undef, undef, undef, undef, undef, undef, undef, undef, undef, undef, undef, undef, undef, undef, undef, undef, undef, undef, undef, undef, undef, undef, undef, undef, undef, undef, undef, undef, undef], []⟩) (by kernel_rfl) ?_
                  refine wp_cond_true (by kernel_rfl) ?_
                  refine wp_seq_k (fun K67 hK67 => ?_)
                  refine wl_region ?_
                  refine st_val (.bool false) (by kernel_rfl) (by kernel_rfl) ?_
                  refine wl_nil ?_
                  refine hK67 _ _ ?_
                  try clear hK67 K67
                  refine wp_ret ?_
                  refine th_ret ?_
                  exact done1 2 (.bool false) (by kernel_rfl) (by kernel_rfl) (by kernel_rfl) ⟨by rw [sB_f (fun h => by obtain ⟨h1, h2, h3, h4, h5, h6, h7, h8, h9, h10, h11, h12, h13, h14, h15, h16, h17, h18⟩ := h; first | omega | (have := h7 hil; omega) | (rw [hR] at h8; exact Bool.noConfusion h8) | (rw [hA] at h17; exact Bool.noConfusion h17) | (rw [hB] at h18; exact Bool.noConfusion h18))], M66.toBelow⟩
            ·
              refine st_val (.bool true) (by kernel_rfl) (bool_of (neq_t c31) (by kernel_rfl)) ?_
              refine st_val (.bool true) (by kernel_rfl) (by kernel_rfl) ?_
              refine st_val (.bool true) (by kernel_rfl) (by kernel_rfl) ?_
              refine st_skip (by kernel_rfl) ?_
              refine st_skip (by kernel_rfl) ?_
              refine st_skip (by kernel_rfl) ?_
              refine st_skip (by kernel_rfl) ?_
              refine st_skip (by kernel_rfl) ?_
              refine st_skip (by kernel_rfl) ?_
              refine st_skip (by kernel_rfl) ?_
              refine st_skip (by kernel_rfl) ?_
              refine st_val (.bool true) (by kernel_rfl) (by kernel_rfl) ?_
              refine wl_nil ?_
              refine hK6 _ _ ?_
              try clear hK6 K6
              refine wp_frame (a' := ⟨#[.agg (sqv s), .pointer (some ⟨g2, 0, none⟩), .bool false, .pointer (some ⟨g2, 0, none⟩), .int .i64 s.W, .bool false, .bool false, .pointer (some ⟨g2, 0, none⟩), .int .i64 s.W, .bool false, .bool false, .bool false, .pointer (some ⟨g2, 0, none⟩), .int .i64 s.W, .int .i64 (s.W % 16), .bool false, .bool false, .bool false, .pointer (some ⟨g2, 1, none⟩), .int .i64 s.H, .bool false, .bool false, .bool false, .pointer (some ⟨g2, 1, none⟩), .int .i64 s.H, .bool false, .bool false, .bool false, .pointer (some ⟨g2, 1, none⟩), .int .i64 s.H, .int .i64 (s.H % 16), .bool true, .bool true, .bool true, undef, undef, undef, undef, undef, undef, undef, undef, .bool true, undef, undef, undef, undef, undef, undef, undef, undef, undef, undef, undef, undef, undef, undef, undef, undef, undef, undef, undef, undef, undef, undef, undef, undef, undef, undef, undef, undef, undef, undef, undef, undef, undef, undef, undef, undef, undef, undef, undef, undef, undef, undef, undef, undef, undef, undef, undef, undef, undef, undef, undef, undef, undef, undef, undef, undef, undef, undef, undef, undef, undef, undef, undef, undef, undef, undef, undef, undef], []⟩) (by kernel_rfl) ?_
              refine wp_cond_true (by kernel_rfl) ?_
              refine wp_seq_k (fun K68 hK68 => ?_)
              refine wl_region ?_
              refine st_val (.bool false) (by kernel_rfl) (by kernel_rfl) ?_
              refine wl_nil ?_
              refine hK68 _ _ ?_
              try clear hK68 K68
              refine wp_ret ?_
              refine th_ret ?_
              exact done1 2 (.bool false) (by kernel_rfl) (by kernel_rfl) (by kernel_rfl) ⟨by rw [sB_f (fun h => by obtain ⟨h1, h2, h3, h4, h5, h6, h7, h8, h9, h10, h11, h12, h13, h14, h15, h16, h17, h18⟩ := h; first | omega | (have := h7 hil; omega) | (rw [hR] at h8; exact Bool.noConfusion h8) | (rw [hA] at h17; exact Bool.noConfusion h17) | (rw [hB] at h18; exact Bool.noConfusion h18))], M4.toBelow⟩
      ·
        refine st_val (.bool true) (by kernel_rfl) (bool_of (neq_t c15) (by kernel_rfl)) ?_
        refine st_val (.bool true) (by kernel_rfl) (by kernel_rfl) ?_
        refine st_val (.bool true) (by kernel_rfl) (by kernel_rfl) ?_
        refine st_skip (by kernel_rfl) ?_
        refine st_skip (by kernel_rfl) ?_
        refine st_skip (by kernel_rfl) ?_
        refine st_val (.bool true) (by kernel_rfl) (by kernel_rfl) ?_
        refine st_val (.bool true) (by kernel_rfl) (by kernel_rfl) ?_
        refine st_skip (by kernel_rfl) ?_
        refine st_skip (by kernel_rfl) ?_
        refine st_skip (by kernel_rfl) ?_
        refine st_val (.bool true) (by kernel_rfl) (by kernel_rfl) ?_
        refine st_val (.bool true) (by kernel_rfl) (by kernel_rfl) ?_
        refine st_skip (by kernel_rfl) ?_
        refine st_skip (by kernel_rfl) ?_
        refine st_skip (by kernel_rfl) ?_
        refine st_skip (by kernel_rfl) ?_
        refine st_val (.bool true) (by kernel_rfl) (by kernel_rfl) ?_
        refine st_val (.bool true) (by kernel_rfl) (by kernel_rfl) ?_
        refine st_skip (by kernel_rfl) ?_
        refine st_skip (by kernel_rfl) ?_
        refine st_skip (by kernel_rfl) ?_
        refine st_skip (by kernel_rfl) ?_
        refine st_skip (by kernel_rfl) ?_
        refine st_skip (by kernel_rfl) ?_
        refine st_skip (by kernel_rfl) ?_
        refine st_skip (by kernel_rfl) ?_
        refine st_val (.bool true) (by kernel_rfl) (by kernel_rfl) ?_
        refine wl_nil ?_
        refine hK6 _ _ ?_
        try clear hK6 K6
        refine wp_frame (a' := ⟨#[.agg (sqv s), .pointer (some ⟨g2, 0, none⟩), .bool false, .pointer (some ⟨g2, 0, none⟩), .int .i64 s.W, .bool false, .bool false, .pointer (some ⟨g2, 0, none⟩), .int .i64 s.W, .bool false, .bool false, .bool false, .pointer (some ⟨g2, 0, none⟩), .int .i64 s.W, .int .i64 (s.W % 16), .bool true, .bool true, .bool true, undef, undef, undef, .bool true, .bool true, undef, undef, undef, .bool true, .bool true, undef, undef, undef, undef, .bool true, .bool true, undef, undef, undef, undef, undef, undef, undef, undef, .bool true, undef, undef, undef, undef, undef, undef, undef, undef, undef, undef, undef, undef, undef, undef, undef, undef, undef, undef, undef, undef, undef, undef, undef, undef, undef, undef, undef, undef, undef, undef, undef, undef, undef, undef, undef, undef, undef, undef, undef, undef, undef, undef, undef, undef, undef, undef, undef, undef, undef, undef, undef, undef, undef, undef, undef, undef, undef, undef, undef, undef, undef, undef, undef, undef, undef, undef, undef, undef], []⟩) (by kernel_rfl) ?_
        refine wp_cond_true (by kernel_rfl) ?_
        refine wp_seq_k (fun K69 hK69 => ?_)
        refine wl_region ?_
        refine st_val (.bool false) (by kernel_rfl) (by kernel_rfl) ?_
        refine wl_nil ?_
        refine hK69 _ _ ?_
        try clear hK69 K69
        refine wp_ret ?_
        refine th_ret ?_
        exact done1 2 (.bool false) (by kernel_rfl) (by kernel_rfl) (by kernel_rfl) ⟨by rw [sB_f (fun h => by obtain ⟨h1, h2, h3, h4, h5, h6, h7, h8, h9, h10, h11, h12, h13, h14, h15, h16, h17, h18⟩ := h; first | omega | (have := h7 hil; omega) | (rw [hR] at h8; exact Bool.noConfusion h8) | (rw [hA] at h17; exact Bool.noConfusion h17) | (rw [hB] at h18; exact Bool.noConfusion h18))], M4.toBelow⟩
end Go.Proofs.Ytolfkaljbgpkhaa
