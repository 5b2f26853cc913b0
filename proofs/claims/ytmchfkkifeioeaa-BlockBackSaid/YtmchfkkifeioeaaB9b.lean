/- Lengths of blocks. -/
import Derived.Test.YtmchfkkifeioeaaB9p
namespace Go.Proofs.Ytmchfkkifeioeaa
open Go.RowKit Bt
set_option maxHeartbeats 4000000 in
set_option maxRecDepth 100000 in
theorem bbits_arg (w : World) (x : List Int) (hx : x.length = 64) (fr : Int) (hfr : ¬ (fr = 0 ∨ fr = 1)) : Calls Try.prog 11 #[.agg (iv x), .int .i64 fr] w fun e w' => e = .returned (.int .i64 (((bC x fr).length : Nat) : Int)) ∧ Below w.heap.size w w' := by
  refine calls_of_wp Try.func11 rfl ?_
  refine wp_frame (a' := ⟨#[.agg (iv x), .int .i64 fr, undef, undef, undef, undef, undef, undef, undef, undef, undef, undef, undef, undef, undef, undef, undef, undef, undef, undef, undef, undef, undef, undef, undef, undef, undef, undef, undef, undef, undef, undef, undef, undef, undef, undef, undef, undef, undef, undef, undef, undef], []⟩) (by kernel_rfl) ?_
  have M0 : Mem NoS w w [] := Mem.start _ _
  refine wp_seq_k (fun K1 hK1 => ?_)
  refine wl_region ?_
  refine st_alloc M0 (.cells (iv x) 23 (0, 0)) (by kernel_rfl) (by kernel_rfl) ?_
  intro g2 W3 M4
  refine st_val (.int .i64 0) (by kernel_rfl) (by kernel_rfl) ?_
  refine wl_nil ?_
  refine hK1 _ _ ?_
  try clear hK1 K1
  refine wp_seq_k (fun K5 hK5 => ?_)
  refine wp_seq_k (fun K6 hK6 => ?_)
  refine wl_region ?_
  refine st_val (.int .i64 fr) (by kernel_rfl) (by kernel_rfl) ?_
  refine st_callB M4 (.bool false) (by kernel_rfl) (args := #[.int .i64 fr]) (run_value_call 24 #[(Operand.tmp 8)] _ rfl Try.func24 (by kernel_rfl) (by kernel_rfl) _ (by kernel_rfl)) ((by have := start_walk W3 fr; rw [decide_eq_false hfr] at this; exact this)) ?_
  intro W7 M8
  refine st_val (.bool true) (by kernel_rfl) (by kernel_rfl) ?_
  refine st_val (.bool true) (by kernel_rfl) (by kernel_rfl) ?_
  refine st_skip (by kernel_rfl) ?_
  refine st_skip (by kernel_rfl) ?_
  refine st_skip (by kernel_rfl) ?_
  refine st_skip (by kernel_rfl) ?_
  refine st_val (.bool true) (by kernel_rfl) (by kernel_rfl) ?_
  refine wl_nil ?_
  refine hK6 _ _ ?_
  try clear hK6 K6
  refine wp_cond_true (by kernel_rfl) ?_
  refine wp_seq_k (fun K9 hK9 => ?_)
  refine wl_region ?_
  refine st_val (.int .i64 0) (by kernel_rfl) (by kernel_rfl) ?_
  refine wl_nil ?_
  refine hK9 _ _ ?_
  try clear hK9 K9
  refine wp_ret ?_
  refine th_ret ?_
  exact done1 4 (.int .i64 0) (by kernel_rfl) (by kernel_rfl) (by kernel_rfl) ⟨by rw [(bE_arg hfr).2]; rfl, M8.toBelow⟩
set_option maxHeartbeats 4000000 in
set_option maxRecDepth 100000 in
theorem bbits_ok (w : World) (x : List Int) (hx : x.length = 64) (f : Nat) (hf : f ≤ 1) : Calls Try.prog 11 #[.agg (iv x), .int .i64 (f : Int)] w fun e w' => e = .returned (.int .i64 (((bC x f).length : Nat) : Int)) ∧ Below w.heap.size w w' := by
  refine calls_of_wp Try.func11 rfl ?_
  refine wp_frame (a' := ⟨#[.agg (iv x), .int .i64 ((f : Nat) : Int), undef, undef, undef, undef, undef, undef, undef, undef, undef, undef, undef, undef, undef, undef, undef, undef, undef, undef, undef, undef, undef, undef, undef, undef, undef, undef, undef, undef, undef, undef, undef, undef, undef, undef, undef, undef, undef, undef, undef, undef], []⟩) (by kernel_rfl) ?_
  have M0 : Mem NoS w w [] := Mem.start _ _
  refine wp_seq_k (fun K1 hK1 => ?_)
  refine wl_region ?_
  refine st_alloc M0 (.cells (iv x) 23 (0, 0)) (by kernel_rfl) (by kernel_rfl) ?_
  intro g2 W3 M4
  refine st_val (.int .i64 0) (by kernel_rfl) (by kernel_rfl) ?_
  refine wl_nil ?_
  refine hK1 _ _ ?_
  try clear hK1 K1
  refine wp_seq_k (fun K5 hK5 => ?_)
  refine wp_seq_k (fun K6 hK6 => ?_)
  refine wl_region ?_
  refine st_val (.int .i64 ((f : Nat) : Int)) (by kernel_rfl) (by kernel_rfl) ?_
  refine st_callB M4 (.bool true) (by kernel_rfl) (args := #[.int .i64 ((f : Nat) : Int)]) (run_value_call 24 #[(Operand.tmp 8)] _ rfl Try.func24 (by kernel_rfl) (by kernel_rfl) _ (by kernel_rfl)) ((by have := start_walk W3 ((f : Nat) : Int); rw [decide_eq_true (by omega)] at this; exact this)) ?_
  intro W7 M8
  refine st_val (.bool false) (by kernel_rfl) (by kernel_rfl) ?_
  refine st_val (.bool false) (by kernel_rfl) (by kernel_rfl) ?_
  refine st_val (.agg (iv x)) (by kernel_rfl) (run_load_row 23 (.tmp 2) rfl g2 (by kernel_rfl) 23 (iv x) (0, 0) _ (M8.get 0 rfl) Try.underlying23 rfl (info64 _ hx)) ?_
  refine st_val (.int .i64 ((f : Nat) : Int)) (by kernel_rfl) (by kernel_rfl) ?_
  rcases Bool.eq_false_or_eq_true (okB x f) with hok | hok
  ·
    have hall := okB_of hok
    refine st_callB M8 (.bool true) (by kernel_rfl) (args := #[.agg (iv x), .int .i64 ((f : Nat) : Int)]) (run_value_call 25 #[(Operand.tmp 12), (Operand.tmp 13)] _ rfl Try.func25 (by kernel_rfl) (by kernel_rfl) _ (by kernel_rfl)) ((by have := fits_walk W7 x hx f hf; rw [hok] at this; exact this)) ?_
    intro W9 M10
    refine st_val (.bool false) (by kernel_rfl) (by kernel_rfl) ?_
    refine st_val (.bool false) (by kernel_rfl) (by kernel_rfl) ?_
    refine wl_nil ?_
    refine hK6 _ _ ?_
    try clear hK6 K6
    refine wp_cond_false (by kernel_rfl) ?_
    refine wp_skip ?_
    refine hK5 _ _ ?_
    try clear hK5 K5
    refine wp_seq_k (fun K11 hK11 => ?_)
    refine wl_region ?_
    refine st_callB M10 (.int .i64 (bitsU 0)) (by kernel_rfl) (args := #[.int .i64 0]) (run_value_call 31 #[(Operand.const (Value.int IntKind.i64 0))] _ rfl Try.func31 (by kernel_rfl) (by kernel_rfl) _ (by kernel_rfl)) (bits_vlc W9 0 (by omega)) ?_
    intro W12 M13
    refine st_val (.int .i64 ((f : Nat) : Int)) (by kernel_rfl) (by kernel_rfl) ?_
    refine st_val (.int .i64 (((f : Nat) : Int) - 1)) (by kernel_rfl) (i64_of (by omega) (by kernel_rfl)) ?_
    refine st_val (.int .i64 (bitsU 0)) (by kernel_rfl) (by kernel_rfl) ?_
    refine st_val (.int .i64 (((f : Nat) : Int) - 1)) (by kernel_rfl) (by kernel_rfl) ?_
    refine wl_nil ?_
    refine hK11 _ _ ?_
    try clear hK11 K11
    refine wp_frame (a' := ⟨#[.agg (iv x), .int .i64 ((f : Nat) : Int), .pointer (some ⟨g2, 0, none⟩), undef, .int .i64 0, .int .i64 (bitsU 0), .int .i64 (((f : Nat) : Int) - 1), undef, .int .i64 ((f : Nat) : Int), .bool true, .bool false, .bool false, .agg (iv x), .int .i64 ((f : Nat) : Int), .bool true, .bool false, .bool false, .int .i64 (bitsU 0), .int .i64 ((f : Nat) : Int), .int .i64 (((f : Nat) : Int) - 1), undef, undef, undef, undef, undef, undef, undef, undef, undef, undef, undef, undef, undef, undef, undef, undef, undef, undef, undef, undef, undef, undef], []⟩) (by kernel_rfl) ?_
    refine wp_seq_k (fun K14 hK14 => ?_)
    refine wp_seq_k (fun K15 hK15 => ?_)
    refine wl_region ?_
    refine st_val (.int .i64 ((f : Nat) : Int)) (by kernel_rfl) (by kernel_rfl) ?_
    refine st_val (.int .i64 ((f : Nat) : Int)) (by kernel_rfl) (by kernel_rfl) ?_
    refine wl_nil ?_
    refine hK15 _ _ ?_
    try clear hK15 K15
    refine wp_block ?_
    refine wp_loop_ghost (fun gn a' w' => ∃ (p : Nat) (at_ : Nat) (n : Int) (B : List Nat) (u16 : Nat → Value), ((p ≤ 64 ∧ f ≤ at_ ∧ at_ ≤ p ∧ n = bitsU 0 + (B.length : Nat) ∧ B ++ bcode x (64 - p) at_ p = bcode x (64 - f) f f) ∧ Mem NoS w w' [(g2, .cells (iv x) 23 (0, 0))]) ∧ gn = 64 - p ∧ a' = ⟨#[.agg (iv x), .int .i64 ((f : Nat) : Int), .pointer (some ⟨g2, 0, none⟩), undef, .int .i64 0, .int .i64 n, .int .i64 (((at_ : Nat) : Int) - 1), .int .i64 ((p : Nat) : Int), .int .i64 ((f : Nat) : Int), .bool true, .bool false, .bool false, .agg (iv x), .int .i64 ((f : Nat) : Int), .bool true, .bool false, .bool false, .int .i64 (bitsU 0), .int .i64 ((f : Nat) : Int), .int .i64 (((f : Nat) : Int) - 1), .int .i64 ((f : Nat) : Int), (u16 21), (u16 22), (u16 23), (u16 24), (u16 25), (u16 26), (u16 27), (u16 28), (u16 29), (u16 30), (u16 31), (u16 32), (u16 33), (u16 34), (u16 35), (u16 36), (u16 37), (u16 38), (u16 39), (u16 40), undef], []⟩) _ ⟨f, f, (bitsU 0), ([]), (fun zz => Array.getD #[.agg (iv x), .int .i64 ((f : Nat) : Int), .pointer (some ⟨g2, 0, none⟩), undef, .int .i64 0, .int .i64 (bitsU 0), .int .i64 (((f : Nat) : Int) - 1), .int .i64 ((f : Nat) : Int), .int .i64 ((f : Nat) : Int), .bool true, .bool false, .bool false, .agg (iv x), .int .i64 ((f : Nat) : Int), .bool true, .bool false, .bool false, .int .i64 (bitsU 0), .int .i64 ((f : Nat) : Int), .int .i64 (((f : Nat) : Int) - 1), .int .i64 ((f : Nat) : Int), undef, undef, undef, undef, undef, undef, undef, undef, undef, undef, undef, undef, undef, undef, undef, undef, undef, undef, undef, undef, undef] zz undef), ⟨⟨by omega, by omega, by omega, by simp, rfl⟩, M13⟩, rfl, (by kernel_rfl)⟩ ?_
    rintro gn _ W17 ⟨p, at_, n, B, u16, ⟨⟨rp, ra, rb, hn, hC⟩, M18⟩, rfl, rfl⟩
    have hCl := bcode_le x (64 - f) f f (by omega)
    have hBl := congrArg List.length hC
    simp only [List.length_append] at hBl
    have hb0 : bitsU 0 = (((codeN 0).length : Nat) : Int) := bits_codeN (v := 0) (by omega)
    have hb1 := codeN_le (v := 0) (by omega)
    refine wp_seq_k (fun K19 hK19 => ?_)
    refine wp_seq_k (fun K20 hK20 => ?_)
    refine wl_region ?_
    refine st_val (.int .i64 ((p : Nat) : Int)) (by kernel_rfl) (by kernel_rfl) ?_
    rcases Decidable.em ((((p : Nat) : Int) : Int) < 64) with c22 | c22
    ·
      refine st_val (.bool true) (by kernel_rfl) (bool_of (dec_t c22) (by kernel_rfl)) ?_
      refine wl_nil ?_
      refine hK20 _ _ ?_
      try clear hK20 K20
      refine wp_cond_true (by kernel_rfl) ?_
      refine wp_skip ?_
      refine hK19 _ _ ?_
      try clear hK19 K19
      refine wp_seq_k (fun K21 hK21 => ?_)
      refine wp_block ?_
      refine wp_seq_k (fun K22 hK22 => ?_)
      refine wl_region ?_
      refine st_val (.int .i64 ((p : Nat) : Int)) (by kernel_rfl) (by kernel_rfl) ?_
      refine st_val (.pointer (some ⟨g2, p, none⟩)) (by kernel_rfl) (run_indexAddr 23 (.tmp 2) (.tmp 25) rfl ⟨g2, 0, none⟩ .i64 p (by kernel_rfl) (by kernel_rfl) Try.underlying23 1 (by kernel_rfl) (by omega) ⟨g2, p, none⟩ (addr_at0 _ _)) ?_
      refine st_val (.int .i64 (x.getD p 0)) (by kernel_rfl) (run_load_cell 3 (.tmp 26) rfl ⟨g2, p, none⟩ (by kernel_rfl) _ (M18.cell 0 rfl p _ (iv_get x p (by rw [hx]; omega))) (by kernel_rfl)) ?_
      rcases Decidable.em ((x.getD p 0 : Int) = 0) with c28 | c28
      ·
        refine st_val (.bool false) (by kernel_rfl) (bool_of (neq_f c28) (by kernel_rfl)) ?_
        refine wl_nil ?_
        refine hK22 _ _ ?_
        try clear hK22 K22
        refine wp_cond_false (by kernel_rfl) ?_
        refine wp_skip ?_
        refine blk_normal ?_
        refine hK21 _ _ ?_
        try clear hK21 K21
        refine wl_region ?_
        refine st_val (.int .i64 ((p : Nat) : Int)) (by kernel_rfl) (by kernel_rfl) ?_
        refine st_val (.int .i64 (((p : Nat) : Int) + 1)) (by kernel_rfl) (i64_of (by omega) (by kernel_rfl)) ?_
        refine st_val (.int .i64 (((p : Nat) : Int) + 1)) (by kernel_rfl) (by kernel_rfl) ?_
        refine wl_nil ?_
        refine th_normal ?_
        exact ⟨_, (by omega), (p + 1), at_, n, B, (fun zz => Array.getD #[.agg (iv x), .int .i64 ((f : Nat) : Int), .pointer (some ⟨g2, 0, none⟩), undef, .int .i64 0, .int .i64 n, .int .i64 (((at_ : Nat) : Int) - 1), .int .i64 (((p : Nat) : Int) + 1), .int .i64 ((f : Nat) : Int), .bool true, .bool false, .bool false, .agg (iv x), .int .i64 ((f : Nat) : Int), .bool true, .bool false, .bool false, .int .i64 (bitsU 0), .int .i64 ((f : Nat) : Int), .int .i64 (((f : Nat) : Int) - 1), .int .i64 ((f : Nat) : Int), .int .i64 ((p : Nat) : Int), .bool true, .int .i64 ((p : Nat) : Int), .int .i64 (((p : Nat) : Int) + 1), .int .i64 ((p : Nat) : Int), .pointer (some ⟨g2, p, none⟩), .int .i64 (x.getD p 0), .bool false, (u16 29), (u16 30), (u16 31), (u16 32), (u16 33), (u16 34), (u16 35), (u16 36), (u16 37), (u16 38), (u16 39), (u16 40), undef] zz undef), ⟨⟨by omega, by omega, by omega, hn, bcode_step0 (by omega) (by omega) hC⟩, M18⟩, rfl, (by kernel_rfl)⟩
      ·
        refine st_val (.bool true) (by kernel_rfl) (bool_of (neq_t c28) (by kernel_rfl)) ?_
        refine wl_nil ?_
        refine hK22 _ _ ?_
        try clear hK22 K22
        refine wp_cond_true (by kernel_rfl) ?_
        refine wp_seq_k (fun K23 hK23 => ?_)
        have hq1 := bits_codeN (v := p - at_ + 1) (by omega)
        have hq2 := bits_codeS (lev_mayS (hall p (by omega) (by omega)))
        have hq3 := codeN_le (v := p - at_ + 1) (by omega)
        have hq4 := codeS_le (x.getD p 0)
        refine wl_seq 12 (fun w' => Mem NoS w w' [(g2, .cells (iv x) 23 (0, 0))]) (by decide) (by kernel_rfl) (by kernel_rfl) M18.drew ?_
        refine seq_run (v := .int .i64 n) (by decide) (by kernel_rfl) (fun w' M' => (by kernel_rfl)) ?_
        refine seq_run (v := .int .i64 ((p : Nat) : Int)) (by decide) (by kernel_rfl) (fun w' M' => (by kernel_rfl)) ?_
        refine seq_run (v := .int .i64 (((at_ : Nat) : Int) - 1)) (by decide) (by kernel_rfl) (fun w' M' => (by kernel_rfl)) ?_
        refine seq_run (v := .int .i64 ((p - at_ + 1 : Nat) : Int)) (by decide) (by kernel_rfl) (fun w' M' => (int_of (show ((p : Nat) : Int) - (((at_ : Nat) : Int) - 1) = ((p - at_ + 1 : Nat) : Int) by omega) (i64_of (by omega) (by kernel_rfl)))) ?_
        refine seq_call (v := .int .i64 (bitsU ((p - at_ + 1 : Nat) : Int))) (f := 31) (args := #[.int .i64 ((p - at_ + 1 : Nat) : Int)]) (by decide) (by kernel_rfl) (fun w' M' => (run_value_call 31 #[(Operand.tmp 32)] _ rfl Try.func31 (by kernel_rfl) (by kernel_rfl) _ (by kernel_rfl))) (fun w' M' => callB_mem M' (bits_vlc w' ((p - at_ + 1 : Nat) : Int) (by omega))) ?_
        refine seq_run (v := .int .i64 ((p : Nat) : Int)) (by decide) (by kernel_rfl) (fun w' M' => (by kernel_rfl)) ?_
        refine seq_run (v := .pointer (some ⟨g2, p, none⟩)) (by decide) (by kernel_rfl) (fun w' M' => (run_indexAddr 23 (.tmp 2) (.tmp 34) rfl ⟨g2, 0, none⟩ .i64 p (by kernel_rfl) (by kernel_rfl) Try.underlying23 1 (by kernel_rfl) (by omega) ⟨g2, p, none⟩ (addr_at0 _ _))) ?_
        refine seq_run (v := .int .i64 (x.getD p 0)) (by decide) (by kernel_rfl) (fun w' M' => (run_load_cell 3 (.tmp 35) rfl ⟨g2, p, none⟩ (by kernel_rfl) _ (M'.cell 0 rfl p _ (iv_get x p (by rw [hx]; omega))) (by kernel_rfl))) ?_
        refine seq_call (v := .int .i64 (bitsS (x.getD p 0))) (f := 32) (args := #[.int .i64 (x.getD p 0)]) (by decide) (by kernel_rfl) (fun w' M' => (run_value_call 32 #[(Operand.tmp 36)] _ rfl Try.func32 (by kernel_rfl) (by kernel_rfl) _ (by kernel_rfl))) (fun w' M' => callB_mem M' (sbits_vlc w' (x.getD p 0) (by have h0 := hall p (by omega) (by omega); have := h0.1; have := h0.2; omega))) ?_
        refine seq_run (v := .int .i64 ((bitsU ((p - at_ + 1 : Nat) : Int)) + (bitsS (x.getD p 0)))) (by decide) (by kernel_rfl) (fun w' M' => (i64_of (by omega) (by kernel_rfl))) ?_
        refine seq_run (v := .int .i64 (n + ((bitsU ((p - at_ + 1 : Nat) : Int)) + (bitsS (x.getD p 0))))) (by decide) (by kernel_rfl) (fun w' M' => (i64_of (by omega) (by kernel_rfl))) ?_
        refine seq_run (v := .int .i64 (n + ((bitsU ((p - at_ + 1 : Nat) : Int)) + (bitsS (x.getD p 0))))) (by decide) (by kernel_rfl) (fun w' M' => (by kernel_rfl)) ?_
        refine seq_end (by decide) ?_
        intro W24 M25
        refine wl_nil ?_
        refine hK23 _ _ ?_
        try clear hK23 K23
        refine wp_frame (a' := ⟨#[.agg (iv x), .int .i64 ((f : Nat) : Int), .pointer (some ⟨g2, 0, none⟩), undef, .int .i64 0, .int .i64 (n + ((bitsU ((p - at_ + 1 : Nat) : Int)) + (bitsS (x.getD p 0)))), .int .i64 (((at_ : Nat) : Int) - 1), .int .i64 ((p : Nat) : Int), .int .i64 ((f : Nat) : Int), .bool true, .bool false, .bool false, .agg (iv x), .int .i64 ((f : Nat) : Int), .bool true, .bool false, .bool false, .int .i64 (bitsU 0), .int .i64 ((f : Nat) : Int), .int .i64 (((f : Nat) : Int) - 1), .int .i64 ((f : Nat) : Int), .int .i64 ((p : Nat) : Int), .bool true, (u16 23), (u16 24), .int .i64 ((p : Nat) : Int), .pointer (some ⟨g2, p, none⟩), .int .i64 (x.getD p 0), .bool true, .int .i64 n, .int .i64 ((p : Nat) : Int), .int .i64 (((at_ : Nat) : Int) - 1), .int .i64 ((p - at_ + 1 : Nat) : Int), .int .i64 (bitsU ((p - at_ + 1 : Nat) : Int)), .int .i64 ((p : Nat) : Int), .pointer (some ⟨g2, p, none⟩), .int .i64 (x.getD p 0), .int .i64 (bitsS (x.getD p 0)), .int .i64 ((bitsU ((p - at_ + 1 : Nat) : Int)) + (bitsS (x.getD p 0))), .int .i64 (n + ((bitsU ((p - at_ + 1 : Nat) : Int)) + (bitsS (x.getD p 0)))), (u16 40), undef], []⟩) (by kernel_rfl) ?_
        refine wl_region ?_
        refine st_val (.int .i64 (((p + 1 : Nat) : Int) - 1)) (by kernel_rfl) (int_of (show ((p : Nat) : Int) = ((p + 1 : Nat) : Int) - 1 by omega) (by kernel_rfl)) ?_
        refine st_val (.int .i64 (((p + 1 : Nat) : Int) - 1)) (by kernel_rfl) (by kernel_rfl) ?_
        refine wl_nil ?_
        refine blk_normal ?_
        refine hK21 _ _ ?_
        try clear hK21 K21
        refine wl_region ?_
        refine st_val (.int .i64 ((p : Nat) : Int)) (by kernel_rfl) (by kernel_rfl) ?_
        refine st_val (.int .i64 (((p : Nat) : Int) + 1)) (by kernel_rfl) (i64_of (by omega) (by kernel_rfl)) ?_
        refine st_val (.int .i64 (((p : Nat) : Int) + 1)) (by kernel_rfl) (by kernel_rfl) ?_
        refine wl_nil ?_
        refine th_normal ?_
        exact ⟨_, (by omega), (p + 1), (p + 1), (n + ((bitsU ((p - at_ + 1 : Nat) : Int)) + (bitsS (x.getD p 0)))), ((B ++ codeN (p - at_ + 1)) ++ codeS (x.getD p 0)), (fun zz => Array.getD #[.agg (iv x), .int .i64 ((f : Nat) : Int), .pointer (some ⟨g2, 0, none⟩), undef, .int .i64 0, .int .i64 (n + ((bitsU ((p - at_ + 1 : Nat) : Int)) + (bitsS (x.getD p 0)))), .int .i64 (((p + 1 : Nat) : Int) - 1), .int .i64 (((p : Nat) : Int) + 1), .int .i64 ((f : Nat) : Int), .bool true, .bool false, .bool false, .agg (iv x), .int .i64 ((f : Nat) : Int), .bool true, .bool false, .bool false, .int .i64 (bitsU 0), .int .i64 ((f : Nat) : Int), .int .i64 (((f : Nat) : Int) - 1), .int .i64 ((f : Nat) : Int), .int .i64 ((p : Nat) : Int), .bool true, .int .i64 ((p : Nat) : Int), .int .i64 (((p : Nat) : Int) + 1), .int .i64 ((p : Nat) : Int), .pointer (some ⟨g2, p, none⟩), .int .i64 (x.getD p 0), .bool true, .int .i64 n, .int .i64 ((p : Nat) : Int), .int .i64 (((at_ : Nat) : Int) - 1), .int .i64 ((p - at_ + 1 : Nat) : Int), .int .i64 (bitsU ((p - at_ + 1 : Nat) : Int)), .int .i64 ((p : Nat) : Int), .pointer (some ⟨g2, p, none⟩), .int .i64 (x.getD p 0), .int .i64 (bitsS (x.getD p 0)), .int .i64 ((bitsU ((p - at_ + 1 : Nat) : Int)) + (bitsS (x.getD p 0))), .int .i64 (n + ((bitsU ((p - at_ + 1 : Nat) : Int)) + (bitsS (x.getD p 0)))), .int .i64 (((p + 1 : Nat) : Int) - 1), undef] zz undef), ⟨⟨by omega, by omega, by omega, by simp only [List.length_append]; omega, bcode_step1 (by omega) c28 hC⟩, M25⟩, rfl, (by kernel_rfl)⟩
    ·
      refine st_val (.bool false) (by kernel_rfl) (bool_of (dec_f c22) (by kernel_rfl)) ?_
      refine wl_nil ?_
      refine hK20 _ _ ?_
      try clear hK20 K20
      refine wp_cond_false (by kernel_rfl) ?_
      refine wp_exit ?_
      refine th_exit ?_
      refine th_exit ?_
      refine blk_exit ?_
      refine hK14 _ _ ?_
      try clear hK14 K14
      refine wp_seq_k (fun K26 hK26 => ?_)
      refine wl_region ?_
      refine st_val (.int .i64 n) (by kernel_rfl) (by kernel_rfl) ?_
      refine st_val (.int .i64 n) (by kernel_rfl) (by kernel_rfl) ?_
      refine wl_nil ?_
      refine hK26 _ _ ?_
      try clear hK26 K26
      refine wp_ret ?_
      exact done1 4 (.int .i64 n) (by kernel_rfl) (by kernel_rfl) (by kernel_rfl) ⟨by rw [(bE_ok hf hok).2, ← hC, show 64 - p = 0 by omega, List.length_append]; show Ending.returned (.int .i64 n) = Ending.returned (.int .i64 ((B.length + (codeN 0).length : Nat) : Int)); rw [show n = ((B.length + (codeN 0).length : Nat) : Int) by omega], M18.toBelow⟩
  ·
    refine st_callB M8 (.bool false) (by kernel_rfl) (args := #[.agg (iv x), .int .i64 ((f : Nat) : Int)]) (run_value_call 25 #[(Operand.tmp 12), (Operand.tmp 13)] _ rfl Try.func25 (by kernel_rfl) (by kernel_rfl) _ (by kernel_rfl)) ((by have := fits_walk W7 x hx f hf; rw [hok] at this; exact this)) ?_
    intro W27 M28
    refine st_val (.bool true) (by kernel_rfl) (by kernel_rfl) ?_
    refine st_val (.bool true) (by kernel_rfl) (by kernel_rfl) ?_
    refine wl_nil ?_
    refine hK6 _ _ ?_
    try clear hK6 K6
    refine wp_cond_true (by kernel_rfl) ?_
    refine wp_seq_k (fun K29 hK29 => ?_)
    refine wl_region ?_
    refine st_val (.int .i64 0) (by kernel_rfl) (by kernel_rfl) ?_
    refine wl_nil ?_
    refine hK29 _ _ ?_
    try clear hK29 K29
    refine wp_ret ?_
    refine th_ret ?_
    exact done1 4 (.int .i64 0) (by kernel_rfl) (by kernel_rfl) (by kernel_rfl) ⟨by rw [(bE_rng hf hok).2]; rfl, M28.toBelow⟩
set_option maxHeartbeats 4000000 in
set_option maxRecDepth 100000 in
theorem bbits_any (w : World) (x : List Int) (hx : x.length = 64) (fr : Int) : Calls Try.prog 11 #[.agg (iv x), .int .i64 fr] w fun e w' => e = .returned (.int .i64 (((bC x fr).length : Nat) : Int)) ∧ Below w.heap.size w w' := by
  rcases bE_cases x fr with ⟨h, _, _⟩ | ⟨f, rfl, hf, _⟩
  · exact bbits_arg w x hx fr h
  · exact bbits_ok w x hx f hf
end Go.Proofs.Ytmchfkkifeioeaa
