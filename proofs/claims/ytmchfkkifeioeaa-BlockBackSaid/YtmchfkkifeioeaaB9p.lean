/- Blocks are written. -/
import Derived.Test.YtmchfkkifeioeaaB9
namespace Go.Proofs.Ytmchfkkifeioeaa
open Go.RowKit Bt

theorem bits_codeS {v : Int} (h : mayS v) : bitsS v = ((codeS v).length : Nat) := (codeS_len v).symm
theorem bits_codeN {v : Nat} (h : v ≤ 65534) : bitsU (v : Int) = ((codeN v).length : Nat) := by
  rw [← codeU_len, show codeU (v : Int) = codeN v from by unfold codeU; rw [if_pos ⟨by omega, by omega⟩, Int.toNat_natCast]]
theorem codeU_n {v : Nat} (h : v ≤ 65534) : codeU (v : Int) = codeN v := by unfold codeU; rw [if_pos ⟨by omega, by omega⟩, Int.toNat_natCast]
theorem errU_n {v : Nat} (h : v ≤ 65534) : errU (v : Int) = 0 := if_pos ⟨by omega, by omega⟩
theorem errS_l {v : Int} (h : lev v) : errS v = 0 := if_pos (lev_mayS h)
theorem bcode_step0 {x : List Int} {at_ p : Nat} {B C : List Nat} (hp : p < 64) (h0 : x.getD p 0 = 0) (h : B ++ bcode x (64 - p) at_ p = C) : B ++ bcode x (64 - (p + 1)) at_ (p + 1) = C := by
  rwa [show 64 - p = (64 - (p + 1)) + 1 by omega, bcode_zero h0] at h
theorem bcode_step1 {x : List Int} {at_ p : Nat} {B C : List Nat} (hp : p < 64) (h0 : ¬ x.getD p 0 = 0) (h : B ++ bcode x (64 - p) at_ p = C) : ((B ++ codeN (p - at_ + 1)) ++ codeS (x.getD p 0)) ++ bcode x (64 - (p + 1)) (p + 1) (p + 1) = C := by
  rw [show 64 - p = (64 - (p + 1)) + 1 by omega, bcode_level h0] at h
  rw [List.append_assoc, List.append_assoc]; exact h
set_option maxHeartbeats 4000000 in
set_option maxRecDepth 100000 in
theorem bput_nil (w : World) (x : List Int) (hx : x.length = 64) (fr : Int) : Calls Try.prog 9 #[.pointer none, .agg (iv x), .int .i64 fr] w fun e w' => e = .returned (.int .i64 1) ∧ Below w.heap.size w w' := by
  refine calls_of_wp Try.func9 rfl ?_
  refine wp_frame (a' := ⟨#[.pointer none, .agg (iv x), .int .i64 fr, undef, undef, undef, undef, undef, undef, undef, undef, undef, undef, undef, undef, undef, undef, undef, undef, undef, undef, undef, undef, undef, undef, undef, undef, undef, undef, undef, undef, undef, undef, undef, undef, undef, undef, undef, undef, undef, undef, undef, undef, undef, undef, undef, undef, undef, undef, undef, undef, undef, undef, undef], []⟩) (by kernel_rfl) ?_
  have M0 : Mem NoS w w [] := Mem.start _ _
  refine wp_seq_k (fun K1 hK1 => ?_)
  refine wl_region ?_
  refine st_alloc M0 (.cells (iv x) 23 (0, 0)) (by kernel_rfl) (by kernel_rfl) ?_
  intro g2 W3 M4
  refine st_val (.int .i64 0) (by kernel_rfl) (by kernel_rfl) ?_
  refine wl_nil ?_
  refine hK1 _ _ ?_
  try clear hK1 K1
  refine wp_seq_k (fun K5 hK5 => ?_)
  refine wp_block ?_
  refine wp_seq_k (fun K6 hK6 => ?_)
  refine wl_region ?_
  refine st_val (.pointer none) (by kernel_rfl) (by kernel_rfl) ?_
  refine st_val (.bool true) (by kernel_rfl) (by kernel_rfl) ?_
  refine st_val (.bool true) (by kernel_rfl) (by kernel_rfl) ?_
  refine st_skip (by kernel_rfl) ?_
  refine st_skip (by kernel_rfl) ?_
  refine st_skip (by kernel_rfl) ?_
  refine st_val (.bool true) (by kernel_rfl) (by kernel_rfl) ?_
  refine st_val (.bool true) (by kernel_rfl) (by kernel_rfl) ?_
  refine wl_nil ?_
  refine hK6 _ _ ?_
  try clear hK6 K6
  refine wp_cond_true (by kernel_rfl) ?_
  refine wp_seq_k (fun K7 hK7 => ?_)
  refine wl_region ?_
  refine st_val (.int .i64 1) (by kernel_rfl) (by kernel_rfl) ?_
  refine wl_nil ?_
  refine hK7 _ _ ?_
  try clear hK7 K7
  refine wp_ret ?_
  refine blk_ret ?_
  refine th_ret ?_
  exact done1 6 (.int .i64 1) (by kernel_rfl) (by kernel_rfl) (by kernel_rfl) ⟨rfl, M4.toBelow⟩
set_option maxHeartbeats 4000000 in
set_option maxRecDepth 100000 in
theorem bput_arg (w : World) {g : Nat} {l : List Nat} {T : List (Nat × Obj)} (hO : OwnW g l T) (hT : Mem (fun k => k ∈ T.map (·.1)) w w T) (hl : l.length ≤ 100000000) (x : List Int) (hx : x.length = 64) (fr : Int) (hfr : ¬ (fr = 0 ∨ fr = 1)) : UpdRow Try.prog 9 #[.pointer (some ⟨g, 0, none⟩), .agg (iv x), .int .i64 fr] w T (fun r T' => r = .int .i64 1 ∧ OwnW g (l ++ []) T') := by
  unfold UpdRow
  have M0 : Mem (fun k => k ∈ (T).map (·.1)) w w (T ++ []) := by rw [List.append_nil]; exact hT
  refine calls_of_wp Try.func9 rfl ?_
  refine wp_frame (a' := ⟨#[.pointer (some ⟨g, 0, none⟩), .agg (iv x), .int .i64 fr, undef, undef, undef, undef, undef, undef, undef, undef, undef, undef, undef, undef, undef, undef, undef, undef, undef, undef, undef, undef, undef, undef, undef, undef, undef, undef, undef, undef, undef, undef, undef, undef, undef, undef, undef, undef, undef, undef, undef, undef, undef, undef, undef, undef, undef, undef, undef, undef, undef, undef, undef], []⟩) (by kernel_rfl) ?_
  refine wp_seq_k (fun K1 hK1 => ?_)
  refine wl_region ?_
  refine st_alloc M0 (.cells (iv x) 23 (0, 0)) (by kernel_rfl) (by kernel_rfl) ?_
  intro g2 W3 M4
  refine st_val (.int .i64 0) (by kernel_rfl) (by kernel_rfl) ?_
  refine wl_nil ?_
  refine hK1 _ _ ?_
  try clear hK1 K1
  refine wp_seq_k (fun K5 hK5 => ?_)
  refine wp_block ?_
  refine wp_seq_k (fun K6 hK6 => ?_)
  refine wl_region ?_
  refine st_val (.pointer (some ⟨g, 0, none⟩)) (by kernel_rfl) (by kernel_rfl) ?_
  refine st_val (.bool false) (by kernel_rfl) (by kernel_rfl) ?_
  refine st_val (.bool false) (by kernel_rfl) (by kernel_rfl) ?_
  refine st_val (.int .i64 fr) (by kernel_rfl) (by kernel_rfl) ?_
  refine st_callB M4 (.bool false) (by kernel_rfl) (args := #[.int .i64 fr]) (run_value_call 24 #[(Operand.tmp 15)] _ rfl Try.func24 (by kernel_rfl) (by kernel_rfl) _ (by kernel_rfl)) ((by have := start_walk W3 fr; rw [decide_eq_false hfr] at this; exact this)) ?_
  intro W7 M8
  refine st_val (.bool true) (by kernel_rfl) (by kernel_rfl) ?_
  refine st_val (.bool true) (by kernel_rfl) (by kernel_rfl) ?_
  refine st_val (.bool true) (by kernel_rfl) (by kernel_rfl) ?_
  refine wl_nil ?_
  refine hK6 _ _ ?_
  try clear hK6 K6
  refine wp_cond_true (by kernel_rfl) ?_
  refine wp_seq_k (fun K9 hK9 => ?_)
  refine wl_region ?_
  refine st_val (.int .i64 1) (by kernel_rfl) (by kernel_rfl) ?_
  refine wl_nil ?_
  refine hK9 _ _ ?_
  try clear hK9 K9
  refine wp_ret ?_
  refine blk_ret ?_
  refine th_ret ?_
  exact done1 6 (.int .i64 1) (by kernel_rfl) (by kernel_rfl) (by kernel_rfl) ⟨_, T, rfl, ⟨rfl, by rw [List.append_nil]; exact hO⟩, M8.sub (((List.sublist_append_left T [])).cons _)⟩
set_option maxHeartbeats 4000000 in
set_option maxRecDepth 100000 in
theorem bput_walk (w : World) {g : Nat} {l : List Nat} {T : List (Nat × Obj)} (hO : OwnW g l T) (hT : Mem (fun k => k ∈ T.map (·.1)) w w T) (hl : l.length ≤ 100000000) (x : List Int) (hx : x.length = 64) (f : Nat) (hf : f ≤ 1) : UpdRow Try.prog 9 #[.pointer (some ⟨g, 0, none⟩), .agg (iv x), .int .i64 (f : Int)] w T (fun r T' => r = .int .i64 (bE x f) ∧ OwnW g (l ++ bC x f) T') := by
  unfold UpdRow
  have M0 : Mem (fun k => k ∈ (T).map (·.1)) w w (T ++ []) := by rw [List.append_nil]; exact hT
  refine calls_of_wp Try.func9 rfl ?_
  refine wp_frame (a' := ⟨#[.pointer (some ⟨g, 0, none⟩), .agg (iv x), .int .i64 ((f : Nat) : Int), undef, undef, undef, undef, undef, undef, undef, undef, undef, undef, undef, undef, undef, undef, undef, undef, undef, undef, undef, undef, undef, undef, undef, undef, undef, undef, undef, undef, undef, undef, undef, undef, undef, undef, undef, undef, undef, undef, undef, undef, undef, undef, undef, undef, undef, undef, undef, undef, undef, undef, undef], []⟩) (by kernel_rfl) ?_
  refine wp_seq_k (fun K1 hK1 => ?_)
  refine wl_region ?_
  refine st_alloc M0 (.cells (iv x) 23 (0, 0)) (by kernel_rfl) (by kernel_rfl) ?_
  intro g2 W3 M4
  refine st_val (.int .i64 0) (by kernel_rfl) (by kernel_rfl) ?_
  refine wl_nil ?_
  refine hK1 _ _ ?_
  try clear hK1 K1
  refine wp_seq_k (fun K5 hK5 => ?_)
  refine wp_block ?_
  refine wp_seq_k (fun K6 hK6 => ?_)
  refine wl_region ?_
  refine st_val (.pointer (some ⟨g, 0, none⟩)) (by kernel_rfl) (by kernel_rfl) ?_
  refine st_val (.bool false) (by kernel_rfl) (by kernel_rfl) ?_
  refine st_val (.bool false) (by kernel_rfl) (by kernel_rfl) ?_
  refine st_val (.int .i64 ((f : Nat) : Int)) (by kernel_rfl) (by kernel_rfl) ?_
  refine st_callB M4 (.bool true) (by kernel_rfl) (args := #[.int .i64 ((f : Nat) : Int)]) (run_value_call 24 #[(Operand.tmp 15)] _ rfl Try.func24 (by kernel_rfl) (by kernel_rfl) _ (by kernel_rfl)) ((by have := start_walk W3 ((f : Nat) : Int); rw [decide_eq_true (by omega)] at this; exact this)) ?_
  intro W7 M8
  refine st_val (.bool false) (by kernel_rfl) (by kernel_rfl) ?_
  refine st_val (.bool false) (by kernel_rfl) (by kernel_rfl) ?_
  refine st_val (.bool false) (by kernel_rfl) (by kernel_rfl) ?_
  refine wl_nil ?_
  refine hK6 _ _ ?_
  try clear hK6 K6
  refine wp_cond_false (by kernel_rfl) ?_
  refine wp_seq_k (fun K9 hK9 => ?_)
  refine wl_region ?_
  refine st_val (.agg (iv x)) (by kernel_rfl) (run_load_row 23 (.tmp 4) rfl g2 (by kernel_rfl) 23 (iv x) (0, 0) _ (M8.get 0 rfl) Try.underlying23 rfl (info64 _ hx)) ?_
  refine st_val (.int .i64 ((f : Nat) : Int)) (by kernel_rfl) (by kernel_rfl) ?_
  rcases Bool.eq_false_or_eq_true (okB x f) with hok | hok
  ·
    have hall := okB_of hok
    refine st_callB M8 (.bool true) (by kernel_rfl) (args := #[.agg (iv x), .int .i64 ((f : Nat) : Int)]) (run_value_call 25 #[(Operand.tmp 20), (Operand.tmp 21)] _ rfl Try.func25 (by kernel_rfl) (by kernel_rfl) _ (by kernel_rfl)) ((by have := fits_walk W7 x hx f hf; rw [hok] at this; exact this)) ?_
    intro W10 M11
    refine st_val (.bool false) (by kernel_rfl) (by kernel_rfl) ?_
    refine st_val (.bool false) (by kernel_rfl) (by kernel_rfl) ?_
    refine wl_nil ?_
    refine hK9 _ _ ?_
    try clear hK9 K9
    refine wp_frame (a' := ⟨#[.pointer (some ⟨g, 0, none⟩), .agg (iv x), .int .i64 ((f : Nat) : Int), undef, .pointer (some ⟨g2, 0, none⟩), undef, .int .i64 0, undef, undef, undef, undef, .bool false, .pointer (some ⟨g, 0, none⟩), .bool false, .bool false, .int .i64 ((f : Nat) : Int), .bool true, .bool false, .bool false, .bool false, .agg (iv x), .int .i64 ((f : Nat) : Int), .bool true, .bool false, undef, undef, undef, undef, undef, undef, undef, undef, undef, undef, undef, undef, undef, undef, undef, undef, undef, undef, undef, undef, undef, undef, undef, undef, undef, undef, undef, undef, undef, undef], []⟩) (by kernel_rfl) ?_
    refine wp_cond_false (by kernel_rfl) ?_
    refine wp_skip ?_
    refine blk_normal ?_
    refine hK5 _ _ ?_
    try clear hK5 K5
    refine wp_seq_k (fun K12 hK12 => ?_)
    refine wl_region ?_
    refine st_val (.int .i64 ((f : Nat) : Int)) (by kernel_rfl) (by kernel_rfl) ?_
    refine st_val (.int .i64 (((f : Nat) : Int) - 1)) (by kernel_rfl) (i64_of (by omega) (by kernel_rfl)) ?_
    refine st_val (.int .i64 (((f : Nat) : Int) - 1)) (by kernel_rfl) (by kernel_rfl) ?_
    refine wl_nil ?_
    refine hK12 _ _ ?_
    try clear hK12 K12
    refine wp_seq_k (fun K13 hK13 => ?_)
    refine wp_seq_k (fun K14 hK14 => ?_)
    refine wl_region ?_
    refine st_val (.int .i64 ((f : Nat) : Int)) (by kernel_rfl) (by kernel_rfl) ?_
    refine st_val (.int .i64 ((f : Nat) : Int)) (by kernel_rfl) (by kernel_rfl) ?_
    refine wl_nil ?_
    refine hK14 _ _ ?_
    try clear hK14 K14
    refine wp_block ?_
    refine wp_loop_ghost (fun gn a' w' => ∃ (p : Nat) (at_ : Nat) (B : List Nat) (T1 : List (Nat × Obj)) (u15 : Nat → Value), ((p ≤ 64 ∧ f ≤ at_ ∧ at_ ≤ p ∧ OwnW g B T1 ∧ B ++ bcode x (64 - p) at_ p = l ++ bcode x (64 - f) f f) ∧ Mem (fun k => k ∈ T.map (·.1)) w w' ((g2, .cells (iv x) 23 (0, 0)) :: (T1 ++ []))) ∧ gn = 64 - p ∧ a' = ⟨#[.pointer (some ⟨g, 0, none⟩), .agg (iv x), .int .i64 ((f : Nat) : Int), undef, .pointer (some ⟨g2, 0, none⟩), undef, (u15 6), .int .i64 (((at_ : Nat) : Int) - 1), .int .i64 ((p : Nat) : Int), (u15 9), (u15 10), .bool false, .pointer (some ⟨g, 0, none⟩), .bool false, .bool false, .int .i64 ((f : Nat) : Int), .bool true, .bool false, .bool false, .bool false, .agg (iv x), .int .i64 ((f : Nat) : Int), .bool true, .bool false, .int .i64 ((f : Nat) : Int), .int .i64 (((f : Nat) : Int) - 1), .int .i64 ((f : Nat) : Int), (u15 27), (u15 28), (u15 29), (u15 30), (u15 31), (u15 32), (u15 33), (u15 34), (u15 35), (u15 36), (u15 37), (u15 38), (u15 39), (u15 40), (u15 41), (u15 42), (u15 43), (u15 44), (u15 45), (u15 46), (u15 47), (u15 48), (u15 49), (u15 50), (u15 51), undef, undef], []⟩) _ ⟨f, f, l, T, (fun zz => Array.getD #[.pointer (some ⟨g, 0, none⟩), .agg (iv x), .int .i64 ((f : Nat) : Int), undef, .pointer (some ⟨g2, 0, none⟩), undef, .int .i64 0, .int .i64 (((f : Nat) : Int) - 1), .int .i64 ((f : Nat) : Int), undef, undef, .bool false, .pointer (some ⟨g, 0, none⟩), .bool false, .bool false, .int .i64 ((f : Nat) : Int), .bool true, .bool false, .bool false, .bool false, .agg (iv x), .int .i64 ((f : Nat) : Int), .bool true, .bool false, .int .i64 ((f : Nat) : Int), .int .i64 (((f : Nat) : Int) - 1), .int .i64 ((f : Nat) : Int), undef, undef, undef, undef, undef, undef, undef, undef, undef, undef, undef, undef, undef, undef, undef, undef, undef, undef, undef, undef, undef, undef, undef, undef, undef, undef, undef] zz undef), ⟨⟨by omega, by omega, by omega, hO, rfl⟩, M11⟩, rfl, (by kernel_rfl)⟩ ?_
    rintro gn _ W16 ⟨p, at_, B, T1, u15, ⟨⟨rp, ra, rb, O1, hC⟩, M17⟩, rfl, rfl⟩
    have hCl := bcode_le x (64 - f) f f (by omega)
    have hBl := congrArg List.length hC
    simp only [List.length_append] at hBl
    refine wp_seq_k (fun K18 hK18 => ?_)
    refine wp_seq_k (fun K19 hK19 => ?_)
    refine wl_region ?_
    refine st_val (.int .i64 ((p : Nat) : Int)) (by kernel_rfl) (by kernel_rfl) ?_
    rcases Decidable.em ((((p : Nat) : Int) : Int) < 64) with c28 | c28
    ·
      refine st_val (.bool true) (by kernel_rfl) (bool_of (dec_t c28) (by kernel_rfl)) ?_
      refine wl_nil ?_
      refine hK19 _ _ ?_
      try clear hK19 K19
      refine wp_cond_true (by kernel_rfl) ?_
      refine wp_skip ?_
      refine hK18 _ _ ?_
      try clear hK18 K18
      refine wp_seq_k (fun K20 hK20 => ?_)
      refine wp_block ?_
      refine wp_seq_k (fun K21 hK21 => ?_)
      refine wp_seq_k (fun K22 hK22 => ?_)
      refine wl_region ?_
      refine st_val (.int .i64 ((p : Nat) : Int)) (by kernel_rfl) (by kernel_rfl) ?_
      refine st_val (.pointer (some ⟨g2, p, none⟩)) (by kernel_rfl) (run_indexAddr 23 (.tmp 4) (.tmp 31) rfl ⟨g2, 0, none⟩ .i64 p (by kernel_rfl) (by kernel_rfl) Try.underlying23 1 (by kernel_rfl) (by omega) ⟨g2, p, none⟩ (addr_at0 _ _)) ?_
      refine st_val (.int .i64 (x.getD p 0)) (by kernel_rfl) (run_load_cell 3 (.tmp 32) rfl ⟨g2, p, none⟩ (by kernel_rfl) _ (M17.cell 0 rfl p _ (iv_get x p (by rw [hx]; omega))) (by kernel_rfl)) ?_
      rcases Decidable.em ((x.getD p 0 : Int) = 0) with c34 | c34
      ·
        refine st_val (.bool true) (by kernel_rfl) (bool_of (dec_t c34) (by kernel_rfl)) ?_
        refine wl_nil ?_
        refine hK22 _ _ ?_
        try clear hK22 K22
        refine wp_cond_true (by kernel_rfl) ?_
        refine wp_exit ?_
        refine th_exit ?_
        refine blk_exit ?_
        refine hK20 _ _ ?_
        try clear hK20 K20
        refine wl_region ?_
        refine st_val (.int .i64 ((p : Nat) : Int)) (by kernel_rfl) (by kernel_rfl) ?_
        refine st_val (.int .i64 (((p : Nat) : Int) + 1)) (by kernel_rfl) (i64_of (by omega) (by kernel_rfl)) ?_
        refine st_val (.int .i64 (((p : Nat) : Int) + 1)) (by kernel_rfl) (by kernel_rfl) ?_
        refine wl_nil ?_
        refine th_normal ?_
        exact ⟨_, (by omega), (p + 1), at_, B, T1, (fun zz => Array.getD #[.pointer (some ⟨g, 0, none⟩), .agg (iv x), .int .i64 ((f : Nat) : Int), undef, .pointer (some ⟨g2, 0, none⟩), undef, (u15 6), .int .i64 (((at_ : Nat) : Int) - 1), .int .i64 (((p : Nat) : Int) + 1), (u15 9), (u15 10), .bool false, .pointer (some ⟨g, 0, none⟩), .bool false, .bool false, .int .i64 ((f : Nat) : Int), .bool true, .bool false, .bool false, .bool false, .agg (iv x), .int .i64 ((f : Nat) : Int), .bool true, .bool false, .int .i64 ((f : Nat) : Int), .int .i64 (((f : Nat) : Int) - 1), .int .i64 ((f : Nat) : Int), .int .i64 ((p : Nat) : Int), .bool true, .int .i64 ((p : Nat) : Int), .int .i64 (((p : Nat) : Int) + 1), .int .i64 ((p : Nat) : Int), .pointer (some ⟨g2, p, none⟩), .int .i64 (x.getD p 0), .bool true, (u15 35), (u15 36), (u15 37), (u15 38), (u15 39), (u15 40), (u15 41), (u15 42), (u15 43), (u15 44), (u15 45), (u15 46), (u15 47), (u15 48), (u15 49), (u15 50), (u15 51), undef, undef] zz undef), ⟨⟨by omega, by omega, by omega, O1, bcode_step0 (by omega) c34 hC⟩, M17⟩, rfl, (by kernel_rfl)⟩
      ·
        refine st_val (.bool false) (by kernel_rfl) (bool_of (dec_f c34) (by kernel_rfl)) ?_
        refine wl_nil ?_
        refine hK22 _ _ ?_
        try clear hK22 K22
        refine wp_cond_false (by kernel_rfl) ?_
        refine wp_skip ?_
        refine hK21 _ _ ?_
        try clear hK21 K21
        refine wp_seq_k (fun K23 hK23 => ?_)
        refine wp_seq_k (fun K24 hK24 => ?_)
        refine wl_region ?_
        refine st_val (.pointer (some ⟨g, 0, none⟩)) (by kernel_rfl) (by kernel_rfl) ?_
        refine st_val (.int .i64 ((p : Nat) : Int)) (by kernel_rfl) (by kernel_rfl) ?_
        refine st_val (.int .i64 (((at_ : Nat) : Int) - 1)) (by kernel_rfl) (by kernel_rfl) ?_
        refine st_val (.int .i64 ((p - at_ + 1 : Nat) : Int)) (by kernel_rfl) (int_of (show ((p : Nat) : Int) - (((at_ : Nat) : Int) - 1) = ((p - at_ + 1 : Nat) : Int) by omega) (i64_of (by omega) (by kernel_rfl))) ?_
        refine st_callU (A := [(g2, .cells (iv x) 23 (0, 0))]) (T := T1) (B := []) M17 (by kernel_rfl) (run_value_call 26 #[(Operand.tmp 35), (Operand.tmp 38)] _ rfl Try.func26 (by kernel_rfl) (by kernel_rfl) _ (by kernel_rfl)) (putU_walk W16 O1 (Mem.part (A := [(g2, .cells (iv x) 23 (0, 0))]) (T := T1) (B := []) M17) (by have := congrArg List.length hC; simp only [List.length_append] at this; first | omega | (simp only [List.length_append, codeU_n (v := p - at_ + 1) (by omega)]; have := codeN_le (v := p - at_ + 1) (by omega); omega)) ((p - at_ + 1 : Nat) : Int) (by omega)) ?_
        intro v25 T26 W27 O28 M29
        obtain ⟨rfl, O30⟩ := O28
        have M31 : Mem (fun k => k ∈ T.map (·.1)) w W27 ((g2, .cells (iv x) 23 (0, 0)) :: (T26 ++ [])) := M29
        refine st_val (.int .i64 (errU ((p - at_ + 1 : Nat) : Int))) (by kernel_rfl) (by kernel_rfl) ?_
        refine wl_nil ?_
        refine hK24 _ _ ?_
        try clear hK24 K24
        refine wp_seq_k (fun K32 hK32 => ?_)
        refine wl_region ?_
        refine st_val (.int .i64 (errU ((p - at_ + 1 : Nat) : Int))) (by kernel_rfl) (by kernel_rfl) ?_
        refine st_val (.bool false) (by kernel_rfl) (bool_of (neq_f (show (errU ((p - at_ + 1 : Nat) : Int) : Int) = 0 from (errU_n (by omega)))) (by kernel_rfl)) ?_
        refine wl_nil ?_
        refine hK32 _ _ ?_
        try clear hK32 K32
        refine wp_frame (a' := ⟨#[.pointer (some ⟨g, 0, none⟩), .agg (iv x), .int .i64 ((f : Nat) : Int), undef, .pointer (some ⟨g2, 0, none⟩), undef, (u15 6), .int .i64 (((at_ : Nat) : Int) - 1), .int .i64 ((p : Nat) : Int), .int .i64 (errU ((p - at_ + 1 : Nat) : Int)), (u15 10), .bool false, .pointer (some ⟨g, 0, none⟩), .bool false, .bool false, .int .i64 ((f : Nat) : Int), .bool true, .bool false, .bool false, .bool false, .agg (iv x), .int .i64 ((f : Nat) : Int), .bool true, .bool false, .int .i64 ((f : Nat) : Int), .int .i64 (((f : Nat) : Int) - 1), .int .i64 ((f : Nat) : Int), .int .i64 ((p : Nat) : Int), .bool true, (u15 29), (u15 30), .int .i64 ((p : Nat) : Int), .pointer (some ⟨g2, p, none⟩), .int .i64 (x.getD p 0), .bool false, .pointer (some ⟨g, 0, none⟩), .int .i64 ((p : Nat) : Int), .int .i64 (((at_ : Nat) : Int) - 1), .int .i64 ((p - at_ + 1 : Nat) : Int), .int .i64 (errU ((p - at_ + 1 : Nat) : Int)), .int .i64 (errU ((p - at_ + 1 : Nat) : Int)), .bool false, (u15 42), (u15 43), (u15 44), (u15 45), (u15 46), (u15 47), (u15 48), (u15 49), (u15 50), (u15 51), undef, undef], []⟩) (by kernel_rfl) ?_
        refine wp_cond_false (by kernel_rfl) ?_
        refine wp_skip ?_
        refine hK23 _ _ ?_
        try clear hK23 K23
        refine wp_seq_k (fun K33 hK33 => ?_)
        refine wp_seq_k (fun K34 hK34 => ?_)
        refine wl_region ?_
        refine st_val (.pointer (some ⟨g, 0, none⟩)) (by kernel_rfl) (by kernel_rfl) ?_
        refine st_val (.int .i64 ((p : Nat) : Int)) (by kernel_rfl) (by kernel_rfl) ?_
        refine st_val (.pointer (some ⟨g2, p, none⟩)) (by kernel_rfl) (run_indexAddr 23 (.tmp 4) (.tmp 44) rfl ⟨g2, 0, none⟩ .i64 p (by kernel_rfl) (by kernel_rfl) Try.underlying23 1 (by kernel_rfl) (by omega) ⟨g2, p, none⟩ (addr_at0 _ _)) ?_
        refine st_val (.int .i64 (x.getD p 0)) (by kernel_rfl) (run_load_cell 3 (.tmp 45) rfl ⟨g2, p, none⟩ (by kernel_rfl) _ (M31.cell 0 rfl p _ (iv_get x p (by rw [hx]; omega))) (by kernel_rfl)) ?_
        refine st_callU (A := [(g2, .cells (iv x) 23 (0, 0))]) (T := T26) (B := []) M31 (by kernel_rfl) (run_value_call 27 #[(Operand.tmp 43), (Operand.tmp 46)] _ rfl Try.func27 (by kernel_rfl) (by kernel_rfl) _ (by kernel_rfl)) (putS_walk W27 O30 (Mem.part (A := [(g2, .cells (iv x) 23 (0, 0))]) (T := T26) (B := []) M31) (by have := congrArg List.length hC; simp only [List.length_append] at this; first | omega | (simp only [List.length_append, codeU_n (v := p - at_ + 1) (by omega)]; have := codeN_le (v := p - at_ + 1) (by omega); omega)) (x.getD p 0) (by have h0 := hall p (by omega) (by omega); have := h0.1; have := h0.2; omega)) ?_
        intro v35 T36 W37 O38 M39
        obtain ⟨rfl, O40⟩ := O38
        have M41 : Mem (fun k => k ∈ T.map (·.1)) w W37 ((g2, .cells (iv x) 23 (0, 0)) :: (T36 ++ [])) := M39
        refine st_val (.int .i64 (errS (x.getD p 0))) (by kernel_rfl) (by kernel_rfl) ?_
        refine wl_nil ?_
        refine hK34 _ _ ?_
        try clear hK34 K34
        refine wp_seq_k (fun K42 hK42 => ?_)
        refine wl_region ?_
        refine st_val (.int .i64 (errS (x.getD p 0))) (by kernel_rfl) (by kernel_rfl) ?_
        refine st_val (.bool false) (by kernel_rfl) (bool_of (neq_f (show (errS (x.getD p 0) : Int) = 0 from (errS_l (hall p (by omega) (by omega))))) (by kernel_rfl)) ?_
        refine wl_nil ?_
        refine hK42 _ _ ?_
        try clear hK42 K42
        refine wp_cond_false (by kernel_rfl) ?_
        refine wp_skip ?_
        refine hK33 _ _ ?_
        try clear hK33 K33
        refine wl_region ?_
        refine st_val (.int .i64 (((p + 1 : Nat) : Int) - 1)) (by kernel_rfl) (int_of (show ((p : Nat) : Int) = ((p + 1 : Nat) : Int) - 1 by omega) (by kernel_rfl)) ?_
        refine st_val (.int .i64 (((p + 1 : Nat) : Int) - 1)) (by kernel_rfl) (by kernel_rfl) ?_
        refine wl_nil ?_
        refine blk_normal ?_
        refine hK20 _ _ ?_
        try clear hK20 K20
        refine wl_region ?_
        refine st_val (.int .i64 ((p : Nat) : Int)) (by kernel_rfl) (by kernel_rfl) ?_
        refine st_val (.int .i64 (((p : Nat) : Int) + 1)) (by kernel_rfl) (i64_of (by omega) (by kernel_rfl)) ?_
        refine st_val (.int .i64 (((p : Nat) : Int) + 1)) (by kernel_rfl) (by kernel_rfl) ?_
        refine wl_nil ?_
        refine th_normal ?_
        have hO4 := O40
        rw [codeU_n (v := p - at_ + 1) (by omega)] at hO4
        exact ⟨_, (by omega), (p + 1), (p + 1), ((B ++ codeN (p - at_ + 1)) ++ codeS (x.getD p 0)), T36, (fun zz => Array.getD #[.pointer (some ⟨g, 0, none⟩), .agg (iv x), .int .i64 ((f : Nat) : Int), undef, .pointer (some ⟨g2, 0, none⟩), undef, (u15 6), .int .i64 (((p + 1 : Nat) : Int) - 1), .int .i64 (((p : Nat) : Int) + 1), .int .i64 (errU ((p - at_ + 1 : Nat) : Int)), .int .i64 (errS (x.getD p 0)), .bool false, .pointer (some ⟨g, 0, none⟩), .bool false, .bool false, .int .i64 ((f : Nat) : Int), .bool true, .bool false, .bool false, .bool false, .agg (iv x), .int .i64 ((f : Nat) : Int), .bool true, .bool false, .int .i64 ((f : Nat) : Int), .int .i64 (((f : Nat) : Int) - 1), .int .i64 ((f : Nat) : Int), .int .i64 ((p : Nat) : Int), .bool true, .int .i64 ((p : Nat) : Int), .int .i64 (((p : Nat) : Int) + 1), .int .i64 ((p : Nat) : Int), .pointer (some ⟨g2, p, none⟩), .int .i64 (x.getD p 0), .bool false, .pointer (some ⟨g, 0, none⟩), .int .i64 ((p : Nat) : Int), .int .i64 (((at_ : Nat) : Int) - 1), .int .i64 ((p - at_ + 1 : Nat) : Int), .int .i64 (errU ((p - at_ + 1 : Nat) : Int)), .int .i64 (errU ((p - at_ + 1 : Nat) : Int)), .bool false, (u15 42), .pointer (some ⟨g, 0, none⟩), .int .i64 ((p : Nat) : Int), .pointer (some ⟨g2, p, none⟩), .int .i64 (x.getD p 0), .int .i64 (errS (x.getD p 0)), .int .i64 (errS (x.getD p 0)), .bool false, (u15 50), .int .i64 (((p + 1 : Nat) : Int) - 1), undef, undef] zz undef), ⟨⟨by omega, by omega, by omega, hO4, bcode_step1 (by omega) c34 hC⟩, M41⟩, rfl, (by kernel_rfl)⟩
    ·
      refine st_val (.bool false) (by kernel_rfl) (bool_of (dec_f c28) (by kernel_rfl)) ?_
      refine wl_nil ?_
      refine hK19 _ _ ?_
      try clear hK19 K19
      refine wp_cond_false (by kernel_rfl) ?_
      refine wp_exit ?_
      refine th_exit ?_
      refine th_exit ?_
      refine blk_exit ?_
      refine hK13 _ _ ?_
      try clear hK13 K13
      refine wp_seq_k (fun K43 hK43 => ?_)
      refine wl_region ?_
      refine st_val (.pointer (some ⟨g, 0, none⟩)) (by kernel_rfl) (by kernel_rfl) ?_
      refine st_callU (A := [(g2, .cells (iv x) 23 (0, 0))]) (T := T1) (B := []) M17 (by kernel_rfl) (run_value_call 26 #[(Operand.tmp 52), (Operand.const (Value.int IntKind.i64 0))] _ rfl Try.func26 (by kernel_rfl) (by kernel_rfl) _ (by kernel_rfl)) (putU_walk W16 O1 (Mem.part (A := [(g2, .cells (iv x) 23 (0, 0))]) (T := T1) (B := []) M17) (by have := congrArg List.length hC; simp only [List.length_append] at this; first | omega | (simp only [List.length_append, codeU_n (v := p - at_ + 1) (by omega)]; have := codeN_le (v := p - at_ + 1) (by omega); omega)) 0 (by omega)) ?_
      intro v44 T45 W46 O47 M48
      obtain ⟨rfl, O49⟩ := O47
      have M50 : Mem (fun k => k ∈ T.map (·.1)) w W46 ((g2, .cells (iv x) 23 (0, 0)) :: (T45 ++ [])) := M48
      refine st_val (.int .i64 (errU 0)) (by kernel_rfl) (by kernel_rfl) ?_
      refine wl_nil ?_
      refine hK43 _ _ ?_
      try clear hK43 K43
      refine wp_ret ?_
      exact done1 6 (.int .i64 (errU 0)) (by kernel_rfl) (by kernel_rfl) (by kernel_rfl) ⟨_, T45, rfl, ⟨by rw [(bE_ok hf hok).1]; rfl, by have h := O49; rw [show codeU 0 = codeN 0 from codeU_n (v := 0) (by omega)] at h; rw [(bE_ok hf hok).2, ← hC, show 64 - p = 0 by omega]; exact h⟩, M50.sub (((List.sublist_append_left T45 [])).cons _)⟩
  ·
    refine st_callB M8 (.bool false) (by kernel_rfl) (args := #[.agg (iv x), .int .i64 ((f : Nat) : Int)]) (run_value_call 25 #[(Operand.tmp 20), (Operand.tmp 21)] _ rfl Try.func25 (by kernel_rfl) (by kernel_rfl) _ (by kernel_rfl)) ((by have := fits_walk W7 x hx f hf; rw [hok] at this; exact this)) ?_
    intro W51 M52
    refine st_val (.bool true) (by kernel_rfl) (by kernel_rfl) ?_
    refine st_val (.bool true) (by kernel_rfl) (by kernel_rfl) ?_
    refine wl_nil ?_
    refine hK9 _ _ ?_
    try clear hK9 K9
    refine wp_frame (a' := ⟨#[.pointer (some ⟨g, 0, none⟩), .agg (iv x), .int .i64 ((f : Nat) : Int), undef, .pointer (some ⟨g2, 0, none⟩), undef, .int .i64 0, undef, undef, undef, undef, .bool false, .pointer (some ⟨g, 0, none⟩), .bool false, .bool false, .int .i64 ((f : Nat) : Int), .bool true, .bool false, .bool false, .bool true, .agg (iv x), .int .i64 ((f : Nat) : Int), .bool false, .bool true, undef, undef, undef, undef, undef, undef, undef, undef, undef, undef, undef, undef, undef, undef, undef, undef, undef, undef, undef, undef, undef, undef, undef, undef, undef, undef, undef, undef, undef, undef], []⟩) (by kernel_rfl) ?_
    refine wp_cond_true (by kernel_rfl) ?_
    refine wp_seq_k (fun K53 hK53 => ?_)
    refine wl_region ?_
    refine st_val (.int .i64 2) (by kernel_rfl) (by kernel_rfl) ?_
    refine wl_nil ?_
    refine hK53 _ _ ?_
    try clear hK53 K53
    refine wp_ret ?_
    refine blk_ret ?_
    refine th_ret ?_
    exact done1 6 (.int .i64 2) (by kernel_rfl) (by kernel_rfl) (by kernel_rfl) ⟨_, T, rfl, ⟨by rw [(bE_rng hf hok).1], by rw [(bE_rng hf hok).2, List.append_nil]; exact hO⟩, M52.sub (((List.sublist_append_left T [])).cons _)⟩
set_option maxHeartbeats 4000000 in
set_option maxRecDepth 100000 in
theorem bput_any (w : World) {g : Nat} {l : List Nat} {T : List (Nat × Obj)} (hO : OwnW g l T) (hT : Mem (fun k => k ∈ T.map (·.1)) w w T) (hl : l.length ≤ 100000000) (x : List Int) (hx : x.length = 64) (fr : Int) : UpdRow Try.prog 9 #[.pointer (some ⟨g, 0, none⟩), .agg (iv x), .int .i64 fr] w T (fun r T' => r = .int .i64 (bE x fr) ∧ OwnW g (l ++ bC x fr) T') := by
  rcases bE_cases x fr with ⟨h, h1, h2⟩ | ⟨f, rfl, hf, _⟩
  · rw [h1, h2]; exact bput_arg w hO hT hl x hx fr h
  · exact bput_walk w hO hT hl x hx f hf
end Go.Proofs.Ytmchfkkifeioeaa
