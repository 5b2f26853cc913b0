/- The walk of the law TransformNear. -/
import Derived.Test.YtpjhehpgpfomjaaAw
import Derived.Test.YtpjhehpgpfomjaaAlg
namespace Go.Proofs.Ytpjhehpgpfomjaa
open Go.RowKit

theorem ab_le (i j : Nat) (hj : j ≤ 8) : 0 ≤ dot (fun n => max (mt i n) (-(mt i n))) j ∧ dot (fun n => max (mt i n) (-(mt i n))) j ≤ 96 := by
  have h : ∀ k, k ≤ j → 0 ≤ dot (fun n => max (mt i n) (-(mt i n))) k ∧ dot (fun n => max (mt i n) (-(mt i n))) k ≤ 12 * k := by
    intro k
    induction k with
    | zero => intro _; simp [dot]
    | succ k ih =>
      intro hk
      have h1 := ih (by omega)
      have h2 := mt_le i k
      simp only [dot]
      omega
  have := h j (Nat.le_refl _)
  omega
theorem near_at {l : List Int} (h : Lim 2097152 (blockOf l)) (k : Nat) (hk : k < 64) (j : Nat) (hj : j = 8) :
    2 * ((fwd (inv (blockOf l))).getD k 0 - (blockOf l).getD k 0) ≤ dot (fun n => max (mt (k / 8) n) (-(mt (k / 8) n))) j * dot (fun n => max (mt (k % 8) n) (-(mt (k % 8) n))) j ∧
    2 * ((blockOf l).getD k 0 - (fwd (inv (blockOf l))).getD k 0) ≤ dot (fun n => max (mt (k / 8) n) (-(mt (k / 8) n))) j * dot (fun n => max (mt (k % 8) n) (-(mt (k % 8) n))) j := by
  subst hj
  exact near h k hk
theorem rs_mul (k : Nat) (hk : k < 64) (j : Nat) (hj : j = 8) : 0 ≤ dot (fun n => max (mt (k / 8) n) (-(mt (k / 8) n))) j * dot (fun n => max (mt (k % 8) n) (-(mt (k % 8) n))) j ∧
    dot (fun n => max (mt (k / 8) n) (-(mt (k / 8) n))) j * dot (fun n => max (mt (k % 8) n) (-(mt (k % 8) n))) j ≤ 4096 := by
  subst hj
  have h2 := rs_le (k / 8) (by omega)
  have h3 := rs_le (k % 8) (by omega)
  exact ⟨Int.mul_nonneg h2.1 h3.1, Int.mul_le_mul h2.2 h3.2 h3.1 (by omega)⟩

set_option maxHeartbeats 4000000 in
set_option maxRecDepth 100000 in
theorem TransformNear_walk (w : World) (v0 : Value) (l0 : List Int) (hr0 : Rd w v0 (l0.map (Value.int .i64))) : Calls Try.prog 10 #[v0] w fun e w' => e = .returned (.bool true) ∧ Below w.heap.size w w' := by
  refine calls_of_wp Try.func10 rfl ?_
  refine wp_frame (a' := ⟨#[v0, undef, undef, undef, undef, undef, undef, undef, undef, undef, undef, undef, undef, undef, undef, undef, undef, undef, undef, undef, undef, undef, undef, undef, undef, undef, undef, undef, undef, undef, undef, undef, undef, undef, undef, undef, undef, undef, undef, undef, undef, undef, undef, undef, undef, undef, undef, undef, undef, undef, undef, undef, undef, undef, undef, undef, undef, undef, undef, undef, undef, undef, undef, undef, undef, undef, undef, undef, undef, undef, undef, undef, undef, undef, undef, undef, undef, undef, undef, undef, undef, undef, undef, undef, undef, undef, undef, undef, undef, undef], []⟩) (by kernel_rfl) ?_
  have M0 : Mem NoS w w [] := Mem.start _ _
  refine wp_seq_k (fun K1 hK1 => ?_)
  refine wl_region ?_
  refine st_val (.bool false) (by kernel_rfl) (by kernel_rfl) ?_
  refine wl_nil ?_
  refine hK1 _ _ ?_
  try clear hK1 K1
  refine wp_seq_k (fun K2 hK2 => ?_)
  refine wl_region ?_
  refine st_val (v0) (by kernel_rfl) (by kernel_rfl) ?_
  refine st_callB M0 (.agg (iv (blockOf l0))) (by kernel_rfl) (args := #[v0]) (run_value_call 13 #[(Operand.tmp 11)] _ rfl Try.func13 (by kernel_rfl) (by kernel_rfl) _ (by kernel_rfl)) (block_walk w v0 l0 (M0.rd hr0 (fun _ _ h => h))) ?_
  intro W3 M4
  refine st_alloc M4 (.cells (iv zeros) 23 (0, 0)) (by kernel_rfl) (by kernel_rfl) ?_
  intro g5 W6 M7
  refine st_storeRow M7 0 rfl 23 (.tmp 3) (.tmp 12) (by rfl) (iv (blockOf l0)) (by kernel_rfl) (by kernel_rfl) (info64 _ (blockOf_length _)) (iv_same (blockOf_length _) zeros_length) (iv_one _) (by kernel_rfl) [(g5, .cells (iv (blockOf l0)) 23 (0, 0))] rfl ?_
  intro W8 M9
  refine wl_nil ?_
  refine hK2 _ _ ?_
  try clear hK2 K2
  refine wp_seq_k (fun K10 hK10 => ?_)
  refine wl_region ?_
  refine st_val (.agg (iv (blockOf l0))) (by kernel_rfl) (run_load_row 23 (.tmp 3) rfl g5 (by kernel_rfl) 23 (iv (blockOf l0)) (0, 0) _ (M9.get 0 rfl) Try.underlying23 rfl (info64 _ (blockOf_length _))) ?_
  refine st_callB M9 (.agg (iv (inv (blockOf l0)))) (by kernel_rfl) (args := #[.agg (iv (blockOf l0))]) (run_value_call 16 #[(Operand.tmp 13)] _ rfl Try.func16 (by kernel_rfl) (by kernel_rfl) _ (by kernel_rfl)) (inverse_walk W8 (blockOf l0) (blockOf_length _)) ?_
  intro W11 M12
  refine st_alloc M12 (.cells (iv zeros) 23 (0, 0)) (by kernel_rfl) (by kernel_rfl) ?_
  intro g13 W14 M15
  refine st_storeRow M15 0 rfl 23 (.tmp 4) (.tmp 14) (by rfl) (iv (inv (blockOf l0))) (by kernel_rfl) (by kernel_rfl) (info64 _ (inv_length _)) (iv_same (inv_length _) zeros_length) (iv_one _) (by kernel_rfl) [(g13, .cells (iv (inv (blockOf l0))) 23 (0, 0)), (g5, .cells (iv (blockOf l0)) 23 (0, 0))] rfl ?_
  intro W16 M17
  refine wl_nil ?_
  refine hK10 _ _ ?_
  try clear hK10 K10
  refine wp_seq_k (fun K18 hK18 => ?_)
  refine wp_seq_k (fun K19 hK19 => ?_)
  refine wl_region ?_
  refine st_val (.agg (iv (blockOf l0))) (by kernel_rfl) (run_load_row 23 (.tmp 3) rfl g5 (by kernel_rfl) 23 (iv (blockOf l0)) (0, 0) _ (M17.get 1 rfl) Try.underlying23 rfl (info64 _ (blockOf_length _))) ?_
  rcases Bool.eq_false_or_eq_true (withinB (blockOf l0) 2097152) with hB16 | hB16
  ·
    refine st_callB M17 (.bool true) (by kernel_rfl) (args := #[.agg (iv (blockOf l0)), .int .i64 2097152]) (run_value_call 18 #[(Operand.tmp 15), (Operand.const (Value.int IntKind.i64 2097152))] _ rfl Try.func18 (by kernel_rfl) (by kernel_rfl) _ (by kernel_rfl)) ((by have := within_walk W16 (blockOf l0) (blockOf_length _) 2097152 (by omega); rw [hB16] at this; exact this)) ?_
    intro W20 M21
    refine st_val (.bool false) (by kernel_rfl) (by kernel_rfl) ?_
    refine st_val (.bool false) (by kernel_rfl) (by kernel_rfl) ?_
    refine st_val (.agg (iv (inv (blockOf l0)))) (by kernel_rfl) (run_load_row 23 (.tmp 4) rfl g13 (by kernel_rfl) 23 (iv (inv (blockOf l0))) (0, 0) _ (M21.get 0 rfl) Try.underlying23 rfl (info64 _ (inv_length _))) ?_
    rcases Bool.eq_false_or_eq_true (withinB (inv (blockOf l0)) 255) with hB20 | hB20
    ·
      refine st_callB M21 (.bool true) (by kernel_rfl) (args := #[.agg (iv (inv (blockOf l0))), .int .i64 255]) (run_value_call 18 #[(Operand.tmp 19), (Operand.const (Value.int IntKind.i64 255))] _ rfl Try.func18 (by kernel_rfl) (by kernel_rfl) _ (by kernel_rfl)) ((by have := within_walk W20 (inv (blockOf l0)) (inv_length _) 255 (by omega); rw [hB20] at this; exact this)) ?_
      intro W22 M23
      refine st_val (.bool false) (by kernel_rfl) (by kernel_rfl) ?_
      refine st_val (.bool false) (by kernel_rfl) (by kernel_rfl) ?_
      refine wl_nil ?_
      refine hK19 _ _ ?_
      try clear hK19 K19
      refine wp_frame (a' := ⟨#[v0, undef, .bool false, .pointer (some ⟨g5, 0, none⟩), .pointer (some ⟨g13, 0, none⟩), undef, undef, undef, undef, undef, undef, v0, .agg (iv (blockOf l0)), .agg (iv (blockOf l0)), .agg (iv (inv (blockOf l0))), .agg (iv (blockOf l0)), .bool true, .bool false, .bool false, .agg (iv (inv (blockOf l0))), .bool true, .bool false, .bool false, undef, undef, undef, undef, undef, undef, undef, undef, undef, undef, undef, undef, undef, undef, undef, undef, undef, undef, undef, undef, undef, undef, undef, undef, undef, undef, undef, undef, undef, undef, undef, undef, undef, undef, undef, undef, undef, undef, undef, undef, undef, undef, undef, undef, undef, undef, undef, undef, undef, undef, undef, undef, undef, undef, undef, undef, undef, undef, undef, undef, undef, undef, undef, undef, undef, undef, undef], []⟩) (by kernel_rfl) ?_
      refine wp_cond_false (by kernel_rfl) ?_
      refine wp_skip ?_
      refine hK18 _ _ ?_
      try clear hK18 K18
      refine wp_seq_k (fun K24 hK24 => ?_)
      have hx := lim_of hB20
      refine wl_region ?_
      refine st_val (.agg (iv (inv (blockOf l0)))) (by kernel_rfl) (run_load_row 23 (.tmp 4) rfl g13 (by kernel_rfl) 23 (iv (inv (blockOf l0))) (0, 0) _ (M23.get 0 rfl) Try.underlying23 rfl (info64 _ (inv_length _))) ?_
      refine st_callB M23 (.tuple #[.agg (iv (fwd (inv (blockOf l0)))), .int .i64 0]) (by kernel_rfl) (args := #[.agg (iv (inv (blockOf l0)))]) (run_value_call 12 #[(Operand.tmp 25)] _ rfl Try.func12 (by kernel_rfl) (by kernel_rfl) _ (by kernel_rfl)) (forward_good W22 (inv (blockOf l0)) (inv_length _) hx) ?_
      intro W25 M26
      refine st_val (.tuple #[.agg (iv (fwd (inv (blockOf l0)))), .int .i64 0]) (by kernel_rfl) (by kernel_rfl) ?_
      refine st_val (.agg (iv (fwd (inv (blockOf l0))))) (by kernel_rfl) (by kernel_rfl) ?_
      refine st_val (.int .i64 0) (by kernel_rfl) (by kernel_rfl) ?_
      refine st_alloc M26 (.cells (iv zeros) 23 (0, 0)) (by kernel_rfl) (by kernel_rfl) ?_
      intro g27 W28 M29
      refine st_storeRow M29 0 rfl 23 (.tmp 5) (.tmp 27) (by rfl) (iv (fwd (inv (blockOf l0)))) (by kernel_rfl) (by kernel_rfl) (info64 _ (fwd_length _)) (iv_same (fwd_length _) zeros_length) (iv_one _) (by kernel_rfl) [(g27, .cells (iv (fwd (inv (blockOf l0)))) 23 (0, 0)), (g13, .cells (iv (inv (blockOf l0))) 23 (0, 0)), (g5, .cells (iv (blockOf l0)) 23 (0, 0))] rfl ?_
      intro W30 M31
      refine st_val (.int .i64 0) (by kernel_rfl) (by kernel_rfl) ?_
      refine wl_nil ?_
      refine hK24 _ _ ?_
      try clear hK24 K24
      refine wp_seq_k (fun K32 hK32 => ?_)
      refine wp_seq_k (fun K33 hK33 => ?_)
      refine wl_region ?_
      refine st_val (.int .i64 0) (by kernel_rfl) (by kernel_rfl) ?_
      refine st_val (.bool false) (by kernel_rfl) (by kernel_rfl) ?_
      refine wl_nil ?_
      refine hK33 _ _ ?_
      try clear hK33 K33
      refine wp_cond_false (by kernel_rfl) ?_
      refine wp_skip ?_
      refine hK32 _ _ ?_
      try clear hK32 K32
      refine wp_seq_k (fun K34 hK34 => ?_)
      refine wp_seq_k (fun K35 hK35 => ?_)
      refine wl_region ?_
      refine st_val (.int .i64 0) (by kernel_rfl) (by kernel_rfl) ?_
      refine wl_nil ?_
      refine hK35 _ _ ?_
      try clear hK35 K35
      refine wp_block ?_
      refine wp_loop_ghost (fun gn a' w' => ∃ (k : Nat) (u36 : Nat → Value), ((k ≤ 64) ∧ Mem NoS w w' [(g27, .cells (iv (fwd (inv (blockOf l0)))) 23 (0, 0)), (g13, .cells (iv (inv (blockOf l0))) 23 (0, 0)), (g5, .cells (iv (blockOf l0)) 23 (0, 0))]) ∧ gn = 64 - k ∧ a' = ⟨#[v0, undef, (u36 2), .pointer (some ⟨g5, 0, none⟩), .pointer (some ⟨g13, 0, none⟩), .pointer (some ⟨g27, 0, none⟩), .int .i64 0, .int .i64 (k : Int), (u36 8), (u36 9), (u36 10), v0, .agg (iv (blockOf l0)), .agg (iv (blockOf l0)), .agg (iv (inv (blockOf l0))), .agg (iv (blockOf l0)), .bool true, .bool false, .bool false, .agg (iv (inv (blockOf l0))), .bool true, .bool false, .bool false, undef, .tuple #[.agg (iv (fwd (inv (blockOf l0)))), .int .i64 0], .agg (iv (inv (blockOf l0))), .tuple #[.agg (iv (fwd (inv (blockOf l0)))), .int .i64 0], .agg (iv (fwd (inv (blockOf l0)))), .int .i64 0, .int .i64 0, .bool false, (u36 31), (u36 32), (u36 33), (u36 34), (u36 35), (u36 36), (u36 37), (u36 38), (u36 39), (u36 40), (u36 41), (u36 42), (u36 43), (u36 44), (u36 45), (u36 46), (u36 47), (u36 48), (u36 49), (u36 50), (u36 51), (u36 52), (u36 53), (u36 54), (u36 55), (u36 56), (u36 57), (u36 58), (u36 59), (u36 60), (u36 61), (u36 62), (u36 63), (u36 64), (u36 65), (u36 66), (u36 67), (u36 68), (u36 69), (u36 70), (u36 71), (u36 72), (u36 73), (u36 74), (u36 75), (u36 76), (u36 77), (u36 78), (u36 79), (u36 80), (u36 81), (u36 82), (u36 83), (u36 84), (u36 85), (u36 86), (u36 87), (u36 88), undef], []⟩) _ ⟨0, (fun zz => Array.getD #[v0, undef, .bool false, .pointer (some ⟨g5, 0, none⟩), .pointer (some ⟨g13, 0, none⟩), .pointer (some ⟨g27, 0, none⟩), .int .i64 0, .int .i64 0, undef, undef, undef, v0, .agg (iv (blockOf l0)), .agg (iv (blockOf l0)), .agg (iv (inv (blockOf l0))), .agg (iv (blockOf l0)), .bool true, .bool false, .bool false, .agg (iv (inv (blockOf l0))), .bool true, .bool false, .bool false, undef, .tuple #[.agg (iv (fwd (inv (blockOf l0)))), .int .i64 0], .agg (iv (inv (blockOf l0))), .tuple #[.agg (iv (fwd (inv (blockOf l0)))), .int .i64 0], .agg (iv (fwd (inv (blockOf l0)))), .int .i64 0, .int .i64 0, .bool false, undef, undef, undef, undef, undef, undef, undef, undef, undef, undef, undef, undef, undef, undef, undef, undef, undef, undef, undef, undef, undef, undef, undef, undef, undef, undef, undef, undef, undef, undef, undef, undef, undef, undef, undef, undef, undef, undef, undef, undef, undef, undef, undef, undef, undef, undef, undef, undef, undef, undef, undef, undef, undef, undef, undef, undef, undef, undef, undef] zz undef), ⟨by omega, M31⟩, rfl, (by kernel_rfl)⟩ ?_
      rintro gn _ W37 ⟨k, u36, ⟨r1, M38⟩, rfl, rfl⟩
      refine wp_seq_k (fun K39 hK39 => ?_)
      refine wp_seq_k (fun K40 hK40 => ?_)
      refine wl_region ?_
      refine st_val (.int .i64 (k : Int)) (by kernel_rfl) (by kernel_rfl) ?_
      rcases Decidable.em (((k : Int) : Int) < 64) with c32 | c32
      ·
        refine st_val (.bool true) (by kernel_rfl) (bool_of (dec_t c32) (by kernel_rfl)) ?_
        refine wl_nil ?_
        refine hK40 _ _ ?_
        try clear hK40 K40
        refine wp_cond_true (by kernel_rfl) ?_
        refine wp_skip ?_
        refine hK39 _ _ ?_
        try clear hK39 K39
        refine wp_seq_k (fun K41 hK41 => ?_)
        refine wp_block ?_
        refine wp_seq_k (fun K42 hK42 => ?_)
        refine wl_region ?_
        refine st_val (.int .i64 0) (by kernel_rfl) (by kernel_rfl) ?_
        refine st_val (.int .i64 0) (by kernel_rfl) (by kernel_rfl) ?_
        refine wl_nil ?_
        refine hK42 _ _ ?_
        try clear hK42 K42
        refine wp_seq_k (fun K43 hK43 => ?_)
        refine wp_seq_k (fun K44 hK44 => ?_)
        refine wl_region ?_
        refine st_val (.int .i64 0) (by kernel_rfl) (by kernel_rfl) ?_
        refine wl_nil ?_
        refine hK44 _ _ ?_
        try clear hK44 K44
        refine wp_block ?_
        refine wp_loop_ghost (fun gn a' w' => ∃ (j : Nat) (u45 : Nat → Value), ((j ≤ 8) ∧ Mem NoS w w' [(g27, .cells (iv (fwd (inv (blockOf l0)))) 23 (0, 0)), (g13, .cells (iv (inv (blockOf l0))) 23 (0, 0)), (g5, .cells (iv (blockOf l0)) 23 (0, 0))]) ∧ gn = 8 - j ∧ a' = ⟨#[v0, undef, (u36 2), .pointer (some ⟨g5, 0, none⟩), .pointer (some ⟨g13, 0, none⟩), .pointer (some ⟨g27, 0, none⟩), .int .i64 0, .int .i64 (k : Int), .int .i64 (dot (fun n => max (mt (k / 8) n) (-(mt (k / 8) n))) j), .int .i64 (dot (fun n => max (mt (k % 8) n) (-(mt (k % 8) n))) j), .int .i64 (j : Int), v0, .agg (iv (blockOf l0)), .agg (iv (blockOf l0)), .agg (iv (inv (blockOf l0))), .agg (iv (blockOf l0)), .bool true, .bool false, .bool false, .agg (iv (inv (blockOf l0))), .bool true, .bool false, .bool false, undef, .tuple #[.agg (iv (fwd (inv (blockOf l0)))), .int .i64 0], .agg (iv (inv (blockOf l0))), .tuple #[.agg (iv (fwd (inv (blockOf l0)))), .int .i64 0], .agg (iv (fwd (inv (blockOf l0)))), .int .i64 0, .int .i64 0, .bool false, .int .i64 (k : Int), .bool true, (u36 33), (u36 34), (u45 35), (u45 36), (u45 37), (u45 38), (u45 39), (u45 40), (u45 41), (u45 42), (u45 43), (u45 44), (u45 45), (u45 46), (u45 47), (u45 48), (u45 49), (u45 50), (u45 51), (u45 52), (u45 53), (u45 54), (u45 55), (u45 56), (u45 57), (u45 58), (u45 59), (u45 60), (u45 61), (u45 62), (u36 63), (u36 64), (u36 65), (u36 66), (u36 67), (u36 68), (u36 69), (u36 70), (u36 71), (u36 72), (u36 73), (u36 74), (u36 75), (u36 76), (u36 77), (u36 78), (u36 79), (u36 80), (u36 81), (u36 82), (u36 83), (u36 84), (u36 85), (u36 86), (u36 87), (u36 88), undef], []⟩) _ ⟨0, (fun zz => Array.getD #[v0, undef, (u36 2), .pointer (some ⟨g5, 0, none⟩), .pointer (some ⟨g13, 0, none⟩), .pointer (some ⟨g27, 0, none⟩), .int .i64 0, .int .i64 (k : Int), .int .i64 0, .int .i64 0, .int .i64 0, v0, .agg (iv (blockOf l0)), .agg (iv (blockOf l0)), .agg (iv (inv (blockOf l0))), .agg (iv (blockOf l0)), .bool true, .bool false, .bool false, .agg (iv (inv (blockOf l0))), .bool true, .bool false, .bool false, undef, .tuple #[.agg (iv (fwd (inv (blockOf l0)))), .int .i64 0], .agg (iv (inv (blockOf l0))), .tuple #[.agg (iv (fwd (inv (blockOf l0)))), .int .i64 0], .agg (iv (fwd (inv (blockOf l0)))), .int .i64 0, .int .i64 0, .bool false, .int .i64 (k : Int), .bool true, (u36 33), (u36 34), (u36 35), (u36 36), (u36 37), (u36 38), (u36 39), (u36 40), (u36 41), (u36 42), (u36 43), (u36 44), (u36 45), (u36 46), (u36 47), (u36 48), (u36 49), (u36 50), (u36 51), (u36 52), (u36 53), (u36 54), (u36 55), (u36 56), (u36 57), (u36 58), (u36 59), (u36 60), (u36 61), (u36 62), (u36 63), (u36 64), (u36 65), (u36 66), (u36 67), (u36 68), (u36 69), (u36 70), (u36 71), (u36 72), (u36 73), (u36 74), (u36 75), (u36 76), (u36 77), (u36 78), (u36 79), (u36 80), (u36 81), (u36 82), (u36 83), (u36 84), (u36 85), (u36 86), (u36 87), (u36 88), undef] zz undef), ⟨by omega, M38⟩, rfl, (by kernel_rfl)⟩ ?_
        rintro gn _ W46 ⟨j, u45, ⟨r2, M47⟩, rfl, rfl⟩
        refine wp_seq_k (fun K48 hK48 => ?_)
        refine wp_seq_k (fun K49 hK49 => ?_)
        refine wl_region ?_
        refine st_val (.int .i64 (j : Int)) (by kernel_rfl) (by kernel_rfl) ?_
        rcases Decidable.em (((j : Int) : Int) < 8) with c36 | c36
        ·
          have m1 := mt_le (k / 8) j
          have m2 := mt_le (k % 8) j
          have d1 := ab_le (k / 8) j (by omega)
          have d2 := ab_le (k % 8) j (by omega)
          refine st_val (.bool true) (by kernel_rfl) (bool_of (dec_t c36) (by kernel_rfl)) ?_
          refine wl_nil ?_
          refine hK49 _ _ ?_
          try clear hK49 K49
          refine wp_cond_true (by kernel_rfl) ?_
          refine wp_skip ?_
          refine hK48 _ _ ?_
          try clear hK48 K48
          refine wp_seq_k (fun K50 hK50 => ?_)
          refine wp_block ?_
          refine wp_seq_k (fun K51 hK51 => ?_)
          refine wl_region ?_
          refine st_val (.int .i64 (dot (fun n => max (mt (k / 8) n) (-(mt (k / 8) n))) j)) (by kernel_rfl) (by kernel_rfl) ?_
          refine st_val (.int .i64 (k : Int)) (by kernel_rfl) (by kernel_rfl) ?_
          refine st_val (.int .i64 ((k : Int) / 8)) (by kernel_rfl) (int_of (quo_of (k : Int) 8 (by omega) (by omega) (by omega)) (by kernel_rfl)) ?_
          refine st_val (.int .i64 (j : Int)) (by kernel_rfl) (by kernel_rfl) ?_
          refine st_callB M47 (.int .i64 (mt (k / 8) j)) (by kernel_rfl) (args := #[.int .i64 ((k : Int) / 8), .int .i64 (j : Int)]) (run_value_call 21 #[(Operand.tmp 41), (Operand.tmp 42)] _ rfl Try.func21 (by kernel_rfl) (by kernel_rfl) _ (by kernel_rfl)) ((by have := refBasis_in W46 (k / 8) j (by omega) (by omega); exact this)) ?_
          intro W52 M53
          refine st_val (.int .i64 (k : Int)) (by kernel_rfl) (by kernel_rfl) ?_
          refine st_val (.int .i64 ((k : Int) / 8)) (by kernel_rfl) (int_of (quo_of (k : Int) 8 (by omega) (by omega) (by omega)) (by kernel_rfl)) ?_
          refine st_val (.int .i64 (j : Int)) (by kernel_rfl) (by kernel_rfl) ?_
          refine st_callB M53 (.int .i64 (mt (k / 8) j)) (by kernel_rfl) (args := #[.int .i64 ((k : Int) / 8), .int .i64 (j : Int)]) (run_value_call 21 #[(Operand.tmp 45), (Operand.tmp 46)] _ rfl Try.func21 (by kernel_rfl) (by kernel_rfl) _ (by kernel_rfl)) ((by have := refBasis_in W52 (k / 8) j (by omega) (by omega); exact this)) ?_
          intro W54 M55
          refine st_val (.int .i64 (-(mt (k / 8) j))) (by kernel_rfl) (int_of (show (0 : Int) - (mt (k / 8) j) = -(mt (k / 8) j) by omega) (i64_of (by omega) (by kernel_rfl))) ?_
          refine st_val (.int .i64 (max (mt (k / 8) j) (-(mt (k / 8) j)))) (by kernel_rfl) (int_of (ite_max (mt (k / 8) j) (-(mt (k / 8) j))) (by kernel_rfl)) ?_
          refine st_val (.int .i64 ((dot (fun n => max (mt (k / 8) n) (-(mt (k / 8) n))) j) + (max (mt (k / 8) j) (-(mt (k / 8) j))))) (by kernel_rfl) (i64_of (by omega) (by kernel_rfl)) ?_
          refine st_val (.int .i64 ((dot (fun n => max (mt (k / 8) n) (-(mt (k / 8) n))) j) + (max (mt (k / 8) j) (-(mt (k / 8) j))))) (by kernel_rfl) (by kernel_rfl) ?_
          refine wl_nil ?_
          refine hK51 _ _ ?_
          try clear hK51 K51
          refine wp_frame (a' := ⟨#[v0, undef, (u36 2), .pointer (some ⟨g5, 0, none⟩), .pointer (some ⟨g13, 0, none⟩), .pointer (some ⟨g27, 0, none⟩), .int .i64 0, .int .i64 (k : Int), .int .i64 ((dot (fun n => max (mt (k / 8) n) (-(mt (k / 8) n))) j) + (max (mt (k / 8) j) (-(mt (k / 8) j)))), .int .i64 (dot (fun n => max (mt (k % 8) n) (-(mt (k % 8) n))) j), .int .i64 (j : Int), v0, .agg (iv (blockOf l0)), .agg (iv (blockOf l0)), .agg (iv (inv (blockOf l0))), .agg (iv (blockOf l0)), .bool true, .bool false, .bool false, .agg (iv (inv (blockOf l0))), .bool true, .bool false, .bool false, undef, .tuple #[.agg (iv (fwd (inv (blockOf l0)))), .int .i64 0], .agg (iv (inv (blockOf l0))), .tuple #[.agg (iv (fwd (inv (blockOf l0)))), .int .i64 0], .agg (iv (fwd (inv (blockOf l0)))), .int .i64 0, .int .i64 0, .bool false, .int .i64 (k : Int), .bool true, (u36 33), (u36 34), .int .i64 (j : Int), .bool true, (u45 37), (u45 38), .int .i64 (dot (fun n => max (mt (k / 8) n) (-(mt (k / 8) n))) j), .int .i64 (k : Int), .int .i64 ((k : Int) / 8), .int .i64 (j : Int), .int .i64 (mt (k / 8) j), .int .i64 (k : Int), .int .i64 ((k : Int) / 8), .int .i64 (j : Int), .int .i64 (mt (k / 8) j), .int .i64 (-(mt (k / 8) j)), .int .i64 (max (mt (k / 8) j) (-(mt (k / 8) j))), .int .i64 ((dot (fun n => max (mt (k / 8) n) (-(mt (k / 8) n))) j) + (max (mt (k / 8) j) (-(mt (k / 8) j)))), (u45 51), (u45 52), (u45 53), (u45 54), (u45 55), (u45 56), (u45 57), (u45 58), (u45 59), (u45 60), (u45 61), (u45 62), (u36 63), (u36 64), (u36 65), (u36 66), (u36 67), (u36 68), (u36 69), (u36 70), (u36 71), (u36 72), (u36 73), (u36 74), (u36 75), (u36 76), (u36 77), (u36 78), (u36 79), (u36 80), (u36 81), (u36 82), (u36 83), (u36 84), (u36 85), (u36 86), (u36 87), (u36 88), undef], []⟩) (by kernel_rfl) ?_
          refine wl_region ?_
          refine st_val (.int .i64 (dot (fun n => max (mt (k % 8) n) (-(mt (k % 8) n))) j)) (by kernel_rfl) (by kernel_rfl) ?_
          refine st_val (.int .i64 (k : Int)) (by kernel_rfl) (by kernel_rfl) ?_
          refine st_val (.int .i64 ((k : Int) % 8)) (by kernel_rfl) (int_of (rem_of (k : Int) 8 (by omega)) (by kernel_rfl)) ?_
          refine st_val (.int .i64 (j : Int)) (by kernel_rfl) (by kernel_rfl) ?_
          refine st_callB M55 (.int .i64 (mt (k % 8) j)) (by kernel_rfl) (args := #[.int .i64 ((k : Int) % 8), .int .i64 (j : Int)]) (run_value_call 21 #[(Operand.tmp 53), (Operand.tmp 54)] _ rfl Try.func21 (by kernel_rfl) (by kernel_rfl) _ (by kernel_rfl)) ((by have := refBasis_in W54 (k % 8) j (by omega) (by omega); exact this)) ?_
          intro W56 M57
          refine st_val (.int .i64 (k : Int)) (by kernel_rfl) (by kernel_rfl) ?_
          refine st_val (.int .i64 ((k : Int) % 8)) (by kernel_rfl) (int_of (rem_of (k : Int) 8 (by omega)) (by kernel_rfl)) ?_
          refine st_val (.int .i64 (j : Int)) (by kernel_rfl) (by kernel_rfl) ?_
          refine st_callB M57 (.int .i64 (mt (k % 8) j)) (by kernel_rfl) (args := #[.int .i64 ((k : Int) % 8), .int .i64 (j : Int)]) (run_value_call 21 #[(Operand.tmp 57), (Operand.tmp 58)] _ rfl Try.func21 (by kernel_rfl) (by kernel_rfl) _ (by kernel_rfl)) ((by have := refBasis_in W56 (k % 8) j (by omega) (by omega); exact this)) ?_
          intro W58 M59
          refine st_val (.int .i64 (-(mt (k % 8) j))) (by kernel_rfl) (int_of (show (0 : Int) - (mt (k % 8) j) = -(mt (k % 8) j) by omega) (i64_of (by omega) (by kernel_rfl))) ?_
          refine st_val (.int .i64 (max (mt (k % 8) j) (-(mt (k % 8) j)))) (by kernel_rfl) (int_of (ite_max (mt (k % 8) j) (-(mt (k % 8) j))) (by kernel_rfl)) ?_
          refine st_val (.int .i64 ((dot (fun n => max (mt (k % 8) n) (-(mt (k % 8) n))) j) + (max (mt (k % 8) j) (-(mt (k % 8) j))))) (by kernel_rfl) (i64_of (by omega) (by kernel_rfl)) ?_
          refine st_val (.int .i64 ((dot (fun n => max (mt (k % 8) n) (-(mt (k % 8) n))) j) + (max (mt (k % 8) j) (-(mt (k % 8) j))))) (by kernel_rfl) (by kernel_rfl) ?_
          refine wl_nil ?_
          refine blk_normal ?_
          refine hK50 _ _ ?_
          try clear hK50 K50
          refine wp_frame (a' := ⟨#[v0, undef, (u36 2), .pointer (some ⟨g5, 0, none⟩), .pointer (some ⟨g13, 0, none⟩), .pointer (some ⟨g27, 0, none⟩), .int .i64 0, .int .i64 (k : Int), .int .i64 ((dot (fun n => max (mt (k / 8) n) (-(mt (k / 8) n))) j) + (max (mt (k / 8) j) (-(mt (k / 8) j)))), .int .i64 ((dot (fun n => max (mt (k % 8) n) (-(mt (k % 8) n))) j) + (max (mt (k % 8) j) (-(mt (k % 8) j)))), .int .i64 (j : Int), v0, .agg (iv (blockOf l0)), .agg (iv (blockOf l0)), .agg (iv (inv (blockOf l0))), .agg (iv (blockOf l0)), .bool true, .bool false, .bool false, .agg (iv (inv (blockOf l0))), .bool true, .bool false, .bool false, undef, .tuple #[.agg (iv (fwd (inv (blockOf l0)))), .int .i64 0], .agg (iv (inv (blockOf l0))), .tuple #[.agg (iv (fwd (inv (blockOf l0)))), .int .i64 0], .agg (iv (fwd (inv (blockOf l0)))), .int .i64 0, .int .i64 0, .bool false, .int .i64 (k : Int), .bool true, (u36 33), (u36 34), .int .i64 (j : Int), .bool true, (u45 37), (u45 38), .int .i64 (dot (fun n => max (mt (k / 8) n) (-(mt (k / 8) n))) j), .int .i64 (k : Int), .int .i64 ((k : Int) / 8), .int .i64 (j : Int), .int .i64 (mt (k / 8) j), .int .i64 (k : Int), .int .i64 ((k : Int) / 8), .int .i64 (j : Int), .int .i64 (mt (k / 8) j), .int .i64 (-(mt (k / 8) j)), .int .i64 (max (mt (k / 8) j) (-(mt (k / 8) j))), .int .i64 ((dot (fun n => max (mt (k / 8) n) (-(mt (k / 8) n))) j) + (max (mt (k / 8) j) (-(mt (k / 8) j)))), .int .i64 (dot (fun n => max (mt (k % 8) n) (-(mt (k % 8) n))) j), .int .i64 (k : Int), .int .i64 ((k : Int) % 8), .int .i64 (j : Int), .int .i64 (mt (k % 8) j), .int .i64 (k : Int), .int .i64 ((k : Int) % 8), .int .i64 (j : Int), .int .i64 (mt (k % 8) j), .int .i64 (-(mt (k % 8) j)), .int .i64 (max (mt (k % 8) j) (-(mt (k % 8) j))), .int .i64 ((dot (fun n => max (mt (k % 8) n) (-(mt (k % 8) n))) j) + (max (mt (k % 8) j) (-(mt (k % 8) j)))), (u36 63), (u36 64), (u36 65), (u36 66), (u36 67), (u36 68), (u36 69), (u36 70), (u36 71), (u36 72), (u36 73), (u36 74), (u36 75), (u36 76), (u36 77), (u36 78), (u36 79), (u36 80), (u36 81), (u36 82), (u36 83), (u36 84), (u36 85), (u36 86), (u36 87), (u36 88), undef], []⟩) (by kernel_rfl) ?_
          refine wl_region ?_
          refine st_val (.int .i64 (j : Int)) (by kernel_rfl) (by kernel_rfl) ?_
          refine st_val (.int .i64 ((j : Int) + 1)) (by kernel_rfl) (i64_of (by omega) (by kernel_rfl)) ?_
          refine st_val (.int .i64 ((j : Int) + 1)) (by kernel_rfl) (by kernel_rfl) ?_
          refine wl_nil ?_
          refine th_normal ?_
          exact ⟨_, by omega, (j + 1), (fun zz => Array.getD #[v0, undef, (u36 2), .pointer (some ⟨g5, 0, none⟩), .pointer (some ⟨g13, 0, none⟩), .pointer (some ⟨g27, 0, none⟩), .int .i64 0, .int .i64 (k : Int), .int .i64 ((dot (fun n => max (mt (k / 8) n) (-(mt (k / 8) n))) j) + (max (mt (k / 8) j) (-(mt (k / 8) j)))), .int .i64 ((dot (fun n => max (mt (k % 8) n) (-(mt (k % 8) n))) j) + (max (mt (k % 8) j) (-(mt (k % 8) j)))), .int .i64 ((j : Int) + 1), v0, .agg (iv (blockOf l0)), .agg (iv (blockOf l0)), .agg (iv (inv (blockOf l0))), .agg (iv (blockOf l0)), .bool true, .bool false, .bool false, .agg (iv (inv (blockOf l0))), .bool true, .bool false, .bool false, undef, .tuple #[.agg (iv (fwd (inv (blockOf l0)))), .int .i64 0], .agg (iv (inv (blockOf l0))), .tuple #[.agg (iv (fwd (inv (blockOf l0)))), .int .i64 0], .agg (iv (fwd (inv (blockOf l0)))), .int .i64 0, .int .i64 0, .bool false, .int .i64 (k : Int), .bool true, (u36 33), (u36 34), .int .i64 (j : Int), .bool true, .int .i64 (j : Int), .int .i64 ((j : Int) + 1), .int .i64 (dot (fun n => max (mt (k / 8) n) (-(mt (k / 8) n))) j), .int .i64 (k : Int), .int .i64 ((k : Int) / 8), .int .i64 (j : Int), .int .i64 (mt (k / 8) j), .int .i64 (k : Int), .int .i64 ((k : Int) / 8), .int .i64 (j : Int), .int .i64 (mt (k / 8) j), .int .i64 (-(mt (k / 8) j)), .int .i64 (max (mt (k / 8) j) (-(mt (k / 8) j))), .int .i64 ((dot (fun n => max (mt (k / 8) n) (-(mt (k / 8) n))) j) + (max (mt (k / 8) j) (-(mt (k / 8) j)))), .int .i64 (dot (fun n => max (mt (k % 8) n) (-(mt (k % 8) n))) j), .int .i64 (k : Int), .int .i64 ((k : Int) % 8), .int .i64 (j : Int), .int .i64 (mt (k % 8) j), .int .i64 (k : Int), .int .i64 ((k : Int) % 8), .int .i64 (j : Int), .int .i64 (mt (k % 8) j), .int .i64 (-(mt (k % 8) j)), .int .i64 (max (mt (k % 8) j) (-(mt (k % 8) j))), .int .i64 ((dot (fun n => max (mt (k % 8) n) (-(mt (k % 8) n))) j) + (max (mt (k % 8) j) (-(mt (k % 8) j)))), (u36 63), (u36 64), (u36 65), (u36 66), (u36 67), (u36 68), (u36 69), (u36 70), (u36 71), (u36 72), (u36 73), (u36 74), (u36 75), (u36 76), (u36 77), (u36 78), (u36 79), (u36 80), (u36 81), (u36 82), (u36 83), (u36 84), (u36 85), (u36 86), (u36 87), (u36 88), undef] zz undef), ⟨by omega, M59⟩, rfl, (by kernel_rfl)⟩
        ·
          have f1 := near_at (lim_of hB16) k (by omega) j (by omega)
          have f2 := fwd_bound hx k (by omega)
          have f3 := lim_of hB16 k (by omega)
          have f4 := rs_mul k (by omega) j (by omega)
          refine st_val (.bool false) (by kernel_rfl) (bool_of (dec_f c36) (by kernel_rfl)) ?_
          refine wl_nil ?_
          refine hK49 _ _ ?_
          try clear hK49 K49
          refine wp_cond_false (by kernel_rfl) ?_
          refine wp_exit ?_
          refine th_exit ?_
          refine th_exit ?_
          refine blk_exit ?_
          refine hK43 _ _ ?_
          try clear hK43 K43
          refine wp_seq_k (fun K60 hK60 => ?_)
          refine wl_seq 26 (fun w' => Mem NoS w w' [(g27, .cells (iv (fwd (inv (blockOf l0)))) 23 (0, 0)), (g13, .cells (iv (inv (blockOf l0))) 23 (0, 0)), (g5, .cells (iv (blockOf l0)) 23 (0, 0))]) (by decide) (by kernel_rfl) (by kernel_rfl) M47.drew ?_
          refine seq_run (v := .int .i64 (k : Int)) (by decide) (by kernel_rfl) (fun w' M' => (by kernel_rfl)) ?_
          refine seq_run (v := .pointer (some ⟨g27, k, none⟩)) (by decide) (by kernel_rfl) (fun w' M' => (run_indexAddr 23 (.tmp 5) (.tmp 63) rfl ⟨g27, 0, none⟩ .i64 k (by kernel_rfl) (by kernel_rfl) Try.underlying23 1 (by kernel_rfl) (by omega) ⟨g27, k, none⟩ (addr_at0 _ _))) ?_
          refine seq_run (v := .int .i64 ((fwd (inv (blockOf l0))).getD k 0)) (by decide) (by kernel_rfl) (fun w' M' => (run_load_cell 3 (.tmp 64) rfl ⟨g27, k, none⟩ (by kernel_rfl) _ (M'.cell 0 rfl k _ (iv_get (fwd (inv (blockOf l0))) k (by rw [(fwd_length _)]; omega))) (by kernel_rfl))) ?_
          refine seq_run (v := .int .i64 (k : Int)) (by decide) (by kernel_rfl) (fun w' M' => (by kernel_rfl)) ?_
          refine seq_run (v := .pointer (some ⟨g5, k, none⟩)) (by decide) (by kernel_rfl) (fun w' M' => (run_indexAddr 23 (.tmp 3) (.tmp 66) rfl ⟨g5, 0, none⟩ .i64 k (by kernel_rfl) (by kernel_rfl) Try.underlying23 1 (by kernel_rfl) (by omega) ⟨g5, k, none⟩ (addr_at0 _ _))) ?_
          refine seq_run (v := .int .i64 ((blockOf l0).getD k 0)) (by decide) (by kernel_rfl) (fun w' M' => (run_load_cell 3 (.tmp 67) rfl ⟨g5, k, none⟩ (by kernel_rfl) _ (M'.cell 2 rfl k _ (iv_get (blockOf l0) k (by rw [(blockOf_length _)]; omega))) (by kernel_rfl))) ?_
          refine seq_run (v := .int .i64 (((fwd (inv (blockOf l0))).getD k 0) - ((blockOf l0).getD k 0))) (by decide) (by kernel_rfl) (fun w' M' => (i64_of (by omega) (by kernel_rfl))) ?_
          refine seq_run (v := .int .i64 (2 * (((fwd (inv (blockOf l0))).getD k 0) - ((blockOf l0).getD k 0)))) (by decide) (by kernel_rfl) (fun w' M' => (i64_of (by omega) (by kernel_rfl))) ?_
          refine seq_run (v := .int .i64 (dot (fun n => max (mt (k / 8) n) (-(mt (k / 8) n))) j)) (by decide) (by kernel_rfl) (fun w' M' => (by kernel_rfl)) ?_
          refine seq_run (v := .int .i64 (dot (fun n => max (mt (k % 8) n) (-(mt (k % 8) n))) j)) (by decide) (by kernel_rfl) (fun w' M' => (by kernel_rfl)) ?_
          refine seq_run (v := .int .i64 ((dot (fun n => max (mt (k / 8) n) (-(mt (k / 8) n))) j) * (dot (fun n => max (mt (k % 8) n) (-(mt (k % 8) n))) j))) (by decide) (by kernel_rfl) (fun w' M' => (i64_of (by omega) (by kernel_rfl))) ?_
          refine seq_run (v := .bool false) (by decide) (by kernel_rfl) (fun w' M' => (bool_of (dec_f (show ¬ ((2 * (((fwd (inv (blockOf l0))).getD k 0) - ((blockOf l0).getD k 0)) : Int) > (dot (fun n => max (mt (k / 8) n) (-(mt (k / 8) n))) j) * (dot (fun n => max (mt (k % 8) n) (-(mt (k % 8) n))) j)) from by omega)) (by kernel_rfl))) ?_
          refine seq_run (v := .bool false) (by decide) (by kernel_rfl) (fun w' M' => (by kernel_rfl)) ?_
          refine seq_run (v := .int .i64 (k : Int)) (by decide) (by kernel_rfl) (fun w' M' => (by kernel_rfl)) ?_
          refine seq_run (v := .pointer (some ⟨g5, k, none⟩)) (by decide) (by kernel_rfl) (fun w' M' => (run_indexAddr 23 (.tmp 3) (.tmp 76) rfl ⟨g5, 0, none⟩ .i64 k (by kernel_rfl) (by kernel_rfl) Try.underlying23 1 (by kernel_rfl) (by omega) ⟨g5, k, none⟩ (addr_at0 _ _))) ?_
          refine seq_run (v := .int .i64 ((blockOf l0).getD k 0)) (by decide) (by kernel_rfl) (fun w' M' => (run_load_cell 3 (.tmp 77) rfl ⟨g5, k, none⟩ (by kernel_rfl) _ (M'.cell 2 rfl k _ (iv_get (blockOf l0) k (by rw [(blockOf_length _)]; omega))) (by kernel_rfl))) ?_
          refine seq_run (v := .int .i64 (k : Int)) (by decide) (by kernel_rfl) (fun w' M' => (by kernel_rfl)) ?_
          refine seq_run (v := .pointer (some ⟨g27, k, none⟩)) (by decide) (by kernel_rfl) (fun w' M' => (run_indexAddr 23 (.tmp 5) (.tmp 79) rfl ⟨g27, 0, none⟩ .i64 k (by kernel_rfl) (by kernel_rfl) Try.underlying23 1 (by kernel_rfl) (by omega) ⟨g27, k, none⟩ (addr_at0 _ _))) ?_
          refine seq_run (v := .int .i64 ((fwd (inv (blockOf l0))).getD k 0)) (by decide) (by kernel_rfl) (fun w' M' => (run_load_cell 3 (.tmp 80) rfl ⟨g27, k, none⟩ (by kernel_rfl) _ (M'.cell 0 rfl k _ (iv_get (fwd (inv (blockOf l0))) k (by rw [(fwd_length _)]; omega))) (by kernel_rfl))) ?_
          refine seq_run (v := .int .i64 (((blockOf l0).getD k 0) - ((fwd (inv (blockOf l0))).getD k 0))) (by decide) (by kernel_rfl) (fun w' M' => (i64_of (by omega) (by kernel_rfl))) ?_
          refine seq_run (v := .int .i64 (2 * (((blockOf l0).getD k 0) - ((fwd (inv (blockOf l0))).getD k 0)))) (by decide) (by kernel_rfl) (fun w' M' => (i64_of (by omega) (by kernel_rfl))) ?_
          refine seq_run (v := .int .i64 (dot (fun n => max (mt (k / 8) n) (-(mt (k / 8) n))) j)) (by decide) (by kernel_rfl) (fun w' M' => (by kernel_rfl)) ?_
          refine seq_run (v := .int .i64 (dot (fun n => max (mt (k % 8) n) (-(mt (k % 8) n))) j)) (by decide) (by kernel_rfl) (fun w' M' => (by kernel_rfl)) ?_
          refine seq_run (v := .int .i64 ((dot (fun n => max (mt (k / 8) n) (-(mt (k / 8) n))) j) * (dot (fun n => max (mt (k % 8) n) (-(mt (k % 8) n))) j))) (by decide) (by kernel_rfl) (fun w' M' => (i64_of (by omega) (by kernel_rfl))) ?_
          refine seq_run (v := .bool false) (by decide) (by kernel_rfl) (fun w' M' => (bool_of (dec_f (show ¬ ((2 * (((blockOf l0).getD k 0) - ((fwd (inv (blockOf l0))).getD k 0)) : Int) > (dot (fun n => max (mt (k / 8) n) (-(mt (k / 8) n))) j) * (dot (fun n => max (mt (k % 8) n) (-(mt (k % 8) n))) j)) from by omega)) (by kernel_rfl))) ?_
          refine seq_run (v := .bool false) (by decide) (by kernel_rfl) (fun w' M' => (by kernel_rfl)) ?_
          refine seq_end (by decide) ?_
          intro W61 M62
          refine wl_nil ?_
          refine hK60 _ _ ?_
          try clear hK60 K60
          refine wp_frame (a' := ⟨#[v0, undef, (u36 2), .pointer (some ⟨g5, 0, none⟩), .pointer (some ⟨g13, 0, none⟩), .pointer (some ⟨g27, 0, none⟩), .int .i64 0, .int .i64 (k : Int), .int .i64 (dot (fun n => max (mt (k / 8) n) (-(mt (k / 8) n))) j), .int .i64 (dot (fun n => max (mt (k % 8) n) (-(mt (k % 8) n))) j), .int .i64 (j : Int), v0, .agg (iv (blockOf l0)), .agg (iv (blockOf l0)), .agg (iv (inv (blockOf l0))), .agg (iv (blockOf l0)), .bool true, .bool false, .bool false, .agg (iv (inv (blockOf l0))), .bool true, .bool false, .bool false, undef, .tuple #[.agg (iv (fwd (inv (blockOf l0)))), .int .i64 0], .agg (iv (inv (blockOf l0))), .tuple #[.agg (iv (fwd (inv (blockOf l0)))), .int .i64 0], .agg (iv (fwd (inv (blockOf l0)))), .int .i64 0, .int .i64 0, .bool false, .int .i64 (k : Int), .bool true, (u36 33), (u36 34), .int .i64 (j : Int), .bool false, (u45 37), (u45 38), (u45 39), (u45 40), (u45 41), (u45 42), (u45 43), (u45 44), (u45 45), (u45 46), (u45 47), (u45 48), (u45 49), (u45 50), (u45 51), (u45 52), (u45 53), (u45 54), (u45 55), (u45 56), (u45 57), (u45 58), (u45 59), (u45 60), (u45 61), (u45 62), .int .i64 (k : Int), .pointer (some ⟨g27, k, none⟩), .int .i64 ((fwd (inv (blockOf l0))).getD k 0), .int .i64 (k : Int), .pointer (some ⟨g5, k, none⟩), .int .i64 ((blockOf l0).getD k 0), .int .i64 (((fwd (inv (blockOf l0))).getD k 0) - ((blockOf l0).getD k 0)), .int .i64 (2 * (((fwd (inv (blockOf l0))).getD k 0) - ((blockOf l0).getD k 0))), .int .i64 (dot (fun n => max (mt (k / 8) n) (-(mt (k / 8) n))) j), .int .i64 (dot (fun n => max (mt (k % 8) n) (-(mt (k % 8) n))) j), .int .i64 ((dot (fun n => max (mt (k / 8) n) (-(mt (k / 8) n))) j) * (dot (fun n => max (mt (k % 8) n) (-(mt (k % 8) n))) j)), .bool false, .bool false, .int .i64 (k : Int), .pointer (some ⟨g5, k, none⟩), .int .i64 ((blockOf l0).getD k 0), .int .i64 (k : Int), .pointer (some ⟨g27, k, none⟩), .int .i64 ((fwd (inv (blockOf l0))).getD k 0), .int .i64 (((blockOf l0).getD k 0) - ((fwd (inv (blockOf l0))).getD k 0)), .int .i64 (2 * (((blockOf l0).getD k 0) - ((fwd (inv (blockOf l0))).getD k 0))), .int .i64 (dot (fun n => max (mt (k / 8) n) (-(mt (k / 8) n))) j), .int .i64 (dot (fun n => max (mt (k % 8) n) (-(mt (k % 8) n))) j), .int .i64 ((dot (fun n => max (mt (k / 8) n) (-(mt (k / 8) n))) j) * (dot (fun n => max (mt (k % 8) n) (-(mt (k % 8) n))) j)), .bool false, .bool false, undef], []⟩) (by kernel_rfl) ?_
          refine wp_cond_false (by kernel_rfl) ?_
          refine wp_skip ?_
          refine blk_normal ?_
          refine hK41 _ _ ?_
          try clear hK41 K41
          refine wl_region ?_
          refine st_val (.int .i64 (k : Int)) (by kernel_rfl) (by kernel_rfl) ?_
          refine st_val (.int .i64 ((k : Int) + 1)) (by kernel_rfl) (i64_of (by omega) (by kernel_rfl)) ?_
          refine st_val (.int .i64 ((k : Int) + 1)) (by kernel_rfl) (by kernel_rfl) ?_
          refine wl_nil ?_
          refine th_normal ?_
          exact ⟨_, by omega, (k + 1), (fun zz => Array.getD #[v0, undef, (u36 2), .pointer (some ⟨g5, 0, none⟩), .pointer (some ⟨g13, 0, none⟩), .pointer (some ⟨g27, 0, none⟩), .int .i64 0, .int .i64 ((k : Int) + 1), .int .i64 (dot (fun n => max (mt (k / 8) n) (-(mt (k / 8) n))) j), .int .i64 (dot (fun n => max (mt (k % 8) n) (-(mt (k % 8) n))) j), .int .i64 (j : Int), v0, .agg (iv (blockOf l0)), .agg (iv (blockOf l0)), .agg (iv (inv (blockOf l0))), .agg (iv (blockOf l0)), .bool true, .bool false, .bool false, .agg (iv (inv (blockOf l0))), .bool true, .bool false, .bool false, undef, .tuple #[.agg (iv (fwd (inv (blockOf l0)))), .int .i64 0], .agg (iv (inv (blockOf l0))), .tuple #[.agg (iv (fwd (inv (blockOf l0)))), .int .i64 0], .agg (iv (fwd (inv (blockOf l0)))), .int .i64 0, .int .i64 0, .bool false, .int .i64 (k : Int), .bool true, .int .i64 (k : Int), .int .i64 ((k : Int) + 1), .int .i64 (j : Int), .bool false, (u45 37), (u45 38), (u45 39), (u45 40), (u45 41), (u45 42), (u45 43), (u45 44), (u45 45), (u45 46), (u45 47), (u45 48), (u45 49), (u45 50), (u45 51), (u45 52), (u45 53), (u45 54), (u45 55), (u45 56), (u45 57), (u45 58), (u45 59), (u45 60), (u45 61), (u45 62), .int .i64 (k : Int), .pointer (some ⟨g27, k, none⟩), .int .i64 ((fwd (inv (blockOf l0))).getD k 0), .int .i64 (k : Int), .pointer (some ⟨g5, k, none⟩), .int .i64 ((blockOf l0).getD k 0), .int .i64 (((fwd (inv (blockOf l0))).getD k 0) - ((blockOf l0).getD k 0)), .int .i64 (2 * (((fwd (inv (blockOf l0))).getD k 0) - ((blockOf l0).getD k 0))), .int .i64 (dot (fun n => max (mt (k / 8) n) (-(mt (k / 8) n))) j), .int .i64 (dot (fun n => max (mt (k % 8) n) (-(mt (k % 8) n))) j), .int .i64 ((dot (fun n => max (mt (k / 8) n) (-(mt (k / 8) n))) j) * (dot (fun n => max (mt (k % 8) n) (-(mt (k % 8) n))) j)), .bool false, .bool false, .int .i64 (k : Int), .pointer (some ⟨g5, k, none⟩), .int .i64 ((blockOf l0).getD k 0), .int .i64 (k : Int), .pointer (some ⟨g27, k, none⟩), .int .i64 ((fwd (inv (blockOf l0))).getD k 0), .int .i64 (((blockOf l0).getD k 0) - ((fwd (inv (blockOf l0))).getD k 0)), .int .i64 (2 * (((blockOf l0).getD k 0) - ((fwd (inv (blockOf l0))).getD k 0))), .int .i64 (dot (fun n => max (mt (k / 8) n) (-(mt (k / 8) n))) j), .int .i64 (dot (fun n => max (mt (k % 8) n) (-(mt (k % 8) n))) j), .int .i64 ((dot (fun n => max (mt (k / 8) n) (-(mt (k / 8) n))) j) * (dot (fun n => max (mt (k % 8) n) (-(mt (k % 8) n))) j)), .bool false, .bool false, undef] zz undef), ⟨by omega, M62⟩, rfl, (by kernel_rfl)⟩
      ·
        refine st_val (.bool false) (by kernel_rfl) (bool_of (dec_f c32) (by kernel_rfl)) ?_
        refine wl_nil ?_
        refine hK40 _ _ ?_
        try clear hK40 K40
        refine wp_cond_false (by kernel_rfl) ?_
        refine wp_exit ?_
        refine th_exit ?_
        refine th_exit ?_
        refine blk_exit ?_
        refine hK34 _ _ ?_
        try clear hK34 K34
        refine wp_seq_k (fun K63 hK63 => ?_)
        refine wl_region ?_
        refine st_callB M38 (.bool true) (by kernel_rfl) (args := #[]) (run_value_call 15 #[] _ rfl Try.func15 (by kernel_rfl) (by kernel_rfl) _ (by kernel_rfl)) (awake_walk W37) ?_
        intro W64 M65
        refine st_val (.bool true) (by kernel_rfl) (by kernel_rfl) ?_
        refine wl_nil ?_
        refine hK63 _ _ ?_
        try clear hK63 K63
        refine wp_ret ?_
        exact done1 2 (.bool true) (by kernel_rfl) (by kernel_rfl) (by kernel_rfl) ⟨rfl, M65.toBelow⟩
    ·
      refine st_callB M21 (.bool false) (by kernel_rfl) (args := #[.agg (iv (inv (blockOf l0))), .int .i64 255]) (run_value_call 18 #[(Operand.tmp 19), (Operand.const (Value.int IntKind.i64 255))] _ rfl Try.func18 (by kernel_rfl) (by kernel_rfl) _ (by kernel_rfl)) ((by have := within_walk W20 (inv (blockOf l0)) (inv_length _) 255 (by omega); rw [hB20] at this; exact this)) ?_
      intro W66 M67
      refine st_val (.bool true) (by kernel_rfl) (by kernel_rfl) ?_
      refine st_val (.bool true) (by kernel_rfl) (by kernel_rfl) ?_
      refine wl_nil ?_
      refine hK19 _ _ ?_
      try clear hK19 K19
      refine wp_frame (a' := ⟨#[v0, undef, .bool false, .pointer (some ⟨g5, 0, none⟩), .pointer (some ⟨g13, 0, none⟩), undef, undef, undef, undef, undef, undef, v0, .agg (iv (blockOf l0)), .agg (iv (blockOf l0)), .agg (iv (inv (blockOf l0))), .agg (iv (blockOf l0)), .bool true, .bool false, .bool false, .agg (iv (inv (blockOf l0))), .bool false, .bool true, .bool true, undef, undef, undef, undef, undef, undef, undef, undef, undef, undef, undef, undef, undef, undef, undef, undef, undef, undef, undef, undef, undef, undef, undef, undef, undef, undef, undef, undef, undef, undef, undef, undef, undef, undef, undef, undef, undef, undef, undef, undef, undef, undef, undef, undef, undef, undef, undef, undef, undef, undef, undef, undef, undef, undef, undef, undef, undef, undef, undef, undef, undef, undef, undef, undef, undef, undef, undef], []⟩) (by kernel_rfl) ?_
      refine wp_cond_true (by kernel_rfl) ?_
      refine wp_seq_k (fun K68 hK68 => ?_)
      refine wl_region ?_
      refine st_callB M67 (.bool true) (by kernel_rfl) (args := #[]) (run_value_call 15 #[] _ rfl Try.func15 (by kernel_rfl) (by kernel_rfl) _ (by kernel_rfl)) (awake_walk W66) ?_
      intro W69 M70
      refine st_val (.bool true) (by kernel_rfl) (by kernel_rfl) ?_
      refine wl_nil ?_
      refine hK68 _ _ ?_
      try clear hK68 K68
      refine wp_ret ?_
      refine th_ret ?_
      exact done1 2 (.bool true) (by kernel_rfl) (by kernel_rfl) (by kernel_rfl) ⟨rfl, M70.toBelow⟩
  ·
    refine st_callB M17 (.bool false) (by kernel_rfl) (args := #[.agg (iv (blockOf l0)), .int .i64 2097152]) (run_value_call 18 #[(Operand.tmp 15), (Operand.const (Value.int IntKind.i64 2097152))] _ rfl Try.func18 (by kernel_rfl) (by kernel_rfl) _ (by kernel_rfl)) ((by have := within_walk W16 (blockOf l0) (blockOf_length _) 2097152 (by omega); rw [hB16] at this; exact this)) ?_
    intro W71 M72
    refine st_val (.bool true) (by kernel_rfl) (by kernel_rfl) ?_
    refine st_val (.bool true) (by kernel_rfl) (by kernel_rfl) ?_
    refine st_skip (by kernel_rfl) ?_
    refine st_skip (by kernel_rfl) ?_
    refine st_skip (by kernel_rfl) ?_
    refine st_val (.bool true) (by kernel_rfl) (by kernel_rfl) ?_
    refine wl_nil ?_
    refine hK19 _ _ ?_
    try clear hK19 K19
    refine wp_frame (a' := ⟨#[v0, undef, .bool false, .pointer (some ⟨g5, 0, none⟩), .pointer (some ⟨g13, 0, none⟩), undef, undef, undef, undef, undef, undef, v0, .agg (iv (blockOf l0)), .agg (iv (blockOf l0)), .agg (iv (inv (blockOf l0))), .agg (iv (blockOf l0)), .bool false, .bool true, .bool true, undef, undef, undef, .bool true, undef, undef, undef, undef, undef, undef, undef, undef, undef, undef, undef, undef, undef, undef, undef, undef, undef, undef, undef, undef, undef, undef, undef, undef, undef, undef, undef, undef, undef, undef, undef, undef, undef, undef, undef, undef, undef, undef, undef, undef, undef, undef, undef, undef, undef, undef, undef, undef, undef, undef, undef, undef, undef, undef, undef, undef, undef, undef, undef, undef, undef, undef, undef, undef, undef, undef, undef], []⟩) (by kernel_rfl) ?_
    refine wp_cond_true (by kernel_rfl) ?_
    refine wp_seq_k (fun K73 hK73 => ?_)
    refine wl_region ?_
    refine st_callB M72 (.bool true) (by kernel_rfl) (args := #[]) (run_value_call 15 #[] _ rfl Try.func15 (by kernel_rfl) (by kernel_rfl) _ (by kernel_rfl)) (awake_walk W71) ?_
    intro W74 M75
    refine st_val (.bool true) (by kernel_rfl) (by kernel_rfl) ?_
    refine wl_nil ?_
    refine hK73 _ _ ?_
    try clear hK73 K73
    refine wp_ret ?_
    refine th_ret ?_
    exact done1 2 (.bool true) (by kernel_rfl) (by kernel_rfl) (by kernel_rfl) ⟨rfl, M75.toBelow⟩
end Go.Proofs.Ytpjhehpgpfomjaa
