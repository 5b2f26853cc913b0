/- The walk of the law TransformEnergy. -/
import Derived.Test.YtpjhehpgpfomjaaAw
import Derived.Test.YtpjhehpgpfomjaaAlg
namespace Go.Proofs.Ytpjhehpgpfomjaa
open Go.RowKit

def eA (l : List Int) (n : Nat) : Int := (blockOf l).getD n 0 * (blockOf l).getD n 0
def eB (l : List Int) (n : Nat) : Int := (fwd (blockOf l)).getD n 0 * (fwd (blockOf l)).getD n 0 * sc (n / 8) * sc (n % 8)
theorem sq_lim {x m : Int} (h : -m ≤ x ∧ x ≤ m) : 0 ≤ x * x ∧ x * x ≤ m * m := by
  have h1 : (x * x).natAbs ≤ (m * m).natAbs := by
    rw [Int.natAbs_mul, Int.natAbs_mul]
    exact Nat.mul_le_mul (by omega) (by omega)
  have h2 : 0 ≤ m * m := Int.mul_nonneg (by omega) (by omega)
  have h3 : 0 ≤ x * x := by
    rcases Int.le_total 0 x with h | h
    · exact Int.mul_nonneg h h
    · have := Int.mul_nonneg (show 0 ≤ -x by omega) (show 0 ≤ -x by omega); rw [Int.neg_mul_neg] at this; exact this
  omega
theorem sum_le {f : Nat → Int} {m : Int} (k : Nat) (h : ∀ n, n < k → 0 ≤ f n ∧ f n ≤ m) : 0 ≤ dot f k ∧ dot f k ≤ k * m := by
  induction k with
  | zero => simp [dot]
  | succ k ih =>
    have h1 := ih (fun n hn => h n (by omega))
    have h2 := h k (by omega)
    simp only [dot]
    have e : ((k + 1 : Nat) : Int) * m = k * m + m := by rw [Int.natCast_add, Int.add_mul]; simp
    omega
theorem eA_le {l : List Int} (h : Lim 15 (blockOf l)) (k : Nat) (hk : k ≤ 64) : 0 ≤ dot (eA l) k ∧ dot (eA l) k ≤ 14400 := by
  have h1 := sum_le (f := eA l) (m := 225) k (fun n hn => sq_lim (h n (by omega)))
  omega
theorem fwd15 {l : List Int} (h : Lim 15 (blockOf l)) : Lim 61440 (fwd (blockOf l)) := by
  intro n hn
  rw [fwd_at _ _ hn, show n = 8 * (n / 8) + n % 8 by omega, Y1_mx _ _ _ (by omega)]
  have h1 := LR_abs (mx (blockOf l)) 15 (by omega) (fun a b ha hb => h (8 * a + b) (by omega)) (n / 8) (n % 8) (by omega)
  have h2 := rs_le (n / 8) (by omega)
  have h3 := rs_le (n % 8) (by omega)
  have h4 : rs (n / 8) * (rs (n % 8) * 15) ≤ 64 * (64 * 15) := Int.mul_le_mul h2.2 (by omega) (by omega) (by omega)
  omega
theorem mul_sc {x m : Int} {i : Nat} (hi : i < 8) (h : 0 ≤ x ∧ x ≤ m) : 0 ≤ x * sc i ∧ x * sc i ≤ m * 2312 := by
  have h1 : 0 ≤ sc i ∧ sc i ≤ 2312 := by rcases sc_in i hi with h | h | h <;> rw [h] <;> decide
  exact ⟨Int.mul_nonneg h.1 h1.1, Int.mul_le_mul h.2 h1.2 h1.1 (by omega)⟩
theorem eB_le {l : List Int} (h : Lim 15 (blockOf l)) (n : Nat) (hn : n < 64) : (0 ≤ (fwd (blockOf l)).getD n 0 * (fwd (blockOf l)).getD n 0 ∧ (fwd (blockOf l)).getD n 0 * (fwd (blockOf l)).getD n 0 ≤ 3774873600) ∧
    (0 ≤ (fwd (blockOf l)).getD n 0 * (fwd (blockOf l)).getD n 0 * sc (n / 8) ∧ (fwd (blockOf l)).getD n 0 * (fwd (blockOf l)).getD n 0 * sc (n / 8) ≤ 8727507763200) ∧
    (0 ≤ (fwd (blockOf l)).getD n 0 * (fwd (blockOf l)).getD n 0 * sc (n / 8) * sc (n % 8) ∧ (fwd (blockOf l)).getD n 0 * (fwd (blockOf l)).getD n 0 * sc (n / 8) * sc (n % 8) ≤ 20177997948518400) := by
  have h1 := sq_lim (fwd15 h n hn)
  have h2 := mul_sc (i := n / 8) (by omega) h1
  have h3 := mul_sc (i := n % 8) (by omega) h2
  exact ⟨h1, h2, h3⟩
theorem e_bounds {l : List Int} (h : Lim 15 (blockOf l)) (k : Nat) (hk : k < 64) : (0 ≤ (blockOf l).getD k 0 * (blockOf l).getD k 0 ∧ (blockOf l).getD k 0 * (blockOf l).getD k 0 ≤ 225) ∧ (0 ≤ dot (eA l) k ∧ dot (eA l) k ≤ 14400) ∧
    (0 ≤ (fwd (blockOf l)).getD k 0 * (fwd (blockOf l)).getD k 0 ∧ (fwd (blockOf l)).getD k 0 * (fwd (blockOf l)).getD k 0 ≤ 3774873600) ∧
    (0 ≤ (fwd (blockOf l)).getD k 0 * (fwd (blockOf l)).getD k 0 * sc (k / 8) ∧ (fwd (blockOf l)).getD k 0 * (fwd (blockOf l)).getD k 0 * sc (k / 8) ≤ 8727507763200) ∧
    (0 ≤ (fwd (blockOf l)).getD k 0 * (fwd (blockOf l)).getD k 0 * sc (k / 8) * sc (k % 8) ∧ (fwd (blockOf l)).getD k 0 * (fwd (blockOf l)).getD k 0 * sc (k / 8) * sc (k % 8) ≤ 20177997948518400) ∧ (0 ≤ dot (eB l) k ∧ dot (eB l) k ≤ 1291391868705177600) := by
  have h1 := eB_le h k hk
  have h2 := sum_le (f := eB l) (m := 20177997948518400) k (fun n hn => (eB_le h n (by omega)).2.2)
  exact ⟨sq_lim (h k hk), eA_le h k (by omega), h1.1, h1.2.1, h1.2.2, by omega⟩
theorem energy_at (l : List Int) (k : Nat) (hk : k = 64) : dot (eA l) k * 739840 * 739840 = dot (eB l) k := by
  subst hk
  rw [show dot (eB l) 64 = dot (fun n => Y1 (blockOf l) n * Y1 (blockOf l) n * sc (n / 8) * sc (n % 8)) 64 from dot_congr 64 (fun n hn => by unfold eB; rw [fwd_at _ _ hn]), energy]
  rfl

set_option maxHeartbeats 4000000 in
set_option maxRecDepth 100000 in
theorem TransformEnergy_walk (w : World) (v0 : Value) (l0 : List Int) (hr0 : Rd w v0 (l0.map (Value.int .i64))) : Calls Try.prog 8 #[v0] w fun e w' => e = .returned (.bool true) ∧ Below w.heap.size w w' := by
  refine calls_of_wp Try.func8 rfl ?_
  refine wp_frame (a' := ⟨#[v0, undef, undef, undef, undef, undef, undef, undef, undef, undef, undef, undef, undef, undef, undef, undef, undef, undef, undef, undef, undef, undef, undef, undef, undef, undef, undef, undef, undef, undef, undef, undef, undef, undef, undef, undef, undef, undef, undef, undef, undef, undef, undef, undef, undef, undef, undef, undef, undef, undef, undef, undef, undef, undef, undef, undef, undef, undef, undef, undef, undef, undef], []⟩) (by kernel_rfl) ?_
  have M0 : Mem NoS w w [] := Mem.start _ _
  refine wp_seq_k (fun K1 hK1 => ?_)
  refine wl_region ?_
  refine st_val (.bool false) (by kernel_rfl) (by kernel_rfl) ?_
  refine wl_nil ?_
  refine hK1 _ _ ?_
  try clear hK1 K1
  refine wp_seq_k (fun K2 hK2 => ?_)
  refine wl_region ?_
  refine st_val (v0) (by kernel_rfl) (by kernel_rfl) ?_
  refine st_callB M0 (.agg (iv (blockOf l0))) (by kernel_rfl) (args := #[v0]) (run_value_call 13 #[(Operand.tmp 9)] _ rfl Try.func13 (by kernel_rfl) (by kernel_rfl) _ (by kernel_rfl)) (block_walk w v0 l0 (M0.rd hr0 (fun _ _ h => h))) ?_
  intro W3 M4
  refine st_alloc M4 (.cells (iv zeros) 23 (0, 0)) (by kernel_rfl) (by kernel_rfl) ?_
  intro g5 W6 M7
  refine st_storeRow M7 0 rfl 23 (.tmp 3) (.tmp 10) (by rfl) (iv (blockOf l0)) (by kernel_rfl) (by kernel_rfl) (info64 _ (blockOf_length _)) (iv_same (blockOf_length _) zeros_length) (iv_one _) (by kernel_rfl) [(g5, .cells (iv (blockOf l0)) 23 (0, 0))] rfl ?_
  intro W8 M9
  refine wl_nil ?_
  refine hK2 _ _ ?_
  try clear hK2 K2
  refine wp_seq_k (fun K10 hK10 => ?_)
  refine wp_seq_k (fun K11 hK11 => ?_)
  refine wl_region ?_
  refine st_val (.agg (iv (blockOf l0))) (by kernel_rfl) (run_load_row 23 (.tmp 3) rfl g5 (by kernel_rfl) 23 (iv (blockOf l0)) (0, 0) _ (M9.get 0 rfl) Try.underlying23 rfl (info64 _ (blockOf_length _))) ?_
  rcases Bool.eq_false_or_eq_true (withinB (blockOf l0) 15) with hB12 | hB12
  ·
    refine st_callB M9 (.bool true) (by kernel_rfl) (args := #[.agg (iv (blockOf l0)), .int .i64 15]) (run_value_call 18 #[(Operand.tmp 11), (Operand.const (Value.int IntKind.i64 15))] _ rfl Try.func18 (by kernel_rfl) (by kernel_rfl) _ (by kernel_rfl)) ((by have := within_walk W8 (blockOf l0) (blockOf_length _) 15 (by omega); rw [hB12] at this; exact this)) ?_
    intro W12 M13
    refine st_val (.bool false) (by kernel_rfl) (by kernel_rfl) ?_
    refine wl_nil ?_
    refine hK11 _ _ ?_
    try clear hK11 K11
    refine wp_cond_false (by kernel_rfl) ?_
    refine wp_skip ?_
    refine hK10 _ _ ?_
    try clear hK10 K10
    refine wp_seq_k (fun K14 hK14 => ?_)
    have hx := (lim_of hB12).up (show (15 : Int) ≤ 255 by omega)
    refine wl_region ?_
    refine st_val (.agg (iv (blockOf l0))) (by kernel_rfl) (run_load_row 23 (.tmp 3) rfl g5 (by kernel_rfl) 23 (iv (blockOf l0)) (0, 0) _ (M13.get 0 rfl) Try.underlying23 rfl (info64 _ (blockOf_length _))) ?_
    refine st_callB M13 (.tuple #[.agg (iv (fwd (blockOf l0))), .int .i64 0]) (by kernel_rfl) (args := #[.agg (iv (blockOf l0))]) (run_value_call 12 #[(Operand.tmp 16)] _ rfl Try.func12 (by kernel_rfl) (by kernel_rfl) _ (by kernel_rfl)) (forward_good W12 (blockOf l0) (blockOf_length _) hx) ?_
    intro W15 M16
    refine st_val (.tuple #[.agg (iv (fwd (blockOf l0))), .int .i64 0]) (by kernel_rfl) (by kernel_rfl) ?_
    refine st_val (.agg (iv (fwd (blockOf l0)))) (by kernel_rfl) (by kernel_rfl) ?_
    refine st_val (.int .i64 0) (by kernel_rfl) (by kernel_rfl) ?_
    refine st_alloc M16 (.cells (iv zeros) 23 (0, 0)) (by kernel_rfl) (by kernel_rfl) ?_
    intro g17 W18 M19
    refine st_storeRow M19 0 rfl 23 (.tmp 4) (.tmp 18) (by rfl) (iv (fwd (blockOf l0))) (by kernel_rfl) (by kernel_rfl) (info64 _ (fwd_length _)) (iv_same (fwd_length _) zeros_length) (iv_one _) (by kernel_rfl) [(g17, .cells (iv (fwd (blockOf l0))) 23 (0, 0)), (g5, .cells (iv (blockOf l0)) 23 (0, 0))] rfl ?_
    intro W20 M21
    refine st_val (.int .i64 0) (by kernel_rfl) (by kernel_rfl) ?_
    refine wl_nil ?_
    refine hK14 _ _ ?_
    try clear hK14 K14
    refine wp_frame (a' := ⟨#[v0, undef, .bool false, .pointer (some ⟨g5, 0, none⟩), .pointer (some ⟨g17, 0, none⟩), .int .i64 0, undef, undef, undef, v0, .agg (iv (blockOf l0)), .agg (iv (blockOf l0)), .bool true, .bool false, undef, .tuple #[.agg (iv (fwd (blockOf l0))), .int .i64 0], .agg (iv (blockOf l0)), .tuple #[.agg (iv (fwd (blockOf l0))), .int .i64 0], .agg (iv (fwd (blockOf l0))), .int .i64 0, undef, undef, undef, undef, undef, undef, undef, undef, undef, undef, undef, undef, undef, undef, undef, undef, undef, undef, undef, undef, undef, undef, undef, undef, undef, undef, undef, undef, undef, undef, undef, undef, undef, undef, undef, undef, undef, undef, undef, undef, undef, undef], []⟩) (by kernel_rfl) ?_
    refine wp_seq_k (fun K22 hK22 => ?_)
    refine wp_seq_k (fun K23 hK23 => ?_)
    refine wl_region ?_
    refine st_val (.int .i64 0) (by kernel_rfl) (by kernel_rfl) ?_
    refine st_val (.bool false) (by kernel_rfl) (by kernel_rfl) ?_
    refine wl_nil ?_
    refine hK23 _ _ ?_
    try clear hK23 K23
    refine wp_cond_false (by kernel_rfl) ?_
    refine wp_skip ?_
    refine hK22 _ _ ?_
    try clear hK22 K22
    refine wp_seq_k (fun K24 hK24 => ?_)
    refine wl_region ?_
    refine st_val (.int .i64 0) (by kernel_rfl) (by kernel_rfl) ?_
    refine st_val (.int .i64 0) (by kernel_rfl) (by kernel_rfl) ?_
    refine wl_nil ?_
    refine hK24 _ _ ?_
    try clear hK24 K24
    refine wp_seq_k (fun K25 hK25 => ?_)
    refine wp_seq_k (fun K26 hK26 => ?_)
    refine wl_region ?_
    refine st_val (.int .i64 0) (by kernel_rfl) (by kernel_rfl) ?_
    refine wl_nil ?_
    refine hK26 _ _ ?_
    try clear hK26 K26
    refine wp_block ?_
    refine wp_loop_ghost (fun gn a' w' => ∃ (k : Nat) (u27 : Nat → Value), ((k ≤ 64) ∧ Mem NoS w w' [(g17, .cells (iv (fwd (blockOf l0))) 23 (0, 0)), (g5, .cells (iv (blockOf l0)) 23 (0, 0))]) ∧ gn = 64 - k ∧ a' = ⟨#[v0, undef, .bool false, .pointer (some ⟨g5, 0, none⟩), .pointer (some ⟨g17, 0, none⟩), .int .i64 0, .int .i64 (dot (eA l0) k), .int .i64 (dot (eB l0) k), .int .i64 (k : Int), v0, .agg (iv (blockOf l0)), .agg (iv (blockOf l0)), .bool true, .bool false, undef, .tuple #[.agg (iv (fwd (blockOf l0))), .int .i64 0], .agg (iv (blockOf l0)), .tuple #[.agg (iv (fwd (blockOf l0))), .int .i64 0], .agg (iv (fwd (blockOf l0))), .int .i64 0, .int .i64 0, .bool false, (u27 22), (u27 23), (u27 24), (u27 25), (u27 26), (u27 27), (u27 28), (u27 29), (u27 30), (u27 31), (u27 32), (u27 33), (u27 34), (u27 35), (u27 36), (u27 37), (u27 38), (u27 39), (u27 40), (u27 41), (u27 42), (u27 43), (u27 44), (u27 45), (u27 46), (u27 47), (u27 48), (u27 49), (u27 50), (u27 51), (u27 52), (u27 53), undef, undef, undef, undef, undef, undef, undef, undef], []⟩) _ ⟨0, (fun zz => Array.getD #[v0, undef, .bool false, .pointer (some ⟨g5, 0, none⟩), .pointer (some ⟨g17, 0, none⟩), .int .i64 0, .int .i64 0, .int .i64 0, .int .i64 0, v0, .agg (iv (blockOf l0)), .agg (iv (blockOf l0)), .bool true, .bool false, undef, .tuple #[.agg (iv (fwd (blockOf l0))), .int .i64 0], .agg (iv (blockOf l0)), .tuple #[.agg (iv (fwd (blockOf l0))), .int .i64 0], .agg (iv (fwd (blockOf l0))), .int .i64 0, .int .i64 0, .bool false, undef, undef, undef, undef, undef, undef, undef, undef, undef, undef, undef, undef, undef, undef, undef, undef, undef, undef, undef, undef, undef, undef, undef, undef, undef, undef, undef, undef, undef, undef, undef, undef, undef, undef, undef, undef, undef, undef, undef, undef] zz undef), ⟨by omega, M21⟩, rfl, (by kernel_rfl)⟩ ?_
    rintro gn _ W28 ⟨k, u27, ⟨r1, M29⟩, rfl, rfl⟩
    refine wp_seq_k (fun K30 hK30 => ?_)
    refine wp_seq_k (fun K31 hK31 => ?_)
    refine wl_region ?_
    refine st_val (.int .i64 (k : Int)) (by kernel_rfl) (by kernel_rfl) ?_
    rcases Decidable.em (((k : Int) : Int) < 64) with c23 | c23
    ·
      have eb := e_bounds (lim_of hB12) k (by omega)
      refine st_val (.bool true) (by kernel_rfl) (bool_of (dec_t c23) (by kernel_rfl)) ?_
      refine wl_nil ?_
      refine hK31 _ _ ?_
      try clear hK31 K31
      refine wp_cond_true (by kernel_rfl) ?_
      refine wp_skip ?_
      refine hK30 _ _ ?_
      try clear hK30 K30
      refine wp_seq_k (fun K32 hK32 => ?_)
      refine wp_block ?_
      refine wp_seq_k (fun K33 hK33 => ?_)
      refine wl_seq 10 (fun w' => Mem NoS w w' [(g17, .cells (iv (fwd (blockOf l0))) 23 (0, 0)), (g5, .cells (iv (blockOf l0)) 23 (0, 0))]) (by decide) (by kernel_rfl) (by kernel_rfl) M29.drew ?_
      refine seq_run (v := .int .i64 (dot (eA l0) k)) (by decide) (by kernel_rfl) (fun w' M' => (by kernel_rfl)) ?_
      refine seq_run (v := .int .i64 (k : Int)) (by decide) (by kernel_rfl) (fun w' M' => (by kernel_rfl)) ?_
      refine seq_run (v := .pointer (some ⟨g5, k, none⟩)) (by decide) (by kernel_rfl) (fun w' M' => (run_indexAddr 23 (.tmp 3) (.tmp 27) rfl ⟨g5, 0, none⟩ .i64 k (by kernel_rfl) (by kernel_rfl) Try.underlying23 1 (by kernel_rfl) (by omega) ⟨g5, k, none⟩ (addr_at0 _ _))) ?_
      refine seq_run (v := .int .i64 ((blockOf l0).getD k 0)) (by decide) (by kernel_rfl) (fun w' M' => (run_load_cell 3 (.tmp 28) rfl ⟨g5, k, none⟩ (by kernel_rfl) _ (M'.cell 1 rfl k _ (iv_get (blockOf l0) k (by rw [(blockOf_length _)]; omega))) (by kernel_rfl))) ?_
      refine seq_run (v := .int .i64 (k : Int)) (by decide) (by kernel_rfl) (fun w' M' => (by kernel_rfl)) ?_
      refine seq_run (v := .pointer (some ⟨g5, k, none⟩)) (by decide) (by kernel_rfl) (fun w' M' => (run_indexAddr 23 (.tmp 3) (.tmp 30) rfl ⟨g5, 0, none⟩ .i64 k (by kernel_rfl) (by kernel_rfl) Try.underlying23 1 (by kernel_rfl) (by omega) ⟨g5, k, none⟩ (addr_at0 _ _))) ?_
      refine seq_run (v := .int .i64 ((blockOf l0).getD k 0)) (by decide) (by kernel_rfl) (fun w' M' => (run_load_cell 3 (.tmp 31) rfl ⟨g5, k, none⟩ (by kernel_rfl) _ (M'.cell 1 rfl k _ (iv_get (blockOf l0) k (by rw [(blockOf_length _)]; omega))) (by kernel_rfl))) ?_
      refine seq_run (v := .int .i64 (((blockOf l0).getD k 0) * ((blockOf l0).getD k 0))) (by decide) (by kernel_rfl) (fun w' M' => (i64_of (by have := eb.1; omega) (by kernel_rfl))) ?_
      refine seq_run (v := .int .i64 ((dot (eA l0) k) + (((blockOf l0).getD k 0) * ((blockOf l0).getD k 0)))) (by decide) (by kernel_rfl) (fun w' M' => (i64_of (by have := eb.1; have := eb.2.1; omega) (by kernel_rfl))) ?_
      refine seq_run (v := .int .i64 ((dot (eA l0) k) + (((blockOf l0).getD k 0) * ((blockOf l0).getD k 0)))) (by decide) (by kernel_rfl) (fun w' M' => (by kernel_rfl)) ?_
      refine seq_end (by decide) ?_
      intro W34 M35
      refine wl_nil ?_
      refine hK33 _ _ ?_
      try clear hK33 K33
      refine wl_seq 20 (fun w' => Mem NoS w w' [(g17, .cells (iv (fwd (blockOf l0))) 23 (0, 0)), (g5, .cells (iv (blockOf l0)) 23 (0, 0))]) (by decide) (by kernel_rfl) (by kernel_rfl) M35.drew ?_
      refine seq_run (v := .int .i64 (dot (eB l0) k)) (by decide) (by kernel_rfl) (fun w' M' => (by kernel_rfl)) ?_
      refine seq_run (v := .int .i64 (k : Int)) (by decide) (by kernel_rfl) (fun w' M' => (by kernel_rfl)) ?_
      refine seq_run (v := .pointer (some ⟨g17, k, none⟩)) (by decide) (by kernel_rfl) (fun w' M' => (run_indexAddr 23 (.tmp 4) (.tmp 36) rfl ⟨g17, 0, none⟩ .i64 k (by kernel_rfl) (by kernel_rfl) Try.underlying23 1 (by kernel_rfl) (by omega) ⟨g17, k, none⟩ (addr_at0 _ _))) ?_
      refine seq_run (v := .int .i64 ((fwd (blockOf l0)).getD k 0)) (by decide) (by kernel_rfl) (fun w' M' => (run_load_cell 3 (.tmp 37) rfl ⟨g17, k, none⟩ (by kernel_rfl) _ (M'.cell 0 rfl k _ (iv_get (fwd (blockOf l0)) k (by rw [(fwd_length _)]; omega))) (by kernel_rfl))) ?_
      refine seq_run (v := .int .i64 (k : Int)) (by decide) (by kernel_rfl) (fun w' M' => (by kernel_rfl)) ?_
      refine seq_run (v := .pointer (some ⟨g17, k, none⟩)) (by decide) (by kernel_rfl) (fun w' M' => (run_indexAddr 23 (.tmp 4) (.tmp 39) rfl ⟨g17, 0, none⟩ .i64 k (by kernel_rfl) (by kernel_rfl) Try.underlying23 1 (by kernel_rfl) (by omega) ⟨g17, k, none⟩ (addr_at0 _ _))) ?_
      refine seq_run (v := .int .i64 ((fwd (blockOf l0)).getD k 0)) (by decide) (by kernel_rfl) (fun w' M' => (run_load_cell 3 (.tmp 40) rfl ⟨g17, k, none⟩ (by kernel_rfl) _ (M'.cell 0 rfl k _ (iv_get (fwd (blockOf l0)) k (by rw [(fwd_length _)]; omega))) (by kernel_rfl))) ?_
      refine seq_run (v := .int .i64 (((fwd (blockOf l0)).getD k 0) * ((fwd (blockOf l0)).getD k 0))) (by decide) (by kernel_rfl) (fun w' M' => (i64_of (by have := eb.2.2.1; omega) (by kernel_rfl))) ?_
      refine seq_run (v := .int .i64 (k : Int)) (by decide) (by kernel_rfl) (fun w' M' => (by kernel_rfl)) ?_
      refine seq_run (v := .int .i64 ((k : Int) / 8)) (by decide) (by kernel_rfl) (fun w' M' => (int_of (quo_of (k : Int) 8 (by omega) (by omega) (by omega)) (by kernel_rfl))) ?_
      refine seq_call (v := .int .i64 (nrm (k / 8))) (f := 19) (args := #[.int .i64 ((k : Int) / 8)]) (by decide) (by kernel_rfl) (fun w' M' => (run_value_call 19 #[(Operand.tmp 44)] _ rfl Try.func19 (by kernel_rfl) (by kernel_rfl) _ (by kernel_rfl))) (fun w' M' => callB_mem M' ((by have := refNorm_walk w' ((k : Int) / 8); rw [show (k : Int) / 8 = ((k / 8 : Nat) : Int) from rfl, bnrm_nat (by omega)] at this; exact this))) ?_
      refine seq_run (v := .int .i64 (sc (k / 8))) (by decide) (by kernel_rfl) (fun w' M' => (run_value_bin .quo 3 3 _ (.tmp 45) rfl (.int .i64 739840) (.int .i64 (nrm (k / 8))) _ (by kernel_rfl) (by kernel_rfl) (by kernel_rfl) (bin_quo (nrm_ne (by omega)) (nrm_quo_w (by omega))))) ?_
      refine seq_run (v := .int .i64 ((((fwd (blockOf l0)).getD k 0) * ((fwd (blockOf l0)).getD k 0)) * (sc (k / 8)))) (by decide) (by kernel_rfl) (fun w' M' => (i64_of (by have := eb.2.2.2.1; omega) (by kernel_rfl))) ?_
      refine seq_run (v := .int .i64 (k : Int)) (by decide) (by kernel_rfl) (fun w' M' => (by kernel_rfl)) ?_
      refine seq_run (v := .int .i64 ((k : Int) % 8)) (by decide) (by kernel_rfl) (fun w' M' => (int_of (rem_of (k : Int) 8 (by omega)) (by kernel_rfl))) ?_
      refine seq_call (v := .int .i64 (nrm (k % 8))) (f := 19) (args := #[.int .i64 ((k : Int) % 8)]) (by decide) (by kernel_rfl) (fun w' M' => (run_value_call 19 #[(Operand.tmp 49)] _ rfl Try.func19 (by kernel_rfl) (by kernel_rfl) _ (by kernel_rfl))) (fun w' M' => callB_mem M' ((by have := refNorm_walk w' ((k : Int) % 8); rw [show (k : Int) % 8 = ((k % 8 : Nat) : Int) from rfl, bnrm_nat (by omega)] at this; exact this))) ?_
      refine seq_run (v := .int .i64 (sc (k % 8))) (by decide) (by kernel_rfl) (fun w' M' => (run_value_bin .quo 3 3 _ (.tmp 50) rfl (.int .i64 739840) (.int .i64 (nrm (k % 8))) _ (by kernel_rfl) (by kernel_rfl) (by kernel_rfl) (bin_quo (nrm_ne (by omega)) (nrm_quo_w (by omega))))) ?_
      refine seq_run (v := .int .i64 (((((fwd (blockOf l0)).getD k 0) * ((fwd (blockOf l0)).getD k 0)) * (sc (k / 8))) * (sc (k % 8)))) (by decide) (by kernel_rfl) (fun w' M' => (i64_of (by have := eb.2.2.2.2.1; omega) (by kernel_rfl))) ?_
      refine seq_run (v := .int .i64 ((dot (eB l0) k) + (((((fwd (blockOf l0)).getD k 0) * ((fwd (blockOf l0)).getD k 0)) * (sc (k / 8))) * (sc (k % 8))))) (by decide) (by kernel_rfl) (fun w' M' => (i64_of (by have := eb.2.2.2.2.1; have := eb.2.2.2.2.2; omega) (by kernel_rfl))) ?_
      refine seq_run (v := .int .i64 ((dot (eB l0) k) + (((((fwd (blockOf l0)).getD k 0) * ((fwd (blockOf l0)).getD k 0)) * (sc (k / 8))) * (sc (k % 8))))) (by decide) (by kernel_rfl) (fun w' M' => (by kernel_rfl)) ?_
      refine seq_end (by decide) ?_
      intro W36 M37
      refine wl_nil ?_
      refine blk_normal ?_
      refine hK32 _ _ ?_
      try clear hK32 K32
      refine wp_frame (a' := ⟨#[v0, undef, .bool false, .pointer (some ⟨g5, 0, none⟩), .pointer (some ⟨g17, 0, none⟩), .int .i64 0, .int .i64 ((dot (eA l0) k) + (((blockOf l0).getD k 0) * ((blockOf l0).getD k 0))), .int .i64 ((dot (eB l0) k) + (((((fwd (blockOf l0)).getD k 0) * ((fwd (blockOf l0)).getD k 0)) * (sc (k / 8))) * (sc (k % 8)))), .int .i64 (k : Int), v0, .agg (iv (blockOf l0)), .agg (iv (blockOf l0)), .bool true, .bool false, undef, .tuple #[.agg (iv (fwd (blockOf l0))), .int .i64 0], .agg (iv (blockOf l0)), .tuple #[.agg (iv (fwd (blockOf l0))), .int .i64 0], .agg (iv (fwd (blockOf l0))), .int .i64 0, .int .i64 0, .bool false, .int .i64 (k : Int), .bool true, (u27 24), (u27 25), .int .i64 (dot (eA l0) k), .int .i64 (k : Int), .pointer (some ⟨g5, k, none⟩), .int .i64 ((blockOf l0).getD k 0), .int .i64 (k : Int), .pointer (some ⟨g5, k, none⟩), .int .i64 ((blockOf l0).getD k 0), .int .i64 (((blockOf l0).getD k 0) * ((blockOf l0).getD k 0)), .int .i64 ((dot (eA l0) k) + (((blockOf l0).getD k 0) * ((blockOf l0).getD k 0))), .int .i64 (dot (eB l0) k), .int .i64 (k : Int), .pointer (some ⟨g17, k, none⟩), .int .i64 ((fwd (blockOf l0)).getD k 0), .int .i64 (k : Int), .pointer (some ⟨g17, k, none⟩), .int .i64 ((fwd (blockOf l0)).getD k 0), .int .i64 (((fwd (blockOf l0)).getD k 0) * ((fwd (blockOf l0)).getD k 0)), .int .i64 (k : Int), .int .i64 ((k : Int) / 8), .int .i64 (nrm (k / 8)), .int .i64 (sc (k / 8)), .int .i64 ((((fwd (blockOf l0)).getD k 0) * ((fwd (blockOf l0)).getD k 0)) * (sc (k / 8))), .int .i64 (k : Int), .int .i64 ((k : Int) % 8), .int .i64 (nrm (k % 8)), .int .i64 (sc (k % 8)), .int .i64 (((((fwd (blockOf l0)).getD k 0) * ((fwd (blockOf l0)).getD k 0)) * (sc (k / 8))) * (sc (k % 8))), .int .i64 ((dot (eB l0) k) + (((((fwd (blockOf l0)).getD k 0) * ((fwd (blockOf l0)).getD k 0)) * (sc (k / 8))) * (sc (k % 8)))), undef, undef, undef, undef, undef, undef, undef, undef], []⟩) (by kernel_rfl) ?_
      refine wl_region ?_
      refine st_val (.int .i64 (k : Int)) (by kernel_rfl) (by kernel_rfl) ?_
      refine st_val (.int .i64 ((k : Int) + 1)) (by kernel_rfl) (i64_of (by omega) (by kernel_rfl)) ?_
      refine st_val (.int .i64 ((k : Int) + 1)) (by kernel_rfl) (by kernel_rfl) ?_
      refine wl_nil ?_
      refine th_normal ?_
      exact ⟨_, by omega, (k + 1), (fun zz => Array.getD #[v0, undef, .bool false, .pointer (some ⟨g5, 0, none⟩), .pointer (some ⟨g17, 0, none⟩), .int .i64 0, .int .i64 ((dot (eA l0) k) + (((blockOf l0).getD k 0) * ((blockOf l0).getD k 0))), .int .i64 ((dot (eB l0) k) + (((((fwd (blockOf l0)).getD k 0) * ((fwd (blockOf l0)).getD k 0)) * (sc (k / 8))) * (sc (k % 8)))), .int .i64 ((k : Int) + 1), v0, .agg (iv (blockOf l0)), .agg (iv (blockOf l0)), .bool true, .bool false, undef, .tuple #[.agg (iv (fwd (blockOf l0))), .int .i64 0], .agg (iv (blockOf l0)), .tuple #[.agg (iv (fwd (blockOf l0))), .int .i64 0], .agg (iv (fwd (blockOf l0))), .int .i64 0, .int .i64 0, .bool false, .int .i64 (k : Int), .bool true, .int .i64 (k : Int), .int .i64 ((k : Int) + 1), .int .i64 (dot (eA l0) k), .int .i64 (k : Int), .pointer (some ⟨g5, k, none⟩), .int .i64 ((blockOf l0).getD k 0), .int .i64 (k : Int), .pointer (some ⟨g5, k, none⟩), .int .i64 ((blockOf l0).getD k 0), .int .i64 (((blockOf l0).getD k 0) * ((blockOf l0).getD k 0)), .int .i64 ((dot (eA l0) k) + (((blockOf l0).getD k 0) * ((blockOf l0).getD k 0))), .int .i64 (dot (eB l0) k), .int .i64 (k : Int), .pointer (some ⟨g17, k, none⟩), .int .i64 ((fwd (blockOf l0)).getD k 0), .int .i64 (k : Int), .pointer (some ⟨g17, k, none⟩), .int .i64 ((fwd (blockOf l0)).getD k 0), .int .i64 (((fwd (blockOf l0)).getD k 0) * ((fwd (blockOf l0)).getD k 0)), .int .i64 (k : Int), .int .i64 ((k : Int) / 8), .int .i64 (nrm (k / 8)), .int .i64 (sc (k / 8)), .int .i64 ((((fwd (blockOf l0)).getD k 0) * ((fwd (blockOf l0)).getD k 0)) * (sc (k / 8))), .int .i64 (k : Int), .int .i64 ((k : Int) % 8), .int .i64 (nrm (k % 8)), .int .i64 (sc (k % 8)), .int .i64 (((((fwd (blockOf l0)).getD k 0) * ((fwd (blockOf l0)).getD k 0)) * (sc (k / 8))) * (sc (k % 8))), .int .i64 ((dot (eB l0) k) + (((((fwd (blockOf l0)).getD k 0) * ((fwd (blockOf l0)).getD k 0)) * (sc (k / 8))) * (sc (k % 8)))), undef, undef, undef, undef, undef, undef, undef, undef] zz undef), ⟨by omega, M37⟩, rfl, (by kernel_rfl)⟩
    ·
      refine st_val (.bool false) (by kernel_rfl) (bool_of (dec_f c23) (by kernel_rfl)) ?_
      refine wl_nil ?_
      refine hK31 _ _ ?_
      try clear hK31 K31
      refine wp_cond_false (by kernel_rfl) ?_
      refine wp_exit ?_
      refine th_exit ?_
      refine th_exit ?_
      refine blk_exit ?_
      refine hK25 _ _ ?_
      try clear hK25 K25
      refine wp_seq_k (fun K38 hK38 => ?_)
      refine wl_region ?_
      refine st_callB M29 (.bool true) (by kernel_rfl) (args := #[]) (run_value_call 15 #[] _ rfl Try.func15 (by kernel_rfl) (by kernel_rfl) _ (by kernel_rfl)) (awake_walk W28) ?_
      intro W39 M40
      refine st_val (.bool true) (by kernel_rfl) (by kernel_rfl) ?_
      refine st_val (.int .i64 (dot (eA l0) k)) (by kernel_rfl) (by kernel_rfl) ?_
      refine st_val (.int .i64 ((dot (eA l0) k) * 739840)) (by kernel_rfl) (i64_of (by have := eA_le (lim_of hB12) k (by omega); omega) (by kernel_rfl)) ?_
      refine st_val (.int .i64 (((dot (eA l0) k) * 739840) * 739840)) (by kernel_rfl) (i64_of (by have := eA_le (lim_of hB12) k (by omega); omega) (by kernel_rfl)) ?_
      refine st_val (.int .i64 (dot (eB l0) k)) (by kernel_rfl) (by kernel_rfl) ?_
      refine st_val (.bool true) (by kernel_rfl) (bool_of (dec_t (show (((dot (eA l0) k) * 739840) * 739840 : Int) = dot (eB l0) k from energy_at l0 k (by omega))) (by kernel_rfl)) ?_
      refine st_val (.bool true) (by kernel_rfl) (by kernel_rfl) ?_
      refine st_val (.bool true) (by kernel_rfl) (by kernel_rfl) ?_
      refine wl_nil ?_
      refine hK38 _ _ ?_
      try clear hK38 K38
      refine wp_ret ?_
      exact done1 2 (.bool true) (by kernel_rfl) (by kernel_rfl) (by kernel_rfl) ⟨rfl, M40.toBelow⟩
  ·
    refine st_callB M9 (.bool false) (by kernel_rfl) (args := #[.agg (iv (blockOf l0)), .int .i64 15]) (run_value_call 18 #[(Operand.tmp 11), (Operand.const (Value.int IntKind.i64 15))] _ rfl Try.func18 (by kernel_rfl) (by kernel_rfl) _ (by kernel_rfl)) ((by have := within_walk W8 (blockOf l0) (blockOf_length _) 15 (by omega); rw [hB12] at this; exact this)) ?_
    intro W41 M42
    refine st_val (.bool true) (by kernel_rfl) (by kernel_rfl) ?_
    refine wl_nil ?_
    refine hK11 _ _ ?_
    try clear hK11 K11
    refine wp_cond_true (by kernel_rfl) ?_
    refine wp_seq_k (fun K43 hK43 => ?_)
    refine wl_region ?_
    refine st_callB M42 (.bool true) (by kernel_rfl) (args := #[]) (run_value_call 15 #[] _ rfl Try.func15 (by kernel_rfl) (by kernel_rfl) _ (by kernel_rfl)) (awake_walk W41) ?_
    intro W44 M45
    refine st_val (.bool true) (by kernel_rfl) (by kernel_rfl) ?_
    refine wl_nil ?_
    refine hK43 _ _ ?_
    try clear hK43 K43
    refine wp_ret ?_
    refine th_ret ?_
    exact done1 2 (.bool true) (by kernel_rfl) (by kernel_rfl) (by kernel_rfl) ⟨rfl, M45.toBelow⟩
end Go.Proofs.Ytpjhehpgpfomjaa
