/- The bound of the error. -/
import Derived.Test.YtjclncmpfdfkfaaQd
import Derived.Test.YtjclncmpfdfkfaaIst
import Derived.Test.YtjclncmpfdfkfaaRb
namespace Go.Proofs.Ytjclncmpfdfkfaa
open Go.RowKit

/-- Scale times the part that row i has in an error at position k -/
def sh (i k : Nat) : Int := max (mt i k) (-(mt i k)) * sc i
def wt (m : List Int) (q : Int) (p n : Nat) : Int := sh (n / 8) (p / 8) * sh (n % 8) (p % 8) * stp (m.getD n 0) q n
def ws (m : List Int) (q : Int) (p : Nat) : Int := dot (wt m q p) 64
def mxT (m : List Int) (q : Int) : Nat → Int
  | 0 => 0
  | k + 1 => max (mxT m q k) (ws m q k)
noncomputable def bnd (m : List Int) (q : Int) : Int := open Classical in if Fit m q then (mxT m q 64 + 547363225600) / 1094726451200 else 0
theorem bnd_fit {m : List Int} {q : Int} (h : Fit m q) : bnd m q = (mxT m q 64 + 547363225600) / 1094726451200 := if_pos h
theorem bnd_not {m : List Int} {q : Int} (h : ¬ Fit m q) : bnd m q = 0 := if_neg h
theorem nrm_ne {n : Nat} (h : n < 8) : nrm n ≠ 0 := by rcases nrm_in n h with h | h | h <;> rw [h] <;> decide
theorem nrm_quo' (i : Nat) (h : i < 8) : Int.tdiv 739840 (nrm i) = sc i := by
  have h2 : ((List.range 8).all fun p => decide (Int.tdiv 739840 (nrm p) = sc p)) = true := by decide +kernel
  rw [List.all_eq_true] at h2
  exact of_decide_eq_true (h2 i (List.mem_range.2 h))
theorem nrm_quo_w {n : Nat} (h : n < 8) : IntKind.i64.wrap (Int.tdiv 739840 (nrm n)) = sc n := by
  rw [nrm_quo' n h]
  apply i64_wrap
  rcases sc_in n h with h | h | h <;> rw [h] <;> decide
theorem sh_le {i : Nat} (k : Nat) (hi : i < 8) : 0 ≤ sh i k ∧ sh i k ≤ 27744 := by
  have h1 := mt_le i k
  have h2 : 0 ≤ sc i ∧ sc i ≤ 2312 := by rcases sc_in i hi with h | h | h <;> rw [h] <;> decide
  exact mul_in (m := 12) (n := 2312) ⟨by omega, by omega⟩ h2
theorem wt_le {m : List Int} {q : Int} (h : Fit m q) (hb : BL m) (p n : Nat) (hn : n < 64) : (0 ≤ sh (n / 8) (p / 8) * sh (n % 8) (p % 8) ∧ sh (n / 8) (p / 8) * sh (n % 8) (p % 8) ≤ 769729536) ∧ 0 ≤ wt m q p n ∧ wt m q p n ≤ 219049631354880 := by
  have h1 := mul_in (sh_le (i := n / 8) (p / 8) (by omega)) (sh_le (i := n % 8) (p % 8) (by omega))
  have h2 := stp_le h hb n hn
  exact ⟨h1, mul_in (m := 769729536) (n := 284580) h1 ⟨by omega, h2.2.2⟩⟩
theorem dot_nn {f : Nat → Int} {B : Int} (k : Nat) (h : ∀ n, n < k → 0 ≤ f n ∧ f n ≤ B) : 0 ≤ dot f k ∧ dot f k ≤ k * B := by
  induction k with
  | zero => simp [dot]
  | succ k ih =>
    have h1 := ih (fun n hn => h n (by omega))
    have h2 := h k (by omega)
    simp only [dot]
    have e : ((k + 1 : Nat) : Int) * B = k * B + B := by rw [Int.natCast_add, Int.add_mul]; simp
    omega
theorem wd_le {m : List Int} {q : Int} (h : Fit m q) (hb : BL m) (p k : Nat) (hk : k ≤ 64) : 0 ≤ dot (wt m q p) k ∧ dot (wt m q p) k ≤ 14019176406712320 := by
  have := dot_nn (f := wt m q p) (B := 219049631354880) k (fun n hn => (wt_le h hb p n (by omega)).2)
  omega
theorem mxT_le {m : List Int} {q : Int} (h : Fit m q) (hb : BL m) (k : Nat) : 0 ≤ mxT m q k ∧ mxT m q k ≤ 14019176406712320 := by
  induction k with
  | zero => simp [mxT]
  | succ k ih =>
    have := wd_le h hb k 64 (Nat.le_refl _)
    show 0 ≤ max (mxT m q k) (ws m q k) ∧ max (mxT m q k) (ws m q k) ≤ _
    unfold ws
    omega

def wx (m : List Int) (q : Int) (k l n : Nat) : Int := sh (n / 8) k * sh (n % 8) l * stp (m.getD n 0) q n
theorem wx_eq (m : List Int) (q : Int) (k l n : Nat) (hl : l < 8) : wx m q k l n = wt m q (8 * k + l) n := by
  unfold wx wt
  rw [show (8 * k + l) / 8 = k by omega, show (8 * k + l) % 8 = l by omega]
theorem wx_le {m : List Int} {q : Int} (h : Fit m q) (hb : BL m) (k l n : Nat) (hk : k < 8) (hl : l < 8) (hn : n < 64) : 0 ≤ wx m q k l n ∧ wx m q k l n ≤ 219049631354880 := by
  rw [wx_eq _ _ _ _ _ hl]; exact (wt_le h hb _ n hn).2
theorem wxd_eq (m : List Int) (q : Int) (k l n : Nat) (hl : l < 8) : dot (wx m q k l) n = dot (wt m q (8 * k + l)) n := dot_congr n (fun i _ => wx_eq m q k l i hl)
theorem wxd_le {m : List Int} {q : Int} (h : Fit m q) (hb : BL m) (k l n : Nat) (hk : k < 8) (hl : l < 8) (hn : n ≤ 64) : 0 ≤ dot (wx m q k l) n ∧ dot (wx m q k l) n ≤ 14019176406712320 := by
  rw [wxd_eq _ _ _ _ _ hl]; exact wd_le h hb _ n hn
theorem mx_step (m : List Int) (q : Int) (k l : Nat) (hk : k < 8) (hl : l < 8) : max (mxT m q (8 * k + l)) (dot (wx m q k l) 64) = mxT m q (8 * k + (l + 1)) := by
  rw [wxd_eq _ _ _ _ _ hl]; rfl
theorem bas_nat {i k : Nat} (hi : i < 8) (hk : k < 8) : bas (i : Int) (k : Int) = mt i k := by
  unfold bas
  rw [if_pos (by omega)]; rfl
set_option maxHeartbeats 4000000 in
set_option maxRecDepth 100000 in
theorem share_walk (w : World) (i k : Nat) (hi : i < 8) (hk : k < 8) : Calls Try.prog 47 #[.int .i64 (i : Int), .int .i64 (k : Int)] w fun e w' => e = .returned (.int .i64 (sh i k)) ∧ Below w.heap.size w w' := by
  refine calls_of_wp Try.func47 rfl ?_
  refine wp_frame (a' := ⟨#[.int .i64 (i : Int), .int .i64 (k : Int), undef, undef, undef, undef, undef, undef, undef, undef, undef, undef, undef, undef, undef, undef, undef], []⟩) (by kernel_rfl) ?_
  have M0 : Mem NoS w w [] := Mem.start _ _
  refine wp_seq_k (fun K1 hK1 => ?_)
  refine wl_region ?_
  refine st_val (.int .i64 0) (by kernel_rfl) (by kernel_rfl) ?_
  refine wl_nil ?_
  refine hK1 _ _ ?_
  try clear hK1 K1
  refine wp_seq_k (fun K2 hK2 => ?_)
  refine wl_region ?_
  refine st_val (.int .i64 (i : Int)) (by kernel_rfl) (by kernel_rfl) ?_
  refine st_val (.int .i64 (k : Int)) (by kernel_rfl) (by kernel_rfl) ?_
  refine st_callB M0 (.int .i64 (mt i k)) (by kernel_rfl) (args := #[.int .i64 (i : Int), .int .i64 (k : Int)]) (run_value_call 53 #[(Operand.tmp 6), (Operand.tmp 7)] _ rfl Try.func53 (by kernel_rfl) (by kernel_rfl) _ (by kernel_rfl)) ((by have := basis_walk w (i : Int) (k : Int); rw [bas_nat (by omega) (by omega)] at this; exact this)) ?_
  intro W3 M4
  refine st_val (.int .i64 (mt i k)) (by kernel_rfl) (by kernel_rfl) ?_
  refine wl_nil ?_
  refine hK2 _ _ ?_
  try clear hK2 K2
  refine wp_seq_k (fun K5 hK5 => ?_)
  have b1 := mt_le i k
  have b2 := sh_le (i := i) k (by omega)
  refine wl_region ?_
  refine st_val (.int .i64 (mt i k)) (by kernel_rfl) (by kernel_rfl) ?_
  refine st_val (.int .i64 (mt i k)) (by kernel_rfl) (by kernel_rfl) ?_
  refine st_val (.int .i64 (-(mt i k))) (by kernel_rfl) (int_of (show (0 : Int) - (mt i k) = -(mt i k) by omega) (i64_of (by omega) (by kernel_rfl))) ?_
  refine st_val (.int .i64 (max (mt i k) (-(mt i k)))) (by kernel_rfl) (int_of (ite_max (mt i k) (-(mt i k))) (by kernel_rfl)) ?_
  refine st_val (.int .i64 (i : Int)) (by kernel_rfl) (by kernel_rfl) ?_
  refine st_callE (.int .i64 (nrm i)) (by kernel_rfl) (args := #[.int .i64 (i : Int)]) (run_value_call 41 #[(Operand.tmp 13)] _ rfl Try.func41 (by kernel_rfl) (by kernel_rfl) _ (by kernel_rfl)) ((by have := norm_walk W3 (i : Int); rw [bnrm_nat (by omega)] at this; exact this.mono fun e w' h => ⟨h.1, h.2.symm⟩)) ?_
  refine st_val (.int .i64 (sc i)) (by kernel_rfl) (run_value_bin .quo 3 3 _ (.tmp 14) rfl (.int .i64 739840) (.int .i64 (nrm i)) _ (by kernel_rfl) (by kernel_rfl) (by kernel_rfl) (bin_quo (nrm_ne (by omega)) (nrm_quo_w (by omega)))) ?_
  refine st_val (.int .i64 (sh i k)) (by kernel_rfl) (i64_of (by omega) (by kernel_rfl)) ?_
  refine st_val (.int .i64 (sh i k)) (by kernel_rfl) (by kernel_rfl) ?_
  refine wl_nil ?_
  refine hK5 _ _ ?_
  try clear hK5 K5
  refine wp_frame (a' := ⟨#[.int .i64 (i : Int), .int .i64 (k : Int), undef, undef, .int .i64 (sh i k), .int .i64 (mt i k), .int .i64 (i : Int), .int .i64 (k : Int), .int .i64 (mt i k), .int .i64 (mt i k), .int .i64 (mt i k), .int .i64 (-(mt i k)), .int .i64 (max (mt i k) (-(mt i k))), .int .i64 (i : Int), .int .i64 (nrm i), .int .i64 (sc i), .int .i64 (sh i k)], []⟩) (by kernel_rfl) ?_
  refine wp_ret ?_
  exact done1 4 (.int .i64 (sh i k)) (by kernel_rfl) (by kernel_rfl) (by kernel_rfl) ⟨rfl, M4.toBelow⟩
set_option maxHeartbeats 4000000 in
set_option maxRecDepth 100000 in
theorem size_walk (w : World) (v : Int) (hv : -100 ≤ v ∧ v ≤ 100) : Calls Try.prog 48 #[.int .i64 v] w fun e w' => e = .returned (.int .i64 (max v (-v))) ∧ Below w.heap.size w w' := by
  refine calls_of_wp Try.func48 rfl ?_
  refine wp_frame (a' := ⟨#[.int .i64 v, undef, undef, undef, undef, undef, undef, undef], []⟩) (by kernel_rfl) ?_
  have M0 : Mem NoS w w [] := Mem.start _ _
  refine wp_seq_k (fun K1 hK1 => ?_)
  refine wl_region ?_
  refine st_val (.int .i64 0) (by kernel_rfl) (by kernel_rfl) ?_
  refine wl_nil ?_
  refine hK1 _ _ ?_
  try clear hK1 K1
  refine wp_seq_k (fun K2 hK2 => ?_)
  refine wp_seq_k (fun K3 hK3 => ?_)
  refine wl_region ?_
  refine st_val (.int .i64 v) (by kernel_rfl) (by kernel_rfl) ?_
  rcases Decidable.em ((v : Int) < 0) with c4 | c4
  ·
    refine st_val (.bool true) (by kernel_rfl) (bool_of (dec_t c4) (by kernel_rfl)) ?_
    refine wl_nil ?_
    refine hK3 _ _ ?_
    try clear hK3 K3
    refine wp_cond_true (by kernel_rfl) ?_
    refine wp_seq_k (fun K4 hK4 => ?_)
    refine wl_region ?_
    refine st_val (.int .i64 v) (by kernel_rfl) (by kernel_rfl) ?_
    refine st_val (.int .i64 (-v)) (by kernel_rfl) (int_of (show (0 : Int) - v = -v by omega) (i64_of (by omega) (by kernel_rfl))) ?_
    refine st_val (.int .i64 (-v)) (by kernel_rfl) (by kernel_rfl) ?_
    refine wl_nil ?_
    refine hK4 _ _ ?_
    try clear hK4 K4
    refine wp_ret ?_
    refine th_ret ?_
    exact done1 2 (.int .i64 (-v)) (by kernel_rfl) (by kernel_rfl) (by kernel_rfl) ⟨by rw [show max v (-v) = -v by omega], M0.toBelow⟩
  ·
    refine st_val (.bool false) (by kernel_rfl) (bool_of (dec_f c4) (by kernel_rfl)) ?_
    refine wl_nil ?_
    refine hK3 _ _ ?_
    try clear hK3 K3
    refine wp_cond_false (by kernel_rfl) ?_
    refine wp_skip ?_
    refine hK2 _ _ ?_
    try clear hK2 K2
    refine wp_seq_k (fun K5 hK5 => ?_)
    refine wl_region ?_
    refine st_val (.int .i64 v) (by kernel_rfl) (by kernel_rfl) ?_
    refine st_val (.int .i64 v) (by kernel_rfl) (by kernel_rfl) ?_
    refine wl_nil ?_
    refine hK5 _ _ ?_
    try clear hK5 K5
    refine wp_ret ?_
    exact done1 2 (.int .i64 v) (by kernel_rfl) (by kernel_rfl) (by kernel_rfl) ⟨by rw [show max v (-v) = v by omega], M0.toBelow⟩
set_option maxHeartbeats 4000000 in
set_option maxRecDepth 100000 in
theorem bound_walk (w : World) (m : List Int) (q : Int) (hm : m.length = 64) (hb : BL m) : Calls Try.prog 26 #[.agg (bv m), .int .i64 q] w fun e w' => e = .returned (.int .i64 (bnd m q)) ∧ Below w.heap.size w w' := by
  refine calls_of_wp Try.func26 rfl ?_
  refine wp_frame (a' := ⟨#[.agg (bv m), .int .i64 q, undef, undef, undef, undef, undef, undef, undef, undef, undef, undef, undef, undef, undef, undef, undef, undef, undef, undef, undef, undef, undef, undef, undef, undef, undef, undef, undef, undef, undef, undef, undef, undef, undef, undef, undef, undef, undef, undef, undef, undef, undef, undef, undef, undef, undef, undef], []⟩) (by kernel_rfl) ?_
  have M0 : Mem NoS w w [] := Mem.start _ _
  refine wp_seq_k (fun K1 hK1 => ?_)
  refine wl_region ?_
  refine st_alloc M0 (.cells (bv m) 23 (0, 0)) (by kernel_rfl) (by kernel_rfl) ?_
  intro g2 W3 M4
  refine st_val (.int .i64 0) (by kernel_rfl) (by kernel_rfl) ?_
  refine wl_nil ?_
  refine hK1 _ _ ?_
  try clear hK1 K1
  refine wp_seq_k (fun K5 hK5 => ?_)
  refine wp_seq_k (fun K6 hK6 => ?_)
  refine wl_region ?_
  refine st_val (.agg (bv m)) (by kernel_rfl) (run_load_row 23 (.tmp 2) rfl g2 (by kernel_rfl) 23 (bv m) (0, 0) _ (M4.get 0 rfl) Try.underlying23 rfl (infoB64 _ hm)) ?_
  refine st_val (.int .i64 q) (by kernel_rfl) (by kernel_rfl) ?_
  rcases Classical.em (Fit m q) with hF | hF
  ·
    refine st_callB M4 (.bool true) (by kernel_rfl) (args := #[.agg (bv m), .int .i64 q]) (run_value_call 44 #[(Operand.tmp 9), (Operand.tmp 10)] _ rfl Try.func44 (by kernel_rfl) (by kernel_rfl) _ (by kernel_rfl)) (fits_t W3 m hm hb q hF) ?_
    intro W7 M8
    refine st_val (.bool false) (by kernel_rfl) (by kernel_rfl) ?_
    refine wl_nil ?_
    refine hK6 _ _ ?_
    try clear hK6 K6
    refine wp_cond_false (by kernel_rfl) ?_
    refine wp_skip ?_
    refine hK5 _ _ ?_
    try clear hK5 K5
    refine wp_seq_k (fun K9 hK9 => ?_)
    refine wl_region ?_
    refine st_val (.int .i64 0) (by kernel_rfl) (by kernel_rfl) ?_
    refine wl_nil ?_
    refine hK9 _ _ ?_
    try clear hK9 K9
    refine wp_seq_k (fun K10 hK10 => ?_)
    refine wp_seq_k (fun K11 hK11 => ?_)
    refine wl_region ?_
    refine st_val (.int .i64 0) (by kernel_rfl) (by kernel_rfl) ?_
    refine wl_nil ?_
    refine hK11 _ _ ?_
    try clear hK11 K11
    refine wp_block ?_
    refine wp_loop_ghost (fun gn a' w' => ∃ (k : Nat) (u12 : Nat → Value), ((k ≤ 64) ∧ Mem NoS w w' [(g2, .cells (bv m) 23 (0, 0))]) ∧ gn = 64 - k ∧ a' = ⟨#[.agg (bv m), .int .i64 q, .pointer (some ⟨g2, 0, none⟩), undef, .int .i64 0, .int .i64 (mxT m q k), (u12 6), (u12 7), (u12 8), .agg (bv m), .int .i64 q, .bool true, .bool false, .int .i64 (k : Int), (u12 14), (u12 15), (u12 16), (u12 17), (u12 18), (u12 19), (u12 20), (u12 21), (u12 22), (u12 23), (u12 24), (u12 25), (u12 26), (u12 27), (u12 28), (u12 29), (u12 30), (u12 31), (u12 32), (u12 33), (u12 34), (u12 35), (u12 36), (u12 37), (u12 38), (u12 39), (u12 40), (u12 41), (u12 42), (u12 43), (u12 44), undef, undef, undef], []⟩) _ ⟨0, (fun zz => Array.getD #[.agg (bv m), .int .i64 q, .pointer (some ⟨g2, 0, none⟩), undef, .int .i64 0, .int .i64 0, undef, undef, undef, .agg (bv m), .int .i64 q, .bool true, .bool false, .int .i64 0, undef, undef, undef, undef, undef, undef, undef, undef, undef, undef, undef, undef, undef, undef, undef, undef, undef, undef, undef, undef, undef, undef, undef, undef, undef, undef, undef, undef, undef, undef, undef, undef, undef, undef] zz undef), ⟨by omega, M8⟩, rfl, (by kernel_rfl)⟩ ?_
    rintro gn _ W13 ⟨k, u12, ⟨rk, M14⟩, rfl, rfl⟩
    refine wp_seq_k (fun K15 hK15 => ?_)
    refine wl_region ?_
    rcases Decidable.em (((k : Int) : Int) < 64) with c14 | c14
    ·
      refine st_val (.bool true) (by kernel_rfl) (bool_of (dec_t c14) (by kernel_rfl)) ?_
      refine wl_nil ?_
      refine hK15 _ _ ?_
      try clear hK15 K15
      refine wp_seq_k (fun K16 hK16 => ?_)
      refine wp_cond_true (by kernel_rfl) ?_
      refine wp_skip ?_
      refine hK16 _ _ ?_
      try clear hK16 K16
      refine wp_seq_k (fun K17 hK17 => ?_)
      refine wp_block ?_
      refine wp_seq_k (fun K18 hK18 => ?_)
      refine wl_region ?_
      refine st_val (.int .i64 (k : Int)) (by kernel_rfl) (by kernel_rfl) ?_
      refine st_val (.int .i64 (k : Int)) (by kernel_rfl) (by kernel_rfl) ?_
      refine wl_nil ?_
      refine hK18 _ _ ?_
      try clear hK18 K18
      refine wp_seq_k (fun K19 hK19 => ?_)
      refine wl_region ?_
      refine st_val (.int .i64 0) (by kernel_rfl) (by kernel_rfl) ?_
      refine wl_nil ?_
      refine hK19 _ _ ?_
      try clear hK19 K19
      refine wp_seq_k (fun K20 hK20 => ?_)
      refine wp_seq_k (fun K21 hK21 => ?_)
      refine wl_region ?_
      refine st_val (.int .i64 0) (by kernel_rfl) (by kernel_rfl) ?_
      refine wl_nil ?_
      refine hK21 _ _ ?_
      try clear hK21 K21
      refine wp_block ?_
      refine wp_loop_ghost (fun gn a' w' => ∃ (n : Nat) (u22 : Nat → Value), ((n ≤ 64) ∧ Mem NoS w w' [(g2, .cells (bv m) 23 (0, 0))]) ∧ gn = 64 - n ∧ a' = ⟨#[.agg (bv m), .int .i64 q, .pointer (some ⟨g2, 0, none⟩), undef, .int .i64 0, .int .i64 (mxT m q k), .int .i64 (k : Int), .int .i64 (dot (wt m q k) n), (u22 8), .agg (bv m), .int .i64 q, .bool true, .bool false, .int .i64 (k : Int), .bool true, .int .i64 (k : Int), .int .i64 (n : Int), (u22 17), (u22 18), (u22 19), (u22 20), (u22 21), (u22 22), (u22 23), (u22 24), (u22 25), (u22 26), (u22 27), (u22 28), (u22 29), (u22 30), (u22 31), (u22 32), (u22 33), (u22 34), (u22 35), (u22 36), (u22 37), (u22 38), (u22 39), (u22 40), (u12 41), (u12 42), (u12 43), (u12 44), undef, undef, undef], []⟩) _ ⟨0, (fun zz => Array.getD #[.agg (bv m), .int .i64 q, .pointer (some ⟨g2, 0, none⟩), undef, .int .i64 0, .int .i64 (mxT m q k), .int .i64 (k : Int), .int .i64 0, (u12 8), .agg (bv m), .int .i64 q, .bool true, .bool false, .int .i64 (k : Int), .bool true, .int .i64 (k : Int), .int .i64 0, (u12 17), (u12 18), (u12 19), (u12 20), (u12 21), (u12 22), (u12 23), (u12 24), (u12 25), (u12 26), (u12 27), (u12 28), (u12 29), (u12 30), (u12 31), (u12 32), (u12 33), (u12 34), (u12 35), (u12 36), (u12 37), (u12 38), (u12 39), (u12 40), (u12 41), (u12 42), (u12 43), (u12 44), undef, undef, undef] zz undef), ⟨by omega, M14⟩, rfl, (by kernel_rfl)⟩ ?_
      rintro gn _ W23 ⟨n, u22, ⟨rn, M24⟩, rfl, rfl⟩
      refine wp_seq_k (fun K25 hK25 => ?_)
      refine wl_region ?_
      rcases Decidable.em (((n : Int) : Int) < 64) with c17 | c17
      ·
        have hs := stp_le hF hb n (by omega)
        have hq := hF.2
        have hw := wt_le hF hb k n (by omega)
        have hd := wd_le hF hb k n (by omega)
        refine st_val (.bool true) (by kernel_rfl) (bool_of (dec_t c17) (by kernel_rfl)) ?_
        refine wl_nil ?_
        refine hK25 _ _ ?_
        try clear hK25 K25
        refine wp_seq_k (fun K26 hK26 => ?_)
        refine wp_cond_true (by kernel_rfl) ?_
        refine wp_skip ?_
        refine hK26 _ _ ?_
        try clear hK26 K26
        refine wp_seq_k (fun K27 hK27 => ?_)
        refine wp_block ?_
        refine wp_seq_k (fun K28 hK28 => ?_)
        refine wl_region ?_
        refine st_val (.int .i64 (n : Int)) (by kernel_rfl) (by kernel_rfl) ?_
        refine st_val (.int .i64 (n : Int)) (by kernel_rfl) (by kernel_rfl) ?_
        refine wl_nil ?_
        refine hK28 _ _ ?_
        try clear hK28 K28
        refine wl_seq 22 (fun w' => Mem NoS w w' [(g2, .cells (bv m) 23 (0, 0))]) (by decide) (by kernel_rfl) (by kernel_rfl) M24.drew ?_
        refine seq_run (v := .int .i64 (dot (wt m q k) n)) (by decide) (by kernel_rfl) (fun w' M' => (by kernel_rfl)) ?_
        refine seq_run (v := .int .i64 (n : Int)) (by decide) (by kernel_rfl) (fun w' M' => (by kernel_rfl)) ?_
        refine seq_run (v := .int .i64 ((n / 8 : Nat) : Int)) (by decide) (by kernel_rfl) (fun w' M' => (int_of (quo_nat n 8 (by omega) (by omega)) (by kernel_rfl))) ?_
        refine seq_run (v := .int .i64 (k : Int)) (by decide) (by kernel_rfl) (fun w' M' => (by kernel_rfl)) ?_
        refine seq_run (v := .int .i64 ((k / 8 : Nat) : Int)) (by decide) (by kernel_rfl) (fun w' M' => (int_of (quo_nat k 8 (by omega) (by omega)) (by kernel_rfl))) ?_
        refine seq_call (v := .int .i64 (sh (n / 8) (k / 8))) (f := 47) (args := #[.int .i64 ((n / 8 : Nat) : Int), .int .i64 ((k / 8 : Nat) : Int)]) (by decide) (by kernel_rfl) (fun w' M' => (run_value_call 47 #[(Operand.tmp 21), (Operand.tmp 23)] _ rfl Try.func47 (by kernel_rfl) (by kernel_rfl) _ (by kernel_rfl))) (fun w' M' => callB_mem M' (share_walk w' (n / 8) (k / 8) (by omega) (by omega))) ?_
        refine seq_run (v := .int .i64 (n : Int)) (by decide) (by kernel_rfl) (fun w' M' => (by kernel_rfl)) ?_
        refine seq_run (v := .int .i64 ((n % 8 : Nat) : Int)) (by decide) (by kernel_rfl) (fun w' M' => (int_of (rem_nat n 8) (by kernel_rfl))) ?_
        refine seq_run (v := .int .i64 (k : Int)) (by decide) (by kernel_rfl) (fun w' M' => (by kernel_rfl)) ?_
        refine seq_run (v := .int .i64 ((k % 8 : Nat) : Int)) (by decide) (by kernel_rfl) (fun w' M' => (int_of (rem_nat k 8) (by kernel_rfl))) ?_
        refine seq_call (v := .int .i64 (sh (n % 8) (k % 8))) (f := 47) (args := #[.int .i64 ((n % 8 : Nat) : Int), .int .i64 ((k % 8 : Nat) : Int)]) (by decide) (by kernel_rfl) (fun w' M' => (run_value_call 47 #[(Operand.tmp 26), (Operand.tmp 28)] _ rfl Try.func47 (by kernel_rfl) (by kernel_rfl) _ (by kernel_rfl))) (fun w' M' => callB_mem M' (share_walk w' (n % 8) (k % 8) (by omega) (by omega))) ?_
        refine seq_run (v := .int .i64 ((sh (n / 8) (k / 8)) * (sh (n % 8) (k % 8)))) (by decide) (by kernel_rfl) (fun w' M' => (i64_of (by omega) (by kernel_rfl))) ?_
        refine seq_run (v := .int .i64 (n : Int)) (by decide) (by kernel_rfl) (fun w' M' => (by kernel_rfl)) ?_
        refine seq_run (v := .pointer (some ⟨g2, n, none⟩)) (by decide) (by kernel_rfl) (fun w' M' => (run_indexAddr 23 (.tmp 2) (.tmp 31) rfl ⟨g2, 0, none⟩ .i64 n (by kernel_rfl) (by kernel_rfl) Try.underlying23 1 (by kernel_rfl) (by omega) ⟨g2, n, none⟩ (addr_at0 _ _))) ?_
        refine seq_run (v := .int .u8 (m.getD n 0)) (by decide) (by kernel_rfl) (fun w' M' => (run_load_cell 5 (.tmp 32) rfl ⟨g2, n, none⟩ (by kernel_rfl) _ (M'.cell 0 rfl n _ (bv_get m n (by rw [hm]; omega))) (by kernel_rfl))) ?_
        refine seq_run (v := .int .i64 (m.getD n 0)) (by decide) (by kernel_rfl) (fun w' M' => (i64_of (by omega) (by kernel_rfl))) ?_
        refine seq_run (v := .int .i64 q) (by decide) (by kernel_rfl) (fun w' M' => (by kernel_rfl)) ?_
        refine seq_run (v := .int .i64 (n : Int)) (by decide) (by kernel_rfl) (fun w' M' => (by kernel_rfl)) ?_
        refine seq_call (v := .int .i64 (stp (m.getD n 0) q n)) (f := 15) (args := #[.int .i64 (m.getD n 0), .int .i64 q, .int .i64 (n : Int)]) (by decide) (by kernel_rfl) (fun w' M' => (run_value_call 15 #[(Operand.tmp 34), (Operand.tmp 35), (Operand.tmp 36)] _ rfl Try.func15 (by kernel_rfl) (by kernel_rfl) _ (by kernel_rfl))) (fun w' M' => callB_mem M' (step_in w' (m.getD n 0) q n (by omega) (by omega) (by omega) (by omega) (by omega))) ?_
        refine seq_run (v := .int .i64 (wt m q k n)) (by decide) (by kernel_rfl) (fun w' M' => (i64_of (by omega) (by kernel_rfl))) ?_
        refine seq_run (v := .int .i64 ((dot (wt m q k) n) + (wt m q k n))) (by decide) (by kernel_rfl) (fun w' M' => (i64_of (by omega) (by kernel_rfl))) ?_
        refine seq_run (v := .int .i64 ((dot (wt m q k) n) + (wt m q k n))) (by decide) (by kernel_rfl) (fun w' M' => (by kernel_rfl)) ?_
        refine seq_end (by decide) ?_
        intro W29 M30
        refine wl_nil ?_
        refine blk_normal ?_
        refine hK27 _ _ ?_
        try clear hK27 K27
        refine wp_frame (a' := ⟨#[.agg (bv m), .int .i64 q, .pointer (some ⟨g2, 0, none⟩), undef, .int .i64 0, .int .i64 (mxT m q k), .int .i64 (k : Int), .int .i64 ((dot (wt m q k) n) + (wt m q k n)), .int .i64 (n : Int), .agg (bv m), .int .i64 q, .bool true, .bool false, .int .i64 (k : Int), .bool true, .int .i64 (k : Int), .int .i64 (n : Int), .bool true, .int .i64 (n : Int), .int .i64 (dot (wt m q k) n), .int .i64 (n : Int), .int .i64 ((n / 8 : Nat) : Int), .int .i64 (k : Int), .int .i64 ((k / 8 : Nat) : Int), .int .i64 (sh (n / 8) (k / 8)), .int .i64 (n : Int), .int .i64 ((n % 8 : Nat) : Int), .int .i64 (k : Int), .int .i64 ((k % 8 : Nat) : Int), .int .i64 (sh (n % 8) (k % 8)), .int .i64 ((sh (n / 8) (k / 8)) * (sh (n % 8) (k % 8))), .int .i64 (n : Int), .pointer (some ⟨g2, n, none⟩), .int .u8 (m.getD n 0), .int .i64 (m.getD n 0), .int .i64 q, .int .i64 (n : Int), .int .i64 (stp (m.getD n 0) q n), .int .i64 (wt m q k n), .int .i64 ((dot (wt m q k) n) + (wt m q k n)), (u22 40), (u12 41), (u12 42), (u12 43), (u12 44), undef, undef, undef], []⟩) (by kernel_rfl) ?_
        refine wl_region ?_
        refine st_val (.int .i64 ((n : Int) + 1)) (by kernel_rfl) (i64_of (by omega) (by kernel_rfl)) ?_
        refine st_val (.int .i64 ((n : Int) + 1)) (by kernel_rfl) (by kernel_rfl) ?_
        refine wl_nil ?_
        refine th_normal ?_
        exact ⟨_, by omega, (n + 1), (fun zz => Array.getD #[.agg (bv m), .int .i64 q, .pointer (some ⟨g2, 0, none⟩), undef, .int .i64 0, .int .i64 (mxT m q k), .int .i64 (k : Int), .int .i64 ((dot (wt m q k) n) + (wt m q k n)), .int .i64 (n : Int), .agg (bv m), .int .i64 q, .bool true, .bool false, .int .i64 (k : Int), .bool true, .int .i64 (k : Int), .int .i64 ((n : Int) + 1), .bool true, .int .i64 (n : Int), .int .i64 (dot (wt m q k) n), .int .i64 (n : Int), .int .i64 ((n / 8 : Nat) : Int), .int .i64 (k : Int), .int .i64 ((k / 8 : Nat) : Int), .int .i64 (sh (n / 8) (k / 8)), .int .i64 (n : Int), .int .i64 ((n % 8 : Nat) : Int), .int .i64 (k : Int), .int .i64 ((k % 8 : Nat) : Int), .int .i64 (sh (n % 8) (k % 8)), .int .i64 ((sh (n / 8) (k / 8)) * (sh (n % 8) (k % 8))), .int .i64 (n : Int), .pointer (some ⟨g2, n, none⟩), .int .u8 (m.getD n 0), .int .i64 (m.getD n 0), .int .i64 q, .int .i64 (n : Int), .int .i64 (stp (m.getD n 0) q n), .int .i64 (wt m q k n), .int .i64 ((dot (wt m q k) n) + (wt m q k n)), .int .i64 ((n : Int) + 1), (u12 41), (u12 42), (u12 43), (u12 44), undef, undef, undef] zz undef), ⟨by omega, M30⟩, rfl, (by kernel_rfl)⟩
      ·
        refine st_val (.bool false) (by kernel_rfl) (bool_of (dec_f c17) (by kernel_rfl)) ?_
        refine wl_nil ?_
        refine hK25 _ _ ?_
        try clear hK25 K25
        refine wp_seq_k (fun K31 hK31 => ?_)
        refine wp_cond_false (by kernel_rfl) ?_
        refine wp_exit ?_
        refine th_exit ?_
        refine th_exit ?_
        refine blk_exit ?_
        refine hK20 _ _ ?_
        try clear hK20 K20
        refine wl_region ?_
        refine st_val (.int .i64 (mxT m q k)) (by kernel_rfl) (by kernel_rfl) ?_
        refine st_val (.int .i64 (dot (wt m q k) n)) (by kernel_rfl) (by kernel_rfl) ?_
        refine st_val (.int .i64 (mxT m q (k + 1))) (by kernel_rfl) (int_of (show (if dot (wt m q k) n > mxT m q k then dot (wt m q k) n else mxT m q k) = mxT m q (k + 1) by rw [show n = 64 by omega, ite_max]; rfl) (by kernel_rfl)) ?_
        refine st_val (.int .i64 (mxT m q (k + 1))) (by kernel_rfl) (by kernel_rfl) ?_
        refine wl_nil ?_
        refine blk_normal ?_
        refine hK17 _ _ ?_
        try clear hK17 K17
        refine wl_region ?_
        refine st_val (.int .i64 ((k : Int) + 1)) (by kernel_rfl) (i64_of (by omega) (by kernel_rfl)) ?_
        refine st_val (.int .i64 ((k : Int) + 1)) (by kernel_rfl) (by kernel_rfl) ?_
        refine wl_nil ?_
        refine th_normal ?_
        exact ⟨_, by omega, (k + 1), (fun zz => Array.getD #[.agg (bv m), .int .i64 q, .pointer (some ⟨g2, 0, none⟩), undef, .int .i64 0, .int .i64 (mxT m q (k + 1)), .int .i64 (k : Int), .int .i64 (dot (wt m q k) n), (u22 8), .agg (bv m), .int .i64 q, .bool true, .bool false, .int .i64 ((k : Int) + 1), .bool true, .int .i64 (k : Int), .int .i64 (n : Int), .bool false, (u22 18), (u22 19), (u22 20), (u22 21), (u22 22), (u22 23), (u22 24), (u22 25), (u22 26), (u22 27), (u22 28), (u22 29), (u22 30), (u22 31), (u22 32), (u22 33), (u22 34), (u22 35), (u22 36), (u22 37), (u22 38), (u22 39), (u22 40), .int .i64 (mxT m q k), .int .i64 (dot (wt m q k) n), .int .i64 (mxT m q (k + 1)), .int .i64 ((k : Int) + 1), undef, undef, undef] zz undef), ⟨by omega, M24⟩, rfl, (by kernel_rfl)⟩
    ·
      refine st_val (.bool false) (by kernel_rfl) (bool_of (dec_f c14) (by kernel_rfl)) ?_
      refine wl_nil ?_
      refine hK15 _ _ ?_
      try clear hK15 K15
      refine wp_seq_k (fun K32 hK32 => ?_)
      refine wp_cond_false (by kernel_rfl) ?_
      refine wp_exit ?_
      refine th_exit ?_
      refine th_exit ?_
      refine blk_exit ?_
      refine hK10 _ _ ?_
      try clear hK10 K10
      refine wp_seq_k (fun K33 hK33 => ?_)
      have hm1 := mxT_le hF hb k
      refine wl_region ?_
      refine st_val (.int .i64 (mxT m q k)) (by kernel_rfl) (by kernel_rfl) ?_
      refine st_val (.int .i64 ((mxT m q k) + 547363225600)) (by kernel_rfl) (i64_of (by omega) (by kernel_rfl)) ?_
      refine st_val (.int .i64 (((mxT m q k) + 547363225600) / 1094726451200)) (by kernel_rfl) (int_of (quo_of ((mxT m q k) + 547363225600) 1094726451200 (by omega) (by omega) (by omega)) (by kernel_rfl)) ?_
      refine st_val (.int .i64 (((mxT m q k) + 547363225600) / 1094726451200)) (by kernel_rfl) (by kernel_rfl) ?_
      refine wl_nil ?_
      refine hK33 _ _ ?_
      try clear hK33 K33
      refine wp_ret ?_
      exact done1 4 (.int .i64 (((mxT m q k) + 547363225600) / 1094726451200)) (by kernel_rfl) (by kernel_rfl) (by kernel_rfl) ⟨by rw [bnd_fit hF, show k = 64 by omega], M14.toBelow⟩
  ·
    refine st_callB M4 (.bool false) (by kernel_rfl) (args := #[.agg (bv m), .int .i64 q]) (run_value_call 44 #[(Operand.tmp 9), (Operand.tmp 10)] _ rfl Try.func44 (by kernel_rfl) (by kernel_rfl) _ (by kernel_rfl)) (fits_f W3 m hm hb q hF) ?_
    intro W34 M35
    refine st_val (.bool true) (by kernel_rfl) (by kernel_rfl) ?_
    refine wl_nil ?_
    refine hK6 _ _ ?_
    try clear hK6 K6
    refine wp_cond_true (by kernel_rfl) ?_
    refine wp_seq_k (fun K36 hK36 => ?_)
    refine wl_region ?_
    refine st_val (.int .i64 0) (by kernel_rfl) (by kernel_rfl) ?_
    refine wl_nil ?_
    refine hK36 _ _ ?_
    try clear hK36 K36
    refine wp_ret ?_
    refine th_ret ?_
    exact done1 4 (.int .i64 0) (by kernel_rfl) (by kernel_rfl) (by kernel_rfl) ⟨by rw [bnd_not hF], M35.toBelow⟩
set_option maxHeartbeats 4000000 in
set_option maxRecDepth 100000 in
theorem refBound_walk (w : World) (m : List Int) (q : Int) (hm : m.length = 64) (hb : BL m) : Calls Try.prog 27 #[.agg (bv m), .int .i64 q] w fun e w' => e = .returned (.int .i64 (bnd m q)) ∧ Below w.heap.size w w' := by
  refine calls_of_wp Try.func27 rfl ?_
  refine wp_frame (a' := ⟨#[.agg (bv m), .int .i64 q, undef, undef, undef, undef, undef, undef, undef, undef, undef, undef, undef, undef, undef, undef, undef, undef, undef, undef, undef, undef, undef, undef, undef, undef, undef, undef, undef, undef, undef, undef, undef, undef, undef, undef, undef, undef, undef, undef, undef, undef, undef, undef, undef, undef, undef, undef, undef, undef, undef, undef, undef, undef, undef, undef, undef, undef, undef, undef, undef, undef, undef, undef, undef, undef, undef, undef, undef], []⟩) (by kernel_rfl) ?_
  have M0 : Mem NoS w w [] := Mem.start _ _
  refine wp_seq_k (fun K1 hK1 => ?_)
  refine wl_region ?_
  refine st_alloc M0 (.cells (bv m) 23 (0, 0)) (by kernel_rfl) (by kernel_rfl) ?_
  intro g2 W3 M4
  refine st_val (.int .i64 0) (by kernel_rfl) (by kernel_rfl) ?_
  refine wl_nil ?_
  refine hK1 _ _ ?_
  try clear hK1 K1
  refine wp_seq_k (fun K5 hK5 => ?_)
  refine wp_seq_k (fun K6 hK6 => ?_)
  refine wl_region ?_
  refine st_val (.agg (bv m)) (by kernel_rfl) (run_load_row 23 (.tmp 2) rfl g2 (by kernel_rfl) 23 (bv m) (0, 0) _ (M4.get 0 rfl) Try.underlying23 rfl (infoB64 _ hm)) ?_
  refine st_val (.int .i64 q) (by kernel_rfl) (by kernel_rfl) ?_
  rcases Classical.em (Fit m q) with hF | hF
  ·
    refine st_callB M4 (.bool true) (by kernel_rfl) (args := #[.agg (bv m), .int .i64 q]) (run_value_call 23 #[(Operand.tmp 14), (Operand.tmp 15)] _ rfl Try.func23 (by kernel_rfl) (by kernel_rfl) _ (by kernel_rfl)) (refMay_t W3 m hm hb q hF) ?_
    intro W7 M8
    refine st_val (.bool false) (by kernel_rfl) (by kernel_rfl) ?_
    refine wl_nil ?_
    refine hK6 _ _ ?_
    try clear hK6 K6
    refine wp_cond_false (by kernel_rfl) ?_
    refine wp_skip ?_
    refine hK5 _ _ ?_
    try clear hK5 K5
    refine wp_seq_k (fun K9 hK9 => ?_)
    refine wl_region ?_
    refine st_val (.int .i64 0) (by kernel_rfl) (by kernel_rfl) ?_
    refine wl_nil ?_
    refine hK9 _ _ ?_
    try clear hK9 K9
    refine wp_seq_k (fun K10 hK10 => ?_)
    refine wp_seq_k (fun K11 hK11 => ?_)
    refine wl_region ?_
    refine st_val (.int .i64 0) (by kernel_rfl) (by kernel_rfl) ?_
    refine wl_nil ?_
    refine hK11 _ _ ?_
    try clear hK11 K11
    refine wp_block ?_
    refine wp_loop_ghost (fun gn a' w' => ∃ (k : Nat) (u12 : Nat → Value), ((k ≤ 8) ∧ Mem NoS w w' [(g2, .cells (bv m) 23 (0, 0))]) ∧ gn = 8 - k ∧ a' = ⟨#[.agg (bv m), .int .i64 q, .pointer (some ⟨g2, 0, none⟩), undef, .int .i64 0, .int .i64 (mxT m q (8 * k)), .int .i64 (k : Int), (u12 7), (u12 8), (u12 9), (u12 10), (u12 11), (u12 12), (u12 13), .agg (bv m), .int .i64 q, .bool true, .bool false, (u12 18), (u12 19), (u12 20), (u12 21), (u12 22), (u12 23), (u12 24), (u12 25), (u12 26), (u12 27), (u12 28), (u12 29), (u12 30), (u12 31), (u12 32), (u12 33), (u12 34), (u12 35), (u12 36), (u12 37), (u12 38), (u12 39), (u12 40), (u12 41), (u12 42), (u12 43), (u12 44), (u12 45), (u12 46), (u12 47), (u12 48), (u12 49), (u12 50), (u12 51), (u12 52), (u12 53), (u12 54), (u12 55), (u12 56), (u12 57), (u12 58), (u12 59), (u12 60), (u12 61), (u12 62), (u12 63), (u12 64), (u12 65), undef, undef, undef], []⟩) _ ⟨0, (fun zz => Array.getD #[.agg (bv m), .int .i64 q, .pointer (some ⟨g2, 0, none⟩), undef, .int .i64 0, .int .i64 0, .int .i64 0, undef, undef, undef, undef, undef, undef, undef, .agg (bv m), .int .i64 q, .bool true, .bool false, undef, undef, undef, undef, undef, undef, undef, undef, undef, undef, undef, undef, undef, undef, undef, undef, undef, undef, undef, undef, undef, undef, undef, undef, undef, undef, undef, undef, undef, undef, undef, undef, undef, undef, undef, undef, undef, undef, undef, undef, undef, undef, undef, undef, undef, undef, undef, undef, undef, undef, undef] zz undef), ⟨by omega, M8⟩, rfl, (by kernel_rfl)⟩ ?_
    rintro gn _ W13 ⟨k, u12, ⟨rk, M14⟩, rfl, rfl⟩
    refine wp_seq_k (fun K15 hK15 => ?_)
    refine wp_seq_k (fun K16 hK16 => ?_)
    refine wl_region ?_
    refine st_val (.int .i64 (k : Int)) (by kernel_rfl) (by kernel_rfl) ?_
    rcases Decidable.em (((k : Int) : Int) < 8) with c19 | c19
    ·
      refine st_val (.bool true) (by kernel_rfl) (bool_of (dec_t c19) (by kernel_rfl)) ?_
      refine wl_nil ?_
      refine hK16 _ _ ?_
      try clear hK16 K16
      refine wp_cond_true (by kernel_rfl) ?_
      refine wp_skip ?_
      refine hK15 _ _ ?_
      try clear hK15 K15
      refine wp_seq_k (fun K17 hK17 => ?_)
      refine wp_block ?_
      refine wp_seq_k (fun K18 hK18 => ?_)
      refine wl_region ?_
      refine st_val (.int .i64 0) (by kernel_rfl) (by kernel_rfl) ?_
      refine wl_nil ?_
      refine hK18 _ _ ?_
      try clear hK18 K18
      refine wp_block ?_
      refine wp_loop_ghost (fun gn a' w' => ∃ (l : Nat) (u19 : Nat → Value), ((l ≤ 8) ∧ Mem NoS w w' [(g2, .cells (bv m) 23 (0, 0))]) ∧ gn = 8 - l ∧ a' = ⟨#[.agg (bv m), .int .i64 q, .pointer (some ⟨g2, 0, none⟩), undef, .int .i64 0, .int .i64 (mxT m q (8 * k + l)), .int .i64 (k : Int), .int .i64 (l : Int), (u19 8), (u19 9), (u19 10), (u19 11), (u19 12), (u19 13), .agg (bv m), .int .i64 q, .bool true, .bool false, .int .i64 (k : Int), .bool true, (u12 20), (u12 21), (u19 22), (u19 23), (u19 24), (u19 25), (u19 26), (u19 27), (u19 28), (u19 29), (u19 30), (u19 31), (u19 32), (u19 33), (u19 34), (u19 35), (u19 36), (u19 37), (u19 38), (u19 39), (u19 40), (u19 41), (u19 42), (u19 43), (u19 44), (u19 45), (u19 46), (u19 47), (u19 48), (u19 49), (u19 50), (u19 51), (u19 52), (u19 53), (u19 54), (u19 55), (u19 56), (u19 57), (u19 58), (u19 59), (u19 60), (u19 61), (u19 62), (u19 63), (u19 64), (u19 65), undef, undef, undef], []⟩) _ ⟨0, (fun zz => Array.getD #[.agg (bv m), .int .i64 q, .pointer (some ⟨g2, 0, none⟩), undef, .int .i64 0, .int .i64 (mxT m q (8 * k)), .int .i64 (k : Int), .int .i64 0, (u12 8), (u12 9), (u12 10), (u12 11), (u12 12), (u12 13), .agg (bv m), .int .i64 q, .bool true, .bool false, .int .i64 (k : Int), .bool true, (u12 20), (u12 21), (u12 22), (u12 23), (u12 24), (u12 25), (u12 26), (u12 27), (u12 28), (u12 29), (u12 30), (u12 31), (u12 32), (u12 33), (u12 34), (u12 35), (u12 36), (u12 37), (u12 38), (u12 39), (u12 40), (u12 41), (u12 42), (u12 43), (u12 44), (u12 45), (u12 46), (u12 47), (u12 48), (u12 49), (u12 50), (u12 51), (u12 52), (u12 53), (u12 54), (u12 55), (u12 56), (u12 57), (u12 58), (u12 59), (u12 60), (u12 61), (u12 62), (u12 63), (u12 64), (u12 65), undef, undef, undef] zz undef), ⟨by omega, M14⟩, rfl, (by kernel_rfl)⟩ ?_
      rintro gn _ W20 ⟨l, u19, ⟨rl, M21⟩, rfl, rfl⟩
      refine wp_seq_k (fun K22 hK22 => ?_)
      refine wp_seq_k (fun K23 hK23 => ?_)
      refine wl_region ?_
      refine st_val (.int .i64 (l : Int)) (by kernel_rfl) (by kernel_rfl) ?_
      rcases Decidable.em (((l : Int) : Int) < 8) with c23 | c23
      ·
        refine st_val (.bool true) (by kernel_rfl) (bool_of (dec_t c23) (by kernel_rfl)) ?_
        refine wl_nil ?_
        refine hK23 _ _ ?_
        try clear hK23 K23
        refine wp_cond_true (by kernel_rfl) ?_
        refine wp_skip ?_
        refine hK22 _ _ ?_
        try clear hK22 K22
        refine wp_seq_k (fun K24 hK24 => ?_)
        refine wp_block ?_
        refine wp_seq_k (fun K25 hK25 => ?_)
        refine wl_region ?_
        refine st_val (.int .i64 0) (by kernel_rfl) (by kernel_rfl) ?_
        refine wl_nil ?_
        refine hK25 _ _ ?_
        try clear hK25 K25
        refine wp_seq_k (fun K26 hK26 => ?_)
        refine wp_seq_k (fun K27 hK27 => ?_)
        refine wl_region ?_
        refine st_val (.int .i64 0) (by kernel_rfl) (by kernel_rfl) ?_
        refine wl_nil ?_
        refine hK27 _ _ ?_
        try clear hK27 K27
        refine wp_block ?_
        refine wp_loop_ghost (fun gn a' w' => ∃ (n : Nat) (u28 : Nat → Value), ((n ≤ 64) ∧ Mem NoS w w' [(g2, .cells (bv m) 23 (0, 0))]) ∧ gn = 64 - n ∧ a' = ⟨#[.agg (bv m), .int .i64 q, .pointer (some ⟨g2, 0, none⟩), undef, .int .i64 0, .int .i64 (mxT m q (8 * k + l)), .int .i64 (k : Int), .int .i64 (l : Int), .int .i64 (dot (wx m q k l) n), .int .i64 (n : Int), (u28 10), (u28 11), (u28 12), (u28 13), .agg (bv m), .int .i64 q, .bool true, .bool false, .int .i64 (k : Int), .bool true, (u12 20), (u12 21), .int .i64 (l : Int), .bool true, (u19 24), (u19 25), (u28 26), (u28 27), (u28 28), (u28 29), (u28 30), (u28 31), (u28 32), (u28 33), (u28 34), (u28 35), (u28 36), (u28 37), (u28 38), (u28 39), (u28 40), (u28 41), (u28 42), (u28 43), (u28 44), (u28 45), (u28 46), (u28 47), (u28 48), (u28 49), (u28 50), (u28 51), (u28 52), (u28 53), (u28 54), (u28 55), (u28 56), (u28 57), (u28 58), (u28 59), (u28 60), (u28 61), (u28 62), (u19 63), (u19 64), (u19 65), undef, undef, undef], []⟩) _ ⟨0, (fun zz => Array.getD #[.agg (bv m), .int .i64 q, .pointer (some ⟨g2, 0, none⟩), undef, .int .i64 0, .int .i64 (mxT m q (8 * k + l)), .int .i64 (k : Int), .int .i64 (l : Int), .int .i64 0, .int .i64 0, (u19 10), (u19 11), (u19 12), (u19 13), .agg (bv m), .int .i64 q, .bool true, .bool false, .int .i64 (k : Int), .bool true, (u12 20), (u12 21), .int .i64 (l : Int), .bool true, (u19 24), (u19 25), (u19 26), (u19 27), (u19 28), (u19 29), (u19 30), (u19 31), (u19 32), (u19 33), (u19 34), (u19 35), (u19 36), (u19 37), (u19 38), (u19 39), (u19 40), (u19 41), (u19 42), (u19 43), (u19 44), (u19 45), (u19 46), (u19 47), (u19 48), (u19 49), (u19 50), (u19 51), (u19 52), (u19 53), (u19 54), (u19 55), (u19 56), (u19 57), (u19 58), (u19 59), (u19 60), (u19 61), (u19 62), (u19 63), (u19 64), (u19 65), undef, undef, undef] zz undef), ⟨by omega, M21⟩, rfl, (by kernel_rfl)⟩ ?_
        rintro gn _ W29 ⟨n, u28, ⟨rn, M30⟩, rfl, rfl⟩
        refine wp_seq_k (fun K31 hK31 => ?_)
        refine wp_seq_k (fun K32 hK32 => ?_)
        refine wl_region ?_
        refine st_val (.int .i64 (n : Int)) (by kernel_rfl) (by kernel_rfl) ?_
        rcases Decidable.em (((n : Int) : Int) < 64) with c27 | c27
        ·
          have hs := stp_le hF hb n (by omega)
          have hq := hF.2
          have hw := wx_le hF hb k l n (by omega) (by omega) (by omega)
          have hd := wxd_le hF hb k l n (by omega) (by omega) (by omega)
          refine st_val (.bool true) (by kernel_rfl) (bool_of (dec_t c27) (by kernel_rfl)) ?_
          refine wl_nil ?_
          refine hK32 _ _ ?_
          try clear hK32 K32
          refine wp_cond_true (by kernel_rfl) ?_
          refine wp_skip ?_
          refine hK31 _ _ ?_
          try clear hK31 K31
          refine wp_seq_k (fun K33 hK33 => ?_)
          refine wp_block ?_
          refine wp_seq_k (fun K34 hK34 => ?_)
          refine wl_region ?_
          refine st_val (.int .i64 (n : Int)) (by kernel_rfl) (by kernel_rfl) ?_
          refine st_val (.int .i64 ((n / 8 : Nat) : Int)) (by kernel_rfl) (int_of (quo_nat n 8 (by omega) (by omega)) (by kernel_rfl)) ?_
          refine st_val (.int .i64 (n : Int)) (by kernel_rfl) (by kernel_rfl) ?_
          refine st_val (.int .i64 ((n % 8 : Nat) : Int)) (by kernel_rfl) (int_of (rem_nat n 8) (by kernel_rfl)) ?_
          refine st_val (.int .i64 ((n / 8 : Nat) : Int)) (by kernel_rfl) (by kernel_rfl) ?_
          refine st_val (.int .i64 ((n % 8 : Nat) : Int)) (by kernel_rfl) (by kernel_rfl) ?_
          refine wl_nil ?_
          refine hK34 _ _ ?_
          try clear hK34 K34
          refine wp_seq_k (fun K35 hK35 => ?_)
          refine wl_region ?_
          refine st_val (.int .i64 ((n / 8 : Nat) : Int)) (by kernel_rfl) (by kernel_rfl) ?_
          refine st_val (.int .i64 (k : Int)) (by kernel_rfl) (by kernel_rfl) ?_
          refine st_callB M30 (.int .i64 (mt (n / 8) k)) (by kernel_rfl) (args := #[.int .i64 ((n / 8 : Nat) : Int), .int .i64 (k : Int)]) (run_value_call 46 #[(Operand.tmp 34), (Operand.tmp 35)] _ rfl Try.func46 (by kernel_rfl) (by kernel_rfl) _ (by kernel_rfl)) (refBasis_in W29 (n / 8) k (by omega) (by omega)) ?_
          intro W36 M37
          refine st_callB M37 (.int .i64 (max (mt (n / 8) k) (-(mt (n / 8) k)))) (by kernel_rfl) (args := #[.int .i64 (mt (n / 8) k)]) (run_value_call 48 #[(Operand.tmp 36)] _ rfl Try.func48 (by kernel_rfl) (by kernel_rfl) _ (by kernel_rfl)) (size_walk W36 (mt (n / 8) k) (by have := mt_le (n / 8) k; omega)) ?_
          intro W38 M39
          refine st_val (.int .i64 ((n / 8 : Nat) : Int)) (by kernel_rfl) (by kernel_rfl) ?_
          refine st_callB M39 (.int .i64 (nrm (n / 8))) (by kernel_rfl) (args := #[.int .i64 ((n / 8 : Nat) : Int)]) (run_value_call 42 #[(Operand.tmp 38)] _ rfl Try.func42 (by kernel_rfl) (by kernel_rfl) _ (by kernel_rfl)) ((by have := refNorm_walk W38 ((n / 8 : Nat) : Int); rw [bnrm_nat (by omega)] at this; exact this)) ?_
          intro W40 M41
          refine st_val (.int .i64 (sc (n / 8))) (by kernel_rfl) (run_value_bin .quo 3 3 _ (.tmp 39) rfl (.int .i64 739840) (.int .i64 (nrm (n / 8))) _ (by kernel_rfl) (by kernel_rfl) (by kernel_rfl) (bin_quo (nrm_ne (by omega)) (nrm_quo_w (by omega)))) ?_
          refine st_val (.int .i64 (sh (n / 8) k)) (by kernel_rfl) (i64_of (by have := sh_le (i := n / 8) k (by omega); omega) (by kernel_rfl)) ?_
          refine st_val (.int .i64 (sh (n / 8) k)) (by kernel_rfl) (by kernel_rfl) ?_
          refine wl_nil ?_
          refine hK35 _ _ ?_
          try clear hK35 K35
          refine wp_frame (a' := ⟨#[.agg (bv m), .int .i64 q, .pointer (some ⟨g2, 0, none⟩), undef, .int .i64 0, .int .i64 (mxT m q (8 * k + l)), .int .i64 (k : Int), .int .i64 (l : Int), .int .i64 (dot (wx m q k l) n), .int .i64 (n : Int), .int .i64 ((n / 8 : Nat) : Int), .int .i64 ((n % 8 : Nat) : Int), .int .i64 (sh (n / 8) k), (u28 13), .agg (bv m), .int .i64 q, .bool true, .bool false, .int .i64 (k : Int), .bool true, (u12 20), (u12 21), .int .i64 (l : Int), .bool true, (u19 24), (u19 25), .int .i64 (n : Int), .bool true, (u28 28), (u28 29), .int .i64 (n : Int), .int .i64 ((n / 8 : Nat) : Int), .int .i64 (n : Int), .int .i64 ((n % 8 : Nat) : Int), .int .i64 ((n / 8 : Nat) : Int), .int .i64 (k : Int), .int .i64 (mt (n / 8) k), .int .i64 (max (mt (n / 8) k) (-(mt (n / 8) k))), .int .i64 ((n / 8 : Nat) : Int), .int .i64 (nrm (n / 8)), .int .i64 (sc (n / 8)), .int .i64 (sh (n / 8) k), (u28 42), (u28 43), (u28 44), (u28 45), (u28 46), (u28 47), (u28 48), (u28 49), (u28 50), (u28 51), (u28 52), (u28 53), (u28 54), (u28 55), (u28 56), (u28 57), (u28 58), (u28 59), (u28 60), (u28 61), (u28 62), (u19 63), (u19 64), (u19 65), undef, undef, undef], []⟩) (by kernel_rfl) ?_
          refine wp_seq_k (fun K42 hK42 => ?_)
          refine wl_region ?_
          refine st_val (.int .i64 ((n % 8 : Nat) : Int)) (by kernel_rfl) (by kernel_rfl) ?_
          refine st_val (.int .i64 (l : Int)) (by kernel_rfl) (by kernel_rfl) ?_
          refine st_callB M41 (.int .i64 (mt (n % 8) l)) (by kernel_rfl) (args := #[.int .i64 ((n % 8 : Nat) : Int), .int .i64 (l : Int)]) (run_value_call 46 #[(Operand.tmp 42), (Operand.tmp 43)] _ rfl Try.func46 (by kernel_rfl) (by kernel_rfl) _ (by kernel_rfl)) (refBasis_in W40 (n % 8) l (by omega) (by omega)) ?_
          intro W43 M44
          refine st_callB M44 (.int .i64 (max (mt (n % 8) l) (-(mt (n % 8) l)))) (by kernel_rfl) (args := #[.int .i64 (mt (n % 8) l)]) (run_value_call 48 #[(Operand.tmp 44)] _ rfl Try.func48 (by kernel_rfl) (by kernel_rfl) _ (by kernel_rfl)) (size_walk W43 (mt (n % 8) l) (by have := mt_le (n % 8) l; omega)) ?_
          intro W45 M46
          refine st_val (.int .i64 ((n % 8 : Nat) : Int)) (by kernel_rfl) (by kernel_rfl) ?_
          refine st_callB M46 (.int .i64 (nrm (n % 8))) (by kernel_rfl) (args := #[.int .i64 ((n % 8 : Nat) : Int)]) (run_value_call 42 #[(Operand.tmp 46)] _ rfl Try.func42 (by kernel_rfl) (by kernel_rfl) _ (by kernel_rfl)) ((by have := refNorm_walk W45 ((n % 8 : Nat) : Int); rw [bnrm_nat (by omega)] at this; exact this)) ?_
          intro W47 M48
          refine st_val (.int .i64 (sc (n % 8))) (by kernel_rfl) (run_value_bin .quo 3 3 _ (.tmp 47) rfl (.int .i64 739840) (.int .i64 (nrm (n % 8))) _ (by kernel_rfl) (by kernel_rfl) (by kernel_rfl) (bin_quo (nrm_ne (by omega)) (nrm_quo_w (by omega)))) ?_
          refine st_val (.int .i64 (sh (n % 8) l)) (by kernel_rfl) (i64_of (by have := sh_le (i := n % 8) l (by omega); omega) (by kernel_rfl)) ?_
          refine st_val (.int .i64 (sh (n % 8) l)) (by kernel_rfl) (by kernel_rfl) ?_
          refine wl_nil ?_
          refine hK42 _ _ ?_
          try clear hK42 K42
          refine wl_region ?_
          refine st_val (.int .i64 (dot (wx m q k l) n)) (by kernel_rfl) (by kernel_rfl) ?_
          refine st_val (.int .i64 (sh (n / 8) k)) (by kernel_rfl) (by kernel_rfl) ?_
          refine st_val (.int .i64 (sh (n % 8) l)) (by kernel_rfl) (by kernel_rfl) ?_
          refine st_val (.int .i64 (sh (n / 8) k * sh (n % 8) l)) (by kernel_rfl) (i64_of (by have := mul_in (sh_le (i := n / 8) k (by omega)) (sh_le (i := n % 8) l (by omega)); omega) (by kernel_rfl)) ?_
          refine st_val (.int .i64 (n : Int)) (by kernel_rfl) (by kernel_rfl) ?_
          refine st_val (.pointer (some ⟨g2, n, none⟩)) (by kernel_rfl) (run_indexAddr 23 (.tmp 2) (.tmp 54) rfl ⟨g2, 0, none⟩ .i64 n (by kernel_rfl) (by kernel_rfl) Try.underlying23 1 (by kernel_rfl) (by omega) ⟨g2, n, none⟩ (addr_at0 _ _)) ?_
          refine st_val (.int .u8 (m.getD n 0)) (by kernel_rfl) (run_load_cell 5 (.tmp 55) rfl ⟨g2, n, none⟩ (by kernel_rfl) _ (M48.cell 0 rfl n _ (bv_get m n (by rw [hm]; omega))) (by kernel_rfl)) ?_
          refine st_val (.int .i64 (m.getD n 0)) (by kernel_rfl) (i64_of (by omega) (by kernel_rfl)) ?_
          refine st_val (.int .i64 q) (by kernel_rfl) (by kernel_rfl) ?_
          refine st_val (.int .i64 (n : Int)) (by kernel_rfl) (by kernel_rfl) ?_
          refine st_callB M48 (.int .i64 (stp (m.getD n 0) q n)) (by kernel_rfl) (args := #[.int .i64 (m.getD n 0), .int .i64 q, .int .i64 (n : Int)]) (run_value_call 16 #[(Operand.tmp 57), (Operand.tmp 58), (Operand.tmp 59)] _ rfl Try.func16 (by kernel_rfl) (by kernel_rfl) _ (by kernel_rfl)) (refStep_in W47 (m.getD n 0) q n (by omega) (by omega) (by omega) (by omega) (by omega)) ?_
          intro W49 M50
          refine st_val (.int .i64 (wx m q k l n)) (by kernel_rfl) (i64_of (by omega) (by kernel_rfl)) ?_
          refine st_val (.int .i64 ((dot (wx m q k l) n) + (wx m q k l n))) (by kernel_rfl) (i64_of (by omega) (by kernel_rfl)) ?_
          refine st_val (.int .i64 ((dot (wx m q k l) n) + (wx m q k l n))) (by kernel_rfl) (by kernel_rfl) ?_
          refine wl_nil ?_
          refine blk_normal ?_
          refine hK33 _ _ ?_
          try clear hK33 K33
          refine wp_frame (a' := ⟨#[.agg (bv m), .int .i64 q, .pointer (some ⟨g2, 0, none⟩), undef, .int .i64 0, .int .i64 (mxT m q (8 * k + l)), .int .i64 (k : Int), .int .i64 (l : Int), .int .i64 ((dot (wx m q k l) n) + (wx m q k l n)), .int .i64 (n : Int), .int .i64 ((n / 8 : Nat) : Int), .int .i64 ((n % 8 : Nat) : Int), .int .i64 (sh (n / 8) k), .int .i64 (sh (n % 8) l), .agg (bv m), .int .i64 q, .bool true, .bool false, .int .i64 (k : Int), .bool true, (u12 20), (u12 21), .int .i64 (l : Int), .bool true, (u19 24), (u19 25), .int .i64 (n : Int), .bool true, (u28 28), (u28 29), .int .i64 (n : Int), .int .i64 ((n / 8 : Nat) : Int), .int .i64 (n : Int), .int .i64 ((n % 8 : Nat) : Int), .int .i64 ((n / 8 : Nat) : Int), .int .i64 (k : Int), .int .i64 (mt (n / 8) k), .int .i64 (max (mt (n / 8) k) (-(mt (n / 8) k))), .int .i64 ((n / 8 : Nat) : Int), .int .i64 (nrm (n / 8)), .int .i64 (sc (n / 8)), .int .i64 (sh (n / 8) k), .int .i64 ((n % 8 : Nat) : Int), .int .i64 (l : Int), .int .i64 (mt (n % 8) l), .int .i64 (max (mt (n % 8) l) (-(mt (n % 8) l))), .int .i64 ((n % 8 : Nat) : Int), .int .i64 (nrm (n % 8)), .int .i64 (sc (n % 8)), .int .i64 (sh (n % 8) l), .int .i64 (dot (wx m q k l) n), .int .i64 (sh (n / 8) k), .int .i64 (sh (n % 8) l), .int .i64 (sh (n / 8) k * sh (n % 8) l), .int .i64 (n : Int), .pointer (some ⟨g2, n, none⟩), .int .u8 (m.getD n 0), .int .i64 (m.getD n 0), .int .i64 q, .int .i64 (n : Int), .int .i64 (stp (m.getD n 0) q n), .int .i64 (wx m q k l n), .int .i64 ((dot (wx m q k l) n) + (wx m q k l n)), (u19 63), (u19 64), (u19 65), undef, undef, undef], []⟩) (by kernel_rfl) ?_
          refine wl_region ?_
          refine st_val (.int .i64 (n : Int)) (by kernel_rfl) (by kernel_rfl) ?_
          refine st_val (.int .i64 ((n : Int) + 1)) (by kernel_rfl) (i64_of (by omega) (by kernel_rfl)) ?_
          refine st_val (.int .i64 ((n : Int) + 1)) (by kernel_rfl) (by kernel_rfl) ?_
          refine wl_nil ?_
          refine th_normal ?_
          exact ⟨_, by omega, (n + 1), (fun zz => Array.getD #[.agg (bv m), .int .i64 q, .pointer (some ⟨g2, 0, none⟩), undef, .int .i64 0, .int .i64 (mxT m q (8 * k + l)), .int .i64 (k : Int), .int .i64 (l : Int), .int .i64 ((dot (wx m q k l) n) + (wx m q k l n)), .int .i64 ((n : Int) + 1), .int .i64 ((n / 8 : Nat) : Int), .int .i64 ((n % 8 : Nat) : Int), .int .i64 (sh (n / 8) k), .int .i64 (sh (n % 8) l), .agg (bv m), .int .i64 q, .bool true, .bool false, .int .i64 (k : Int), .bool true, (u12 20), (u12 21), .int .i64 (l : Int), .bool true, (u19 24), (u19 25), .int .i64 (n : Int), .bool true, .int .i64 (n : Int), .int .i64 ((n : Int) + 1), .int .i64 (n : Int), .int .i64 ((n / 8 : Nat) : Int), .int .i64 (n : Int), .int .i64 ((n % 8 : Nat) : Int), .int .i64 ((n / 8 : Nat) : Int), .int .i64 (k : Int), .int .i64 (mt (n / 8) k), .int .i64 (max (mt (n / 8) k) (-(mt (n / 8) k))), .int .i64 ((n / 8 : Nat) : Int), .int .i64 (nrm (n / 8)), .int .i64 (sc (n / 8)), .int .i64 (sh (n / 8) k), .int .i64 ((n % 8 : Nat) : Int), .int .i64 (l : Int), .int .i64 (mt (n % 8) l), .int .i64 (max (mt (n % 8) l) (-(mt (n % 8) l))), .int .i64 ((n % 8 : Nat) : Int), .int .i64 (nrm (n % 8)), .int .i64 (sc (n % 8)), .int .i64 (sh (n % 8) l), .int .i64 (dot (wx m q k l) n), .int .i64 (sh (n / 8) k), .int .i64 (sh (n % 8) l), .int .i64 (sh (n / 8) k * sh (n % 8) l), .int .i64 (n : Int), .pointer (some ⟨g2, n, none⟩), .int .u8 (m.getD n 0), .int .i64 (m.getD n 0), .int .i64 q, .int .i64 (n : Int), .int .i64 (stp (m.getD n 0) q n), .int .i64 (wx m q k l n), .int .i64 ((dot (wx m q k l) n) + (wx m q k l n)), (u19 63), (u19 64), (u19 65), undef, undef, undef] zz undef), ⟨by omega, M50⟩, rfl, (by kernel_rfl)⟩
        ·
          refine st_val (.bool false) (by kernel_rfl) (bool_of (dec_f c27) (by kernel_rfl)) ?_
          refine wl_nil ?_
          refine hK32 _ _ ?_
          try clear hK32 K32
          refine wp_cond_false (by kernel_rfl) ?_
          refine wp_exit ?_
          refine th_exit ?_
          refine th_exit ?_
          refine blk_exit ?_
          refine hK26 _ _ ?_
          try clear hK26 K26
          refine wl_region ?_
          refine st_val (.int .i64 (mxT m q (8 * k + l))) (by kernel_rfl) (by kernel_rfl) ?_
          refine st_val (.int .i64 (dot (wx m q k l) n)) (by kernel_rfl) (by kernel_rfl) ?_
          refine st_val (.int .i64 (mxT m q (8 * k + (l + 1)))) (by kernel_rfl) (int_of (show (if dot (wx m q k l) n > mxT m q (8 * k + l) then dot (wx m q k l) n else mxT m q (8 * k + l)) = mxT m q (8 * k + (l + 1)) by rw [show n = 64 by omega, ite_max]; exact mx_step m q k l (by omega) (by omega)) (by kernel_rfl)) ?_
          refine st_val (.int .i64 (mxT m q (8 * k + (l + 1)))) (by kernel_rfl) (by kernel_rfl) ?_
          refine wl_nil ?_
          refine blk_normal ?_
          refine hK24 _ _ ?_
          try clear hK24 K24
          refine wl_region ?_
          refine st_val (.int .i64 (l : Int)) (by kernel_rfl) (by kernel_rfl) ?_
          refine st_val (.int .i64 ((l : Int) + 1)) (by kernel_rfl) (i64_of (by omega) (by kernel_rfl)) ?_
          refine st_val (.int .i64 ((l : Int) + 1)) (by kernel_rfl) (by kernel_rfl) ?_
          refine wl_nil ?_
          refine th_normal ?_
          exact ⟨_, by omega, (l + 1), (fun zz => Array.getD #[.agg (bv m), .int .i64 q, .pointer (some ⟨g2, 0, none⟩), undef, .int .i64 0, .int .i64 (mxT m q (8 * k + (l + 1))), .int .i64 (k : Int), .int .i64 ((l : Int) + 1), .int .i64 (dot (wx m q k l) n), .int .i64 (n : Int), (u28 10), (u28 11), (u28 12), (u28 13), .agg (bv m), .int .i64 q, .bool true, .bool false, .int .i64 (k : Int), .bool true, (u12 20), (u12 21), .int .i64 (l : Int), .bool true, .int .i64 (l : Int), .int .i64 ((l : Int) + 1), .int .i64 (n : Int), .bool false, (u28 28), (u28 29), (u28 30), (u28 31), (u28 32), (u28 33), (u28 34), (u28 35), (u28 36), (u28 37), (u28 38), (u28 39), (u28 40), (u28 41), (u28 42), (u28 43), (u28 44), (u28 45), (u28 46), (u28 47), (u28 48), (u28 49), (u28 50), (u28 51), (u28 52), (u28 53), (u28 54), (u28 55), (u28 56), (u28 57), (u28 58), (u28 59), (u28 60), (u28 61), (u28 62), .int .i64 (mxT m q (8 * k + l)), .int .i64 (dot (wx m q k l) n), .int .i64 (mxT m q (8 * k + (l + 1))), undef, undef, undef] zz undef), ⟨by omega, M30⟩, rfl, (by kernel_rfl)⟩
      ·
        refine st_val (.bool false) (by kernel_rfl) (bool_of (dec_f c23) (by kernel_rfl)) ?_
        refine wl_nil ?_
        refine hK23 _ _ ?_
        try clear hK23 K23
        refine wp_cond_false (by kernel_rfl) ?_
        refine wp_exit ?_
        refine th_exit ?_
        refine th_exit ?_
        refine blk_exit ?_
        refine blk_normal ?_
        refine hK17 _ _ ?_
        try clear hK17 K17
        refine wp_frame (a' := ⟨#[.agg (bv m), .int .i64 q, .pointer (some ⟨g2, 0, none⟩), undef, .int .i64 0, .int .i64 (mxT m q (8 * (k + 1))), .int .i64 (k : Int), .int .i64 (l : Int), (u19 8), (u19 9), (u19 10), (u19 11), (u19 12), (u19 13), .agg (bv m), .int .i64 q, .bool true, .bool false, .int .i64 (k : Int), .bool true, (u12 20), (u12 21), .int .i64 (l : Int), .bool false, (u19 24), (u19 25), (u19 26), (u19 27), (u19 28), (u19 29), (u19 30), (u19 31), (u19 32), (u19 33), (u19 34), (u19 35), (u19 36), (u19 37), (u19 38), (u19 39), (u19 40), (u19 41), (u19 42), (u19 43), (u19 44), (u19 45), (u19 46), (u19 47), (u19 48), (u19 49), (u19 50), (u19 51), (u19 52), (u19 53), (u19 54), (u19 55), (u19 56), (u19 57), (u19 58), (u19 59), (u19 60), (u19 61), (u19 62), (u19 63), (u19 64), (u19 65), undef, undef, undef], []⟩) (by rw [show 8 * (k + 1) = 8 * k + l by omega]; kernel_rfl) ?_
        refine wl_region ?_
        refine st_val (.int .i64 (k : Int)) (by kernel_rfl) (by kernel_rfl) ?_
        refine st_val (.int .i64 ((k : Int) + 1)) (by kernel_rfl) (i64_of (by omega) (by kernel_rfl)) ?_
        refine st_val (.int .i64 ((k : Int) + 1)) (by kernel_rfl) (by kernel_rfl) ?_
        refine wl_nil ?_
        refine th_normal ?_
        exact ⟨_, by omega, (k + 1), (fun zz => Array.getD #[.agg (bv m), .int .i64 q, .pointer (some ⟨g2, 0, none⟩), undef, .int .i64 0, .int .i64 (mxT m q (8 * (k + 1))), .int .i64 ((k : Int) + 1), .int .i64 (l : Int), (u19 8), (u19 9), (u19 10), (u19 11), (u19 12), (u19 13), .agg (bv m), .int .i64 q, .bool true, .bool false, .int .i64 (k : Int), .bool true, .int .i64 (k : Int), .int .i64 ((k : Int) + 1), .int .i64 (l : Int), .bool false, (u19 24), (u19 25), (u19 26), (u19 27), (u19 28), (u19 29), (u19 30), (u19 31), (u19 32), (u19 33), (u19 34), (u19 35), (u19 36), (u19 37), (u19 38), (u19 39), (u19 40), (u19 41), (u19 42), (u19 43), (u19 44), (u19 45), (u19 46), (u19 47), (u19 48), (u19 49), (u19 50), (u19 51), (u19 52), (u19 53), (u19 54), (u19 55), (u19 56), (u19 57), (u19 58), (u19 59), (u19 60), (u19 61), (u19 62), (u19 63), (u19 64), (u19 65), undef, undef, undef] zz undef), ⟨by omega, M21⟩, rfl, (by kernel_rfl)⟩
    ·
      refine st_val (.bool false) (by kernel_rfl) (bool_of (dec_f c19) (by kernel_rfl)) ?_
      refine wl_nil ?_
      refine hK16 _ _ ?_
      try clear hK16 K16
      refine wp_cond_false (by kernel_rfl) ?_
      refine wp_exit ?_
      refine th_exit ?_
      refine th_exit ?_
      refine blk_exit ?_
      refine hK10 _ _ ?_
      try clear hK10 K10
      refine wp_seq_k (fun K51 hK51 => ?_)
      have hm1 := mxT_le hF hb (8 * k)
      refine wl_region ?_
      refine st_val (.int .i64 (mxT m q (8 * k))) (by kernel_rfl) (by kernel_rfl) ?_
      refine st_val (.int .i64 ((mxT m q (8 * k)) + 547363225600)) (by kernel_rfl) (i64_of (by omega) (by kernel_rfl)) ?_
      refine st_val (.int .i64 (((mxT m q (8 * k)) + 547363225600) / 1094726451200)) (by kernel_rfl) (int_of (quo_of ((mxT m q (8 * k)) + 547363225600) 1094726451200 (by omega) (by omega) (by omega)) (by kernel_rfl)) ?_
      refine st_val (.int .i64 (((mxT m q (8 * k)) + 547363225600) / 1094726451200)) (by kernel_rfl) (by kernel_rfl) ?_
      refine wl_nil ?_
      refine hK51 _ _ ?_
      try clear hK51 K51
      refine wp_ret ?_
      exact done1 4 (.int .i64 (((mxT m q (8 * k)) + 547363225600) / 1094726451200)) (by kernel_rfl) (by kernel_rfl) (by kernel_rfl) ⟨by rw [bnd_fit hF, show 8 * k = 64 by omega], M14.toBelow⟩
  ·
    refine st_callB M4 (.bool false) (by kernel_rfl) (args := #[.agg (bv m), .int .i64 q]) (run_value_call 23 #[(Operand.tmp 14), (Operand.tmp 15)] _ rfl Try.func23 (by kernel_rfl) (by kernel_rfl) _ (by kernel_rfl)) (refMay_f W3 m hm hb q hF) ?_
    intro W52 M53
    refine st_val (.bool true) (by kernel_rfl) (by kernel_rfl) ?_
    refine wl_nil ?_
    refine hK6 _ _ ?_
    try clear hK6 K6
    refine wp_cond_true (by kernel_rfl) ?_
    refine wp_seq_k (fun K54 hK54 => ?_)
    refine wl_region ?_
    refine st_val (.int .i64 0) (by kernel_rfl) (by kernel_rfl) ?_
    refine wl_nil ?_
    refine hK54 _ _ ?_
    try clear hK54 K54
    refine wp_ret ?_
    refine th_ret ?_
    exact done1 4 (.int .i64 0) (by kernel_rfl) (by kernel_rfl) (by kernel_rfl) ⟨by rw [bnd_not hF], M53.toBelow⟩
end Go.Proofs.Ytjclncmpfdfkfaa
