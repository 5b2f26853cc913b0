/- The factors and the steps of quantisation. -/
import Derived.Test.YtjclncmpfdfkfaaGw
import Derived.Test.YtjclncmpfdfkfaaFn
import Derived.Test.YtjclncmpfdfkfaaRn
namespace Go.Proofs.Ytjclncmpfdfkfaa
open Go.RowKit

/-- the factor of a step -/
def gq (i j : Nat) : Int := if nrm i * nrm j = 262144 then 32 else if nrm i * nrm j = 295936 then 34 else if nrm i * nrm j = 163840 then 25 else if nrm i * nrm j = 334084 then 36 else if nrm i * nrm j = 184960 then 27 else 20
/-- the step of an entry, a quantiser and a position -/
def stp (a q : Int) (k : Nat) : Int := a * q * gq (k / 8) (k % 8)
theorem gq_le (i j : Nat) : 20 ≤ gq i j ∧ gq i j ≤ 36 := by unfold gq; split; omega; split; omega; split; omega; split; omega; split <;> omega
theorem gq_32 {i j : Nat} (c : nrm i * nrm j = 262144) : gq i j = 32 := by unfold gq; rw [if_pos c]
theorem gq_34 {i j : Nat} (c0 : ¬ nrm i * nrm j = 262144) (c : nrm i * nrm j = 295936) : gq i j = 34 := by unfold gq; rw [if_neg c0, if_pos c]
theorem gq_25 {i j : Nat} (c0 : ¬ nrm i * nrm j = 262144) (c1 : ¬ nrm i * nrm j = 295936) (c : nrm i * nrm j = 163840) : gq i j = 25 := by unfold gq; rw [if_neg c0, if_neg c1, if_pos c]
theorem gq_36 {i j : Nat} (c0 : ¬ nrm i * nrm j = 262144) (c1 : ¬ nrm i * nrm j = 295936) (c2 : ¬ nrm i * nrm j = 163840) (c : nrm i * nrm j = 334084) : gq i j = 36 := by unfold gq; rw [if_neg c0, if_neg c1, if_neg c2, if_pos c]
theorem gq_27 {i j : Nat} (c0 : ¬ nrm i * nrm j = 262144) (c1 : ¬ nrm i * nrm j = 295936) (c2 : ¬ nrm i * nrm j = 163840) (c3 : ¬ nrm i * nrm j = 334084) (c : nrm i * nrm j = 184960) : gq i j = 27 := by unfold gq; rw [if_neg c0, if_neg c1, if_neg c2, if_neg c3, if_pos c]
theorem gq_20 {i j : Nat} (c0 : ¬ nrm i * nrm j = 262144) (c1 : ¬ nrm i * nrm j = 295936) (c2 : ¬ nrm i * nrm j = 163840) (c3 : ¬ nrm i * nrm j = 334084) (c4 : ¬ nrm i * nrm j = 184960) (_ : nrm i * nrm j = 102400) : gq i j = 20 := by unfold gq; rw [if_neg c0, if_neg c1, if_neg c2, if_neg c3, if_neg c4]
theorem gq_none {i j : Nat} (hi : i < 8) (hj : j < 8) (c0 : ¬ nrm i * nrm j = 262144) (c1 : ¬ nrm i * nrm j = 295936) (c2 : ¬ nrm i * nrm j = 163840) (c3 : ¬ nrm i * nrm j = 334084) (c4 : ¬ nrm i * nrm j = 184960) (c5 : ¬ nrm i * nrm j = 102400) : False := by
  rcases nrm_in i hi with h | h | h <;> rcases nrm_in j hj with h' | h' | h' <;> rw [h, h'] at c0 c1 c2 c3 c4 c5 <;> omega
theorem nn_in {i j : Nat} (hi : i < 8) (hj : j < 8) : -9223372036854775808 ≤ nrm i * nrm j ∧ nrm i * nrm j ≤ 9223372036854775807 := by
  rcases nrm_in i hi with h | h | h <;> rcases nrm_in j hj with h' | h' | h' <;> rw [h, h'] <;> omega
theorem mul_in {x y m n : Int} (hx : 0 ≤ x ∧ x ≤ m) (hy : 0 ≤ y ∧ y ≤ n) : 0 ≤ x * y ∧ x * y ≤ m * n :=
  ⟨Int.mul_nonneg hx.1 hy.1, Int.mul_le_mul hx.2 hy.2 hy.1 (by omega)⟩
theorem wq_le {a q : Int} (h1 : 8 ≤ a) (h2 : a ≤ 255) (h3 : 1 ≤ q) (h4 : q ≤ 31) : 0 ≤ a * q ∧ a * q ≤ 7905 := mul_in (m := 255) (n := 31) ⟨by omega, h2⟩ ⟨by omega, h4⟩
theorem wqg_le {x y : Int} (hy : 20 ≤ y ∧ y ≤ 36) (hx : 0 ≤ x ∧ x ≤ 7905) : 0 ≤ x * y ∧ x * y ≤ 284580 := mul_in (m := 7905) (n := 36) hx ⟨by omega, hy.2⟩
theorem bnrm_nat {n : Nat} (h : n < 8) : bnrm (n : Int) = nrm n := by
  unfold bnrm
  rw [if_pos (by omega)]
  rfl
set_option maxHeartbeats 4000000 in
set_option maxRecDepth 100000 in
theorem gain_512_512 (w : World) : Calls Try.prog 40 #[.int .i64 512, .int .i64 512] w fun e w' => e = .returned (.int .i64 32) ∧ w = w' := by
  refine calls_of_wp Try.func40 rfl ?_
  refine wp_frame (a' := ⟨#[.int .i64 512, .int .i64 512, undef, undef, undef, undef, undef, undef, undef, undef, undef, undef, undef, undef, undef, undef, undef, undef, undef, undef, undef, undef, undef, undef, undef, undef, undef], []⟩) (by kernel_rfl) ?_
  have M0 : Mem NoS w w [] := Mem.start _ _
  refine wp_seq_k (fun K1 hK1 => ?_)
  refine wl_region ?_
  refine st_val (.int .i64 0) (by kernel_rfl) (by kernel_rfl) ?_
  refine wl_nil ?_
  refine hK1 _ _ ?_
  try clear hK1 K1
  refine wp_seq_k (fun K2 hK2 => ?_)
  refine wp_seq_k (fun K3 hK3 => ?_)
  refine wl_region ?_
  refine st_val (.int .i64 512) (by kernel_rfl) (by kernel_rfl) ?_
  refine st_val (.int .i64 512) (by kernel_rfl) (by kernel_rfl) ?_
  refine st_val (.int .i64 512) (by kernel_rfl) (by kernel_rfl) ?_
  refine st_val (.int .i64 512) (by kernel_rfl) (by kernel_rfl) ?_
  refine st_val (.int .i64 512) (by kernel_rfl) (by kernel_rfl) ?_
  refine st_val (.int .i64 512) (by kernel_rfl) (by kernel_rfl) ?_
  refine st_val (.agg #[.int .i64 512, .int .i64 512]) (by kernel_rfl) (by kernel_rfl) ?_
  refine wl_nil ?_
  refine hK3 _ _ ?_
  try clear hK3 K3
  refine wp_block ?_
  refine wp_seq_k (fun K4 hK4 => ?_)
  refine wl_region ?_
  refine st_val (.agg #[.int .i64 512, .int .i64 512]) (by kernel_rfl) (by kernel_rfl) ?_
  refine st_val (.bool true) (by kernel_rfl) (by kernel_rfl) ?_
  refine st_val (.bool true) (by kernel_rfl) (by kernel_rfl) ?_
  refine wl_nil ?_
  refine hK4 _ _ ?_
  try clear hK4 K4
  refine wp_cond_true (by kernel_rfl) ?_
  refine wp_seq_k (fun K5 hK5 => ?_)
  refine wl_region ?_
  refine st_val (.int .i64 32) (by kernel_rfl) (by kernel_rfl) ?_
  refine wl_nil ?_
  refine hK5 _ _ ?_
  try clear hK5 K5
  refine wp_ret ?_
  refine blk_ret ?_
  refine th_ret ?_
  exact done1 4 (.int .i64 32) (by kernel_rfl) (by kernel_rfl) (by kernel_rfl) ⟨rfl, rfl⟩
set_option maxHeartbeats 4000000 in
set_option maxRecDepth 100000 in
theorem gain_512_578 (w : World) : Calls Try.prog 40 #[.int .i64 512, .int .i64 578] w fun e w' => e = .returned (.int .i64 34) ∧ w = w' := by
  refine calls_of_wp Try.func40 rfl ?_
  refine wp_frame (a' := ⟨#[.int .i64 512, .int .i64 578, undef, undef, undef, undef, undef, undef, undef, undef, undef, undef, undef, undef, undef, undef, undef, undef, undef, undef, undef, undef, undef, undef, undef, undef, undef], []⟩) (by kernel_rfl) ?_
  have M0 : Mem NoS w w [] := Mem.start _ _
  refine wp_seq_k (fun K1 hK1 => ?_)
  refine wl_region ?_
  refine st_val (.int .i64 0) (by kernel_rfl) (by kernel_rfl) ?_
  refine wl_nil ?_
  refine hK1 _ _ ?_
  try clear hK1 K1
  refine wp_seq_k (fun K2 hK2 => ?_)
  refine wp_seq_k (fun K3 hK3 => ?_)
  refine wl_region ?_
  refine st_val (.int .i64 512) (by kernel_rfl) (by kernel_rfl) ?_
  refine st_val (.int .i64 578) (by kernel_rfl) (by kernel_rfl) ?_
  refine st_val (.int .i64 512) (by kernel_rfl) (by kernel_rfl) ?_
  refine st_val (.int .i64 512) (by kernel_rfl) (by kernel_rfl) ?_
  refine st_val (.int .i64 578) (by kernel_rfl) (by kernel_rfl) ?_
  refine st_val (.int .i64 578) (by kernel_rfl) (by kernel_rfl) ?_
  refine st_val (.agg #[.int .i64 512, .int .i64 578]) (by kernel_rfl) (by kernel_rfl) ?_
  refine wl_nil ?_
  refine hK3 _ _ ?_
  try clear hK3 K3
  refine wp_block ?_
  refine wp_seq_k (fun K4 hK4 => ?_)
  refine wl_region ?_
  refine st_val (.agg #[.int .i64 512, .int .i64 512]) (by kernel_rfl) (by kernel_rfl) ?_
  refine st_val (.bool false) (by kernel_rfl) (by kernel_rfl) ?_
  refine st_val (.bool false) (by kernel_rfl) (by kernel_rfl) ?_
  refine wl_nil ?_
  refine hK4 _ _ ?_
  try clear hK4 K4
  refine wp_cond_false (by kernel_rfl) ?_
  refine wp_seq_k (fun K5 hK5 => ?_)
  refine wl_region ?_
  refine st_val (.agg #[.int .i64 512, .int .i64 578]) (by kernel_rfl) (by kernel_rfl) ?_
  refine st_val (.bool true) (by kernel_rfl) (by kernel_rfl) ?_
  refine st_val (.bool true) (by kernel_rfl) (by kernel_rfl) ?_
  refine wl_nil ?_
  refine hK5 _ _ ?_
  try clear hK5 K5
  refine wp_frame (a' := ⟨#[.int .i64 512, .int .i64 578, undef, undef, .int .i64 0, .int .i64 512, .int .i64 578, .int .i64 512, .int .i64 512, .int .i64 578, .int .i64 578, .agg #[.int .i64 512, .int .i64 578], .bool false, .agg #[.int .i64 512, .int .i64 512], .bool false, .bool true, .agg #[.int .i64 512, .int .i64 578], .bool true, undef, undef, undef, undef, undef, undef, undef, undef, undef], []⟩) (by kernel_rfl) ?_
  refine wp_cond_true (by kernel_rfl) ?_
  refine wp_seq_k (fun K6 hK6 => ?_)
  refine wl_region ?_
  refine st_val (.int .i64 34) (by kernel_rfl) (by kernel_rfl) ?_
  refine wl_nil ?_
  refine hK6 _ _ ?_
  try clear hK6 K6
  refine wp_ret ?_
  refine blk_ret ?_
  refine th_ret ?_
  exact done1 4 (.int .i64 34) (by kernel_rfl) (by kernel_rfl) (by kernel_rfl) ⟨rfl, rfl⟩
set_option maxHeartbeats 4000000 in
set_option maxRecDepth 100000 in
theorem gain_512_320 (w : World) : Calls Try.prog 40 #[.int .i64 512, .int .i64 320] w fun e w' => e = .returned (.int .i64 25) ∧ w = w' := by
  refine calls_of_wp Try.func40 rfl ?_
  refine wp_frame (a' := ⟨#[.int .i64 512, .int .i64 320, undef, undef, undef, undef, undef, undef, undef, undef, undef, undef, undef, undef, undef, undef, undef, undef, undef, undef, undef, undef, undef, undef, undef, undef, undef], []⟩) (by kernel_rfl) ?_
  have M0 : Mem NoS w w [] := Mem.start _ _
  refine wp_seq_k (fun K1 hK1 => ?_)
  refine wl_region ?_
  refine st_val (.int .i64 0) (by kernel_rfl) (by kernel_rfl) ?_
  refine wl_nil ?_
  refine hK1 _ _ ?_
  try clear hK1 K1
  refine wp_seq_k (fun K2 hK2 => ?_)
  refine wp_seq_k (fun K3 hK3 => ?_)
  refine wl_region ?_
  refine st_val (.int .i64 512) (by kernel_rfl) (by kernel_rfl) ?_
  refine st_val (.int .i64 320) (by kernel_rfl) (by kernel_rfl) ?_
  refine st_val (.int .i64 320) (by kernel_rfl) (by kernel_rfl) ?_
  refine st_val (.int .i64 512) (by kernel_rfl) (by kernel_rfl) ?_
  refine st_val (.int .i64 320) (by kernel_rfl) (by kernel_rfl) ?_
  refine st_val (.int .i64 512) (by kernel_rfl) (by kernel_rfl) ?_
  refine st_val (.agg #[.int .i64 320, .int .i64 512]) (by kernel_rfl) (by kernel_rfl) ?_
  refine wl_nil ?_
  refine hK3 _ _ ?_
  try clear hK3 K3
  refine wp_block ?_
  refine wp_seq_k (fun K4 hK4 => ?_)
  refine wl_region ?_
  refine st_val (.agg #[.int .i64 512, .int .i64 512]) (by kernel_rfl) (by kernel_rfl) ?_
  refine st_val (.bool false) (by kernel_rfl) (by kernel_rfl) ?_
  refine st_val (.bool false) (by kernel_rfl) (by kernel_rfl) ?_
  refine wl_nil ?_
  refine hK4 _ _ ?_
  try clear hK4 K4
  refine wp_cond_false (by kernel_rfl) ?_
  refine wp_seq_k (fun K5 hK5 => ?_)
  refine wl_region ?_
  refine st_val (.agg #[.int .i64 512, .int .i64 578]) (by kernel_rfl) (by kernel_rfl) ?_
  refine st_val (.bool false) (by kernel_rfl) (by kernel_rfl) ?_
  refine st_val (.bool false) (by kernel_rfl) (by kernel_rfl) ?_
  refine wl_nil ?_
  refine hK5 _ _ ?_
  try clear hK5 K5
  refine wp_frame (a' := ⟨#[.int .i64 512, .int .i64 320, undef, undef, .int .i64 0, .int .i64 512, .int .i64 320, .int .i64 320, .int .i64 512, .int .i64 320, .int .i64 512, .agg #[.int .i64 320, .int .i64 512], .bool false, .agg #[.int .i64 512, .int .i64 512], .bool false, .bool false, .agg #[.int .i64 512, .int .i64 578], .bool false, undef, undef, undef, undef, undef, undef, undef, undef, undef], []⟩) (by kernel_rfl) ?_
  refine wp_cond_false (by kernel_rfl) ?_
  refine wp_seq_k (fun K6 hK6 => ?_)
  refine wl_region ?_
  refine st_val (.agg #[.int .i64 320, .int .i64 512]) (by kernel_rfl) (by kernel_rfl) ?_
  refine st_val (.bool true) (by kernel_rfl) (by kernel_rfl) ?_
  refine st_val (.bool true) (by kernel_rfl) (by kernel_rfl) ?_
  refine wl_nil ?_
  refine hK6 _ _ ?_
  try clear hK6 K6
  refine wp_cond_true (by kernel_rfl) ?_
  refine wp_seq_k (fun K7 hK7 => ?_)
  refine wl_region ?_
  refine st_val (.int .i64 25) (by kernel_rfl) (by kernel_rfl) ?_
  refine wl_nil ?_
  refine hK7 _ _ ?_
  try clear hK7 K7
  refine wp_ret ?_
  refine blk_ret ?_
  refine th_ret ?_
  exact done1 4 (.int .i64 25) (by kernel_rfl) (by kernel_rfl) (by kernel_rfl) ⟨rfl, rfl⟩
set_option maxHeartbeats 4000000 in
set_option maxRecDepth 100000 in
theorem gain_578_512 (w : World) : Calls Try.prog 40 #[.int .i64 578, .int .i64 512] w fun e w' => e = .returned (.int .i64 34) ∧ w = w' := by
  refine calls_of_wp Try.func40 rfl ?_
  refine wp_frame (a' := ⟨#[.int .i64 578, .int .i64 512, undef, undef, undef, undef, undef, undef, undef, undef, undef, undef, undef, undef, undef, undef, undef, undef, undef, undef, undef, undef, undef, undef, undef, undef, undef], []⟩) (by kernel_rfl) ?_
  have M0 : Mem NoS w w [] := Mem.start _ _
  refine wp_seq_k (fun K1 hK1 => ?_)
  refine wl_region ?_
  refine st_val (.int .i64 0) (by kernel_rfl) (by kernel_rfl) ?_
  refine wl_nil ?_
  refine hK1 _ _ ?_
  try clear hK1 K1
  refine wp_seq_k (fun K2 hK2 => ?_)
  refine wp_seq_k (fun K3 hK3 => ?_)
  refine wl_region ?_
  refine st_val (.int .i64 578) (by kernel_rfl) (by kernel_rfl) ?_
  refine st_val (.int .i64 512) (by kernel_rfl) (by kernel_rfl) ?_
  refine st_val (.int .i64 512) (by kernel_rfl) (by kernel_rfl) ?_
  refine st_val (.int .i64 578) (by kernel_rfl) (by kernel_rfl) ?_
  refine st_val (.int .i64 512) (by kernel_rfl) (by kernel_rfl) ?_
  refine st_val (.int .i64 578) (by kernel_rfl) (by kernel_rfl) ?_
  refine st_val (.agg #[.int .i64 512, .int .i64 578]) (by kernel_rfl) (by kernel_rfl) ?_
  refine wl_nil ?_
  refine hK3 _ _ ?_
  try clear hK3 K3
  refine wp_block ?_
  refine wp_seq_k (fun K4 hK4 => ?_)
  refine wl_region ?_
  refine st_val (.agg #[.int .i64 512, .int .i64 512]) (by kernel_rfl) (by kernel_rfl) ?_
  refine st_val (.bool false) (by kernel_rfl) (by kernel_rfl) ?_
  refine st_val (.bool false) (by kernel_rfl) (by kernel_rfl) ?_
  refine wl_nil ?_
  refine hK4 _ _ ?_
  try clear hK4 K4
  refine wp_cond_false (by kernel_rfl) ?_
  refine wp_seq_k (fun K5 hK5 => ?_)
  refine wl_region ?_
  refine st_val (.agg #[.int .i64 512, .int .i64 578]) (by kernel_rfl) (by kernel_rfl) ?_
  refine st_val (.bool true) (by kernel_rfl) (by kernel_rfl) ?_
  refine st_val (.bool true) (by kernel_rfl) (by kernel_rfl) ?_
  refine wl_nil ?_
  refine hK5 _ _ ?_
  try clear hK5 K5
  refine wp_frame (a' := ⟨#[.int .i64 578, .int .i64 512, undef, undef, .int .i64 0, .int .i64 578, .int .i64 512, .int .i64 512, .int .i64 578, .int .i64 512, .int .i64 578, .agg #[.int .i64 512, .int .i64 578], .bool false, .agg #[.int .i64 512, .int .i64 512], .bool false, .bool true, .agg #[.int .i64 512, .int .i64 578], .bool true, undef, undef, undef, undef, undef, undef, undef, undef, undef], []⟩) (by kernel_rfl) ?_
  refine wp_cond_true (by kernel_rfl) ?_
  refine wp_seq_k (fun K6 hK6 => ?_)
  refine wl_region ?_
  refine st_val (.int .i64 34) (by kernel_rfl) (by kernel_rfl) ?_
  refine wl_nil ?_
  refine hK6 _ _ ?_
  try clear hK6 K6
  refine wp_ret ?_
  refine blk_ret ?_
  refine th_ret ?_
  exact done1 4 (.int .i64 34) (by kernel_rfl) (by kernel_rfl) (by kernel_rfl) ⟨rfl, rfl⟩
set_option maxHeartbeats 4000000 in
set_option maxRecDepth 100000 in
theorem gain_578_578 (w : World) : Calls Try.prog 40 #[.int .i64 578, .int .i64 578] w fun e w' => e = .returned (.int .i64 36) ∧ w = w' := by
  refine calls_of_wp Try.func40 rfl ?_
  refine wp_frame (a' := ⟨#[.int .i64 578, .int .i64 578, undef, undef, undef, undef, undef, undef, undef, undef, undef, undef, undef, undef, undef, undef, undef, undef, undef, undef, undef, undef, undef, undef, undef, undef, undef], []⟩) (by kernel_rfl) ?_
  have M0 : Mem NoS w w [] := Mem.start _ _
  refine wp_seq_k (fun K1 hK1 => ?_)
  refine wl_region ?_
  refine st_val (.int .i64 0) (by kernel_rfl) (by kernel_rfl) ?_
  refine wl_nil ?_
  refine hK1 _ _ ?_
  try clear hK1 K1
  refine wp_seq_k (fun K2 hK2 => ?_)
  refine wp_seq_k (fun K3 hK3 => ?_)
  refine wl_region ?_
  refine st_val (.int .i64 578) (by kernel_rfl) (by kernel_rfl) ?_
  refine st_val (.int .i64 578) (by kernel_rfl) (by kernel_rfl) ?_
  refine st_val (.int .i64 578) (by kernel_rfl) (by kernel_rfl) ?_
  refine st_val (.int .i64 578) (by kernel_rfl) (by kernel_rfl) ?_
  refine st_val (.int .i64 578) (by kernel_rfl) (by kernel_rfl) ?_
  refine st_val (.int .i64 578) (by kernel_rfl) (by kernel_rfl) ?_
  refine st_val (.agg #[.int .i64 578, .int .i64 578]) (by kernel_rfl) (by kernel_rfl) ?_
  refine wl_nil ?_
  refine hK3 _ _ ?_
  try clear hK3 K3
  refine wp_block ?_
  refine wp_seq_k (fun K4 hK4 => ?_)
  refine wl_region ?_
  refine st_val (.agg #[.int .i64 512, .int .i64 512]) (by kernel_rfl) (by kernel_rfl) ?_
  refine st_val (.bool false) (by kernel_rfl) (by kernel_rfl) ?_
  refine st_val (.bool false) (by kernel_rfl) (by kernel_rfl) ?_
  refine wl_nil ?_
  refine hK4 _ _ ?_
  try clear hK4 K4
  refine wp_cond_false (by kernel_rfl) ?_
  refine wp_seq_k (fun K5 hK5 => ?_)
  refine wl_region ?_
  refine st_val (.agg #[.int .i64 512, .int .i64 578]) (by kernel_rfl) (by kernel_rfl) ?_
  refine st_val (.bool false) (by kernel_rfl) (by kernel_rfl) ?_
  refine st_val (.bool false) (by kernel_rfl) (by kernel_rfl) ?_
  refine wl_nil ?_
  refine hK5 _ _ ?_
  try clear hK5 K5
  refine wp_frame (a' := ⟨#[.int .i64 578, .int .i64 578, undef, undef, .int .i64 0, .int .i64 578, .int .i64 578, .int .i64 578, .int .i64 578, .int .i64 578, .int .i64 578, .agg #[.int .i64 578, .int .i64 578], .bool false, .agg #[.int .i64 512, .int .i64 512], .bool false, .bool false, .agg #[.int .i64 512, .int .i64 578], .bool false, undef, undef, undef, undef, undef, undef, undef, undef, undef], []⟩) (by kernel_rfl) ?_
  refine wp_cond_false (by kernel_rfl) ?_
  refine wp_seq_k (fun K6 hK6 => ?_)
  refine wl_region ?_
  refine st_val (.agg #[.int .i64 320, .int .i64 512]) (by kernel_rfl) (by kernel_rfl) ?_
  refine st_val (.bool false) (by kernel_rfl) (by kernel_rfl) ?_
  refine st_val (.bool false) (by kernel_rfl) (by kernel_rfl) ?_
  refine wl_nil ?_
  refine hK6 _ _ ?_
  try clear hK6 K6
  refine wp_cond_false (by kernel_rfl) ?_
  refine wp_seq_k (fun K7 hK7 => ?_)
  refine wl_region ?_
  refine st_val (.agg #[.int .i64 578, .int .i64 578]) (by kernel_rfl) (by kernel_rfl) ?_
  refine st_val (.bool true) (by kernel_rfl) (by kernel_rfl) ?_
  refine st_val (.bool true) (by kernel_rfl) (by kernel_rfl) ?_
  refine wl_nil ?_
  refine hK7 _ _ ?_
  try clear hK7 K7
  refine wp_cond_true (by kernel_rfl) ?_
  refine wp_seq_k (fun K8 hK8 => ?_)
  refine wl_region ?_
  refine st_val (.int .i64 36) (by kernel_rfl) (by kernel_rfl) ?_
  refine wl_nil ?_
  refine hK8 _ _ ?_
  try clear hK8 K8
  refine wp_ret ?_
  refine blk_ret ?_
  refine th_ret ?_
  exact done1 4 (.int .i64 36) (by kernel_rfl) (by kernel_rfl) (by kernel_rfl) ⟨rfl, rfl⟩
set_option maxHeartbeats 4000000 in
set_option maxRecDepth 100000 in
theorem gain_578_320 (w : World) : Calls Try.prog 40 #[.int .i64 578, .int .i64 320] w fun e w' => e = .returned (.int .i64 27) ∧ w = w' := by
  refine calls_of_wp Try.func40 rfl ?_
  refine wp_frame (a' := ⟨#[.int .i64 578, .int .i64 320, undef, undef, undef, undef, undef, undef, undef, undef, undef, undef, undef, undef, undef, undef, undef, undef, undef, undef, undef, undef, undef, undef, undef, undef, undef], []⟩) (by kernel_rfl) ?_
  have M0 : Mem NoS w w [] := Mem.start _ _
  refine wp_seq_k (fun K1 hK1 => ?_)
  refine wl_region ?_
  refine st_val (.int .i64 0) (by kernel_rfl) (by kernel_rfl) ?_
  refine wl_nil ?_
  refine hK1 _ _ ?_
  try clear hK1 K1
  refine wp_seq_k (fun K2 hK2 => ?_)
  refine wp_seq_k (fun K3 hK3 => ?_)
  refine wl_region ?_
  refine st_val (.int .i64 578) (by kernel_rfl) (by kernel_rfl) ?_
  refine st_val (.int .i64 320) (by kernel_rfl) (by kernel_rfl) ?_
  refine st_val (.int .i64 320) (by kernel_rfl) (by kernel_rfl) ?_
  refine st_val (.int .i64 578) (by kernel_rfl) (by kernel_rfl) ?_
  refine st_val (.int .i64 320) (by kernel_rfl) (by kernel_rfl) ?_
  refine st_val (.int .i64 578) (by kernel_rfl) (by kernel_rfl) ?_
  refine st_val (.agg #[.int .i64 320, .int .i64 578]) (by kernel_rfl) (by kernel_rfl) ?_
  refine wl_nil ?_
  refine hK3 _ _ ?_
  try clear hK3 K3
  refine wp_block ?_
  refine wp_seq_k (fun K4 hK4 => ?_)
  refine wl_region ?_
  refine st_val (.agg #[.int .i64 512, .int .i64 512]) (by kernel_rfl) (by kernel_rfl) ?_
  refine st_val (.bool false) (by kernel_rfl) (by kernel_rfl) ?_
  refine st_val (.bool false) (by kernel_rfl) (by kernel_rfl) ?_
  refine wl_nil ?_
  refine hK4 _ _ ?_
  try clear hK4 K4
  refine wp_cond_false (by kernel_rfl) ?_
  refine wp_seq_k (fun K5 hK5 => ?_)
  refine wl_region ?_
  refine st_val (.agg #[.int .i64 512, .int .i64 578]) (by kernel_rfl) (by kernel_rfl) ?_
  refine st_val (.bool false) (by kernel_rfl) (by kernel_rfl) ?_
  refine st_val (.bool false) (by kernel_rfl) (by kernel_rfl) ?_
  refine wl_nil ?_
  refine hK5 _ _ ?_
  try clear hK5 K5
  refine wp_frame (a' := ⟨#[.int .i64 578, .int .i64 320, undef, undef, .int .i64 0, .int .i64 578, .int .i64 320, .int .i64 320, .int .i64 578, .int .i64 320, .int .i64 578, .agg #[.int .i64 320, .int .i64 578], .bool false, .agg #[.int .i64 512, .int .i64 512], .bool false, .bool false, .agg #[.int .i64 512, .int .i64 578], .bool false, undef, undef, undef, undef, undef, undef, undef, undef, undef], []⟩) (by kernel_rfl) ?_
  refine wp_cond_false (by kernel_rfl) ?_
  refine wp_seq_k (fun K6 hK6 => ?_)
  refine wl_region ?_
  refine st_val (.agg #[.int .i64 320, .int .i64 512]) (by kernel_rfl) (by kernel_rfl) ?_
  refine st_val (.bool false) (by kernel_rfl) (by kernel_rfl) ?_
  refine st_val (.bool false) (by kernel_rfl) (by kernel_rfl) ?_
  refine wl_nil ?_
  refine hK6 _ _ ?_
  try clear hK6 K6
  refine wp_cond_false (by kernel_rfl) ?_
  refine wp_seq_k (fun K7 hK7 => ?_)
  refine wl_region ?_
  refine st_val (.agg #[.int .i64 578, .int .i64 578]) (by kernel_rfl) (by kernel_rfl) ?_
  refine st_val (.bool false) (by kernel_rfl) (by kernel_rfl) ?_
  refine st_val (.bool false) (by kernel_rfl) (by kernel_rfl) ?_
  refine wl_nil ?_
  refine hK7 _ _ ?_
  try clear hK7 K7
  refine wp_cond_false (by kernel_rfl) ?_
  refine wp_seq_k (fun K8 hK8 => ?_)
  refine wl_region ?_
  refine st_val (.agg #[.int .i64 320, .int .i64 578]) (by kernel_rfl) (by kernel_rfl) ?_
  refine st_val (.bool true) (by kernel_rfl) (by kernel_rfl) ?_
  refine st_val (.bool true) (by kernel_rfl) (by kernel_rfl) ?_
  refine wl_nil ?_
  refine hK8 _ _ ?_
  try clear hK8 K8
  refine wp_cond_true (by kernel_rfl) ?_
  refine wp_seq_k (fun K9 hK9 => ?_)
  refine wl_region ?_
  refine st_val (.int .i64 27) (by kernel_rfl) (by kernel_rfl) ?_
  refine wl_nil ?_
  refine hK9 _ _ ?_
  try clear hK9 K9
  refine wp_ret ?_
  refine blk_ret ?_
  refine th_ret ?_
  exact done1 4 (.int .i64 27) (by kernel_rfl) (by kernel_rfl) (by kernel_rfl) ⟨rfl, rfl⟩
set_option maxHeartbeats 4000000 in
set_option maxRecDepth 100000 in
theorem gain_320_512 (w : World) : Calls Try.prog 40 #[.int .i64 320, .int .i64 512] w fun e w' => e = .returned (.int .i64 25) ∧ w = w' := by
  refine calls_of_wp Try.func40 rfl ?_
  refine wp_frame (a' := ⟨#[.int .i64 320, .int .i64 512, undef, undef, undef, undef, undef, undef, undef, undef, undef, undef, undef, undef, undef, undef, undef, undef, undef, undef, undef, undef, undef, undef, undef, undef, undef], []⟩) (by kernel_rfl) ?_
  have M0 : Mem NoS w w [] := Mem.start _ _
  refine wp_seq_k (fun K1 hK1 => ?_)
  refine wl_region ?_
  refine st_val (.int .i64 0) (by kernel_rfl) (by kernel_rfl) ?_
  refine wl_nil ?_
  refine hK1 _ _ ?_
  try clear hK1 K1
  refine wp_seq_k (fun K2 hK2 => ?_)
  refine wp_seq_k (fun K3 hK3 => ?_)
  refine wl_region ?_
  refine st_val (.int .i64 320) (by kernel_rfl) (by kernel_rfl) ?_
  refine st_val (.int .i64 512) (by kernel_rfl) (by kernel_rfl) ?_
  refine st_val (.int .i64 320) (by kernel_rfl) (by kernel_rfl) ?_
  refine st_val (.int .i64 320) (by kernel_rfl) (by kernel_rfl) ?_
  refine st_val (.int .i64 512) (by kernel_rfl) (by kernel_rfl) ?_
  refine st_val (.int .i64 512) (by kernel_rfl) (by kernel_rfl) ?_
  refine st_val (.agg #[.int .i64 320, .int .i64 512]) (by kernel_rfl) (by kernel_rfl) ?_
  refine wl_nil ?_
  refine hK3 _ _ ?_
  try clear hK3 K3
  refine wp_block ?_
  refine wp_seq_k (fun K4 hK4 => ?_)
  refine wl_region ?_
  refine st_val (.agg #[.int .i64 512, .int .i64 512]) (by kernel_rfl) (by kernel_rfl) ?_
  refine st_val (.bool false) (by kernel_rfl) (by kernel_rfl) ?_
  refine st_val (.bool false) (by kernel_rfl) (by kernel_rfl) ?_
  refine wl_nil ?_
  refine hK4 _ _ ?_
  try clear hK4 K4
  refine wp_cond_false (by kernel_rfl) ?_
  refine wp_seq_k (fun K5 hK5 => ?_)
  refine wl_region ?_
  refine st_val (.agg #[.int .i64 512, .int .i64 578]) (by kernel_rfl) (by kernel_rfl) ?_
  refine st_val (.bool false) (by kernel_rfl) (by kernel_rfl) ?_
  refine st_val (.bool false) (by kernel_rfl) (by kernel_rfl) ?_
  refine wl_nil ?_
  refine hK5 _ _ ?_
  try clear hK5 K5
  refine wp_frame (a' := ⟨#[.int .i64 320, .int .i64 512, undef, undef, .int .i64 0, .int .i64 320, .int .i64 512, .int .i64 320, .int .i64 320, .int .i64 512, .int .i64 512, .agg #[.int .i64 320, .int .i64 512], .bool false, .agg #[.int .i64 512, .int .i64 512], .bool false, .bool false, .agg #[.int .i64 512, .int .i64 578], .bool false, undef, undef, undef, undef, undef, undef, undef, undef, undef], []⟩) (by kernel_rfl) ?_
  refine wp_cond_false (by kernel_rfl) ?_
  refine wp_seq_k (fun K6 hK6 => ?_)
  refine wl_region ?_
  refine st_val (.agg #[.int .i64 320, .int .i64 512]) (by kernel_rfl) (by kernel_rfl) ?_
  refine st_val (.bool true) (by kernel_rfl) (by kernel_rfl) ?_
  refine st_val (.bool true) (by kernel_rfl) (by kernel_rfl) ?_
  refine wl_nil ?_
  refine hK6 _ _ ?_
  try clear hK6 K6
  refine wp_cond_true (by kernel_rfl) ?_
  refine wp_seq_k (fun K7 hK7 => ?_)
  refine wl_region ?_
  refine st_val (.int .i64 25) (by kernel_rfl) (by kernel_rfl) ?_
  refine wl_nil ?_
  refine hK7 _ _ ?_
  try clear hK7 K7
  refine wp_ret ?_
  refine blk_ret ?_
  refine th_ret ?_
  exact done1 4 (.int .i64 25) (by kernel_rfl) (by kernel_rfl) (by kernel_rfl) ⟨rfl, rfl⟩
set_option maxHeartbeats 4000000 in
set_option maxRecDepth 100000 in
theorem gain_320_578 (w : World) : Calls Try.prog 40 #[.int .i64 320, .int .i64 578] w fun e w' => e = .returned (.int .i64 27) ∧ w = w' := by
  refine calls_of_wp Try.func40 rfl ?_
  refine wp_frame (a' := ⟨#[.int .i64 320, .int .i64 578, undef, undef, undef, undef, undef, undef, undef, undef, undef, undef, undef, undef, undef, undef, undef, undef, undef, undef, undef, undef, undef, undef, undef, undef, undef], []⟩) (by kernel_rfl) ?_
  have M0 : Mem NoS w w [] := Mem.start _ _
  refine wp_seq_k (fun K1 hK1 => ?_)
  refine wl_region ?_
  refine st_val (.int .i64 0) (by kernel_rfl) (by kernel_rfl) ?_
  refine wl_nil ?_
  refine hK1 _ _ ?_
  try clear hK1 K1
  refine wp_seq_k (fun K2 hK2 => ?_)
  refine wp_seq_k (fun K3 hK3 => ?_)
  refine wl_region ?_
  refine st_val (.int .i64 320) (by kernel_rfl) (by kernel_rfl) ?_
  refine st_val (.int .i64 578) (by kernel_rfl) (by kernel_rfl) ?_
  refine st_val (.int .i64 320) (by kernel_rfl) (by kernel_rfl) ?_
  refine st_val (.int .i64 320) (by kernel_rfl) (by kernel_rfl) ?_
  refine st_val (.int .i64 578) (by kernel_rfl) (by kernel_rfl) ?_
  refine st_val (.int .i64 578) (by kernel_rfl) (by kernel_rfl) ?_
  refine st_val (.agg #[.int .i64 320, .int .i64 578]) (by kernel_rfl) (by kernel_rfl) ?_
  refine wl_nil ?_
  refine hK3 _ _ ?_
  try clear hK3 K3
  refine wp_block ?_
  refine wp_seq_k (fun K4 hK4 => ?_)
  refine wl_region ?_
  refine st_val (.agg #[.int .i64 512, .int .i64 512]) (by kernel_rfl) (by kernel_rfl) ?_
  refine st_val (.bool false) (by kernel_rfl) (by kernel_rfl) ?_
  refine st_val (.bool false) (by kernel_rfl) (by kernel_rfl) ?_
  refine wl_nil ?_
  refine hK4 _ _ ?_
  try clear hK4 K4
  refine wp_cond_false (by kernel_rfl) ?_
  refine wp_seq_k (fun K5 hK5 => ?_)
  refine wl_region ?_
  refine st_val (.agg #[.int .i64 512, .int .i64 578]) (by kernel_rfl) (by kernel_rfl) ?_
  refine st_val (.bool false) (by kernel_rfl) (by kernel_rfl) ?_
  refine st_val (.bool false) (by kernel_rfl) (by kernel_rfl) ?_
  refine wl_nil ?_
  refine hK5 _ _ ?_
  try clear hK5 K5
  refine wp_frame (a' := ⟨#[.int .i64 320, .int .i64 578, undef, undef, .int .i64 0, .int .i64 320, .int .i64 578, .int .i64 320, .int .i64 320, .int .i64 578, .int .i64 578, .agg #[.int .i64 320, .int .i64 578], .bool false, .agg #[.int .i64 512, .int .i64 512], .bool false, .bool false, .agg #[.int .i64 512, .int .i64 578], .bool false, undef, undef, undef, undef, undef, undef, undef, undef, undef], []⟩) (by kernel_rfl) ?_
  refine wp_cond_false (by kernel_rfl) ?_
  refine wp_seq_k (fun K6 hK6 => ?_)
  refine wl_region ?_
  refine st_val (.agg #[.int .i64 320, .int .i64 512]) (by kernel_rfl) (by kernel_rfl) ?_
  refine st_val (.bool false) (by kernel_rfl) (by kernel_rfl) ?_
  refine st_val (.bool false) (by kernel_rfl) (by kernel_rfl) ?_
  refine wl_nil ?_
  refine hK6 _ _ ?_
  try clear hK6 K6
  refine wp_cond_false (by kernel_rfl) ?_
  refine wp_seq_k (fun K7 hK7 => ?_)
  refine wl_region ?_
  refine st_val (.agg #[.int .i64 578, .int .i64 578]) (by kernel_rfl) (by kernel_rfl) ?_
  refine st_val (.bool false) (by kernel_rfl) (by kernel_rfl) ?_
  refine st_val (.bool false) (by kernel_rfl) (by kernel_rfl) ?_
  refine wl_nil ?_
  refine hK7 _ _ ?_
  try clear hK7 K7
  refine wp_cond_false (by kernel_rfl) ?_
  refine wp_seq_k (fun K8 hK8 => ?_)
  refine wl_region ?_
  refine st_val (.agg #[.int .i64 320, .int .i64 578]) (by kernel_rfl) (by kernel_rfl) ?_
  refine st_val (.bool true) (by kernel_rfl) (by kernel_rfl) ?_
  refine st_val (.bool true) (by kernel_rfl) (by kernel_rfl) ?_
  refine wl_nil ?_
  refine hK8 _ _ ?_
  try clear hK8 K8
  refine wp_cond_true (by kernel_rfl) ?_
  refine wp_seq_k (fun K9 hK9 => ?_)
  refine wl_region ?_
  refine st_val (.int .i64 27) (by kernel_rfl) (by kernel_rfl) ?_
  refine wl_nil ?_
  refine hK9 _ _ ?_
  try clear hK9 K9
  refine wp_ret ?_
  refine blk_ret ?_
  refine th_ret ?_
  exact done1 4 (.int .i64 27) (by kernel_rfl) (by kernel_rfl) (by kernel_rfl) ⟨rfl, rfl⟩
set_option maxHeartbeats 4000000 in
set_option maxRecDepth 100000 in
theorem gain_320_320 (w : World) : Calls Try.prog 40 #[.int .i64 320, .int .i64 320] w fun e w' => e = .returned (.int .i64 20) ∧ w = w' := by
  refine calls_of_wp Try.func40 rfl ?_
  refine wp_frame (a' := ⟨#[.int .i64 320, .int .i64 320, undef, undef, undef, undef, undef, undef, undef, undef, undef, undef, undef, undef, undef, undef, undef, undef, undef, undef, undef, undef, undef, undef, undef, undef, undef], []⟩) (by kernel_rfl) ?_
  have M0 : Mem NoS w w [] := Mem.start _ _
  refine wp_seq_k (fun K1 hK1 => ?_)
  refine wl_region ?_
  refine st_val (.int .i64 0) (by kernel_rfl) (by kernel_rfl) ?_
  refine wl_nil ?_
  refine hK1 _ _ ?_
  try clear hK1 K1
  refine wp_seq_k (fun K2 hK2 => ?_)
  refine wp_seq_k (fun K3 hK3 => ?_)
  refine wl_region ?_
  refine st_val (.int .i64 320) (by kernel_rfl) (by kernel_rfl) ?_
  refine st_val (.int .i64 320) (by kernel_rfl) (by kernel_rfl) ?_
  refine st_val (.int .i64 320) (by kernel_rfl) (by kernel_rfl) ?_
  refine st_val (.int .i64 320) (by kernel_rfl) (by kernel_rfl) ?_
  refine st_val (.int .i64 320) (by kernel_rfl) (by kernel_rfl) ?_
  refine st_val (.int .i64 320) (by kernel_rfl) (by kernel_rfl) ?_
  refine st_val (.agg #[.int .i64 320, .int .i64 320]) (by kernel_rfl) (by kernel_rfl) ?_
  refine wl_nil ?_
  refine hK3 _ _ ?_
  try clear hK3 K3
  refine wp_block ?_
  refine wp_seq_k (fun K4 hK4 => ?_)
  refine wl_region ?_
  refine st_val (.agg #[.int .i64 512, .int .i64 512]) (by kernel_rfl) (by kernel_rfl) ?_
  refine st_val (.bool false) (by kernel_rfl) (by kernel_rfl) ?_
  refine st_val (.bool false) (by kernel_rfl) (by kernel_rfl) ?_
  refine wl_nil ?_
  refine hK4 _ _ ?_
  try clear hK4 K4
  refine wp_cond_false (by kernel_rfl) ?_
  refine wp_seq_k (fun K5 hK5 => ?_)
  refine wl_region ?_
  refine st_val (.agg #[.int .i64 512, .int .i64 578]) (by kernel_rfl) (by kernel_rfl) ?_
  refine st_val (.bool false) (by kernel_rfl) (by kernel_rfl) ?_
  refine st_val (.bool false) (by kernel_rfl) (by kernel_rfl) ?_
  refine wl_nil ?_
  refine hK5 _ _ ?_
  try clear hK5 K5
  refine wp_frame (a' := ⟨#[.int .i64 320, .int .i64 320, undef, undef, .int .i64 0, .int .i64 320, .int .i64 320, .int .i64 320, .int .i64 320, .int .i64 320, .int .i64 320, .agg #[.int .i64 320, .int .i64 320], .bool false, .agg #[.int .i64 512, .int .i64 512], .bool false, .bool false, .agg #[.int .i64 512, .int .i64 578], .bool false, undef, undef, undef, undef, undef, undef, undef, undef, undef], []⟩) (by kernel_rfl) ?_
  refine wp_cond_false (by kernel_rfl) ?_
  refine wp_seq_k (fun K6 hK6 => ?_)
  refine wl_region ?_
  refine st_val (.agg #[.int .i64 320, .int .i64 512]) (by kernel_rfl) (by kernel_rfl) ?_
  refine st_val (.bool false) (by kernel_rfl) (by kernel_rfl) ?_
  refine st_val (.bool false) (by kernel_rfl) (by kernel_rfl) ?_
  refine wl_nil ?_
  refine hK6 _ _ ?_
  try clear hK6 K6
  refine wp_cond_false (by kernel_rfl) ?_
  refine wp_seq_k (fun K7 hK7 => ?_)
  refine wl_region ?_
  refine st_val (.agg #[.int .i64 578, .int .i64 578]) (by kernel_rfl) (by kernel_rfl) ?_
  refine st_val (.bool false) (by kernel_rfl) (by kernel_rfl) ?_
  refine st_val (.bool false) (by kernel_rfl) (by kernel_rfl) ?_
  refine wl_nil ?_
  refine hK7 _ _ ?_
  try clear hK7 K7
  refine wp_cond_false (by kernel_rfl) ?_
  refine wp_seq_k (fun K8 hK8 => ?_)
  refine wl_region ?_
  refine st_val (.agg #[.int .i64 320, .int .i64 578]) (by kernel_rfl) (by kernel_rfl) ?_
  refine st_val (.bool false) (by kernel_rfl) (by kernel_rfl) ?_
  refine st_val (.bool false) (by kernel_rfl) (by kernel_rfl) ?_
  refine wl_nil ?_
  refine hK8 _ _ ?_
  try clear hK8 K8
  refine wp_cond_false (by kernel_rfl) ?_
  refine wp_skip ?_
  refine blk_normal ?_
  refine hK2 _ _ ?_
  try clear hK2 K2
  refine wp_seq_k (fun K9 hK9 => ?_)
  refine wl_region ?_
  refine st_val (.int .i64 20) (by kernel_rfl) (by kernel_rfl) ?_
  refine wl_nil ?_
  refine hK9 _ _ ?_
  try clear hK9 K9
  refine wp_ret ?_
  exact done1 4 (.int .i64 20) (by kernel_rfl) (by kernel_rfl) (by kernel_rfl) ⟨rfl, rfl⟩
theorem gain_walk (w : World) (i j : Nat) (hi : i < 8) (hj : j < 8) : Calls Try.prog 40 #[.int .i64 (nrm i), .int .i64 (nrm j)] w fun e w' => e = .returned (.int .i64 (gq i j)) ∧ w = w' := by
  unfold gq
  rcases nrm_in i hi with h | h | h <;> rcases nrm_in j hj with h' | h' | h' <;> rw [h, h']
  · exact gain_512_512 w
  · exact gain_512_578 w
  · exact gain_512_320 w
  · exact gain_578_512 w
  · exact gain_578_578 w
  · exact gain_578_320 w
  · exact gain_320_512 w
  · exact gain_320_578 w
  · exact gain_320_320 w
set_option maxHeartbeats 4000000 in
set_option maxRecDepth 100000 in
theorem step_out (w : World) (a q k : Int) (hh : ¬ (8 ≤ a ∧ a ≤ 255 ∧ 1 ≤ q ∧ q ≤ 31 ∧ 0 ≤ k ∧ k < 64)) : Calls Try.prog 15 #[.int .i64 a, .int .i64 q, .int .i64 k] w fun e w' => e = .returned (.int .i64 0) ∧ Below w.heap.size w w' := by
  refine calls_of_wp Try.func15 rfl ?_
  refine wp_frame (a' := ⟨#[.int .i64 a, .int .i64 q, .int .i64 k, undef, undef, undef, undef, undef, undef, undef, undef, undef, undef, undef, undef, undef, undef, undef, undef, undef, undef, undef, undef, undef, undef, undef, undef, undef, undef, undef, undef, undef, undef, undef, undef, undef, undef, undef, undef, undef], []⟩) (by kernel_rfl) ?_
  have M0 : Mem NoS w w [] := Mem.start _ _
  refine wp_seq_k (fun K1 hK1 => ?_)
  refine wl_region ?_
  refine st_val (.int .i64 0) (by kernel_rfl) (by kernel_rfl) ?_
  refine wl_nil ?_
  refine hK1 _ _ ?_
  try clear hK1 K1
  refine wp_seq_k (fun K2 hK2 => ?_)
  refine wp_seq_k (fun K3 hK3 => ?_)
  refine wl_region ?_
  refine st_val (.int .i64 a) (by kernel_rfl) (by kernel_rfl) ?_
  rcases Decidable.em ((a : Int) < 8) with c8 | c8
  ·
    refine st_val (.bool true) (by kernel_rfl) (bool_of (dec_t c8) (by kernel_rfl)) ?_
    refine st_val (.bool true) (by kernel_rfl) (by kernel_rfl) ?_
    refine st_skip (by kernel_rfl) ?_
    refine st_skip (by kernel_rfl) ?_
    refine st_val (.bool true) (by kernel_rfl) (by kernel_rfl) ?_
    refine st_val (.bool true) (by kernel_rfl) (by kernel_rfl) ?_
    refine st_skip (by kernel_rfl) ?_
    refine st_skip (by kernel_rfl) ?_
    refine st_val (.bool true) (by kernel_rfl) (by kernel_rfl) ?_
    refine st_val (.bool true) (by kernel_rfl) (by kernel_rfl) ?_
    refine st_skip (by kernel_rfl) ?_
    refine st_skip (by kernel_rfl) ?_
    refine st_val (.bool true) (by kernel_rfl) (by kernel_rfl) ?_
    refine st_val (.bool true) (by kernel_rfl) (by kernel_rfl) ?_
    refine st_skip (by kernel_rfl) ?_
    refine st_skip (by kernel_rfl) ?_
    refine st_val (.bool true) (by kernel_rfl) (by kernel_rfl) ?_
    refine st_val (.bool true) (by kernel_rfl) (by kernel_rfl) ?_
    refine st_skip (by kernel_rfl) ?_
    refine st_skip (by kernel_rfl) ?_
    refine st_val (.bool true) (by kernel_rfl) (by kernel_rfl) ?_
    refine wl_nil ?_
    refine hK3 _ _ ?_
    try clear hK3 K3
    refine wp_frame (a' := ⟨#[.int .i64 a, .int .i64 q, .int .i64 k, undef, undef, undef, .int .i64 0, .int .i64 a, .bool true, .bool true, undef, undef, .bool true, .bool true, undef, undef, .bool true, .bool true, undef, undef, .bool true, .bool true, undef, undef, .bool true, .bool true, undef, undef, .bool true, undef, undef, undef, undef, undef, undef, undef, undef, undef, undef, undef], []⟩) (by kernel_rfl) ?_
    refine wp_cond_true (by kernel_rfl) ?_
    refine wp_seq_k (fun K4 hK4 => ?_)
    refine wl_region ?_
    refine st_val (.int .i64 0) (by kernel_rfl) (by kernel_rfl) ?_
    refine wl_nil ?_
    refine hK4 _ _ ?_
    try clear hK4 K4
    refine wp_ret ?_
    refine th_ret ?_
    exact done1 6 (.int .i64 0) (by kernel_rfl) (by kernel_rfl) (by kernel_rfl) ⟨rfl, M0.toBelow⟩
  ·
    refine st_val (.bool false) (by kernel_rfl) (bool_of (dec_f c8) (by kernel_rfl)) ?_
    refine st_val (.bool false) (by kernel_rfl) (by kernel_rfl) ?_
    refine st_val (.int .i64 a) (by kernel_rfl) (by kernel_rfl) ?_
    rcases Decidable.em ((a : Int) > 255) with c11 | c11
    ·
      refine st_val (.bool true) (by kernel_rfl) (bool_of (dec_t c11) (by kernel_rfl)) ?_
      refine st_val (.bool true) (by kernel_rfl) (by kernel_rfl) ?_
      refine st_val (.bool true) (by kernel_rfl) (by kernel_rfl) ?_
      refine st_skip (by kernel_rfl) ?_
      refine st_skip (by kernel_rfl) ?_
      refine st_val (.bool true) (by kernel_rfl) (by kernel_rfl) ?_
      refine st_val (.bool true) (by kernel_rfl) (by kernel_rfl) ?_
      refine st_skip (by kernel_rfl) ?_
      refine st_skip (by kernel_rfl) ?_
      refine st_val (.bool true) (by kernel_rfl) (by kernel_rfl) ?_
      refine st_val (.bool true) (by kernel_rfl) (by kernel_rfl) ?_
      refine st_skip (by kernel_rfl) ?_
      refine st_skip (by kernel_rfl) ?_
      refine st_val (.bool true) (by kernel_rfl) (by kernel_rfl) ?_
      refine st_val (.bool true) (by kernel_rfl) (by kernel_rfl) ?_
      refine st_skip (by kernel_rfl) ?_
      refine st_skip (by kernel_rfl) ?_
      refine st_val (.bool true) (by kernel_rfl) (by kernel_rfl) ?_
      refine wl_nil ?_
      refine hK3 _ _ ?_
      try clear hK3 K3
      refine wp_frame (a' := ⟨#[.int .i64 a, .int .i64 q, .int .i64 k, undef, undef, undef, .int .i64 0, .int .i64 a, .bool false, .bool false, .int .i64 a, .bool true, .bool true, .bool true, undef, undef, .bool true, .bool true, undef, undef, .bool true, .bool true, undef, undef, .bool true, .bool true, undef, undef, .bool true, undef, undef, undef, undef, undef, undef, undef, undef, undef, undef, undef], []⟩) (by kernel_rfl) ?_
      refine wp_cond_true (by kernel_rfl) ?_
      refine wp_seq_k (fun K5 hK5 => ?_)
      refine wl_region ?_
      refine st_val (.int .i64 0) (by kernel_rfl) (by kernel_rfl) ?_
      refine wl_nil ?_
      refine hK5 _ _ ?_
      try clear hK5 K5
      refine wp_ret ?_
      refine th_ret ?_
      exact done1 6 (.int .i64 0) (by kernel_rfl) (by kernel_rfl) (by kernel_rfl) ⟨rfl, M0.toBelow⟩
    ·
      refine st_val (.bool false) (by kernel_rfl) (bool_of (dec_f c11) (by kernel_rfl)) ?_
      refine st_val (.bool false) (by kernel_rfl) (by kernel_rfl) ?_
      refine st_val (.bool false) (by kernel_rfl) (by kernel_rfl) ?_
      refine st_val (.int .i64 q) (by kernel_rfl) (by kernel_rfl) ?_
      rcases Decidable.em ((q : Int) < 1) with c15 | c15
      ·
        refine st_val (.bool true) (by kernel_rfl) (bool_of (dec_t c15) (by kernel_rfl)) ?_
        refine st_val (.bool true) (by kernel_rfl) (by kernel_rfl) ?_
        refine st_val (.bool true) (by kernel_rfl) (by kernel_rfl) ?_
        refine st_skip (by kernel_rfl) ?_
        refine st_skip (by kernel_rfl) ?_
        refine st_val (.bool true) (by kernel_rfl) (by kernel_rfl) ?_
        refine st_val (.bool true) (by kernel_rfl) (by kernel_rfl) ?_
        refine st_skip (by kernel_rfl) ?_
        refine st_skip (by kernel_rfl) ?_
        refine st_val (.bool true) (by kernel_rfl) (by kernel_rfl) ?_
        refine st_val (.bool true) (by kernel_rfl) (by kernel_rfl) ?_
        refine st_skip (by kernel_rfl) ?_
        refine st_skip (by kernel_rfl) ?_
        refine st_val (.bool true) (by kernel_rfl) (by kernel_rfl) ?_
        refine wl_nil ?_
        refine hK3 _ _ ?_
        try clear hK3 K3
        refine wp_frame (a' := ⟨#[.int .i64 a, .int .i64 q, .int .i64 k, undef, undef, undef, .int .i64 0, .int .i64 a, .bool false, .bool false, .int .i64 a, .bool false, .bool false, .bool false, .int .i64 q, .bool true, .bool true, .bool true, undef, undef, .bool true, .bool true, undef, undef, .bool true, .bool true, undef, undef, .bool true, undef, undef, undef, undef, undef, undef, undef, undef, undef, undef, undef], []⟩) (by kernel_rfl) ?_
        refine wp_cond_true (by kernel_rfl) ?_
        refine wp_seq_k (fun K6 hK6 => ?_)
        refine wl_region ?_
        refine st_val (.int .i64 0) (by kernel_rfl) (by kernel_rfl) ?_
        refine wl_nil ?_
        refine hK6 _ _ ?_
        try clear hK6 K6
        refine wp_ret ?_
        refine th_ret ?_
        exact done1 6 (.int .i64 0) (by kernel_rfl) (by kernel_rfl) (by kernel_rfl) ⟨rfl, M0.toBelow⟩
      ·
        refine st_val (.bool false) (by kernel_rfl) (bool_of (dec_f c15) (by kernel_rfl)) ?_
        refine st_val (.bool false) (by kernel_rfl) (by kernel_rfl) ?_
        refine st_val (.bool false) (by kernel_rfl) (by kernel_rfl) ?_
        refine st_val (.int .i64 q) (by kernel_rfl) (by kernel_rfl) ?_
        rcases Decidable.em ((q : Int) > 31) with c19 | c19
        ·
          refine st_val (.bool true) (by kernel_rfl) (bool_of (dec_t c19) (by kernel_rfl)) ?_
          refine st_val (.bool true) (by kernel_rfl) (by kernel_rfl) ?_
          refine st_val (.bool true) (by kernel_rfl) (by kernel_rfl) ?_
          refine st_skip (by kernel_rfl) ?_
          refine st_skip (by kernel_rfl) ?_
          refine st_val (.bool true) (by kernel_rfl) (by kernel_rfl) ?_
          refine st_val (.bool true) (by kernel_rfl) (by kernel_rfl) ?_
          refine st_skip (by kernel_rfl) ?_
          refine st_skip (by kernel_rfl) ?_
          refine st_val (.bool true) (by kernel_rfl) (by kernel_rfl) ?_
          refine wl_nil ?_
          refine hK3 _ _ ?_
          try clear hK3 K3
          refine wp_frame (a' := ⟨#[.int .i64 a, .int .i64 q, .int .i64 k, undef, undef, undef, .int .i64 0, .int .i64 a, .bool false, .bool false, .int .i64 a, .bool false, .bool false, .bool false, .int .i64 q, .bool false, .bool false, .bool false, .int .i64 q, .bool true, .bool true, .bool true, undef, undef, .bool true, .bool true, undef, undef, .bool true, undef, undef, undef, undef, undef, undef, undef, undef, undef, undef, undef], []⟩) (by kernel_rfl) ?_
          refine wp_cond_true (by kernel_rfl) ?_
          refine wp_seq_k (fun K7 hK7 => ?_)
          refine wl_region ?_
          refine st_val (.int .i64 0) (by kernel_rfl) (by kernel_rfl) ?_
          refine wl_nil ?_
          refine hK7 _ _ ?_
          try clear hK7 K7
          refine wp_ret ?_
          refine th_ret ?_
          exact done1 6 (.int .i64 0) (by kernel_rfl) (by kernel_rfl) (by kernel_rfl) ⟨rfl, M0.toBelow⟩
        ·
          refine st_val (.bool false) (by kernel_rfl) (bool_of (dec_f c19) (by kernel_rfl)) ?_
          refine st_val (.bool false) (by kernel_rfl) (by kernel_rfl) ?_
          refine st_val (.bool false) (by kernel_rfl) (by kernel_rfl) ?_
          refine st_val (.int .i64 k) (by kernel_rfl) (by kernel_rfl) ?_
          rcases Decidable.em ((k : Int) < 0) with c23 | c23
          ·
            refine st_val (.bool true) (by kernel_rfl) (bool_of (dec_t c23) (by kernel_rfl)) ?_
            refine st_val (.bool true) (by kernel_rfl) (by kernel_rfl) ?_
            refine st_val (.bool true) (by kernel_rfl) (by kernel_rfl) ?_
            refine st_skip (by kernel_rfl) ?_
            refine st_skip (by kernel_rfl) ?_
            refine st_val (.bool true) (by kernel_rfl) (by kernel_rfl) ?_
            refine wl_nil ?_
            refine hK3 _ _ ?_
            try clear hK3 K3
            refine wp_frame (a' := ⟨#[.int .i64 a, .int .i64 q, .int .i64 k, undef, undef, undef, .int .i64 0, .int .i64 a, .bool false, .bool false, .int .i64 a, .bool false, .bool false, .bool false, .int .i64 q, .bool false, .bool false, .bool false, .int .i64 q, .bool false, .bool false, .bool false, .int .i64 k, .bool true, .bool true, .bool true, undef, undef, .bool true, undef, undef, undef, undef, undef, undef, undef, undef, undef, undef, undef], []⟩) (by kernel_rfl) ?_
            refine wp_cond_true (by kernel_rfl) ?_
            refine wp_seq_k (fun K8 hK8 => ?_)
            refine wl_region ?_
            refine st_val (.int .i64 0) (by kernel_rfl) (by kernel_rfl) ?_
            refine wl_nil ?_
            refine hK8 _ _ ?_
            try clear hK8 K8
            refine wp_ret ?_
            refine th_ret ?_
            exact done1 6 (.int .i64 0) (by kernel_rfl) (by kernel_rfl) (by kernel_rfl) ⟨rfl, M0.toBelow⟩
          ·
            refine st_val (.bool false) (by kernel_rfl) (bool_of (dec_f c23) (by kernel_rfl)) ?_
            refine st_val (.bool false) (by kernel_rfl) (by kernel_rfl) ?_
            refine st_val (.bool false) (by kernel_rfl) (by kernel_rfl) ?_
            refine st_val (.int .i64 k) (by kernel_rfl) (by kernel_rfl) ?_
            rcases Decidable.em ((k : Int) ≥ 64) with c27 | c27
            ·
              refine st_val (.bool true) (by kernel_rfl) (bool_of (dec_t c27) (by kernel_rfl)) ?_
              refine st_val (.bool true) (by kernel_rfl) (by kernel_rfl) ?_
              refine wl_nil ?_
              refine hK3 _ _ ?_
              try clear hK3 K3
              refine wp_frame (a' := ⟨#[.int .i64 a, .int .i64 q, .int .i64 k, undef, undef, undef, .int .i64 0, .int .i64 a, .bool false, .bool false, .int .i64 a, .bool false, .bool false, .bool false, .int .i64 q, .bool false, .bool false, .bool false, .int .i64 q, .bool false, .bool false, .bool false, .int .i64 k, .bool false, .bool false, .bool false, .int .i64 k, .bool true, .bool true, undef, undef, undef, undef, undef, undef, undef, undef, undef, undef, undef], []⟩) (by kernel_rfl) ?_
              refine wp_cond_true (by kernel_rfl) ?_
              refine wp_seq_k (fun K9 hK9 => ?_)
              refine wl_region ?_
              refine st_val (.int .i64 0) (by kernel_rfl) (by kernel_rfl) ?_
              refine wl_nil ?_
              refine hK9 _ _ ?_
              try clear hK9 K9
              refine wp_ret ?_
              refine th_ret ?_
              exact done1 6 (.int .i64 0) (by kernel_rfl) (by kernel_rfl) (by kernel_rfl) ⟨rfl, M0.toBelow⟩
            ·
              exact (hh ⟨by omega, by omega, by omega, by omega, by omega, by omega⟩).elim
set_option maxHeartbeats 4000000 in
set_option maxRecDepth 100000 in
theorem step_in (w : World) (a q : Int) (k : Nat) (h1 : 8 ≤ a) (h2 : a ≤ 255) (h3 : 1 ≤ q) (h4 : q ≤ 31) (h5 : k < 64) : Calls Try.prog 15 #[.int .i64 a, .int .i64 q, .int .i64 (k : Int)] w fun e w' => e = .returned (.int .i64 (a * q * gq (k / 8) (k % 8))) ∧ Below w.heap.size w w' := by
  refine calls_of_wp Try.func15 rfl ?_
  refine wp_frame (a' := ⟨#[.int .i64 a, .int .i64 q, .int .i64 (k : Int), undef, undef, undef, undef, undef, undef, undef, undef, undef, undef, undef, undef, undef, undef, undef, undef, undef, undef, undef, undef, undef, undef, undef, undef, undef, undef, undef, undef, undef, undef, undef, undef, undef, undef, undef, undef, undef], []⟩) (by kernel_rfl) ?_
  have M0 : Mem NoS w w [] := Mem.start _ _
  refine wp_seq_k (fun K1 hK1 => ?_)
  refine wl_region ?_
  refine st_val (.int .i64 0) (by kernel_rfl) (by kernel_rfl) ?_
  refine wl_nil ?_
  refine hK1 _ _ ?_
  try clear hK1 K1
  refine wp_seq_k (fun K2 hK2 => ?_)
  refine wp_seq_k (fun K3 hK3 => ?_)
  refine wl_region ?_
  refine st_val (.int .i64 a) (by kernel_rfl) (by kernel_rfl) ?_
  refine st_val (.bool false) (by kernel_rfl) (bool_of (dec_f (show ¬ ((a : Int) < 8) by omega)) (by kernel_rfl)) ?_
  refine st_val (.bool false) (by kernel_rfl) (by kernel_rfl) ?_
  refine st_val (.int .i64 a) (by kernel_rfl) (by kernel_rfl) ?_
  refine st_val (.bool false) (by kernel_rfl) (bool_of (dec_f (show ¬ ((a : Int) > 255) by omega)) (by kernel_rfl)) ?_
  refine st_val (.bool false) (by kernel_rfl) (by kernel_rfl) ?_
  refine st_val (.bool false) (by kernel_rfl) (by kernel_rfl) ?_
  refine st_val (.int .i64 q) (by kernel_rfl) (by kernel_rfl) ?_
  refine st_val (.bool false) (by kernel_rfl) (bool_of (dec_f (show ¬ ((q : Int) < 1) by omega)) (by kernel_rfl)) ?_
  refine st_val (.bool false) (by kernel_rfl) (by kernel_rfl) ?_
  refine st_val (.bool false) (by kernel_rfl) (by kernel_rfl) ?_
  refine st_val (.int .i64 q) (by kernel_rfl) (by kernel_rfl) ?_
  refine st_val (.bool false) (by kernel_rfl) (bool_of (dec_f (show ¬ ((q : Int) > 31) by omega)) (by kernel_rfl)) ?_
  refine st_val (.bool false) (by kernel_rfl) (by kernel_rfl) ?_
  refine st_val (.bool false) (by kernel_rfl) (by kernel_rfl) ?_
  refine st_val (.int .i64 (k : Int)) (by kernel_rfl) (by kernel_rfl) ?_
  refine st_val (.bool false) (by kernel_rfl) (bool_of (dec_f (show ¬ (((k : Int) : Int) < 0) by omega)) (by kernel_rfl)) ?_
  refine st_val (.bool false) (by kernel_rfl) (by kernel_rfl) ?_
  refine st_val (.bool false) (by kernel_rfl) (by kernel_rfl) ?_
  refine st_val (.int .i64 (k : Int)) (by kernel_rfl) (by kernel_rfl) ?_
  refine st_val (.bool false) (by kernel_rfl) (bool_of (dec_f (show ¬ (((k : Int) : Int) ≥ 64) by omega)) (by kernel_rfl)) ?_
  refine st_val (.bool false) (by kernel_rfl) (by kernel_rfl) ?_
  refine wl_nil ?_
  refine hK3 _ _ ?_
  try clear hK3 K3
  refine wp_frame (a' := ⟨#[.int .i64 a, .int .i64 q, .int .i64 (k : Int), undef, undef, undef, .int .i64 0, .int .i64 a, .bool false, .bool false, .int .i64 a, .bool false, .bool false, .bool false, .int .i64 q, .bool false, .bool false, .bool false, .int .i64 q, .bool false, .bool false, .bool false, .int .i64 (k : Int), .bool false, .bool false, .bool false, .int .i64 (k : Int), .bool false, .bool false, undef, undef, undef, undef, undef, undef, undef, undef, undef, undef, undef], []⟩) (by kernel_rfl) ?_
  refine wp_cond_false (by kernel_rfl) ?_
  refine wp_skip ?_
  refine hK2 _ _ ?_
  try clear hK2 K2
  refine wp_seq_k (fun K4 hK4 => ?_)
  have bq := wq_le h1 h2 h3 h4
  have bg := wqg_le (gq_le (k / 8) (k % 8)) bq
  refine wl_region ?_
  refine st_val (.int .i64 a) (by kernel_rfl) (by kernel_rfl) ?_
  refine st_val (.int .i64 q) (by kernel_rfl) (by kernel_rfl) ?_
  refine st_val (.int .i64 (a * q)) (by kernel_rfl) (i64_of (by omega) (by kernel_rfl)) ?_
  refine st_val (.int .i64 (k : Int)) (by kernel_rfl) (by kernel_rfl) ?_
  refine st_val (.int .i64 ((k : Int) / 8)) (by kernel_rfl) (int_of (quo_of (k : Int) 8 (by omega) (by omega) (by omega)) (by kernel_rfl)) ?_
  refine st_callE (.int .i64 (nrm (k / 8))) (by kernel_rfl) (args := #[.int .i64 ((k : Int) / 8)]) (run_value_call 41 #[(Operand.tmp 33)] _ rfl Try.func41 (by kernel_rfl) (by kernel_rfl) _ (by kernel_rfl)) ((by have := (norm_walk w ((k : Int) / 8)); rw [show (k : Int) / 8 = ((k / 8 : Nat) : Int) from rfl, bnrm_nat (by omega)] at this; exact this.mono fun e w' h => ⟨h.1, h.2.symm⟩)) ?_
  refine st_val (.int .i64 (k : Int)) (by kernel_rfl) (by kernel_rfl) ?_
  refine st_val (.int .i64 ((k : Int) % 8)) (by kernel_rfl) (int_of (rem_of (k : Int) 8 (by omega)) (by kernel_rfl)) ?_
  refine st_callE (.int .i64 (nrm (k % 8))) (by kernel_rfl) (args := #[.int .i64 ((k : Int) % 8)]) (run_value_call 41 #[(Operand.tmp 36)] _ rfl Try.func41 (by kernel_rfl) (by kernel_rfl) _ (by kernel_rfl)) ((by have := (norm_walk w ((k : Int) % 8)); rw [show (k : Int) % 8 = ((k % 8 : Nat) : Int) from rfl, bnrm_nat (by omega)] at this; exact this.mono fun e w' h => ⟨h.1, h.2.symm⟩)) ?_
  refine st_callE (.int .i64 (gq (k / 8) (k % 8))) (by kernel_rfl) (args := #[.int .i64 (nrm (k / 8)), .int .i64 (nrm (k % 8))]) (run_value_call 40 #[(Operand.tmp 34), (Operand.tmp 37)] _ rfl Try.func40 (by kernel_rfl) (by kernel_rfl) _ (by kernel_rfl)) (gain_walk w (k / 8) (k % 8) (by omega) (by omega)) ?_
  refine st_val (.int .i64 ((a * q) * (gq (k / 8) (k % 8)))) (by kernel_rfl) (i64_of (by omega) (by kernel_rfl)) ?_
  refine st_val (.int .i64 ((a * q) * (gq (k / 8) (k % 8)))) (by kernel_rfl) (by kernel_rfl) ?_
  refine wl_nil ?_
  refine hK4 _ _ ?_
  try clear hK4 K4
  refine wp_ret ?_
  exact done1 6 (.int .i64 ((a * q) * (gq (k / 8) (k % 8)))) (by kernel_rfl) (by kernel_rfl) (by kernel_rfl) ⟨rfl, M0.toBelow⟩
set_option maxHeartbeats 4000000 in
set_option maxRecDepth 100000 in
theorem refStep_out (w : World) (a q k : Int) (hh : ¬ (8 ≤ a ∧ a ≤ 255 ∧ 1 ≤ q ∧ q ≤ 31 ∧ 0 ≤ k ∧ k < 64)) : Calls Try.prog 16 #[.int .i64 a, .int .i64 q, .int .i64 k] w fun e w' => e = .returned (.int .i64 0) ∧ Below w.heap.size w w' := by
  refine calls_of_wp Try.func16 rfl ?_
  refine wp_frame (a' := ⟨#[.int .i64 a, .int .i64 q, .int .i64 k, undef, undef, undef, undef, undef, undef, undef, undef, undef, undef, undef, undef, undef, undef, undef, undef, undef, undef, undef, undef, undef, undef, undef, undef, undef, undef, undef, undef, undef, undef, undef, undef, undef, undef, undef, undef, undef, undef, undef, undef, undef, undef, undef, undef, undef, undef, undef, undef, undef, undef, undef], []⟩) (by kernel_rfl) ?_
  have M0 : Mem NoS w w [] := Mem.start _ _
  refine wp_seq_k (fun K1 hK1 => ?_)
  refine wl_region ?_
  refine st_val (.int .i64 0) (by kernel_rfl) (by kernel_rfl) ?_
  refine wl_nil ?_
  refine hK1 _ _ ?_
  try clear hK1 K1
  refine wp_seq_k (fun K2 hK2 => ?_)
  refine wp_seq_k (fun K3 hK3 => ?_)
  refine wl_region ?_
  refine st_val (.int .i64 a) (by kernel_rfl) (by kernel_rfl) ?_
  rcases Decidable.em ((a : Int) < 8) with c9 | c9
  ·
    refine st_val (.bool true) (by kernel_rfl) (bool_of (dec_t c9) (by kernel_rfl)) ?_
    refine st_val (.bool true) (by kernel_rfl) (by kernel_rfl) ?_
    refine st_skip (by kernel_rfl) ?_
    refine st_skip (by kernel_rfl) ?_
    refine st_val (.bool true) (by kernel_rfl) (by kernel_rfl) ?_
    refine st_val (.bool true) (by kernel_rfl) (by kernel_rfl) ?_
    refine st_skip (by kernel_rfl) ?_
    refine st_skip (by kernel_rfl) ?_
    refine st_val (.bool true) (by kernel_rfl) (by kernel_rfl) ?_
    refine st_val (.bool true) (by kernel_rfl) (by kernel_rfl) ?_
    refine st_skip (by kernel_rfl) ?_
    refine st_skip (by kernel_rfl) ?_
    refine st_val (.bool true) (by kernel_rfl) (by kernel_rfl) ?_
    refine st_val (.bool true) (by kernel_rfl) (by kernel_rfl) ?_
    refine st_skip (by kernel_rfl) ?_
    refine st_skip (by kernel_rfl) ?_
    refine st_val (.bool true) (by kernel_rfl) (by kernel_rfl) ?_
    refine st_val (.bool true) (by kernel_rfl) (by kernel_rfl) ?_
    refine st_skip (by kernel_rfl) ?_
    refine st_skip (by kernel_rfl) ?_
    refine st_val (.bool true) (by kernel_rfl) (by kernel_rfl) ?_
    refine wl_nil ?_
    refine hK3 _ _ ?_
    try clear hK3 K3
    refine wp_frame (a' := ⟨#[.int .i64 a, .int .i64 q, .int .i64 k, undef, undef, undef, .int .i64 0, undef, .int .i64 a, .bool true, .bool true, undef, undef, .bool true, .bool true, undef, undef, .bool true, .bool true, undef, undef, .bool true, .bool true, undef, undef, .bool true, .bool true, undef, undef, .bool true, undef, undef, undef, undef, undef, undef, undef, undef, undef, undef, undef, undef, undef, undef, undef, undef, undef, undef, undef, undef, undef, undef, undef, undef], []⟩) (by kernel_rfl) ?_
    refine wp_cond_true (by kernel_rfl) ?_
    refine wp_seq_k (fun K4 hK4 => ?_)
    refine wl_region ?_
    refine st_val (.int .i64 0) (by kernel_rfl) (by kernel_rfl) ?_
    refine wl_nil ?_
    refine hK4 _ _ ?_
    try clear hK4 K4
    refine wp_ret ?_
    refine th_ret ?_
    exact done1 6 (.int .i64 0) (by kernel_rfl) (by kernel_rfl) (by kernel_rfl) ⟨rfl, M0.toBelow⟩
  ·
    refine st_val (.bool false) (by kernel_rfl) (bool_of (dec_f c9) (by kernel_rfl)) ?_
    refine st_val (.bool false) (by kernel_rfl) (by kernel_rfl) ?_
    refine st_val (.int .i64 a) (by kernel_rfl) (by kernel_rfl) ?_
    rcases Decidable.em ((a : Int) > 255) with c12 | c12
    ·
      refine st_val (.bool true) (by kernel_rfl) (bool_of (dec_t c12) (by kernel_rfl)) ?_
      refine st_val (.bool true) (by kernel_rfl) (by kernel_rfl) ?_
      refine st_val (.bool true) (by kernel_rfl) (by kernel_rfl) ?_
      refine st_skip (by kernel_rfl) ?_
      refine st_skip (by kernel_rfl) ?_
      refine st_val (.bool true) (by kernel_rfl) (by kernel_rfl) ?_
      refine st_val (.bool true) (by kernel_rfl) (by kernel_rfl) ?_
      refine st_skip (by kernel_rfl) ?_
      refine st_skip (by kernel_rfl) ?_
      refine st_val (.bool true) (by kernel_rfl) (by kernel_rfl) ?_
      refine st_val (.bool true) (by kernel_rfl) (by kernel_rfl) ?_
      refine st_skip (by kernel_rfl) ?_
      refine st_skip (by kernel_rfl) ?_
      refine st_val (.bool true) (by kernel_rfl) (by kernel_rfl) ?_
      refine st_val (.bool true) (by kernel_rfl) (by kernel_rfl) ?_
      refine st_skip (by kernel_rfl) ?_
      refine st_skip (by kernel_rfl) ?_
      refine st_val (.bool true) (by kernel_rfl) (by kernel_rfl) ?_
      refine wl_nil ?_
      refine hK3 _ _ ?_
      try clear hK3 K3
      refine wp_frame (a' := ⟨#[.int .i64 a, .int .i64 q, .int .i64 k, undef, undef, undef, .int .i64 0, undef, .int .i64 a, .bool false, .bool false, .int .i64 a, .bool true, .bool true, .bool true, undef, undef, .bool true, .bool true, undef, undef, .bool true, .bool true, undef, undef, .bool true, .bool true, undef, undef, .bool true, undef, undef, undef, undef, undef, undef, undef, undef, undef, undef, undef, undef, undef, undef, undef, undef, undef, undef, undef, undef, undef, undef, undef, undef], []⟩) (by kernel_rfl) ?_
      refine wp_cond_true (by kernel_rfl) ?_
      refine wp_seq_k (fun K5 hK5 => ?_)
      refine wl_region ?_
      refine st_val (.int .i64 0) (by kernel_rfl) (by kernel_rfl) ?_
      refine wl_nil ?_
      refine hK5 _ _ ?_
      try clear hK5 K5
      refine wp_ret ?_
      refine th_ret ?_
      exact done1 6 (.int .i64 0) (by kernel_rfl) (by kernel_rfl) (by kernel_rfl) ⟨rfl, M0.toBelow⟩
    ·
      refine st_val (.bool false) (by kernel_rfl) (bool_of (dec_f c12) (by kernel_rfl)) ?_
      refine st_val (.bool false) (by kernel_rfl) (by kernel_rfl) ?_
      refine st_val (.bool false) (by kernel_rfl) (by kernel_rfl) ?_
      refine st_val (.int .i64 q) (by kernel_rfl) (by kernel_rfl) ?_
      rcases Decidable.em ((q : Int) < 1) with c16 | c16
      ·
        refine st_val (.bool true) (by kernel_rfl) (bool_of (dec_t c16) (by kernel_rfl)) ?_
        refine st_val (.bool true) (by kernel_rfl) (by kernel_rfl) ?_
        refine st_val (.bool true) (by kernel_rfl) (by kernel_rfl) ?_
        refine st_skip (by kernel_rfl) ?_
        refine st_skip (by kernel_rfl) ?_
        refine st_val (.bool true) (by kernel_rfl) (by kernel_rfl) ?_
        refine st_val (.bool true) (by kernel_rfl) (by kernel_rfl) ?_
        refine st_skip (by kernel_rfl) ?_
        refine st_skip (by kernel_rfl) ?_
        refine st_val (.bool true) (by kernel_rfl) (by kernel_rfl) ?_
        refine st_val (.bool true) (by kernel_rfl) (by kernel_rfl) ?_
        refine st_skip (by kernel_rfl) ?_
        refine st_skip (by kernel_rfl) ?_
        refine st_val (.bool true) (by kernel_rfl) (by kernel_rfl) ?_
        refine wl_nil ?_
        refine hK3 _ _ ?_
        try clear hK3 K3
        refine wp_frame (a' := ⟨#[.int .i64 a, .int .i64 q, .int .i64 k, undef, undef, undef, .int .i64 0, undef, .int .i64 a, .bool false, .bool false, .int .i64 a, .bool false, .bool false, .bool false, .int .i64 q, .bool true, .bool true, .bool true, undef, undef, .bool true, .bool true, undef, undef, .bool true, .bool true, undef, undef, .bool true, undef, undef, undef, undef, undef, undef, undef, undef, undef, undef, undef, undef, undef, undef, undef, undef, undef, undef, undef, undef, undef, undef, undef, undef], []⟩) (by kernel_rfl) ?_
        refine wp_cond_true (by kernel_rfl) ?_
        refine wp_seq_k (fun K6 hK6 => ?_)
        refine wl_region ?_
        refine st_val (.int .i64 0) (by kernel_rfl) (by kernel_rfl) ?_
        refine wl_nil ?_
        refine hK6 _ _ ?_
        try clear hK6 K6
        refine wp_ret ?_
        refine th_ret ?_
        exact done1 6 (.int .i64 0) (by kernel_rfl) (by kernel_rfl) (by kernel_rfl) ⟨rfl, M0.toBelow⟩
      ·
        refine st_val (.bool false) (by kernel_rfl) (bool_of (dec_f c16) (by kernel_rfl)) ?_
        refine st_val (.bool false) (by kernel_rfl) (by kernel_rfl) ?_
        refine st_val (.bool false) (by kernel_rfl) (by kernel_rfl) ?_
        refine st_val (.int .i64 q) (by kernel_rfl) (by kernel_rfl) ?_
        rcases Decidable.em ((q : Int) > 31) with c20 | c20
        ·
          refine st_val (.bool true) (by kernel_rfl) (bool_of (dec_t c20) (by kernel_rfl)) ?_
          refine st_val (.bool true) (by kernel_rfl) (by kernel_rfl) ?_
          refine st_val (.bool true) (by kernel_rfl) (by kernel_rfl) ?_
          refine st_skip (by kernel_rfl) ?_
          refine st_skip (by kernel_rfl) ?_
          refine st_val (.bool true) (by kernel_rfl) (by kernel_rfl) ?_
          refine st_val (.bool true) (by kernel_rfl) (by kernel_rfl) ?_
          refine st_skip (by kernel_rfl) ?_
          refine st_skip (by kernel_rfl) ?_
          refine st_val (.bool true) (by kernel_rfl) (by kernel_rfl) ?_
          refine wl_nil ?_
          refine hK3 _ _ ?_
          try clear hK3 K3
          refine wp_frame (a' := ⟨#[.int .i64 a, .int .i64 q, .int .i64 k, undef, undef, undef, .int .i64 0, undef, .int .i64 a, .bool false, .bool false, .int .i64 a, .bool false, .bool false, .bool false, .int .i64 q, .bool false, .bool false, .bool false, .int .i64 q, .bool true, .bool true, .bool true, undef, undef, .bool true, .bool true, undef, undef, .bool true, undef, undef, undef, undef, undef, undef, undef, undef, undef, undef, undef, undef, undef, undef, undef, undef, undef, undef, undef, undef, undef, undef, undef, undef], []⟩) (by kernel_rfl) ?_
          refine wp_cond_true (by kernel_rfl) ?_
          refine wp_seq_k (fun K7 hK7 => ?_)
          refine wl_region ?_
          refine st_val (.int .i64 0) (by kernel_rfl) (by kernel_rfl) ?_
          refine wl_nil ?_
          refine hK7 _ _ ?_
          try clear hK7 K7
          refine wp_ret ?_
          refine th_ret ?_
          exact done1 6 (.int .i64 0) (by kernel_rfl) (by kernel_rfl) (by kernel_rfl) ⟨rfl, M0.toBelow⟩
        ·
          refine st_val (.bool false) (by kernel_rfl) (bool_of (dec_f c20) (by kernel_rfl)) ?_
          refine st_val (.bool false) (by kernel_rfl) (by kernel_rfl) ?_
          refine st_val (.bool false) (by kernel_rfl) (by kernel_rfl) ?_
          refine st_val (.int .i64 k) (by kernel_rfl) (by kernel_rfl) ?_
          rcases Decidable.em ((k : Int) < 0) with c24 | c24
          ·
            refine st_val (.bool true) (by kernel_rfl) (bool_of (dec_t c24) (by kernel_rfl)) ?_
            refine st_val (.bool true) (by kernel_rfl) (by kernel_rfl) ?_
            refine st_val (.bool true) (by kernel_rfl) (by kernel_rfl) ?_
            refine st_skip (by kernel_rfl) ?_
            refine st_skip (by kernel_rfl) ?_
            refine st_val (.bool true) (by kernel_rfl) (by kernel_rfl) ?_
            refine wl_nil ?_
            refine hK3 _ _ ?_
            try clear hK3 K3
            refine wp_frame (a' := ⟨#[.int .i64 a, .int .i64 q, .int .i64 k, undef, undef, undef, .int .i64 0, undef, .int .i64 a, .bool false, .bool false, .int .i64 a, .bool false, .bool false, .bool false, .int .i64 q, .bool false, .bool false, .bool false, .int .i64 q, .bool false, .bool false, .bool false, .int .i64 k, .bool true, .bool true, .bool true, undef, undef, .bool true, undef, undef, undef, undef, undef, undef, undef, undef, undef, undef, undef, undef, undef, undef, undef, undef, undef, undef, undef, undef, undef, undef, undef, undef], []⟩) (by kernel_rfl) ?_
            refine wp_cond_true (by kernel_rfl) ?_
            refine wp_seq_k (fun K8 hK8 => ?_)
            refine wl_region ?_
            refine st_val (.int .i64 0) (by kernel_rfl) (by kernel_rfl) ?_
            refine wl_nil ?_
            refine hK8 _ _ ?_
            try clear hK8 K8
            refine wp_ret ?_
            refine th_ret ?_
            exact done1 6 (.int .i64 0) (by kernel_rfl) (by kernel_rfl) (by kernel_rfl) ⟨rfl, M0.toBelow⟩
          ·
            refine st_val (.bool false) (by kernel_rfl) (bool_of (dec_f c24) (by kernel_rfl)) ?_
            refine st_val (.bool false) (by kernel_rfl) (by kernel_rfl) ?_
            refine st_val (.bool false) (by kernel_rfl) (by kernel_rfl) ?_
            refine st_val (.int .i64 k) (by kernel_rfl) (by kernel_rfl) ?_
            rcases Decidable.em ((k : Int) > 63) with c28 | c28
            ·
              refine st_val (.bool true) (by kernel_rfl) (bool_of (dec_t c28) (by kernel_rfl)) ?_
              refine st_val (.bool true) (by kernel_rfl) (by kernel_rfl) ?_
              refine wl_nil ?_
              refine hK3 _ _ ?_
              try clear hK3 K3
              refine wp_frame (a' := ⟨#[.int .i64 a, .int .i64 q, .int .i64 k, undef, undef, undef, .int .i64 0, undef, .int .i64 a, .bool false, .bool false, .int .i64 a, .bool false, .bool false, .bool false, .int .i64 q, .bool false, .bool false, .bool false, .int .i64 q, .bool false, .bool false, .bool false, .int .i64 k, .bool false, .bool false, .bool false, .int .i64 k, .bool true, .bool true, undef, undef, undef, undef, undef, undef, undef, undef, undef, undef, undef, undef, undef, undef, undef, undef, undef, undef, undef, undef, undef, undef, undef, undef], []⟩) (by kernel_rfl) ?_
              refine wp_cond_true (by kernel_rfl) ?_
              refine wp_seq_k (fun K9 hK9 => ?_)
              refine wl_region ?_
              refine st_val (.int .i64 0) (by kernel_rfl) (by kernel_rfl) ?_
              refine wl_nil ?_
              refine hK9 _ _ ?_
              try clear hK9 K9
              refine wp_ret ?_
              refine th_ret ?_
              exact done1 6 (.int .i64 0) (by kernel_rfl) (by kernel_rfl) (by kernel_rfl) ⟨rfl, M0.toBelow⟩
            ·
              exact (hh ⟨by omega, by omega, by omega, by omega, by omega, by omega⟩).elim
set_option maxHeartbeats 4000000 in
set_option maxRecDepth 100000 in
theorem refStep_in (w : World) (a q : Int) (k : Nat) (h1 : 8 ≤ a) (h2 : a ≤ 255) (h3 : 1 ≤ q) (h4 : q ≤ 31) (h5 : k < 64) : Calls Try.prog 16 #[.int .i64 a, .int .i64 q, .int .i64 (k : Int)] w fun e w' => e = .returned (.int .i64 (a * q * gq (k / 8) (k % 8))) ∧ Below w.heap.size w w' := by
  refine calls_of_wp Try.func16 rfl ?_
  refine wp_frame (a' := ⟨#[.int .i64 a, .int .i64 q, .int .i64 (k : Int), undef, undef, undef, undef, undef, undef, undef, undef, undef, undef, undef, undef, undef, undef, undef, undef, undef, undef, undef, undef, undef, undef, undef, undef, undef, undef, undef, undef, undef, undef, undef, undef, undef, undef, undef, undef, undef, undef, undef, undef, undef, undef, undef, undef, undef, undef, undef, undef, undef, undef, undef], []⟩) (by kernel_rfl) ?_
  have M0 : Mem NoS w w [] := Mem.start _ _
  refine wp_seq_k (fun K1 hK1 => ?_)
  refine wl_region ?_
  refine st_val (.int .i64 0) (by kernel_rfl) (by kernel_rfl) ?_
  refine wl_nil ?_
  refine hK1 _ _ ?_
  try clear hK1 K1
  refine wp_seq_k (fun K2 hK2 => ?_)
  refine wp_seq_k (fun K3 hK3 => ?_)
  refine wl_region ?_
  refine st_val (.int .i64 a) (by kernel_rfl) (by kernel_rfl) ?_
  refine st_val (.bool false) (by kernel_rfl) (bool_of (dec_f (show ¬ ((a : Int) < 8) by omega)) (by kernel_rfl)) ?_
  refine st_val (.bool false) (by kernel_rfl) (by kernel_rfl) ?_
  refine st_val (.int .i64 a) (by kernel_rfl) (by kernel_rfl) ?_
  refine st_val (.bool false) (by kernel_rfl) (bool_of (dec_f (show ¬ ((a : Int) > 255) by omega)) (by kernel_rfl)) ?_
  refine st_val (.bool false) (by kernel_rfl) (by kernel_rfl) ?_
  refine st_val (.bool false) (by kernel_rfl) (by kernel_rfl) ?_
  refine st_val (.int .i64 q) (by kernel_rfl) (by kernel_rfl) ?_
  refine st_val (.bool false) (by kernel_rfl) (bool_of (dec_f (show ¬ ((q : Int) < 1) by omega)) (by kernel_rfl)) ?_
  refine st_val (.bool false) (by kernel_rfl) (by kernel_rfl) ?_
  refine st_val (.bool false) (by kernel_rfl) (by kernel_rfl) ?_
  refine st_val (.int .i64 q) (by kernel_rfl) (by kernel_rfl) ?_
  refine st_val (.bool false) (by kernel_rfl) (bool_of (dec_f (show ¬ ((q : Int) > 31) by omega)) (by kernel_rfl)) ?_
  refine st_val (.bool false) (by kernel_rfl) (by kernel_rfl) ?_
  refine st_val (.bool false) (by kernel_rfl) (by kernel_rfl) ?_
  refine st_val (.int .i64 (k : Int)) (by kernel_rfl) (by kernel_rfl) ?_
  refine st_val (.bool false) (by kernel_rfl) (bool_of (dec_f (show ¬ (((k : Int) : Int) < 0) by omega)) (by kernel_rfl)) ?_
  refine st_val (.bool false) (by kernel_rfl) (by kernel_rfl) ?_
  refine st_val (.bool false) (by kernel_rfl) (by kernel_rfl) ?_
  refine st_val (.int .i64 (k : Int)) (by kernel_rfl) (by kernel_rfl) ?_
  refine st_val (.bool false) (by kernel_rfl) (bool_of (dec_f (show ¬ (((k : Int) : Int) > 63) by omega)) (by kernel_rfl)) ?_
  refine st_val (.bool false) (by kernel_rfl) (by kernel_rfl) ?_
  refine wl_nil ?_
  refine hK3 _ _ ?_
  try clear hK3 K3
  refine wp_frame (a' := ⟨#[.int .i64 a, .int .i64 q, .int .i64 (k : Int), undef, undef, undef, .int .i64 0, undef, .int .i64 a, .bool false, .bool false, .int .i64 a, .bool false, .bool false, .bool false, .int .i64 q, .bool false, .bool false, .bool false, .int .i64 q, .bool false, .bool false, .bool false, .int .i64 (k : Int), .bool false, .bool false, .bool false, .int .i64 (k : Int), .bool false, .bool false, undef, undef, undef, undef, undef, undef, undef, undef, undef, undef, undef, undef, undef, undef, undef, undef, undef, undef, undef, undef, undef, undef, undef, undef], []⟩) (by kernel_rfl) ?_
  refine wp_cond_false (by kernel_rfl) ?_
  refine wp_skip ?_
  refine hK2 _ _ ?_
  try clear hK2 K2
  refine wp_seq_k (fun K4 hK4 => ?_)
  refine wl_region ?_
  refine st_val (.int .i64 0) (by kernel_rfl) (by kernel_rfl) ?_
  refine wl_nil ?_
  refine hK4 _ _ ?_
  try clear hK4 K4
  refine wp_seq_k (fun K5 hK5 => ?_)
  refine wp_seq_k (fun K6 hK6 => ?_)
  have bq := wq_le h1 h2 h3 h4
  have bg := wqg_le (gq_le (k / 8) (k % 8)) bq
  refine wl_region ?_
  refine st_val (.int .i64 (k : Int)) (by kernel_rfl) (by kernel_rfl) ?_
  refine st_val (.int .i64 ((k : Int) / 8)) (by kernel_rfl) (int_of (quo_of (k : Int) 8 (by omega) (by omega) (by omega)) (by kernel_rfl)) ?_
  refine st_callB M0 (.int .i64 (nrm (k / 8))) (by kernel_rfl) (args := #[.int .i64 ((k : Int) / 8)]) (run_value_call 42 #[(Operand.tmp 31)] _ rfl Try.func42 (by kernel_rfl) (by kernel_rfl) _ (by kernel_rfl)) ((by have := (refNorm_walk w ((k : Int) / 8)); rw [show (k : Int) / 8 = ((k / 8 : Nat) : Int) from rfl, bnrm_nat (by omega)] at this; exact this)) ?_
  intro W7 M8
  refine st_val (.int .i64 (k : Int)) (by kernel_rfl) (by kernel_rfl) ?_
  refine st_val (.int .i64 ((k : Int) % 8)) (by kernel_rfl) (int_of (rem_of (k : Int) 8 (by omega)) (by kernel_rfl)) ?_
  refine st_callB M8 (.int .i64 (nrm (k % 8))) (by kernel_rfl) (args := #[.int .i64 ((k : Int) % 8)]) (run_value_call 42 #[(Operand.tmp 34)] _ rfl Try.func42 (by kernel_rfl) (by kernel_rfl) _ (by kernel_rfl)) ((by have := (refNorm_walk W7 ((k : Int) % 8)); rw [show (k : Int) % 8 = ((k % 8 : Nat) : Int) from rfl, bnrm_nat (by omega)] at this; exact this)) ?_
  intro W9 M10
  refine st_val (.int .i64 ((nrm (k / 8)) * (nrm (k % 8)))) (by kernel_rfl) (i64_of (nn_in (by omega) (by omega)) (by kernel_rfl)) ?_
  refine wl_nil ?_
  refine hK6 _ _ ?_
  try clear hK6 K6
  refine wp_block ?_
  refine wp_seq_k (fun K11 hK11 => ?_)
  refine wl_region ?_
  rcases Decidable.em (((nrm (k / 8)) * (nrm (k % 8)) : Int) = 262144) with c38 | c38
  ·
    refine st_val (.bool true) (by kernel_rfl) (bool_of (dec_t c38) (by kernel_rfl)) ?_
    refine st_val (.bool true) (by kernel_rfl) (by kernel_rfl) ?_
    refine wl_nil ?_
    refine hK11 _ _ ?_
    try clear hK11 K11
    refine wp_cond_true (by kernel_rfl) ?_
    refine wl_region ?_
    refine st_val (.int .i64 32) (by kernel_rfl) (by kernel_rfl) ?_
    refine wl_nil ?_
    refine blk_normal ?_
    refine hK5 _ _ ?_
    try clear hK5 K5
    refine wp_seq_k (fun K12 hK12 => ?_)
    refine wl_region ?_
    refine st_val (.int .i64 a) (by kernel_rfl) (by kernel_rfl) ?_
    refine st_val (.int .i64 q) (by kernel_rfl) (by kernel_rfl) ?_
    refine st_val (.int .i64 (a * q)) (by kernel_rfl) (i64_of (by omega) (by kernel_rfl)) ?_
    refine st_val (.int .i64 32) (by kernel_rfl) (by kernel_rfl) ?_
    refine st_val (.int .i64 ((a * q) * 32)) (by kernel_rfl) (i64_of (by omega) (by kernel_rfl)) ?_
    refine st_val (.int .i64 ((a * q) * 32)) (by kernel_rfl) (by kernel_rfl) ?_
    refine wl_nil ?_
    refine hK12 _ _ ?_
    try clear hK12 K12
    refine wp_frame (a' := ⟨#[.int .i64 a, .int .i64 q, .int .i64 (k : Int), undef, undef, undef, .int .i64 ((a * q) * 32), .int .i64 32, .int .i64 a, .bool false, .bool false, .int .i64 a, .bool false, .bool false, .bool false, .int .i64 q, .bool false, .bool false, .bool false, .int .i64 q, .bool false, .bool false, .bool false, .int .i64 (k : Int), .bool false, .bool false, .bool false, .int .i64 (k : Int), .bool false, .bool false, .int .i64 (k : Int), .int .i64 ((k : Int) / 8), .int .i64 (nrm (k / 8)), .int .i64 (k : Int), .int .i64 ((k : Int) % 8), .int .i64 (nrm (k % 8)), .int .i64 ((nrm (k / 8)) * (nrm (k % 8))), .bool true, .bool true, undef, undef, undef, undef, undef, undef, undef, undef, undef, undef, .int .i64 a, .int .i64 q, .int .i64 (a * q), .int .i64 32, .int .i64 ((a * q) * 32)], []⟩) (by kernel_rfl) ?_
    refine wp_ret ?_
    exact done1 6 (.int .i64 ((a * q) * 32)) (by kernel_rfl) (by kernel_rfl) (by kernel_rfl) ⟨by rw [gq_32 c38], M10.toBelow⟩
  ·
    refine st_val (.bool false) (by kernel_rfl) (bool_of (dec_f c38) (by kernel_rfl)) ?_
    refine st_val (.bool false) (by kernel_rfl) (by kernel_rfl) ?_
    refine wl_nil ?_
    refine hK11 _ _ ?_
    try clear hK11 K11
    refine wp_cond_false (by kernel_rfl) ?_
    refine wp_seq_k (fun K13 hK13 => ?_)
    refine wl_region ?_
    rcases Decidable.em (((nrm (k / 8)) * (nrm (k % 8)) : Int) = 295936) with c40 | c40
    ·
      refine st_val (.bool true) (by kernel_rfl) (bool_of (dec_t c40) (by kernel_rfl)) ?_
      refine st_val (.bool true) (by kernel_rfl) (by kernel_rfl) ?_
      refine wl_nil ?_
      refine hK13 _ _ ?_
      try clear hK13 K13
      refine wp_cond_true (by kernel_rfl) ?_
      refine wl_region ?_
      refine st_val (.int .i64 34) (by kernel_rfl) (by kernel_rfl) ?_
      refine wl_nil ?_
      refine blk_normal ?_
      refine hK5 _ _ ?_
      try clear hK5 K5
      refine wp_frame (a' := ⟨#[.int .i64 a, .int .i64 q, .int .i64 (k : Int), undef, undef, undef, .int .i64 0, .int .i64 34, .int .i64 a, .bool false, .bool false, .int .i64 a, .bool false, .bool false, .bool false, .int .i64 q, .bool false, .bool false, .bool false, .int .i64 q, .bool false, .bool false, .bool false, .int .i64 (k : Int), .bool false, .bool false, .bool false, .int .i64 (k : Int), .bool false, .bool false, .int .i64 (k : Int), .int .i64 ((k : Int) / 8), .int .i64 (nrm (k / 8)), .int .i64 (k : Int), .int .i64 ((k : Int) % 8), .int .i64 (nrm (k % 8)), .int .i64 ((nrm (k / 8)) * (nrm (k % 8))), .bool false, .bool false, .bool true, .bool true, undef, undef, undef, undef, undef, undef, undef, undef, undef, undef, undef, undef, undef], []⟩) (by kernel_rfl) ?_
      refine wp_seq_k (fun K14 hK14 => ?_)
      refine wl_region ?_
      refine st_val (.int .i64 a) (by kernel_rfl) (by kernel_rfl) ?_
      refine st_val (.int .i64 q) (by kernel_rfl) (by kernel_rfl) ?_
      refine st_val (.int .i64 (a * q)) (by kernel_rfl) (i64_of (by omega) (by kernel_rfl)) ?_
      refine st_val (.int .i64 34) (by kernel_rfl) (by kernel_rfl) ?_
      refine st_val (.int .i64 ((a * q) * 34)) (by kernel_rfl) (i64_of (by omega) (by kernel_rfl)) ?_
      refine st_val (.int .i64 ((a * q) * 34)) (by kernel_rfl) (by kernel_rfl) ?_
      refine wl_nil ?_
      refine hK14 _ _ ?_
      try clear hK14 K14
      refine wp_ret ?_
      exact done1 6 (.int .i64 ((a * q) * 34)) (by kernel_rfl) (by kernel_rfl) (by kernel_rfl) ⟨by rw [gq_34 c38 c40], M10.toBelow⟩
    ·
      refine st_val (.bool false) (by kernel_rfl) (bool_of (dec_f c40) (by kernel_rfl)) ?_
      refine st_val (.bool false) (by kernel_rfl) (by kernel_rfl) ?_
      refine wl_nil ?_
      refine hK13 _ _ ?_
      try clear hK13 K13
      refine wp_cond_false (by kernel_rfl) ?_
      refine wp_seq_k (fun K15 hK15 => ?_)
      refine wl_region ?_
      rcases Decidable.em (((nrm (k / 8)) * (nrm (k % 8)) : Int) = 163840) with c42 | c42
      ·
        refine st_val (.bool true) (by kernel_rfl) (bool_of (dec_t c42) (by kernel_rfl)) ?_
        refine st_val (.bool true) (by kernel_rfl) (by kernel_rfl) ?_
        refine wl_nil ?_
        refine hK15 _ _ ?_
        try clear hK15 K15
        refine wp_frame (a' := ⟨#[.int .i64 a, .int .i64 q, .int .i64 (k : Int), undef, undef, undef, .int .i64 0, .int .i64 0, .int .i64 a, .bool false, .bool false, .int .i64 a, .bool false, .bool false, .bool false, .int .i64 q, .bool false, .bool false, .bool false, .int .i64 q, .bool false, .bool false, .bool false, .int .i64 (k : Int), .bool false, .bool false, .bool false, .int .i64 (k : Int), .bool false, .bool false, .int .i64 (k : Int), .int .i64 ((k : Int) / 8), .int .i64 (nrm (k / 8)), .int .i64 (k : Int), .int .i64 ((k : Int) % 8), .int .i64 (nrm (k % 8)), .int .i64 ((nrm (k / 8)) * (nrm (k % 8))), .bool false, .bool false, .bool false, .bool false, .bool true, .bool true, undef, undef, undef, undef, undef, undef, undef, undef, undef, undef, undef], []⟩) (by kernel_rfl) ?_
        refine wp_cond_true (by kernel_rfl) ?_
        refine wl_region ?_
        refine st_val (.int .i64 25) (by kernel_rfl) (by kernel_rfl) ?_
        refine wl_nil ?_
        refine blk_normal ?_
        refine hK5 _ _ ?_
        try clear hK5 K5
        refine wp_seq_k (fun K16 hK16 => ?_)
        refine wl_region ?_
        refine st_val (.int .i64 a) (by kernel_rfl) (by kernel_rfl) ?_
        refine st_val (.int .i64 q) (by kernel_rfl) (by kernel_rfl) ?_
        refine st_val (.int .i64 (a * q)) (by kernel_rfl) (i64_of (by omega) (by kernel_rfl)) ?_
        refine st_val (.int .i64 25) (by kernel_rfl) (by kernel_rfl) ?_
        refine st_val (.int .i64 ((a * q) * 25)) (by kernel_rfl) (i64_of (by omega) (by kernel_rfl)) ?_
        refine st_val (.int .i64 ((a * q) * 25)) (by kernel_rfl) (by kernel_rfl) ?_
        refine wl_nil ?_
        refine hK16 _ _ ?_
        try clear hK16 K16
        refine wp_ret ?_
        exact done1 6 (.int .i64 ((a * q) * 25)) (by kernel_rfl) (by kernel_rfl) (by kernel_rfl) ⟨by rw [gq_25 c38 c40 c42], M10.toBelow⟩
      ·
        refine st_val (.bool false) (by kernel_rfl) (bool_of (dec_f c42) (by kernel_rfl)) ?_
        refine st_val (.bool false) (by kernel_rfl) (by kernel_rfl) ?_
        refine wl_nil ?_
        refine hK15 _ _ ?_
        try clear hK15 K15
        refine wp_frame (a' := ⟨#[.int .i64 a, .int .i64 q, .int .i64 (k : Int), undef, undef, undef, .int .i64 0, .int .i64 0, .int .i64 a, .bool false, .bool false, .int .i64 a, .bool false, .bool false, .bool false, .int .i64 q, .bool false, .bool false, .bool false, .int .i64 q, .bool false, .bool false, .bool false, .int .i64 (k : Int), .bool false, .bool false, .bool false, .int .i64 (k : Int), .bool false, .bool false, .int .i64 (k : Int), .int .i64 ((k : Int) / 8), .int .i64 (nrm (k / 8)), .int .i64 (k : Int), .int .i64 ((k : Int) % 8), .int .i64 (nrm (k % 8)), .int .i64 ((nrm (k / 8)) * (nrm (k % 8))), .bool false, .bool false, .bool false, .bool false, .bool false, .bool false, undef, undef, undef, undef, undef, undef, undef, undef, undef, undef, undef], []⟩) (by kernel_rfl) ?_
        refine wp_cond_false (by kernel_rfl) ?_
        refine wp_seq_k (fun K17 hK17 => ?_)
        refine wl_region ?_
        rcases Decidable.em (((nrm (k / 8)) * (nrm (k % 8)) : Int) = 334084) with c44 | c44
        ·
          refine st_val (.bool true) (by kernel_rfl) (bool_of (dec_t c44) (by kernel_rfl)) ?_
          refine st_val (.bool true) (by kernel_rfl) (by kernel_rfl) ?_
          refine wl_nil ?_
          refine hK17 _ _ ?_
          try clear hK17 K17
          refine wp_cond_true (by kernel_rfl) ?_
          refine wl_region ?_
          refine st_val (.int .i64 36) (by kernel_rfl) (by kernel_rfl) ?_
          refine wl_nil ?_
          refine blk_normal ?_
          refine hK5 _ _ ?_
          try clear hK5 K5
          refine wp_seq_k (fun K18 hK18 => ?_)
          refine wl_region ?_
          refine st_val (.int .i64 a) (by kernel_rfl) (by kernel_rfl) ?_
          refine st_val (.int .i64 q) (by kernel_rfl) (by kernel_rfl) ?_
          refine st_val (.int .i64 (a * q)) (by kernel_rfl) (i64_of (by omega) (by kernel_rfl)) ?_
          refine st_val (.int .i64 36) (by kernel_rfl) (by kernel_rfl) ?_
          refine st_val (.int .i64 ((a * q) * 36)) (by kernel_rfl) (i64_of (by omega) (by kernel_rfl)) ?_
          refine st_val (.int .i64 ((a * q) * 36)) (by kernel_rfl) (by kernel_rfl) ?_
          refine wl_nil ?_
          refine hK18 _ _ ?_
          try clear hK18 K18
          refine wp_ret ?_
          exact done1 6 (.int .i64 ((a * q) * 36)) (by kernel_rfl) (by kernel_rfl) (by kernel_rfl) ⟨by rw [gq_36 c38 c40 c42 c44], M10.toBelow⟩
        ·
          refine st_val (.bool false) (by kernel_rfl) (bool_of (dec_f c44) (by kernel_rfl)) ?_
          refine st_val (.bool false) (by kernel_rfl) (by kernel_rfl) ?_
          refine wl_nil ?_
          refine hK17 _ _ ?_
          try clear hK17 K17
          refine wp_cond_false (by kernel_rfl) ?_
          refine wp_seq_k (fun K19 hK19 => ?_)
          refine wl_region ?_
          rcases Decidable.em (((nrm (k / 8)) * (nrm (k % 8)) : Int) = 184960) with c46 | c46
          ·
            refine st_val (.bool true) (by kernel_rfl) (bool_of (dec_t c46) (by kernel_rfl)) ?_
            refine st_val (.bool true) (by kernel_rfl) (by kernel_rfl) ?_
            refine wl_nil ?_
            refine hK19 _ _ ?_
            try clear hK19 K19
            refine wp_cond_true (by kernel_rfl) ?_
            refine wl_region ?_
            refine st_val (.int .i64 27) (by kernel_rfl) (by kernel_rfl) ?_
            refine wl_nil ?_
            refine blk_normal ?_
            refine hK5 _ _ ?_
            try clear hK5 K5
            refine wp_seq_k (fun K20 hK20 => ?_)
            refine wl_region ?_
            refine st_val (.int .i64 a) (by kernel_rfl) (by kernel_rfl) ?_
            refine st_val (.int .i64 q) (by kernel_rfl) (by kernel_rfl) ?_
            refine st_val (.int .i64 (a * q)) (by kernel_rfl) (i64_of (by omega) (by kernel_rfl)) ?_
            refine st_val (.int .i64 27) (by kernel_rfl) (by kernel_rfl) ?_
            refine st_val (.int .i64 ((a * q) * 27)) (by kernel_rfl) (i64_of (by omega) (by kernel_rfl)) ?_
            refine st_val (.int .i64 ((a * q) * 27)) (by kernel_rfl) (by kernel_rfl) ?_
            refine wl_nil ?_
            refine hK20 _ _ ?_
            try clear hK20 K20
            refine wp_ret ?_
            exact done1 6 (.int .i64 ((a * q) * 27)) (by kernel_rfl) (by kernel_rfl) (by kernel_rfl) ⟨by rw [gq_27 c38 c40 c42 c44 c46], M10.toBelow⟩
          ·
            refine st_val (.bool false) (by kernel_rfl) (bool_of (dec_f c46) (by kernel_rfl)) ?_
            refine st_val (.bool false) (by kernel_rfl) (by kernel_rfl) ?_
            refine wl_nil ?_
            refine hK19 _ _ ?_
            try clear hK19 K19
            refine wp_cond_false (by kernel_rfl) ?_
            refine wp_seq_k (fun K21 hK21 => ?_)
            refine wl_region ?_
            rcases Decidable.em (((nrm (k / 8)) * (nrm (k % 8)) : Int) = 102400) with c48 | c48
            ·
              refine st_val (.bool true) (by kernel_rfl) (bool_of (dec_t c48) (by kernel_rfl)) ?_
              refine st_val (.bool true) (by kernel_rfl) (by kernel_rfl) ?_
              refine wl_nil ?_
              refine hK21 _ _ ?_
              try clear hK21 K21
              refine wp_cond_true (by kernel_rfl) ?_
              refine wl_region ?_
              refine st_val (.int .i64 20) (by kernel_rfl) (by kernel_rfl) ?_
              refine wl_nil ?_
              refine blk_normal ?_
              refine hK5 _ _ ?_
              try clear hK5 K5
              refine wp_seq_k (fun K22 hK22 => ?_)
              refine wl_region ?_
              refine st_val (.int .i64 a) (by kernel_rfl) (by kernel_rfl) ?_
              refine st_val (.int .i64 q) (by kernel_rfl) (by kernel_rfl) ?_
              refine st_val (.int .i64 (a * q)) (by kernel_rfl) (i64_of (by omega) (by kernel_rfl)) ?_
              refine st_val (.int .i64 20) (by kernel_rfl) (by kernel_rfl) ?_
              refine st_val (.int .i64 ((a * q) * 20)) (by kernel_rfl) (i64_of (by omega) (by kernel_rfl)) ?_
              refine st_val (.int .i64 ((a * q) * 20)) (by kernel_rfl) (by kernel_rfl) ?_
              refine wl_nil ?_
              refine hK22 _ _ ?_
              try clear hK22 K22
              refine wp_frame (a' := ⟨#[.int .i64 a, .int .i64 q, .int .i64 (k : Int), undef, undef, undef, .int .i64 ((a * q) * 20), .int .i64 20, .int .i64 a, .bool false, .bool false, .int .i64 a, .bool false, .bool false, .bool false, .int .i64 q, .bool false, .bool false, .bool false, .int .i64 q, .bool false, .bool false, .bool false, .int .i64 (k : Int), .bool false, .bool false, .bool false, .int .i64 (k : Int), .bool false, .bool false, .int .i64 (k : Int), .int .i64 ((k : Int) / 8), .int .i64 (nrm (k / 8)), .int .i64 (k : Int), .int .i64 ((k : Int) % 8), .int .i64 (nrm (k % 8)), .int .i64 ((nrm (k / 8)) * (nrm (k % 8))), .bool false, .bool false, .bool false, .bool false, .bool false, .bool false, .bool false, .bool false, .bool false, .bool false, .bool true, .bool true, .int .i64 a, .int .i64 q, .int .i64 (a * q), .int .i64 20, .int .i64 ((a * q) * 20)], []⟩) (by kernel_rfl) ?_
              refine wp_ret ?_
              exact done1 6 (.int .i64 ((a * q) * 20)) (by kernel_rfl) (by kernel_rfl) (by kernel_rfl) ⟨by rw [gq_20 c38 c40 c42 c44 c46 c48], M10.toBelow⟩
            ·
              exact (gq_none (by omega) (by omega) c38 c40 c42 c44 c46 c48).elim
end Go.Proofs.Ytjclncmpfdfkfaa
