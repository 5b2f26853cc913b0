/- The nearest level. -/
import Derived.Test.YtjclncmpfdfkfaaGw
import Derived.Test.YtjclncmpfdfkfaaArr
namespace Go.Proofs.Ytjclncmpfdfkfaa
open Go.RowKit

/-- the integer nearest to v / s, halves away from 0 -/
def la (v s : Int) : Int := (2 * max v (-v) + s) / (2 * s)
def lv (v s : Int) : Int := if v < 0 then -(la v s) else la v s
theorem tdiv_le (v s : Int) (h : -9223372036854775808 ≤ v ∧ v ≤ 9223372036854775807) : (-9223372036854775808 ≤ v.tdiv s ∧ v.tdiv s ≤ 9223372036854775808) ∧ (1 < s → -4611686018427387904 ≤ v.tdiv s ∧ v.tdiv s ≤ 4611686018427387904) := by
  have h1 : (v.tdiv s).natAbs ≤ v.natAbs := by rw [Int.natAbs_tdiv]; exact Nat.div_le_self _ _
  refine ⟨by omega, fun hs => ?_⟩
  have h2 : (v.tdiv s).natAbs ≤ v.natAbs / 2 := by
    rw [Int.natAbs_tdiv]
    exact Nat.div_le_div_left (by omega) (by omega)
  omega
theorem tmod_le (v s : Int) (h1 : 0 < s) : -s < v.tmod s ∧ v.tmod s < s := by
  rcases Int.le_total 0 v with h | h
  · rw [Int.tmod_eq_emod_of_nonneg h]
    have := Int.emod_nonneg v (show s ≠ 0 by omega)
    have := Int.emod_lt_of_pos v h1
    omega
  · obtain ⟨t, rfl⟩ : ∃ t, v = -t := ⟨-v, by omega⟩
    rw [Int.neg_tmod, Int.tmod_eq_emod_of_nonneg (by omega)]
    have := Int.emod_nonneg t (show s ≠ 0 by omega)
    have := Int.emod_lt_of_pos t h1
    omega
theorem la_of (s n r : Int) (h1 : 0 < s) (h0 : 0 ≤ r) (hr : r < s) : (2 * (s * n + r) + s) / (2 * s) = if r < s - r then n else n + 1 := by
  have e : 2 * (s * n + r) + s = (2 * r + s) + (2 * s) * n := by rw [Int.mul_add, Int.mul_assoc]; omega
  rw [e, Int.add_mul_ediv_left _ _ (by omega)]
  by_cases h : r < s - r
  · rw [if_pos h, Int.ediv_eq_zero_of_lt (by omega) (by omega)]; omega
  · rw [if_neg h]
    have : (2 * r + s) / (2 * s) = 1 := by
      have e2 : 2 * r + s = (2 * r - s) + (2 * s) * 1 := by omega
      rw [e2, Int.add_mul_ediv_left _ _ (by omega), Int.ediv_eq_zero_of_lt (by omega) (by omega)]; rfl
    omega
theorem lv_pos (v s : Int) (h1 : 0 < s) (h : 0 ≤ v) : lv v s = if v.tmod s < s - v.tmod s then v.tdiv s else v.tdiv s + 1 := by
  have e1 : lv v s = (2 * v + s) / (2 * s) := by
    unfold lv la
    rw [if_neg (by omega), show max v (-v) = v by omega]
  rw [e1, Int.tmod_eq_emod_of_nonneg h, Int.tdiv_eq_ediv_of_nonneg h]
  have e2 : v = s * (v / s) + v % s := by have := Int.mul_ediv_add_emod v s; omega
  have h3 := Int.emod_nonneg v (show s ≠ 0 by omega)
  have h4 := Int.emod_lt_of_pos v h1
  conv => lhs; rw [e2]
  exact la_of s _ _ h1 h3 h4
theorem lv_neg (v s : Int) (h1 : 0 < s) (h : v < 0) : lv v s = if -(v.tmod s) < s - -(v.tmod s) then v.tdiv s else v.tdiv s - 1 := by
  obtain ⟨t, rfl⟩ : ∃ t, v = -t := ⟨-v, by omega⟩
  have hp := lv_pos t s h1 (by omega)
  have e : lv (-t) s = - lv t s := by
    unfold lv la
    rw [if_pos h, if_neg (by omega), show max (-t) (- -t) = max t (-t) by omega]
  rw [e, hp, Int.neg_tmod, Int.neg_tdiv]
  rw [show - -(t.tmod s) = t.tmod s by omega]
  split <;> omega
theorem tmod_sign (v s : Int) (h1 : 0 < s) : (0 ≤ v → 0 ≤ v.tmod s) ∧ (v < 0 → v.tmod s ≤ 0) := by
  constructor
  · intro h; rw [Int.tmod_eq_emod_of_nonneg h]; exact Int.emod_nonneg v (by omega)
  · intro h
    obtain ⟨t, rfl⟩ : ∃ t, v = -t := ⟨-v, by omega⟩
    rw [Int.neg_tmod, Int.tmod_eq_emod_of_nonneg (by omega)]
    have := Int.emod_nonneg t (show s ≠ 0 by omega)
    omega
/-- the three ways of nearest -/
theorem near_ways (v s : Int) (h1 : 0 < s) : (v.tmod s < 0 → -(v.tmod s) < s - -(v.tmod s) → v.tdiv s = lv v s) ∧ (¬ v.tmod s < 0 → v.tmod s < s - v.tmod s → v.tdiv s = lv v s) ∧
    (v.tmod s < 0 → ¬ -(v.tmod s) < s - -(v.tmod s) → v < 0 → v.tdiv s - 1 = lv v s) ∧ (¬ v.tmod s < 0 → ¬ v.tmod s < s - v.tmod s → v < 0 → v.tdiv s - 1 = lv v s) ∧
    (v.tmod s < 0 → ¬ -(v.tmod s) < s - -(v.tmod s) → ¬ v < 0 → v.tdiv s + 1 = lv v s) ∧ (¬ v.tmod s < 0 → ¬ v.tmod s < s - v.tmod s → ¬ v < 0 → v.tdiv s + 1 = lv v s) := by
  have hs := tmod_sign v s h1
  rcases Int.lt_or_le v 0 with h | h
  · have e := lv_neg v s h1 h
    have := hs.2 h
    rw [e]
    refine ⟨fun a b => ?_, fun a b => ?_, fun a b _ => ?_, fun a b _ => ?_, fun a b c => ?_, fun a b c => ?_⟩
    · rw [if_pos b]
    · rw [if_pos (by omega)]
    · rw [if_neg b]
    · exfalso; omega
    · exact (c h).elim
    · exact (c h).elim
  · have e := lv_pos v s h1 h
    have := hs.1 h
    rw [e]
    refine ⟨fun a b => ?_, fun a b => ?_, fun a b c => ?_, fun a b c => ?_, fun a b _ => ?_, fun a b _ => ?_⟩
    · exfalso; omega
    · rw [if_pos b]
    · exfalso; omega
    · exfalso; omega
    · exfalso; omega
    · rw [if_neg b]
set_option maxHeartbeats 4000000 in
set_option maxRecDepth 100000 in
theorem nearest_walk (w : World) (v s : Int) (h1 : 2 ≤ s) (h2 : s ≤ 1000000) (h3 : -9223372036854775808 ≤ v ∧ v ≤ 9223372036854775807) : Calls Try.prog 45 #[.int .i64 v, .int .i64 s] w fun e w' => e = .returned (.int .i64 (lv v s)) ∧ Below w.heap.size w w' := by
  refine calls_of_wp Try.func45 rfl ?_
  refine wp_frame (a' := ⟨#[.int .i64 v, .int .i64 s, undef, undef, undef, undef, undef, undef, undef, undef, undef, undef, undef, undef, undef, undef, undef, undef, undef, undef, undef, undef, undef, undef, undef, undef, undef, undef, undef], []⟩) (by kernel_rfl) ?_
  have M0 : Mem NoS w w [] := Mem.start _ _
  refine wp_seq_k (fun K1 hK1 => ?_)
  refine wl_region ?_
  refine st_val (.int .i64 0) (by kernel_rfl) (by kernel_rfl) ?_
  refine wl_nil ?_
  refine hK1 _ _ ?_
  try clear hK1 K1
  refine wp_seq_k (fun K2 hK2 => ?_)
  have b1 := tdiv_le v s (by omega)
  have b2 := tmod_le v s (by omega)
  have b3 := near_ways v s (by omega)
  refine wl_region ?_
  refine st_val (.int .i64 v) (by kernel_rfl) (by kernel_rfl) ?_
  refine st_val (.int .i64 s) (by kernel_rfl) (by kernel_rfl) ?_
  refine st_val (.int .i64 (v.tdiv s)) (by kernel_rfl) (run_value_bin .quo 3 3 (.tmp 7) (.tmp 8) rfl (.int .i64 v) (.int .i64 s) _ (by kernel_rfl) (by kernel_rfl) (by kernel_rfl) (bin_quo (by omega) (i64_wrap (by have := b1.1; have := b1.2 (by omega); omega)))) ?_
  refine st_val (.int .i64 (v.tdiv s)) (by kernel_rfl) (by kernel_rfl) ?_
  refine wl_nil ?_
  refine hK2 _ _ ?_
  try clear hK2 K2
  refine wp_seq_k (fun K3 hK3 => ?_)
  refine wl_region ?_
  refine st_val (.int .i64 v) (by kernel_rfl) (by kernel_rfl) ?_
  refine st_val (.int .i64 s) (by kernel_rfl) (by kernel_rfl) ?_
  refine st_val (.int .i64 (v.tmod s)) (by kernel_rfl) (run_value_bin .rem 3 3 (.tmp 10) (.tmp 11) rfl (.int .i64 v) (.int .i64 s) _ (by kernel_rfl) (by kernel_rfl) (by kernel_rfl) (bin_rem (by omega) rfl)) ?_
  refine st_val (.int .i64 (v.tmod s)) (by kernel_rfl) (by kernel_rfl) ?_
  refine wl_nil ?_
  refine hK3 _ _ ?_
  try clear hK3 K3
  refine wp_seq_k (fun K4 hK4 => ?_)
  refine wp_seq_k (fun K5 hK5 => ?_)
  refine wl_region ?_
  refine st_val (.int .i64 (v.tmod s)) (by kernel_rfl) (by kernel_rfl) ?_
  rcases Decidable.em ((v.tmod s : Int) < 0) with c14 | c14
  ·
    refine st_val (.bool true) (by kernel_rfl) (bool_of (dec_t c14) (by kernel_rfl)) ?_
    refine wl_nil ?_
    refine hK5 _ _ ?_
    try clear hK5 K5
    refine wp_cond_true (by kernel_rfl) ?_
    refine wl_region ?_
    refine st_val (.int .i64 (v.tmod s)) (by kernel_rfl) (by kernel_rfl) ?_
    refine st_val (.int .i64 (-(v.tmod s))) (by kernel_rfl) (int_of (show (0 : Int) - (v.tmod s) = -(v.tmod s) by omega) (i64_of (by omega) (by kernel_rfl))) ?_
    refine st_val (.int .i64 (-(v.tmod s))) (by kernel_rfl) (by kernel_rfl) ?_
    refine wl_nil ?_
    refine hK4 _ _ ?_
    try clear hK4 K4
    refine wp_frame (a' := ⟨#[.int .i64 v, .int .i64 s, undef, undef, .int .i64 0, .int .i64 (v.tdiv s), .int .i64 (-(v.tmod s)), .int .i64 v, .int .i64 s, .int .i64 (v.tdiv s), .int .i64 v, .int .i64 s, .int .i64 (v.tmod s), .int .i64 (v.tmod s), .bool true, .int .i64 (v.tmod s), .int .i64 (-(v.tmod s)), undef, undef, undef, undef, undef, undef, undef, undef, undef, undef, undef, undef], []⟩) (by kernel_rfl) ?_
    refine wp_seq_k (fun K6 hK6 => ?_)
    refine wp_seq_k (fun K7 hK7 => ?_)
    refine wl_region ?_
    refine st_val (.int .i64 (-(v.tmod s))) (by kernel_rfl) (by kernel_rfl) ?_
    refine st_val (.int .i64 s) (by kernel_rfl) (by kernel_rfl) ?_
    refine st_val (.int .i64 (-(v.tmod s))) (by kernel_rfl) (by kernel_rfl) ?_
    refine st_val (.int .i64 (s - (-(v.tmod s)))) (by kernel_rfl) (i64_of (by omega) (by kernel_rfl)) ?_
    rcases Decidable.em ((-(v.tmod s) : Int) < s - (-(v.tmod s))) with c21 | c21
    ·
      refine st_val (.bool true) (by kernel_rfl) (bool_of (dec_t c21) (by kernel_rfl)) ?_
      refine wl_nil ?_
      refine hK7 _ _ ?_
      try clear hK7 K7
      refine wp_cond_true (by kernel_rfl) ?_
      refine wp_seq_k (fun K8 hK8 => ?_)
      refine wl_region ?_
      refine st_val (.int .i64 (v.tdiv s)) (by kernel_rfl) (by kernel_rfl) ?_
      refine st_val (.int .i64 (v.tdiv s)) (by kernel_rfl) (by kernel_rfl) ?_
      refine wl_nil ?_
      refine hK8 _ _ ?_
      try clear hK8 K8
      refine wp_ret ?_
      refine th_ret ?_
      exact done1 4 (.int .i64 (v.tdiv s)) (by kernel_rfl) (by kernel_rfl) (by kernel_rfl) ⟨by rw [show v.tdiv s = lv v s from b3.1 c14 c21], M0.toBelow⟩
    ·
      refine st_val (.bool false) (by kernel_rfl) (bool_of (dec_f c21) (by kernel_rfl)) ?_
      refine wl_nil ?_
      refine hK7 _ _ ?_
      try clear hK7 K7
      refine wp_cond_false (by kernel_rfl) ?_
      refine wp_skip ?_
      refine hK6 _ _ ?_
      try clear hK6 K6
      refine wp_seq_k (fun K9 hK9 => ?_)
      refine wp_seq_k (fun K10 hK10 => ?_)
      refine wl_region ?_
      refine st_val (.int .i64 v) (by kernel_rfl) (by kernel_rfl) ?_
      rcases Decidable.em ((v : Int) < 0) with c24 | c24
      ·
        refine st_val (.bool true) (by kernel_rfl) (bool_of (dec_t c24) (by kernel_rfl)) ?_
        refine wl_nil ?_
        refine hK10 _ _ ?_
        try clear hK10 K10
        refine wp_cond_true (by kernel_rfl) ?_
        refine wp_seq_k (fun K11 hK11 => ?_)
        refine wl_region ?_
        refine st_val (.int .i64 (v.tdiv s)) (by kernel_rfl) (by kernel_rfl) ?_
        refine st_val (.int .i64 ((v.tdiv s) - 1)) (by kernel_rfl) (i64_of (by have := b1.2 (by omega); omega) (by kernel_rfl)) ?_
        refine st_val (.int .i64 ((v.tdiv s) - 1)) (by kernel_rfl) (by kernel_rfl) ?_
        refine wl_nil ?_
        refine hK11 _ _ ?_
        try clear hK11 K11
        refine wp_ret ?_
        refine th_ret ?_
        exact done1 4 (.int .i64 ((v.tdiv s) - 1)) (by kernel_rfl) (by kernel_rfl) (by kernel_rfl) ⟨by rw [show (v.tdiv s) - 1 = lv v s from b3.2.2.1 c14 c21 c24], M0.toBelow⟩
      ·
        refine st_val (.bool false) (by kernel_rfl) (bool_of (dec_f c24) (by kernel_rfl)) ?_
        refine wl_nil ?_
        refine hK10 _ _ ?_
        try clear hK10 K10
        refine wp_cond_false (by kernel_rfl) ?_
        refine wp_skip ?_
        refine hK9 _ _ ?_
        try clear hK9 K9
        refine wp_seq_k (fun K12 hK12 => ?_)
        refine wl_region ?_
        refine st_val (.int .i64 (v.tdiv s)) (by kernel_rfl) (by kernel_rfl) ?_
        refine st_val (.int .i64 ((v.tdiv s) + 1)) (by kernel_rfl) (i64_of (by have := b1.2 (by omega); omega) (by kernel_rfl)) ?_
        refine st_val (.int .i64 ((v.tdiv s) + 1)) (by kernel_rfl) (by kernel_rfl) ?_
        refine wl_nil ?_
        refine hK12 _ _ ?_
        try clear hK12 K12
        refine wp_ret ?_
        exact done1 4 (.int .i64 ((v.tdiv s) + 1)) (by kernel_rfl) (by kernel_rfl) (by kernel_rfl) ⟨by rw [show (v.tdiv s) + 1 = lv v s from b3.2.2.2.2.1 c14 c21 c24], M0.toBelow⟩
  ·
    refine st_val (.bool false) (by kernel_rfl) (bool_of (dec_f c14) (by kernel_rfl)) ?_
    refine wl_nil ?_
    refine hK5 _ _ ?_
    try clear hK5 K5
    refine wp_cond_false (by kernel_rfl) ?_
    refine wp_skip ?_
    refine hK4 _ _ ?_
    try clear hK4 K4
    refine wp_seq_k (fun K13 hK13 => ?_)
    refine wp_seq_k (fun K14 hK14 => ?_)
    refine wl_region ?_
    refine st_val (.int .i64 (v.tmod s)) (by kernel_rfl) (by kernel_rfl) ?_
    refine st_val (.int .i64 s) (by kernel_rfl) (by kernel_rfl) ?_
    refine st_val (.int .i64 (v.tmod s)) (by kernel_rfl) (by kernel_rfl) ?_
    refine st_val (.int .i64 (s - (v.tmod s))) (by kernel_rfl) (i64_of (by omega) (by kernel_rfl)) ?_
    rcases Decidable.em ((v.tmod s : Int) < s - (v.tmod s)) with c21 | c21
    ·
      refine st_val (.bool true) (by kernel_rfl) (bool_of (dec_t c21) (by kernel_rfl)) ?_
      refine wl_nil ?_
      refine hK14 _ _ ?_
      try clear hK14 K14
      refine wp_frame (a' := ⟨#[.int .i64 v, .int .i64 s, undef, undef, .int .i64 0, .int .i64 (v.tdiv s), .int .i64 (v.tmod s), .int .i64 v, .int .i64 s, .int .i64 (v.tdiv s), .int .i64 v, .int .i64 s, .int .i64 (v.tmod s), .int .i64 (v.tmod s), .bool false, undef, undef, .int .i64 (v.tmod s), .int .i64 s, .int .i64 (v.tmod s), .int .i64 (s - (v.tmod s)), .bool true, undef, undef, undef, undef, undef, undef, undef], []⟩) (by kernel_rfl) ?_
      refine wp_cond_true (by kernel_rfl) ?_
      refine wp_seq_k (fun K15 hK15 => ?_)
      refine wl_region ?_
      refine st_val (.int .i64 (v.tdiv s)) (by kernel_rfl) (by kernel_rfl) ?_
      refine st_val (.int .i64 (v.tdiv s)) (by kernel_rfl) (by kernel_rfl) ?_
      refine wl_nil ?_
      refine hK15 _ _ ?_
      try clear hK15 K15
      refine wp_ret ?_
      refine th_ret ?_
      exact done1 4 (.int .i64 (v.tdiv s)) (by kernel_rfl) (by kernel_rfl) (by kernel_rfl) ⟨by rw [show v.tdiv s = lv v s from b3.2.1 c14 c21], M0.toBelow⟩
    ·
      refine st_val (.bool false) (by kernel_rfl) (bool_of (dec_f c21) (by kernel_rfl)) ?_
      refine wl_nil ?_
      refine hK14 _ _ ?_
      try clear hK14 K14
      refine wp_frame (a' := ⟨#[.int .i64 v, .int .i64 s, undef, undef, .int .i64 0, .int .i64 (v.tdiv s), .int .i64 (v.tmod s), .int .i64 v, .int .i64 s, .int .i64 (v.tdiv s), .int .i64 v, .int .i64 s, .int .i64 (v.tmod s), .int .i64 (v.tmod s), .bool false, undef, undef, .int .i64 (v.tmod s), .int .i64 s, .int .i64 (v.tmod s), .int .i64 (s - (v.tmod s)), .bool false, undef, undef, undef, undef, undef, undef, undef], []⟩) (by kernel_rfl) ?_
      refine wp_cond_false (by kernel_rfl) ?_
      refine wp_skip ?_
      refine hK13 _ _ ?_
      try clear hK13 K13
      refine wp_seq_k (fun K16 hK16 => ?_)
      refine wp_seq_k (fun K17 hK17 => ?_)
      refine wl_region ?_
      refine st_val (.int .i64 v) (by kernel_rfl) (by kernel_rfl) ?_
      rcases Decidable.em ((v : Int) < 0) with c24 | c24
      ·
        refine st_val (.bool true) (by kernel_rfl) (bool_of (dec_t c24) (by kernel_rfl)) ?_
        refine wl_nil ?_
        refine hK17 _ _ ?_
        try clear hK17 K17
        refine wp_cond_true (by kernel_rfl) ?_
        refine wp_seq_k (fun K18 hK18 => ?_)
        refine wl_region ?_
        refine st_val (.int .i64 (v.tdiv s)) (by kernel_rfl) (by kernel_rfl) ?_
        refine st_val (.int .i64 ((v.tdiv s) - 1)) (by kernel_rfl) (i64_of (by have := b1.2 (by omega); omega) (by kernel_rfl)) ?_
        refine st_val (.int .i64 ((v.tdiv s) - 1)) (by kernel_rfl) (by kernel_rfl) ?_
        refine wl_nil ?_
        refine hK18 _ _ ?_
        try clear hK18 K18
        refine wp_ret ?_
        refine th_ret ?_
        exact done1 4 (.int .i64 ((v.tdiv s) - 1)) (by kernel_rfl) (by kernel_rfl) (by kernel_rfl) ⟨by rw [show (v.tdiv s) - 1 = lv v s from b3.2.2.2.1 c14 c21 c24], M0.toBelow⟩
      ·
        refine st_val (.bool false) (by kernel_rfl) (bool_of (dec_f c24) (by kernel_rfl)) ?_
        refine wl_nil ?_
        refine hK17 _ _ ?_
        try clear hK17 K17
        refine wp_cond_false (by kernel_rfl) ?_
        refine wp_skip ?_
        refine hK16 _ _ ?_
        try clear hK16 K16
        refine wp_seq_k (fun K19 hK19 => ?_)
        refine wl_region ?_
        refine st_val (.int .i64 (v.tdiv s)) (by kernel_rfl) (by kernel_rfl) ?_
        refine st_val (.int .i64 ((v.tdiv s) + 1)) (by kernel_rfl) (i64_of (by have := b1.2 (by omega); omega) (by kernel_rfl)) ?_
        refine st_val (.int .i64 ((v.tdiv s) + 1)) (by kernel_rfl) (by kernel_rfl) ?_
        refine wl_nil ?_
        refine hK19 _ _ ?_
        try clear hK19 K19
        refine wp_ret ?_
        exact done1 4 (.int .i64 ((v.tdiv s) + 1)) (by kernel_rfl) (by kernel_rfl) (by kernel_rfl) ⟨by rw [show (v.tdiv s) + 1 = lv v s from b3.2.2.2.2.2 c14 c21 c24], M0.toBelow⟩
end Go.Proofs.Ytjclncmpfdfkfaa
