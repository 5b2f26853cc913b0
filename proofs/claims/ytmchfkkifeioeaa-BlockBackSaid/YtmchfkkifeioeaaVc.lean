/- Codes are written. -/
import Derived.Test.YtmchfkkifeioeaaVn
namespace Go.Proofs.Ytmchfkkifeioeaa
open Go.RowKit Bt

theorem bitsS_U {v : Int} (h : mayS v) : bitsS v = bitsU (unsg v) := by unfold bitsS bitsU; rw [if_pos h, if_pos (unsg_may h)]
theorem errS_U {v : Int} (h : mayS v) : errS v = errU (unsg v) := by unfold errS errU; rw [if_pos h, if_pos (unsg_may h)]
theorem bitsU_rng (v : Int) : 0 ≤ bitsU v ∧ bitsU v ≤ 31 := by rw [← codeU_len]; have := codeU_le v; omega
theorem bitsS_rng (v : Int) : 0 ≤ bitsS v ∧ bitsS v ≤ 31 := by rw [← codeS_len]; have := codeS_le v; omega
theorem wPutN (w : World) {g : Nat} {l : List Nat} {T : List (Nat × Obj)} (h : OwnW g l T) (M : Mem (fun k => k ∈ T.map (·.1)) w w T) (v n : Nat) (hl : l.length ≤ 1000000000) (hv : v < 4294967296) (hn : n ≤ 32) (hr : v < 2 ^ n) :
    UpdRow Try.prog 42 #[.pointer (some ⟨g, 0, none⟩), .int .u32 (v : Int), .int .i64 (n : Int)] w T (fun r T' => r = .int .i64 0 ∧ OwnW g (l ++ bitsOf v n) T') := by
  have := wPutM w h M v n hl (by omega) (by omega) (by
    rw [Int.toNat_natCast]
    have : ((v : Int) / 2 ^ n) = ((v / 2 ^ n : Nat) : Int) := by rw [Int.natCast_ediv, Int.natCast_pow]; rfl
    rw [this, Nat.div_eq_of_lt hr]
    exact Int.le_refl _)
  simpa using this
theorem two_pos (k : Nat) : 0 < 2 ^ k := Nat.pow_pos (by decide)
set_option maxHeartbeats 4000000 in
set_option maxRecDepth 100000 in
theorem bits_vlc (w : World) (v : Int) (hv : -9223372036854775808 ≤ v ∧ v ≤ 9223372036854775807) : Calls Try.prog 31 #[.int .i64 v] w fun e w' => e = .returned (.int .i64 (bitsU v)) ∧ Below w.heap.size w w' := by
  refine calls_of_wp Try.func31 rfl ?_
  refine wp_frame (a' := ⟨#[.int .i64 v, undef, undef, undef, undef, undef, undef, undef, undef, undef, undef, undef, undef, undef, undef], []⟩) (by kernel_rfl) ?_
  have M0 : Mem NoS w w [] := Mem.start _ _
  refine wp_seq_k (fun K1 hK1 => ?_)
  refine wl_region ?_
  refine st_val (.int .i64 0) (by kernel_rfl) (by kernel_rfl) ?_
  refine wl_nil ?_
  refine hK1 _ _ ?_
  try clear hK1 K1
  refine wp_seq_k (fun K2 hK2 => ?_)
  refine wp_seq_k (fun K3 hK3 => ?_)
  refine wl_region ?_
  refine st_val (.int .i64 v) (by kernel_rfl) (by kernel_rfl) ?_
  rcases Decidable.em ((v : Int) < 0) with c4 | c4
  ·
    refine st_val (.bool true) (by kernel_rfl) (bool_of (dec_t c4) (by kernel_rfl)) ?_
    refine st_val (.bool true) (by kernel_rfl) (by kernel_rfl) ?_
    refine st_skip (by kernel_rfl) ?_
    refine st_skip (by kernel_rfl) ?_
    refine st_val (.bool true) (by kernel_rfl) (by kernel_rfl) ?_
    refine wl_nil ?_
    refine hK3 _ _ ?_
    try clear hK3 K3
    refine wp_cond_true (by kernel_rfl) ?_
    refine wp_seq_k (fun K4 hK4 => ?_)
    refine wl_region ?_
    refine st_val (.int .i64 0) (by kernel_rfl) (by kernel_rfl) ?_
    refine wl_nil ?_
    refine hK4 _ _ ?_
    try clear hK4 K4
    refine wp_ret ?_
    refine th_ret ?_
    exact done1 2 (.int .i64 0) (by kernel_rfl) (by kernel_rfl) (by kernel_rfl) ⟨by rw [show bitsU v = 0 from if_neg (fun h => by have := h.1; have := h.2; omega)], M0.toBelow⟩
  ·
    refine st_val (.bool false) (by kernel_rfl) (bool_of (dec_f c4) (by kernel_rfl)) ?_
    refine st_val (.bool false) (by kernel_rfl) (by kernel_rfl) ?_
    refine st_val (.int .i64 v) (by kernel_rfl) (by kernel_rfl) ?_
    rcases Decidable.em ((v : Int) > 65534) with c7 | c7
    ·
      refine st_val (.bool true) (by kernel_rfl) (bool_of (dec_t c7) (by kernel_rfl)) ?_
      refine st_val (.bool true) (by kernel_rfl) (by kernel_rfl) ?_
      refine wl_nil ?_
      refine hK3 _ _ ?_
      try clear hK3 K3
      refine wp_cond_true (by kernel_rfl) ?_
      refine wp_seq_k (fun K5 hK5 => ?_)
      refine wl_region ?_
      refine st_val (.int .i64 0) (by kernel_rfl) (by kernel_rfl) ?_
      refine wl_nil ?_
      refine hK5 _ _ ?_
      try clear hK5 K5
      refine wp_ret ?_
      refine th_ret ?_
      exact done1 2 (.int .i64 0) (by kernel_rfl) (by kernel_rfl) (by kernel_rfl) ⟨by rw [show bitsU v = 0 from if_neg (fun h => by have := h.1; have := h.2; omega)], M0.toBelow⟩
    ·
      refine st_val (.bool false) (by kernel_rfl) (bool_of (dec_f c7) (by kernel_rfl)) ?_
      refine st_val (.bool false) (by kernel_rfl) (by kernel_rfl) ?_
      refine wl_nil ?_
      refine hK3 _ _ ?_
      try clear hK3 K3
      refine wp_cond_false (by kernel_rfl) ?_
      refine wp_skip ?_
      refine hK2 _ _ ?_
      try clear hK2 K2
      refine wp_seq_k (fun K6 hK6 => ?_)
      have hlp := lenN_pos v.toNat
      have hk := kOf_lt (v := v.toNat) (by omega)
      refine wl_region ?_
      refine st_val (.int .i64 v) (by kernel_rfl) (by kernel_rfl) ?_
      refine st_val (.int .i64 (v + 1)) (by kernel_rfl) (i64_of (by omega) (by kernel_rfl)) ?_
      refine st_val (.int .u64 ((v.toNat + 1 : Nat) : Int)) (by kernel_rfl) (int_of (show IntKind.u64.wrap (v + 1) = ((v.toNat + 1 : Nat) : Int) by rw [wrap_u64 (by omega)]; omega) (by kernel_rfl)) ?_
      refine st_callB M0 (.int .i64 ((lenN (v.toNat + 1) : Nat) : Int)) (by kernel_rfl) (args := #[.int .u64 ((v.toNat + 1 : Nat) : Int)]) (run_value_call 43 #[(Operand.tmp 11)] _ rfl Try.func43 (by kernel_rfl) (by kernel_rfl) _ (by kernel_rfl)) (len_walk w (v.toNat + 1) (by omega)) ?_
      intro W7 M8
      refine st_val (.int .i64 (2 * ((lenN (v.toNat + 1) : Nat) : Int))) (by kernel_rfl) (i64_of (by omega) (by kernel_rfl)) ?_
      refine st_val (.int .i64 ((2 * ((lenN (v.toNat + 1) : Nat) : Int)) - 1)) (by kernel_rfl) (i64_of (by omega) (by kernel_rfl)) ?_
      refine st_val (.int .i64 ((2 * ((lenN (v.toNat + 1) : Nat) : Int)) - 1)) (by kernel_rfl) (by kernel_rfl) ?_
      refine wl_nil ?_
      refine hK6 _ _ ?_
      try clear hK6 K6
      refine wp_frame (a' := ⟨#[.int .i64 v, undef, .int .i64 ((2 * ((lenN (v.toNat + 1) : Nat) : Int)) - 1), .int .i64 v, .bool false, .bool false, .int .i64 v, .bool false, .bool false, .int .i64 v, .int .i64 (v + 1), .int .u64 ((v.toNat + 1 : Nat) : Int), .int .i64 ((lenN (v.toNat + 1) : Nat) : Int), .int .i64 (2 * ((lenN (v.toNat + 1) : Nat) : Int)), .int .i64 ((2 * ((lenN (v.toNat + 1) : Nat) : Int)) - 1)], []⟩) (by kernel_rfl) ?_
      refine wp_ret ?_
      exact done1 2 (.int .i64 ((2 * ((lenN (v.toNat + 1) : Nat) : Int)) - 1)) (by kernel_rfl) (by kernel_rfl) (by kernel_rfl) ⟨by rw [show bitsU v = 2 * (kOf v.toNat : Int) + 1 from if_pos ⟨by omega, by omega⟩, show (2 * ((lenN (v.toNat + 1) : Nat) : Int)) - 1 = 2 * (kOf v.toNat : Int) + 1 by omega], M8.toBelow⟩
set_option maxHeartbeats 4000000 in
set_option maxRecDepth 100000 in
theorem unsg_walk (w : World) (v : Int) (hv : mayS v) : Calls Try.prog 44 #[.int .i64 v] w fun e w' => e = .returned (.int .i64 (unsg v)) ∧ Below w.heap.size w w' := by
  obtain ⟨hv1, hv2⟩ := hv
  refine calls_of_wp Try.func44 rfl ?_
  refine wp_frame (a' := ⟨#[.int .i64 v, undef, undef, undef, undef, undef, undef, undef, undef, undef], []⟩) (by kernel_rfl) ?_
  have M0 : Mem NoS w w [] := Mem.start _ _
  refine wp_seq_k (fun K1 hK1 => ?_)
  refine wl_region ?_
  refine st_val (.int .i64 0) (by kernel_rfl) (by kernel_rfl) ?_
  refine wl_nil ?_
  refine hK1 _ _ ?_
  try clear hK1 K1
  refine wp_seq_k (fun K2 hK2 => ?_)
  refine wp_seq_k (fun K3 hK3 => ?_)
  refine wl_region ?_
  refine st_val (.int .i64 v) (by kernel_rfl) (by kernel_rfl) ?_
  rcases Decidable.em ((v : Int) > 0) with c4 | c4
  ·
    refine st_val (.bool true) (by kernel_rfl) (bool_of (dec_t c4) (by kernel_rfl)) ?_
    refine wl_nil ?_
    refine hK3 _ _ ?_
    try clear hK3 K3
    refine wp_cond_true (by kernel_rfl) ?_
    refine wp_seq_k (fun K4 hK4 => ?_)
    refine wl_region ?_
    refine st_val (.int .i64 v) (by kernel_rfl) (by kernel_rfl) ?_
    refine st_val (.int .i64 (2 * v)) (by kernel_rfl) (i64_of (by omega) (by kernel_rfl)) ?_
    refine st_val (.int .i64 ((2 * v) - 1)) (by kernel_rfl) (i64_of (by omega) (by kernel_rfl)) ?_
    refine st_val (.int .i64 ((2 * v) - 1)) (by kernel_rfl) (by kernel_rfl) ?_
    refine wl_nil ?_
    refine hK4 _ _ ?_
    try clear hK4 K4
    refine wp_ret ?_
    refine th_ret ?_
    exact done1 2 (.int .i64 ((2 * v) - 1)) (by kernel_rfl) (by kernel_rfl) (by kernel_rfl) ⟨by rw [show unsg v = (2 * v) - 1 from if_pos c4], M0.toBelow⟩
  ·
    refine st_val (.bool false) (by kernel_rfl) (bool_of (dec_f c4) (by kernel_rfl)) ?_
    refine wl_nil ?_
    refine hK3 _ _ ?_
    try clear hK3 K3
    refine wp_cond_false (by kernel_rfl) ?_
    refine wp_skip ?_
    refine hK2 _ _ ?_
    try clear hK2 K2
    refine wp_seq_k (fun K5 hK5 => ?_)
    refine wl_region ?_
    refine st_val (.int .i64 v) (by kernel_rfl) (by kernel_rfl) ?_
    refine st_val (.int .i64 ((-2) * v)) (by kernel_rfl) (i64_of (by omega) (by kernel_rfl)) ?_
    refine st_val (.int .i64 ((-2) * v)) (by kernel_rfl) (by kernel_rfl) ?_
    refine wl_nil ?_
    refine hK5 _ _ ?_
    try clear hK5 K5
    refine wp_ret ?_
    exact done1 2 (.int .i64 ((-2) * v)) (by kernel_rfl) (by kernel_rfl) (by kernel_rfl) ⟨by rw [show unsg v = (-2) * v from if_neg c4], M0.toBelow⟩
set_option maxHeartbeats 4000000 in
set_option maxRecDepth 100000 in
theorem sbits_vlc (w : World) (v : Int) (hv : -9223372036854775808 ≤ v ∧ v ≤ 9223372036854775807) : Calls Try.prog 32 #[.int .i64 v] w fun e w' => e = .returned (.int .i64 (bitsS v)) ∧ Below w.heap.size w w' := by
  refine calls_of_wp Try.func32 rfl ?_
  refine wp_frame (a' := ⟨#[.int .i64 v, undef, undef, undef, undef, undef, undef, undef, undef, undef, undef, undef], []⟩) (by kernel_rfl) ?_
  have M0 : Mem NoS w w [] := Mem.start _ _
  refine wp_seq_k (fun K1 hK1 => ?_)
  refine wl_region ?_
  refine st_val (.int .i64 0) (by kernel_rfl) (by kernel_rfl) ?_
  refine wl_nil ?_
  refine hK1 _ _ ?_
  try clear hK1 K1
  refine wp_seq_k (fun K2 hK2 => ?_)
  refine wp_seq_k (fun K3 hK3 => ?_)
  refine wl_region ?_
  refine st_val (.int .i64 v) (by kernel_rfl) (by kernel_rfl) ?_
  rcases Decidable.em ((v : Int) < -32767) with c4 | c4
  ·
    refine st_val (.bool true) (by kernel_rfl) (bool_of (dec_t c4) (by kernel_rfl)) ?_
    refine st_val (.bool true) (by kernel_rfl) (by kernel_rfl) ?_
    refine st_skip (by kernel_rfl) ?_
    refine st_skip (by kernel_rfl) ?_
    refine st_val (.bool true) (by kernel_rfl) (by kernel_rfl) ?_
    refine wl_nil ?_
    refine hK3 _ _ ?_
    try clear hK3 K3
    refine wp_cond_true (by kernel_rfl) ?_
    refine wp_seq_k (fun K4 hK4 => ?_)
    refine wl_region ?_
    refine st_val (.int .i64 0) (by kernel_rfl) (by kernel_rfl) ?_
    refine wl_nil ?_
    refine hK4 _ _ ?_
    try clear hK4 K4
    refine wp_ret ?_
    refine th_ret ?_
    exact done1 2 (.int .i64 0) (by kernel_rfl) (by kernel_rfl) (by kernel_rfl) ⟨by rw [show bitsS v = 0 from if_neg (fun h => by have := h.1; have := h.2; omega)], M0.toBelow⟩
  ·
    refine st_val (.bool false) (by kernel_rfl) (bool_of (dec_f c4) (by kernel_rfl)) ?_
    refine st_val (.bool false) (by kernel_rfl) (by kernel_rfl) ?_
    refine st_val (.int .i64 v) (by kernel_rfl) (by kernel_rfl) ?_
    rcases Decidable.em ((v : Int) > 32767) with c7 | c7
    ·
      refine st_val (.bool true) (by kernel_rfl) (bool_of (dec_t c7) (by kernel_rfl)) ?_
      refine st_val (.bool true) (by kernel_rfl) (by kernel_rfl) ?_
      refine wl_nil ?_
      refine hK3 _ _ ?_
      try clear hK3 K3
      refine wp_cond_true (by kernel_rfl) ?_
      refine wp_seq_k (fun K5 hK5 => ?_)
      refine wl_region ?_
      refine st_val (.int .i64 0) (by kernel_rfl) (by kernel_rfl) ?_
      refine wl_nil ?_
      refine hK5 _ _ ?_
      try clear hK5 K5
      refine wp_ret ?_
      refine th_ret ?_
      exact done1 2 (.int .i64 0) (by kernel_rfl) (by kernel_rfl) (by kernel_rfl) ⟨by rw [show bitsS v = 0 from if_neg (fun h => by have := h.1; have := h.2; omega)], M0.toBelow⟩
    ·
      refine st_val (.bool false) (by kernel_rfl) (bool_of (dec_f c7) (by kernel_rfl)) ?_
      refine st_val (.bool false) (by kernel_rfl) (by kernel_rfl) ?_
      refine wl_nil ?_
      refine hK3 _ _ ?_
      try clear hK3 K3
      refine wp_cond_false (by kernel_rfl) ?_
      refine wp_skip ?_
      refine hK2 _ _ ?_
      try clear hK2 K2
      refine wp_seq_k (fun K6 hK6 => ?_)
      refine wl_region ?_
      refine st_val (.int .i64 v) (by kernel_rfl) (by kernel_rfl) ?_
      refine st_callB M0 (.int .i64 (unsg v)) (by kernel_rfl) (args := #[.int .i64 v]) (run_value_call 44 #[(Operand.tmp 9)] _ rfl Try.func44 (by kernel_rfl) (by kernel_rfl) _ (by kernel_rfl)) (unsg_walk w v ⟨by omega, by omega⟩) ?_
      intro W7 M8
      refine st_callB M8 (.int .i64 (bitsU (unsg v))) (by kernel_rfl) (args := #[.int .i64 (unsg v)]) (run_value_call 31 #[(Operand.tmp 10)] _ rfl Try.func31 (by kernel_rfl) (by kernel_rfl) _ (by kernel_rfl)) (bits_vlc W7 (unsg v) (by have h := unsg_may (v := v) ⟨by omega, by omega⟩; have := h.1; have := h.2; omega)) ?_
      intro W9 M10
      refine st_val (.int .i64 (bitsU (unsg v))) (by kernel_rfl) (by kernel_rfl) ?_
      refine wl_nil ?_
      refine hK6 _ _ ?_
      try clear hK6 K6
      refine wp_ret ?_
      exact done1 2 (.int .i64 (bitsU (unsg v))) (by kernel_rfl) (by kernel_rfl) (by kernel_rfl) ⟨by rw [show bitsS v = bitsU (unsg v) from bitsS_U ⟨by omega, by omega⟩], M10.toBelow⟩
set_option maxHeartbeats 4000000 in
set_option maxRecDepth 100000 in
theorem putU_nil (w : World) (v : Int) : Calls Try.prog 26 #[.pointer none, .int .i64 v] w fun e w' => e = .returned (.int .i64 1) ∧ Below w.heap.size w w' := by
  refine calls_of_wp Try.func26 rfl ?_
  refine wp_frame (a' := ⟨#[.pointer none, .int .i64 v, undef, undef, undef, undef, undef, undef, undef, undef, undef, undef, undef, undef, undef, undef, undef, undef, undef, undef, undef, undef, undef, undef, undef, undef, undef, undef, undef, undef, undef, undef, undef, undef, undef, undef, undef, undef], []⟩) (by kernel_rfl) ?_
  have M0 : Mem NoS w w [] := Mem.start _ _
  refine wp_seq_k (fun K1 hK1 => ?_)
  refine wl_region ?_
  refine st_val (.int .i64 0) (by kernel_rfl) (by kernel_rfl) ?_
  refine wl_nil ?_
  refine hK1 _ _ ?_
  try clear hK1 K1
  refine wp_seq_k (fun K2 hK2 => ?_)
  refine wp_block ?_
  refine wp_seq_k (fun K3 hK3 => ?_)
  refine wl_region ?_
  refine st_val (.pointer none) (by kernel_rfl) (by kernel_rfl) ?_
  refine st_val (.bool true) (by kernel_rfl) (by kernel_rfl) ?_
  refine st_val (.bool true) (by kernel_rfl) (by kernel_rfl) ?_
  refine wl_nil ?_
  refine hK3 _ _ ?_
  try clear hK3 K3
  refine wp_cond_true (by kernel_rfl) ?_
  refine wp_seq_k (fun K4 hK4 => ?_)
  refine wl_region ?_
  refine st_val (.int .i64 1) (by kernel_rfl) (by kernel_rfl) ?_
  refine wl_nil ?_
  refine hK4 _ _ ?_
  try clear hK4 K4
  refine wp_ret ?_
  refine blk_ret ?_
  refine th_ret ?_
  exact done1 4 (.int .i64 1) (by kernel_rfl) (by kernel_rfl) (by kernel_rfl) ⟨rfl, M0.toBelow⟩
set_option maxHeartbeats 4000000 in
set_option maxRecDepth 100000 in
theorem putU_walk (w : World) {g : Nat} {l : List Nat} {T : List (Nat × Obj)} (hO : OwnW g l T) (hT : Mem (fun k => k ∈ T.map (·.1)) w w T) (hl : l.length ≤ 900000000) (v : Int) (hv : -9223372036854775808 ≤ v ∧ v ≤ 9223372036854775807) : UpdRow Try.prog 26 #[.pointer (some ⟨g, 0, none⟩), .int .i64 v] w T (fun r T' => r = .int .i64 (errU v) ∧ OwnW g (l ++ codeU v) T') := by
  unfold UpdRow
  have M0 : Mem (fun k => k ∈ (T).map (·.1)) w w (T ++ []) := by rw [List.append_nil]; exact hT
  refine calls_of_wp Try.func26 rfl ?_
  refine wp_frame (a' := ⟨#[.pointer (some ⟨g, 0, none⟩), .int .i64 v, undef, undef, undef, undef, undef, undef, undef, undef, undef, undef, undef, undef, undef, undef, undef, undef, undef, undef, undef, undef, undef, undef, undef, undef, undef, undef, undef, undef, undef, undef, undef, undef, undef, undef, undef, undef], []⟩) (by kernel_rfl) ?_
  refine wp_seq_k (fun K1 hK1 => ?_)
  refine wl_region ?_
  refine st_val (.int .i64 0) (by kernel_rfl) (by kernel_rfl) ?_
  refine wl_nil ?_
  refine hK1 _ _ ?_
  try clear hK1 K1
  refine wp_seq_k (fun K2 hK2 => ?_)
  refine wp_block ?_
  refine wp_seq_k (fun K3 hK3 => ?_)
  refine wl_region ?_
  refine st_val (.pointer (some ⟨g, 0, none⟩)) (by kernel_rfl) (by kernel_rfl) ?_
  refine st_val (.bool false) (by kernel_rfl) (by kernel_rfl) ?_
  refine st_val (.bool false) (by kernel_rfl) (by kernel_rfl) ?_
  refine wl_nil ?_
  refine hK3 _ _ ?_
  try clear hK3 K3
  refine wp_cond_false (by kernel_rfl) ?_
  refine wp_seq_k (fun K4 hK4 => ?_)
  refine wl_region ?_
  refine st_val (.int .i64 v) (by kernel_rfl) (by kernel_rfl) ?_
  rcases Decidable.em ((v : Int) < 0) with c13 | c13
  ·
    refine st_val (.bool true) (by kernel_rfl) (bool_of (dec_t c13) (by kernel_rfl)) ?_
    refine st_val (.bool true) (by kernel_rfl) (by kernel_rfl) ?_
    refine st_skip (by kernel_rfl) ?_
    refine st_skip (by kernel_rfl) ?_
    refine st_val (.bool true) (by kernel_rfl) (by kernel_rfl) ?_
    refine st_val (.bool true) (by kernel_rfl) (by kernel_rfl) ?_
    refine wl_nil ?_
    refine hK4 _ _ ?_
    try clear hK4 K4
    refine wp_cond_true (by kernel_rfl) ?_
    refine wp_seq_k (fun K5 hK5 => ?_)
    refine wl_region ?_
    refine st_val (.int .i64 2) (by kernel_rfl) (by kernel_rfl) ?_
    refine wl_nil ?_
    refine hK5 _ _ ?_
    try clear hK5 K5
    refine wp_ret ?_
    refine blk_ret ?_
    refine th_ret ?_
    exact done1 4 (.int .i64 2) (by kernel_rfl) (by kernel_rfl) (by kernel_rfl) ⟨_, T, rfl, ⟨by rw [show errU v = 2 from if_neg (fun h => by have := h.1; have := h.2; omega)], by rw [show codeU v = [] from if_neg (fun h => by have := h.1; have := h.2; omega), List.append_nil]; exact hO⟩, hT⟩
  ·
    refine st_val (.bool false) (by kernel_rfl) (bool_of (dec_f c13) (by kernel_rfl)) ?_
    refine st_val (.bool false) (by kernel_rfl) (by kernel_rfl) ?_
    refine st_val (.int .i64 v) (by kernel_rfl) (by kernel_rfl) ?_
    rcases Decidable.em ((v : Int) > 65534) with c16 | c16
    ·
      refine st_val (.bool true) (by kernel_rfl) (bool_of (dec_t c16) (by kernel_rfl)) ?_
      refine st_val (.bool true) (by kernel_rfl) (by kernel_rfl) ?_
      refine st_val (.bool true) (by kernel_rfl) (by kernel_rfl) ?_
      refine wl_nil ?_
      refine hK4 _ _ ?_
      try clear hK4 K4
      refine wp_cond_true (by kernel_rfl) ?_
      refine wp_seq_k (fun K6 hK6 => ?_)
      refine wl_region ?_
      refine st_val (.int .i64 2) (by kernel_rfl) (by kernel_rfl) ?_
      refine wl_nil ?_
      refine hK6 _ _ ?_
      try clear hK6 K6
      refine wp_ret ?_
      refine blk_ret ?_
      refine th_ret ?_
      exact done1 4 (.int .i64 2) (by kernel_rfl) (by kernel_rfl) (by kernel_rfl) ⟨_, T, rfl, ⟨by rw [show errU v = 2 from if_neg (fun h => by have := h.1; have := h.2; omega)], by rw [show codeU v = [] from if_neg (fun h => by have := h.1; have := h.2; omega), List.append_nil]; exact hO⟩, hT⟩
    ·
      refine st_val (.bool false) (by kernel_rfl) (bool_of (dec_f c16) (by kernel_rfl)) ?_
      refine st_val (.bool false) (by kernel_rfl) (by kernel_rfl) ?_
      refine st_val (.bool false) (by kernel_rfl) (by kernel_rfl) ?_
      refine wl_nil ?_
      refine hK4 _ _ ?_
      try clear hK4 K4
      refine wp_cond_false (by kernel_rfl) ?_
      refine wp_skip ?_
      refine blk_normal ?_
      refine hK2 _ _ ?_
      try clear hK2 K2
      refine wp_seq_k (fun K7 hK7 => ?_)
      refine wl_region ?_
      refine st_val (.pointer (some ⟨g, 0, none⟩)) (by kernel_rfl) (by kernel_rfl) ?_
      refine st_val (.func (.func 42) #[.pointer (some ⟨g, 0, none⟩)] #[]) (by kernel_rfl) (by kernel_rfl) ?_
      refine st_val (.func (.func 42) #[.pointer (some ⟨g, 0, none⟩)] #[]) (by kernel_rfl) (by kernel_rfl) ?_
      refine wl_nil ?_
      refine hK7 _ _ ?_
      try clear hK7 K7
      refine wp_frame (a' := ⟨#[.pointer (some ⟨g, 0, none⟩), .int .i64 v, undef, undef, .int .i64 0, .func (.func 42) #[.pointer (some ⟨g, 0, none⟩)] #[], undef, undef, .bool false, .pointer (some ⟨g, 0, none⟩), .bool false, .bool false, .int .i64 v, .bool false, .bool false, .int .i64 v, .bool false, .bool false, .pointer (some ⟨g, 0, none⟩), .func (.func 42) #[.pointer (some ⟨g, 0, none⟩)] #[], undef, undef, undef, undef, undef, undef, undef, undef, undef, undef, undef, undef, undef, undef, undef, undef, undef, undef], []⟩) (by kernel_rfl) ?_
      refine wp_seq_k (fun K8 hK8 => ?_)
      have hlp := lenN_pos v.toNat
      have hk := kOf_lt (v := v.toNat) (by omega)
      refine wl_region ?_
      refine st_val (.int .i64 v) (by kernel_rfl) (by kernel_rfl) ?_
      refine st_val (.int .i64 (v + 1)) (by kernel_rfl) (i64_of (by omega) (by kernel_rfl)) ?_
      refine st_val (.int .u64 ((v.toNat + 1 : Nat) : Int)) (by kernel_rfl) (int_of (show IntKind.u64.wrap (v + 1) = ((v.toNat + 1 : Nat) : Int) by rw [wrap_u64 (by omega)]; omega) (by kernel_rfl)) ?_
      refine st_callB M0 (.int .i64 ((lenN (v.toNat + 1) : Nat) : Int)) (by kernel_rfl) (args := #[.int .u64 ((v.toNat + 1 : Nat) : Int)]) (run_value_call 43 #[(Operand.tmp 22)] _ rfl Try.func43 (by kernel_rfl) (by kernel_rfl) _ (by kernel_rfl)) (len_walk w (v.toNat + 1) (by omega)) ?_
      intro W9 M10
      refine st_val (.int .i64 ((kOf v.toNat : Nat) : Int)) (by kernel_rfl) (int_of (show ((lenN (v.toNat + 1) : Nat) : Int) - 1 = ((kOf v.toNat : Nat) : Int) by omega) (i64_of (by omega) (by kernel_rfl))) ?_
      refine st_val (.int .i64 ((kOf v.toNat : Nat) : Int)) (by kernel_rfl) (by kernel_rfl) ?_
      refine wl_nil ?_
      refine hK8 _ _ ?_
      try clear hK8 K8
      refine wp_seq_k (fun K11 hK11 => ?_)
      refine wp_seq_k (fun K12 hK12 => ?_)
      refine wl_region ?_
      refine st_val (.func (.func 42) #[.pointer (some ⟨g, 0, none⟩)] #[]) (by kernel_rfl) (by kernel_rfl) ?_
      refine st_val (.int .i64 ((kOf v.toNat : Nat) : Int)) (by kernel_rfl) (by kernel_rfl) ?_
      refine st_callU (A := []) (T := T) (B := []) M10 (by kernel_rfl) (run_fv_call _ _ _ rfl 42 #[.pointer (some ⟨g, 0, none⟩)] (by kernel_rfl) Try.func42 (by kernel_rfl) (by kernel_rfl) _ (by kernel_rfl)) (wPutN W9 hO (Mem.part (A := []) (T := T) (B := []) M10) 0 (kOf v.toNat) (by omega) (by omega) (by omega) (two_pos _)) ?_
      intro v13 T14 W15 O16 M17
      obtain ⟨rfl, O18⟩ := O16
      have M19 : Mem (fun k => k ∈ T.map (·.1)) w W15 ((T14 ++ [])) := M17
      refine st_val (.int .i64 0) (by kernel_rfl) (by kernel_rfl) ?_
      refine wl_nil ?_
      refine hK12 _ _ ?_
      try clear hK12 K12
      refine wp_seq_k (fun K20 hK20 => ?_)
      refine wl_region ?_
      refine st_val (.int .i64 0) (by kernel_rfl) (by kernel_rfl) ?_
      refine st_val (.bool false) (by kernel_rfl) (by kernel_rfl) ?_
      refine wl_nil ?_
      refine hK20 _ _ ?_
      try clear hK20 K20
      refine wp_cond_false (by kernel_rfl) ?_
      refine wp_skip ?_
      refine hK11 _ _ ?_
      try clear hK11 K11
      refine wp_seq_k (fun K21 hK21 => ?_)
      refine wl_region ?_
      refine st_val (.func (.func 42) #[.pointer (some ⟨g, 0, none⟩)] #[]) (by kernel_rfl) (by kernel_rfl) ?_
      refine st_val (.int .i64 v) (by kernel_rfl) (by kernel_rfl) ?_
      refine st_val (.int .i64 (v + 1)) (by kernel_rfl) (i64_of (by omega) (by kernel_rfl)) ?_
      refine st_val (.int .u32 ((v.toNat + 1 : Nat) : Int)) (by kernel_rfl) (int_of (show IntKind.u32.wrap (v + 1) = ((v.toNat + 1 : Nat) : Int) by rw [wrap_u32 (by omega)]; omega) (by kernel_rfl)) ?_
      refine st_val (.int .i64 ((kOf v.toNat : Nat) : Int)) (by kernel_rfl) (by kernel_rfl) ?_
      refine st_val (.int .i64 ((kOf v.toNat + 1 : Nat) : Int)) (by kernel_rfl) (int_of (show ((kOf v.toNat : Nat) : Int) + 1 = ((kOf v.toNat + 1 : Nat) : Int) by omega) (i64_of (by omega) (by kernel_rfl))) ?_
      refine st_callU (A := []) (T := T14) (B := []) M19 (by kernel_rfl) (run_fv_call _ _ _ rfl 42 #[.pointer (some ⟨g, 0, none⟩)] (by kernel_rfl) Try.func42 (by kernel_rfl) (by kernel_rfl) _ (by kernel_rfl)) (wPutN W15 O18 (Mem.part (A := []) (T := T14) (B := []) M19) (v.toNat + 1) (kOf v.toNat + 1) (by first | omega | (simp only [List.length_append, List.length_nil, bitsOf_length]; omega)) (by omega) (by omega) (kOf_spec v.toNat).2) ?_
      intro v22 T23 W24 O25 M26
      obtain ⟨rfl, O27⟩ := O25
      have M28 : Mem (fun k => k ∈ T.map (·.1)) w W24 ((T23 ++ [])) := M26
      refine st_val (.int .i64 0) (by kernel_rfl) (by kernel_rfl) ?_
      refine wl_nil ?_
      refine hK21 _ _ ?_
      try clear hK21 K21
      refine wp_frame (a' := ⟨#[.pointer (some ⟨g, 0, none⟩), .int .i64 v, undef, undef, .int .i64 0, .func (.func 42) #[.pointer (some ⟨g, 0, none⟩)] #[], .int .i64 ((kOf v.toNat : Nat) : Int), .int .i64 0, .bool false, .pointer (some ⟨g, 0, none⟩), .bool false, .bool false, .int .i64 v, .bool false, .bool false, .int .i64 v, .bool false, .bool false, .pointer (some ⟨g, 0, none⟩), .func (.func 42) #[.pointer (some ⟨g, 0, none⟩)] #[], .int .i64 v, .int .i64 (v + 1), .int .u64 ((v.toNat + 1 : Nat) : Int), .int .i64 ((lenN (v.toNat + 1) : Nat) : Int), .int .i64 ((kOf v.toNat : Nat) : Int), .func (.func 42) #[.pointer (some ⟨g, 0, none⟩)] #[], .int .i64 ((kOf v.toNat : Nat) : Int), .int .i64 0, .int .i64 0, .bool false, undef, .func (.func 42) #[.pointer (some ⟨g, 0, none⟩)] #[], .int .i64 v, .int .i64 (v + 1), .int .u32 ((v.toNat + 1 : Nat) : Int), .int .i64 ((kOf v.toNat : Nat) : Int), .int .i64 ((kOf v.toNat + 1 : Nat) : Int), .int .i64 0], []⟩) (by kernel_rfl) ?_
      refine wp_ret ?_
      exact done1 4 (.int .i64 0) (by kernel_rfl) (by kernel_rfl) (by kernel_rfl) ⟨_, T23, rfl, ⟨by rw [show errU v = 0 from if_pos ⟨by omega, by omega⟩], by rw [show codeU v = codeN v.toNat from if_pos ⟨by omega, by omega⟩, codeN_eq, ← List.append_assoc]; exact O27⟩, M28.sub (List.sublist_append_left T23 [])⟩
set_option maxHeartbeats 4000000 in
set_option maxRecDepth 100000 in
theorem putS_nil (w : World) (v : Int) : Calls Try.prog 27 #[.pointer none, .int .i64 v] w fun e w' => e = .returned (.int .i64 1) ∧ Below w.heap.size w w' := by
  refine calls_of_wp Try.func27 rfl ?_
  refine wp_frame (a' := ⟨#[.pointer none, .int .i64 v, undef, undef, undef, undef, undef, undef, undef, undef, undef, undef, undef, undef, undef, undef, undef, undef, undef], []⟩) (by kernel_rfl) ?_
  have M0 : Mem NoS w w [] := Mem.start _ _
  refine wp_seq_k (fun K1 hK1 => ?_)
  refine wl_region ?_
  refine st_val (.int .i64 0) (by kernel_rfl) (by kernel_rfl) ?_
  refine wl_nil ?_
  refine hK1 _ _ ?_
  try clear hK1 K1
  refine wp_seq_k (fun K2 hK2 => ?_)
  refine wp_block ?_
  refine wp_seq_k (fun K3 hK3 => ?_)
  refine wl_region ?_
  refine st_val (.pointer none) (by kernel_rfl) (by kernel_rfl) ?_
  refine st_val (.bool true) (by kernel_rfl) (by kernel_rfl) ?_
  refine st_val (.bool true) (by kernel_rfl) (by kernel_rfl) ?_
  refine wl_nil ?_
  refine hK3 _ _ ?_
  try clear hK3 K3
  refine wp_cond_true (by kernel_rfl) ?_
  refine wp_seq_k (fun K4 hK4 => ?_)
  refine wl_region ?_
  refine st_val (.int .i64 1) (by kernel_rfl) (by kernel_rfl) ?_
  refine wl_nil ?_
  refine hK4 _ _ ?_
  try clear hK4 K4
  refine wp_ret ?_
  refine blk_ret ?_
  refine th_ret ?_
  exact done1 4 (.int .i64 1) (by kernel_rfl) (by kernel_rfl) (by kernel_rfl) ⟨rfl, M0.toBelow⟩
set_option maxHeartbeats 4000000 in
set_option maxRecDepth 100000 in
theorem putS_walk (w : World) {g : Nat} {l : List Nat} {T : List (Nat × Obj)} (hO : OwnW g l T) (hT : Mem (fun k => k ∈ T.map (·.1)) w w T) (hl : l.length ≤ 900000000) (v : Int) (hv : -9223372036854775808 ≤ v ∧ v ≤ 9223372036854775807) : UpdRow Try.prog 27 #[.pointer (some ⟨g, 0, none⟩), .int .i64 v] w T (fun r T' => r = .int .i64 (errS v) ∧ OwnW g (l ++ codeS v) T') := by
  unfold UpdRow
  have M0 : Mem (fun k => k ∈ (T).map (·.1)) w w (T ++ []) := by rw [List.append_nil]; exact hT
  refine calls_of_wp Try.func27 rfl ?_
  refine wp_frame (a' := ⟨#[.pointer (some ⟨g, 0, none⟩), .int .i64 v, undef, undef, undef, undef, undef, undef, undef, undef, undef, undef, undef, undef, undef, undef, undef, undef, undef], []⟩) (by kernel_rfl) ?_
  refine wp_seq_k (fun K1 hK1 => ?_)
  refine wl_region ?_
  refine st_val (.int .i64 0) (by kernel_rfl) (by kernel_rfl) ?_
  refine wl_nil ?_
  refine hK1 _ _ ?_
  try clear hK1 K1
  refine wp_seq_k (fun K2 hK2 => ?_)
  refine wp_block ?_
  refine wp_seq_k (fun K3 hK3 => ?_)
  refine wl_region ?_
  refine st_val (.pointer (some ⟨g, 0, none⟩)) (by kernel_rfl) (by kernel_rfl) ?_
  refine st_val (.bool false) (by kernel_rfl) (by kernel_rfl) ?_
  refine st_val (.bool false) (by kernel_rfl) (by kernel_rfl) ?_
  refine wl_nil ?_
  refine hK3 _ _ ?_
  try clear hK3 K3
  refine wp_cond_false (by kernel_rfl) ?_
  refine wp_seq_k (fun K4 hK4 => ?_)
  refine wl_region ?_
  refine st_val (.int .i64 v) (by kernel_rfl) (by kernel_rfl) ?_
  rcases Decidable.em ((v : Int) < -32767) with c10 | c10
  ·
    refine st_val (.bool true) (by kernel_rfl) (bool_of (dec_t c10) (by kernel_rfl)) ?_
    refine st_val (.bool true) (by kernel_rfl) (by kernel_rfl) ?_
    refine st_skip (by kernel_rfl) ?_
    refine st_skip (by kernel_rfl) ?_
    refine st_val (.bool true) (by kernel_rfl) (by kernel_rfl) ?_
    refine st_val (.bool true) (by kernel_rfl) (by kernel_rfl) ?_
    refine wl_nil ?_
    refine hK4 _ _ ?_
    try clear hK4 K4
    refine wp_cond_true (by kernel_rfl) ?_
    refine wp_seq_k (fun K5 hK5 => ?_)
    refine wl_region ?_
    refine st_val (.int .i64 2) (by kernel_rfl) (by kernel_rfl) ?_
    refine wl_nil ?_
    refine hK5 _ _ ?_
    try clear hK5 K5
    refine wp_ret ?_
    refine blk_ret ?_
    refine th_ret ?_
    exact done1 4 (.int .i64 2) (by kernel_rfl) (by kernel_rfl) (by kernel_rfl) ⟨_, T, rfl, ⟨by rw [show errS v = 2 from if_neg (fun h => by have := h.1; have := h.2; omega)], by rw [show codeS v = [] from if_neg (fun h => by have := h.1; have := h.2; omega), List.append_nil]; exact hO⟩, hT⟩
  ·
    refine st_val (.bool false) (by kernel_rfl) (bool_of (dec_f c10) (by kernel_rfl)) ?_
    refine st_val (.bool false) (by kernel_rfl) (by kernel_rfl) ?_
    refine st_val (.int .i64 v) (by kernel_rfl) (by kernel_rfl) ?_
    rcases Decidable.em ((v : Int) > 32767) with c13 | c13
    ·
      refine st_val (.bool true) (by kernel_rfl) (bool_of (dec_t c13) (by kernel_rfl)) ?_
      refine st_val (.bool true) (by kernel_rfl) (by kernel_rfl) ?_
      refine st_val (.bool true) (by kernel_rfl) (by kernel_rfl) ?_
      refine wl_nil ?_
      refine hK4 _ _ ?_
      try clear hK4 K4
      refine wp_cond_true (by kernel_rfl) ?_
      refine wp_seq_k (fun K6 hK6 => ?_)
      refine wl_region ?_
      refine st_val (.int .i64 2) (by kernel_rfl) (by kernel_rfl) ?_
      refine wl_nil ?_
      refine hK6 _ _ ?_
      try clear hK6 K6
      refine wp_ret ?_
      refine blk_ret ?_
      refine th_ret ?_
      exact done1 4 (.int .i64 2) (by kernel_rfl) (by kernel_rfl) (by kernel_rfl) ⟨_, T, rfl, ⟨by rw [show errS v = 2 from if_neg (fun h => by have := h.1; have := h.2; omega)], by rw [show codeS v = [] from if_neg (fun h => by have := h.1; have := h.2; omega), List.append_nil]; exact hO⟩, hT⟩
    ·
      refine st_val (.bool false) (by kernel_rfl) (bool_of (dec_f c13) (by kernel_rfl)) ?_
      refine st_val (.bool false) (by kernel_rfl) (by kernel_rfl) ?_
      refine st_val (.bool false) (by kernel_rfl) (by kernel_rfl) ?_
      refine wl_nil ?_
      refine hK4 _ _ ?_
      try clear hK4 K4
      refine wp_cond_false (by kernel_rfl) ?_
      refine wp_skip ?_
      refine blk_normal ?_
      refine hK2 _ _ ?_
      try clear hK2 K2
      refine wp_seq_k (fun K7 hK7 => ?_)
      have hu := unsg_may (v := v) ⟨by omega, by omega⟩
      obtain ⟨hu1, hu2⟩ := hu
      refine wl_region ?_
      refine st_val (.pointer (some ⟨g, 0, none⟩)) (by kernel_rfl) (by kernel_rfl) ?_
      refine st_val (.int .i64 v) (by kernel_rfl) (by kernel_rfl) ?_
      refine st_callB M0 (.int .i64 (unsg v)) (by kernel_rfl) (args := #[.int .i64 v]) (run_value_call 44 #[(Operand.tmp 16)] _ rfl Try.func44 (by kernel_rfl) (by kernel_rfl) _ (by kernel_rfl)) (unsg_walk w v ⟨by omega, by omega⟩) ?_
      intro W8 M9
      refine st_callU (A := []) (T := T) (B := []) M9 (by kernel_rfl) (run_value_call 26 #[(Operand.tmp 15), (Operand.tmp 17)] _ rfl Try.func26 (by kernel_rfl) (by kernel_rfl) _ (by kernel_rfl)) (putU_walk W8 hO (Mem.part (A := []) (T := T) (B := []) M9) (by first | omega | (simp only [List.length_append, List.length_nil, bitsOf_length]; omega)) (unsg v) (by omega)) ?_
      intro v10 T11 W12 O13 M14
      obtain ⟨rfl, O15⟩ := O13
      have M16 : Mem (fun k => k ∈ T.map (·.1)) w W12 ((T11 ++ [])) := M14
      refine st_val (.int .i64 (errU (unsg v))) (by kernel_rfl) (by kernel_rfl) ?_
      refine wl_nil ?_
      refine hK7 _ _ ?_
      try clear hK7 K7
      refine wp_frame (a' := ⟨#[.pointer (some ⟨g, 0, none⟩), .int .i64 v, undef, undef, .int .i64 (errU (unsg v)), .bool false, .pointer (some ⟨g, 0, none⟩), .bool false, .bool false, .int .i64 v, .bool false, .bool false, .int .i64 v, .bool false, .bool false, .pointer (some ⟨g, 0, none⟩), .int .i64 v, .int .i64 (unsg v), .int .i64 (errU (unsg v))], []⟩) (by kernel_rfl) ?_
      refine wp_ret ?_
      exact done1 4 (.int .i64 (errU (unsg v))) (by kernel_rfl) (by kernel_rfl) (by kernel_rfl) ⟨_, T11, rfl, ⟨by rw [errS_U ⟨by omega, by omega⟩], by rw [codeS_unsg ⟨by omega, by omega⟩]; exact O15⟩, M16.sub (List.sublist_append_left T11 [])⟩
end Go.Proofs.Ytmchfkkifeioeaa
