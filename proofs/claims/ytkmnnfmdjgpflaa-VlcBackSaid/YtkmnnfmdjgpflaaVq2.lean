/- Lengths of codes, as the reference has them. -/
import Derived.Test.YtkmnnfmdjgpflaaVq
namespace Go.Proofs.Ytkmnnfmdjgpflaa
open Go.RowKit Bt
set_option maxHeartbeats 4000000 in
set_option maxRecDepth 100000 in
theorem may_ref (w : World) (v : Int) : Calls Try.prog 9 #[.int .i64 v] w fun e w' => e = .returned (.bool (decide (mayU v))) ∧ Below w.heap.size w w' := by
  refine calls_of_wp Try.func9 rfl ?_
  refine wp_frame (a' := ⟨#[.int .i64 v, undef, undef, undef, undef, undef, undef, undef, undef], []⟩) (by kernel_rfl) ?_
  have M0 : Mem NoS w w [] := Mem.start _ _
  refine wp_seq_k (fun K1 hK1 => ?_)
  refine wl_region ?_
  refine st_val (.bool false) (by kernel_rfl) (by kernel_rfl) ?_
  refine wl_nil ?_
  refine hK1 _ _ ?_
  try clear hK1 K1
  refine wp_seq_k (fun K2 hK2 => ?_)
  refine wl_region ?_
  refine st_val (.int .i64 v) (by kernel_rfl) (by kernel_rfl) ?_
  rcases Decidable.em ((v : Int) ≥ 0) with c4 | c4
  ·
    refine st_val (.bool true) (by kernel_rfl) (bool_of (dec_t c4) (by kernel_rfl)) ?_
    refine st_val (.bool true) (by kernel_rfl) (by kernel_rfl) ?_
    refine st_val (.int .i64 v) (by kernel_rfl) (by kernel_rfl) ?_
    rcases Decidable.em ((v : Int) ≤ 65534) with c7 | c7
    ·
      refine st_val (.bool true) (by kernel_rfl) (bool_of (dec_t c7) (by kernel_rfl)) ?_
      refine st_val (.bool true) (by kernel_rfl) (by kernel_rfl) ?_
      refine st_val (.bool true) (by kernel_rfl) (by kernel_rfl) ?_
      refine wl_nil ?_
      refine hK2 _ _ ?_
      try clear hK2 K2
      refine wp_ret ?_
      exact done1 2 (.bool true) (by kernel_rfl) (by kernel_rfl) (by kernel_rfl) ⟨by rw [show decide (mayU v) = true from decide_eq_true ⟨by omega, by omega⟩], M0.toBelow⟩
    ·
      refine st_val (.bool false) (by kernel_rfl) (bool_of (dec_f c7) (by kernel_rfl)) ?_
      refine st_val (.bool false) (by kernel_rfl) (by kernel_rfl) ?_
      refine st_val (.bool false) (by kernel_rfl) (by kernel_rfl) ?_
      refine wl_nil ?_
      refine hK2 _ _ ?_
      try clear hK2 K2
      refine wp_ret ?_
      exact done1 2 (.bool false) (by kernel_rfl) (by kernel_rfl) (by kernel_rfl) ⟨by rw [show decide (mayU v) = false from decide_eq_false (fun h => by have := h.1; have := h.2; omega)], M0.toBelow⟩
  ·
    refine st_val (.bool false) (by kernel_rfl) (bool_of (dec_f c4) (by kernel_rfl)) ?_
    refine st_val (.bool false) (by kernel_rfl) (by kernel_rfl) ?_
    refine st_skip (by kernel_rfl) ?_
    refine st_skip (by kernel_rfl) ?_
    refine st_val (.bool false) (by kernel_rfl) (by kernel_rfl) ?_
    refine st_val (.bool false) (by kernel_rfl) (by kernel_rfl) ?_
    refine wl_nil ?_
    refine hK2 _ _ ?_
    try clear hK2 K2
    refine wp_ret ?_
    exact done1 2 (.bool false) (by kernel_rfl) (by kernel_rfl) (by kernel_rfl) ⟨by rw [show decide (mayU v) = false from decide_eq_false (fun h => by have := h.1; have := h.2; omega)], M0.toBelow⟩
set_option maxHeartbeats 4000000 in
set_option maxRecDepth 100000 in
theorem mayS_ref (w : World) (v : Int) : Calls Try.prog 23 #[.int .i64 v] w fun e w' => e = .returned (.bool (decide (mayS v))) ∧ Below w.heap.size w w' := by
  refine calls_of_wp Try.func23 rfl ?_
  refine wp_frame (a' := ⟨#[.int .i64 v, undef, undef, undef, undef, undef, undef, undef, undef], []⟩) (by kernel_rfl) ?_
  have M0 : Mem NoS w w [] := Mem.start _ _
  refine wp_seq_k (fun K1 hK1 => ?_)
  refine wl_region ?_
  refine st_val (.bool false) (by kernel_rfl) (by kernel_rfl) ?_
  refine wl_nil ?_
  refine hK1 _ _ ?_
  try clear hK1 K1
  refine wp_seq_k (fun K2 hK2 => ?_)
  refine wl_region ?_
  refine st_val (.int .i64 v) (by kernel_rfl) (by kernel_rfl) ?_
  rcases Decidable.em ((v : Int) ≥ -32767) with c4 | c4
  ·
    refine st_val (.bool true) (by kernel_rfl) (bool_of (dec_t c4) (by kernel_rfl)) ?_
    refine st_val (.bool true) (by kernel_rfl) (by kernel_rfl) ?_
    refine st_val (.int .i64 v) (by kernel_rfl) (by kernel_rfl) ?_
    rcases Decidable.em ((v : Int) ≤ 32767) with c7 | c7
    ·
      refine st_val (.bool true) (by kernel_rfl) (bool_of (dec_t c7) (by kernel_rfl)) ?_
      refine st_val (.bool true) (by kernel_rfl) (by kernel_rfl) ?_
      refine st_val (.bool true) (by kernel_rfl) (by kernel_rfl) ?_
      refine wl_nil ?_
      refine hK2 _ _ ?_
      try clear hK2 K2
      refine wp_ret ?_
      exact done1 2 (.bool true) (by kernel_rfl) (by kernel_rfl) (by kernel_rfl) ⟨by rw [show decide (mayS v) = true from decide_eq_true ⟨by omega, by omega⟩], M0.toBelow⟩
    ·
      refine st_val (.bool false) (by kernel_rfl) (bool_of (dec_f c7) (by kernel_rfl)) ?_
      refine st_val (.bool false) (by kernel_rfl) (by kernel_rfl) ?_
      refine st_val (.bool false) (by kernel_rfl) (by kernel_rfl) ?_
      refine wl_nil ?_
      refine hK2 _ _ ?_
      try clear hK2 K2
      refine wp_ret ?_
      exact done1 2 (.bool false) (by kernel_rfl) (by kernel_rfl) (by kernel_rfl) ⟨by rw [show decide (mayS v) = false from decide_eq_false (fun h => by have := h.1; have := h.2; omega)], M0.toBelow⟩
  ·
    refine st_val (.bool false) (by kernel_rfl) (bool_of (dec_f c4) (by kernel_rfl)) ?_
    refine st_val (.bool false) (by kernel_rfl) (by kernel_rfl) ?_
    refine st_skip (by kernel_rfl) ?_
    refine st_skip (by kernel_rfl) ?_
    refine st_val (.bool false) (by kernel_rfl) (by kernel_rfl) ?_
    refine st_val (.bool false) (by kernel_rfl) (by kernel_rfl) ?_
    refine wl_nil ?_
    refine hK2 _ _ ?_
    try clear hK2 K2
    refine wp_ret ?_
    exact done1 2 (.bool false) (by kernel_rfl) (by kernel_rfl) (by kernel_rfl) ⟨by rw [show decide (mayS v) = false from decide_eq_false (fun h => by have := h.1; have := h.2; omega)], M0.toBelow⟩
set_option maxHeartbeats 4000000 in
set_option maxRecDepth 100000 in
theorem bits_ref (w : World) (v : Int) : Calls Try.prog 14 #[.int .i64 v] w fun e w' => e = .returned (.int .i64 (bitsU v)) ∧ Below w.heap.size w w' := by
  refine calls_of_wp Try.func14 rfl ?_
  refine wp_frame (a' := ⟨#[.int .i64 v, undef, undef, undef, undef, undef, undef, undef, undef, undef], []⟩) (by kernel_rfl) ?_
  have M0 : Mem NoS w w [] := Mem.start _ _
  refine wp_seq_k (fun K1 hK1 => ?_)
  refine wl_region ?_
  refine st_val (.int .i64 0) (by kernel_rfl) (by kernel_rfl) ?_
  refine wl_nil ?_
  refine hK1 _ _ ?_
  try clear hK1 K1
  refine wp_seq_k (fun K2 hK2 => ?_)
  refine wp_seq_k (fun K3 hK3 => ?_)
  refine wl_region ?_
  refine st_val (.int .i64 v) (by kernel_rfl) (by kernel_rfl) ?_
  rcases Classical.em (mayU v) with hm | hm
  ·
    refine st_callB M0 (.bool true) (by kernel_rfl) (args := #[.int .i64 v]) (run_value_call 9 #[(Operand.tmp 3)] _ rfl Try.func9 (by kernel_rfl) (by kernel_rfl) _ (by kernel_rfl)) ((by have := may_ref w v; rw [decide_eq_true hm] at this; exact this)) ?_
    intro W4 M5
    refine st_val (.bool false) (by kernel_rfl) (by kernel_rfl) ?_
    refine wl_nil ?_
    refine hK3 _ _ ?_
    try clear hK3 K3
    refine wp_cond_false (by kernel_rfl) ?_
    refine wp_skip ?_
    refine hK2 _ _ ?_
    try clear hK2 K2
    refine wp_seq_k (fun K6 hK6 => ?_)
    have hm1 := hm.1
    have hm2 := hm.2
    have hk := kOf_lt (v := v.toNat) (by omega)
    refine wl_region ?_
    refine st_val (.int .i64 v) (by kernel_rfl) (by kernel_rfl) ?_
    refine st_callB M5 (.int .i64 ((kOf v.toNat : Nat) : Int)) (by kernel_rfl) (args := #[.int .i64 v]) (run_value_call 35 #[(Operand.tmp 6)] _ rfl Try.func35 (by kernel_rfl) (by kernel_rfl) _ (by kernel_rfl)) ((by have := half_walk W4 v.toNat (by omega); rw [show ((v.toNat : Nat) : Int) = v by omega] at this; exact this)) ?_
    intro W7 M8
    refine st_val (.int .i64 (2 * ((kOf v.toNat : Nat) : Int))) (by kernel_rfl) (i64_of (by omega) (by kernel_rfl)) ?_
    refine st_val (.int .i64 ((2 * ((kOf v.toNat : Nat) : Int)) + 1)) (by kernel_rfl) (i64_of (by omega) (by kernel_rfl)) ?_
    refine st_val (.int .i64 ((2 * ((kOf v.toNat : Nat) : Int)) + 1)) (by kernel_rfl) (by kernel_rfl) ?_
    refine wl_nil ?_
    refine hK6 _ _ ?_
    try clear hK6 K6
    refine wp_ret ?_
    exact done1 2 (.int .i64 ((2 * ((kOf v.toNat : Nat) : Int)) + 1)) (by kernel_rfl) (by kernel_rfl) (by kernel_rfl) ⟨by rw [show bitsU v = 2 * (kOf v.toNat : Int) + 1 from if_pos hm], M8.toBelow⟩
  ·
    refine st_callB M0 (.bool false) (by kernel_rfl) (args := #[.int .i64 v]) (run_value_call 9 #[(Operand.tmp 3)] _ rfl Try.func9 (by kernel_rfl) (by kernel_rfl) _ (by kernel_rfl)) ((by have := may_ref w v; rw [decide_eq_false hm] at this; exact this)) ?_
    intro W9 M10
    refine st_val (.bool true) (by kernel_rfl) (by kernel_rfl) ?_
    refine wl_nil ?_
    refine hK3 _ _ ?_
    try clear hK3 K3
    refine wp_cond_true (by kernel_rfl) ?_
    refine wp_seq_k (fun K11 hK11 => ?_)
    refine wl_region ?_
    refine st_val (.int .i64 0) (by kernel_rfl) (by kernel_rfl) ?_
    refine wl_nil ?_
    refine hK11 _ _ ?_
    try clear hK11 K11
    refine wp_ret ?_
    refine th_ret ?_
    exact done1 2 (.int .i64 0) (by kernel_rfl) (by kernel_rfl) (by kernel_rfl) ⟨by rw [show bitsU v = 0 from if_neg hm], M10.toBelow⟩
set_option maxHeartbeats 4000000 in
set_option maxRecDepth 100000 in
theorem sbits_ref (w : World) (v : Int) : Calls Try.prog 22 #[.int .i64 v] w fun e w' => e = .returned (.int .i64 (bitsS v)) ∧ Below w.heap.size w w' := by
  refine calls_of_wp Try.func22 rfl ?_
  refine wp_frame (a' := ⟨#[.int .i64 v, undef, undef, undef, undef, undef, undef, undef, undef], []⟩) (by kernel_rfl) ?_
  have M0 : Mem NoS w w [] := Mem.start _ _
  refine wp_seq_k (fun K1 hK1 => ?_)
  refine wl_region ?_
  refine st_val (.int .i64 0) (by kernel_rfl) (by kernel_rfl) ?_
  refine wl_nil ?_
  refine hK1 _ _ ?_
  try clear hK1 K1
  refine wp_seq_k (fun K2 hK2 => ?_)
  refine wp_seq_k (fun K3 hK3 => ?_)
  refine wl_region ?_
  refine st_val (.int .i64 v) (by kernel_rfl) (by kernel_rfl) ?_
  rcases Classical.em (mayS v) with hm | hm
  ·
    refine st_callB M0 (.bool true) (by kernel_rfl) (args := #[.int .i64 v]) (run_value_call 23 #[(Operand.tmp 3)] _ rfl Try.func23 (by kernel_rfl) (by kernel_rfl) _ (by kernel_rfl)) ((by have := mayS_ref w v; rw [decide_eq_true hm] at this; exact this)) ?_
    intro W4 M5
    refine st_val (.bool false) (by kernel_rfl) (by kernel_rfl) ?_
    refine wl_nil ?_
    refine hK3 _ _ ?_
    try clear hK3 K3
    refine wp_cond_false (by kernel_rfl) ?_
    refine wp_skip ?_
    refine hK2 _ _ ?_
    try clear hK2 K2
    refine wp_seq_k (fun K6 hK6 => ?_)
    refine wl_region ?_
    refine st_val (.int .i64 v) (by kernel_rfl) (by kernel_rfl) ?_
    refine st_callB M5 (.int .i64 (unsg v)) (by kernel_rfl) (args := #[.int .i64 v]) (run_value_call 39 #[(Operand.tmp 6)] _ rfl Try.func39 (by kernel_rfl) (by kernel_rfl) _ (by kernel_rfl)) (refUnsg_walk W4 v hm) ?_
    intro W7 M8
    refine st_callB M8 (.int .i64 (bitsU (unsg v))) (by kernel_rfl) (args := #[.int .i64 (unsg v)]) (run_value_call 14 #[(Operand.tmp 7)] _ rfl Try.func14 (by kernel_rfl) (by kernel_rfl) _ (by kernel_rfl)) (bits_ref W7 (unsg v)) ?_
    intro W9 M10
    refine st_val (.int .i64 (bitsU (unsg v))) (by kernel_rfl) (by kernel_rfl) ?_
    refine wl_nil ?_
    refine hK6 _ _ ?_
    try clear hK6 K6
    refine wp_ret ?_
    exact done1 2 (.int .i64 (bitsU (unsg v))) (by kernel_rfl) (by kernel_rfl) (by kernel_rfl) ⟨by rw [bitsS_U hm], M10.toBelow⟩
  ·
    refine st_callB M0 (.bool false) (by kernel_rfl) (args := #[.int .i64 v]) (run_value_call 23 #[(Operand.tmp 3)] _ rfl Try.func23 (by kernel_rfl) (by kernel_rfl) _ (by kernel_rfl)) ((by have := mayS_ref w v; rw [decide_eq_false hm] at this; exact this)) ?_
    intro W11 M12
    refine st_val (.bool true) (by kernel_rfl) (by kernel_rfl) ?_
    refine wl_nil ?_
    refine hK3 _ _ ?_
    try clear hK3 K3
    refine wp_cond_true (by kernel_rfl) ?_
    refine wp_seq_k (fun K13 hK13 => ?_)
    refine wl_region ?_
    refine st_val (.int .i64 0) (by kernel_rfl) (by kernel_rfl) ?_
    refine wl_nil ?_
    refine hK13 _ _ ?_
    try clear hK13 K13
    refine wp_ret ?_
    refine th_ret ?_
    exact done1 2 (.int .i64 0) (by kernel_rfl) (by kernel_rfl) (by kernel_rfl) ⟨by rw [show bitsS v = 0 from if_neg hm], M12.toBelow⟩
end Go.Proofs.Ytkmnnfmdjgpflaa
