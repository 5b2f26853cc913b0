/- The walk of the law TransformBasis. -/
import Derived.Test.YtpjhehpgpfomjaaAw
import Derived.Test.YtpjhehpgpfomjaaAlg
namespace Go.Proofs.Ytpjhehpgpfomjaa
open Go.RowKit
theorem bas_le (i k : Int) : -12 ≤ bas i k ∧ bas i k ≤ 12 := by
  unfold bas
  split
  · exact mt_le _ _
  · omega
theorem bas_mul (i k : Int) (n : Nat) : -144 ≤ bas i (n : Int) * bas k (n : Int) ∧ bas i (n : Int) * bas k (n : Int) ≤ 144 := mul_bound (A := 12) (B := 12) (bas_le _ _) (bas_le _ _)
theorem bas_dot (i k : Int) (n : Nat) (hn : n ≤ 8) : -1152 ≤ dot (fun n => bas i (n : Int) * bas k (n : Int)) n ∧ dot (fun n => bas i (n : Int) * bas k (n : Int)) n ≤ 1152 := dot_le (B := 144) (fun j _ => bas_mul i k j) n hn
theorem bas_ortho {i k : Int} (h1 : 0 ≤ i) (h2 : i ≤ 7) (h3 : 0 ≤ k) (h4 : k ≤ 7) (h5 : ¬ i = k) : dot (fun n => bas i (n : Int) * bas k (n : Int)) 8 = 0 := by
  obtain ⟨a, rfl⟩ := Int.eq_ofNat_of_zero_le h1
  obtain ⟨b, rfl⟩ := Int.eq_ofNat_of_zero_le h3
  have h : all8 (fun a b => decide (¬ a = b → dot (fun n => bas (a : Int) (n : Int) * bas (b : Int) (n : Int)) 8 = 0)) = true := by decide +kernel
  exact of_decide_eq_true (of_all8 h a b (by omega) (by omega)) (by omega)
set_option maxHeartbeats 4000000 in
set_option maxRecDepth 100000 in
theorem TransformBasis_walk (w : World) (i k : Int) : Calls Try.prog 11 #[.int .i64 i, .int .i64 k] w fun e w' => e = .returned (.bool true) ∧ Below w.heap.size w w' := by
  refine calls_of_wp Try.func11 rfl ?_
  refine wp_frame (a' := ⟨#[.int .i64 i, .int .i64 k, undef, undef, undef, undef, undef, undef, undef, undef, undef, undef, undef, undef, undef, undef, undef, undef, undef, undef, undef, undef, undef, undef, undef, undef, undef, undef, undef, undef, undef, undef, undef, undef, undef, undef, undef, undef, undef, undef, undef, undef, undef, undef, undef, undef, undef, undef, undef, undef, undef, undef, undef, undef, undef, undef, undef, undef, undef], []⟩) (by kernel_rfl) ?_
  have M0 : Mem NoS w w [] := Mem.start _ _
  refine wp_seq_k (fun K1 hK1 => ?_)
  refine wl_region ?_
  refine st_val (.bool false) (by kernel_rfl) (by kernel_rfl) ?_
  refine wl_nil ?_
  refine hK1 _ _ ?_
  try clear hK1 K1
  refine wp_seq_k (fun K2 hK2 => ?_)
  refine wp_seq_k (fun K3 hK3 => ?_)
  refine wl_region ?_
  refine st_val (.int .i64 i) (by kernel_rfl) (by kernel_rfl) ?_
  refine st_val (.int .i64 k) (by kernel_rfl) (by kernel_rfl) ?_
  refine st_callB M0 (.int .i64 (bas i k)) (by kernel_rfl) (args := #[.int .i64 i, .int .i64 k]) (run_value_call 22 #[(Operand.tmp 7), (Operand.tmp 8)] _ rfl Try.func22 (by kernel_rfl) (by kernel_rfl) _ (by kernel_rfl)) (basis_walk w i k) ?_
  intro W4 M5
  refine st_val (.int .i64 i) (by kernel_rfl) (by kernel_rfl) ?_
  refine st_val (.int .i64 k) (by kernel_rfl) (by kernel_rfl) ?_
  refine st_callB M5 (.int .i64 (bas i k)) (by kernel_rfl) (args := #[.int .i64 i, .int .i64 k]) (run_value_call 21 #[(Operand.tmp 10), (Operand.tmp 11)] _ rfl Try.func21 (by kernel_rfl) (by kernel_rfl) _ (by kernel_rfl)) (refBasis_walk W4 i k) ?_
  intro W6 M7
  refine st_val (.bool false) (by kernel_rfl) (bool_of (neq_f (show (bas i k : Int) = bas i k from rfl)) (by kernel_rfl)) ?_
  refine st_val (.bool false) (by kernel_rfl) (by kernel_rfl) ?_
  refine st_val (.int .i64 i) (by kernel_rfl) (by kernel_rfl) ?_
  refine st_callE (.int .i64 (bnrm i)) (by kernel_rfl) (args := #[.int .i64 i]) (run_value_call 23 #[(Operand.tmp 15)] _ rfl Try.func23 (by kernel_rfl) (by kernel_rfl) _ (by kernel_rfl)) ((norm_walk W6 i).mono (fun e w' h => ⟨h.1, h.2.symm⟩)) ?_
  refine st_val (.int .i64 i) (by kernel_rfl) (by kernel_rfl) ?_
  refine st_callB M7 (.int .i64 (bnrm i)) (by kernel_rfl) (args := #[.int .i64 i]) (run_value_call 19 #[(Operand.tmp 17)] _ rfl Try.func19 (by kernel_rfl) (by kernel_rfl) _ (by kernel_rfl)) (refNorm_walk W6 i) ?_
  intro W8 M9
  refine st_val (.bool false) (by kernel_rfl) (bool_of (neq_f (show (bnrm i : Int) = bnrm i from rfl)) (by kernel_rfl)) ?_
  refine st_val (.bool false) (by kernel_rfl) (by kernel_rfl) ?_
  refine wl_nil ?_
  refine hK3 _ _ ?_
  try clear hK3 K3
  refine wp_frame (a' := ⟨#[.int .i64 i, .int .i64 k, undef, undef, .bool false, undef, undef, .int .i64 i, .int .i64 k, .int .i64 (bas i k), .int .i64 i, .int .i64 k, .int .i64 (bas i k), .bool false, .bool false, .int .i64 i, .int .i64 (bnrm i), .int .i64 i, .int .i64 (bnrm i), .bool false, .bool false, undef, undef, undef, undef, undef, undef, undef, undef, undef, undef, undef, undef, undef, undef, undef, undef, undef, undef, undef, undef, undef, undef, undef, undef, undef, undef, undef, undef, undef, undef, undef, undef, undef, undef, undef, undef, undef, undef], []⟩) (by kernel_rfl) ?_
  refine wp_cond_false (by kernel_rfl) ?_
  refine wp_skip ?_
  refine hK2 _ _ ?_
  try clear hK2 K2
  refine wp_seq_k (fun K10 hK10 => ?_)
  refine wp_seq_k (fun K11 hK11 => ?_)
  refine wl_region ?_
  refine st_val (.int .i64 i) (by kernel_rfl) (by kernel_rfl) ?_
  rcases Decidable.em ((i : Int) < 0) with c22 | c22
  ·
    refine st_val (.bool true) (by kernel_rfl) (bool_of (dec_t c22) (by kernel_rfl)) ?_
    refine st_val (.bool true) (by kernel_rfl) (by kernel_rfl) ?_
    refine st_skip (by kernel_rfl) ?_
    refine st_skip (by kernel_rfl) ?_
    refine st_val (.bool true) (by kernel_rfl) (by kernel_rfl) ?_
    refine st_val (.bool true) (by kernel_rfl) (by kernel_rfl) ?_
    refine st_skip (by kernel_rfl) ?_
    refine st_skip (by kernel_rfl) ?_
    refine st_val (.bool true) (by kernel_rfl) (by kernel_rfl) ?_
    refine st_val (.bool true) (by kernel_rfl) (by kernel_rfl) ?_
    refine st_skip (by kernel_rfl) ?_
    refine st_skip (by kernel_rfl) ?_
    refine st_val (.bool true) (by kernel_rfl) (by kernel_rfl) ?_
    refine st_val (.bool true) (by kernel_rfl) (by kernel_rfl) ?_
    refine st_skip (by kernel_rfl) ?_
    refine st_skip (by kernel_rfl) ?_
    refine st_skip (by kernel_rfl) ?_
    refine st_val (.bool true) (by kernel_rfl) (by kernel_rfl) ?_
    refine wl_nil ?_
    refine hK11 _ _ ?_
    try clear hK11 K11
    refine wp_frame (a' := ⟨#[.int .i64 i, .int .i64 k, undef, undef, .bool false, undef, undef, .int .i64 i, .int .i64 k, .int .i64 (bas i k), .int .i64 i, .int .i64 k, .int .i64 (bas i k), .bool false, .bool false, .int .i64 i, .int .i64 (bnrm i), .int .i64 i, .int .i64 (bnrm i), .bool false, .bool false, .int .i64 i, .bool true, .bool true, undef, undef, .bool true, .bool true, undef, undef, .bool true, .bool true, undef, undef, .bool true, .bool true, undef, undef, undef, .bool true, undef, undef, undef, undef, undef, undef, undef, undef, undef, undef, undef, undef, undef, undef, undef, undef, undef, undef, undef], []⟩) (by kernel_rfl) ?_
    refine wp_cond_true (by kernel_rfl) ?_
    refine wp_seq_k (fun K12 hK12 => ?_)
    refine wl_region ?_
    refine st_callB M9 (.bool true) (by kernel_rfl) (args := #[]) (run_value_call 15 #[] _ rfl Try.func15 (by kernel_rfl) (by kernel_rfl) _ (by kernel_rfl)) (awake_walk W8) ?_
    intro W13 M14
    refine st_val (.bool true) (by kernel_rfl) (by kernel_rfl) ?_
    refine wl_nil ?_
    refine hK12 _ _ ?_
    try clear hK12 K12
    refine wp_ret ?_
    refine th_ret ?_
    exact done1 4 (.bool true) (by kernel_rfl) (by kernel_rfl) (by kernel_rfl) ⟨rfl, M14.toBelow⟩
  ·
    refine st_val (.bool false) (by kernel_rfl) (bool_of (dec_f c22) (by kernel_rfl)) ?_
    refine st_val (.bool false) (by kernel_rfl) (by kernel_rfl) ?_
    refine st_val (.int .i64 i) (by kernel_rfl) (by kernel_rfl) ?_
    rcases Decidable.em ((i : Int) > 7) with c25 | c25
    ·
      refine st_val (.bool true) (by kernel_rfl) (bool_of (dec_t c25) (by kernel_rfl)) ?_
      refine st_val (.bool true) (by kernel_rfl) (by kernel_rfl) ?_
      refine st_val (.bool true) (by kernel_rfl) (by kernel_rfl) ?_
      refine st_skip (by kernel_rfl) ?_
      refine st_skip (by kernel_rfl) ?_
      refine st_val (.bool true) (by kernel_rfl) (by kernel_rfl) ?_
      refine st_val (.bool true) (by kernel_rfl) (by kernel_rfl) ?_
      refine st_skip (by kernel_rfl) ?_
      refine st_skip (by kernel_rfl) ?_
      refine st_val (.bool true) (by kernel_rfl) (by kernel_rfl) ?_
      refine st_val (.bool true) (by kernel_rfl) (by kernel_rfl) ?_
      refine st_skip (by kernel_rfl) ?_
      refine st_skip (by kernel_rfl) ?_
      refine st_skip (by kernel_rfl) ?_
      refine st_val (.bool true) (by kernel_rfl) (by kernel_rfl) ?_
      refine wl_nil ?_
      refine hK11 _ _ ?_
      try clear hK11 K11
      refine wp_frame (a' := ⟨#[.int .i64 i, .int .i64 k, undef, undef, .bool false, undef, undef, .int .i64 i, .int .i64 k, .int .i64 (bas i k), .int .i64 i, .int .i64 k, .int .i64 (bas i k), .bool false, .bool false, .int .i64 i, .int .i64 (bnrm i), .int .i64 i, .int .i64 (bnrm i), .bool false, .bool false, .int .i64 i, .bool false, .bool false, .int .i64 i, .bool true, .bool true, .bool true, undef, undef, .bool true, .bool true, undef, undef, .bool true, .bool true, undef, undef, undef, .bool true, undef, undef, undef, undef, undef, undef, undef, undef, undef, undef, undef, undef, undef, undef, undef, undef, undef, undef, undef], []⟩) (by kernel_rfl) ?_
      refine wp_cond_true (by kernel_rfl) ?_
      refine wp_seq_k (fun K15 hK15 => ?_)
      refine wl_region ?_
      refine st_callB M9 (.bool true) (by kernel_rfl) (args := #[]) (run_value_call 15 #[] _ rfl Try.func15 (by kernel_rfl) (by kernel_rfl) _ (by kernel_rfl)) (awake_walk W8) ?_
      intro W16 M17
      refine st_val (.bool true) (by kernel_rfl) (by kernel_rfl) ?_
      refine wl_nil ?_
      refine hK15 _ _ ?_
      try clear hK15 K15
      refine wp_ret ?_
      refine th_ret ?_
      exact done1 4 (.bool true) (by kernel_rfl) (by kernel_rfl) (by kernel_rfl) ⟨rfl, M17.toBelow⟩
    ·
      refine st_val (.bool false) (by kernel_rfl) (bool_of (dec_f c25) (by kernel_rfl)) ?_
      refine st_val (.bool false) (by kernel_rfl) (by kernel_rfl) ?_
      refine st_val (.bool false) (by kernel_rfl) (by kernel_rfl) ?_
      refine st_val (.int .i64 k) (by kernel_rfl) (by kernel_rfl) ?_
      rcases Decidable.em ((k : Int) < 0) with c29 | c29
      ·
        refine st_val (.bool true) (by kernel_rfl) (bool_of (dec_t c29) (by kernel_rfl)) ?_
        refine st_val (.bool true) (by kernel_rfl) (by kernel_rfl) ?_
        refine st_val (.bool true) (by kernel_rfl) (by kernel_rfl) ?_
        refine st_skip (by kernel_rfl) ?_
        refine st_skip (by kernel_rfl) ?_
        refine st_val (.bool true) (by kernel_rfl) (by kernel_rfl) ?_
        refine st_val (.bool true) (by kernel_rfl) (by kernel_rfl) ?_
        refine st_skip (by kernel_rfl) ?_
        refine st_skip (by kernel_rfl) ?_
        refine st_skip (by kernel_rfl) ?_
        refine st_val (.bool true) (by kernel_rfl) (by kernel_rfl) ?_
        refine wl_nil ?_
        refine hK11 _ _ ?_
        try clear hK11 K11
        refine wp_frame (a' := ⟨#[.int .i64 i, .int .i64 k, undef, undef, .bool false, undef, undef, .int .i64 i, .int .i64 k, .int .i64 (bas i k), .int .i64 i, .int .i64 k, .int .i64 (bas i k), .bool false, .bool false, .int .i64 i, .int .i64 (bnrm i), .int .i64 i, .int .i64 (bnrm i), .bool false, .bool false, .int .i64 i, .bool false, .bool false, .int .i64 i, .bool false, .bool false, .bool false, .int .i64 k, .bool true, .bool true, .bool true, undef, undef, .bool true, .bool true, undef, undef, undef, .bool true, undef, undef, undef, undef, undef, undef, undef, undef, undef, undef, undef, undef, undef, undef, undef, undef, undef, undef, undef], []⟩) (by kernel_rfl) ?_
        refine wp_cond_true (by kernel_rfl) ?_
        refine wp_seq_k (fun K18 hK18 => ?_)
        refine wl_region ?_
        refine st_callB M9 (.bool true) (by kernel_rfl) (args := #[]) (run_value_call 15 #[] _ rfl Try.func15 (by kernel_rfl) (by kernel_rfl) _ (by kernel_rfl)) (awake_walk W8) ?_
        intro W19 M20
        refine st_val (.bool true) (by kernel_rfl) (by kernel_rfl) ?_
        refine wl_nil ?_
        refine hK18 _ _ ?_
        try clear hK18 K18
        refine wp_ret ?_
        refine th_ret ?_
        exact done1 4 (.bool true) (by kernel_rfl) (by kernel_rfl) (by kernel_rfl) ⟨rfl, M20.toBelow⟩
      ·
        refine st_val (.bool false) (by kernel_rfl) (bool_of (dec_f c29) (by kernel_rfl)) ?_
        refine st_val (.bool false) (by kernel_rfl) (by kernel_rfl) ?_
        refine st_val (.bool false) (by kernel_rfl) (by kernel_rfl) ?_
        refine st_val (.int .i64 k) (by kernel_rfl) (by kernel_rfl) ?_
        rcases Decidable.em ((k : Int) > 7) with c33 | c33
        ·
          refine st_val (.bool true) (by kernel_rfl) (bool_of (dec_t c33) (by kernel_rfl)) ?_
          refine st_val (.bool true) (by kernel_rfl) (by kernel_rfl) ?_
          refine st_val (.bool true) (by kernel_rfl) (by kernel_rfl) ?_
          refine st_skip (by kernel_rfl) ?_
          refine st_skip (by kernel_rfl) ?_
          refine st_skip (by kernel_rfl) ?_
          refine st_val (.bool true) (by kernel_rfl) (by kernel_rfl) ?_
          refine wl_nil ?_
          refine hK11 _ _ ?_
          try clear hK11 K11
          refine wp_frame (a' := ⟨#[.int .i64 i, .int .i64 k, undef, undef, .bool false, undef, undef, .int .i64 i, .int .i64 k, .int .i64 (bas i k), .int .i64 i, .int .i64 k, .int .i64 (bas i k), .bool false, .bool false, .int .i64 i, .int .i64 (bnrm i), .int .i64 i, .int .i64 (bnrm i), .bool false, .bool false, .int .i64 i, .bool false, .bool false, .int .i64 i, .bool false, .bool false, .bool false, .int .i64 k, .bool false, .bool false, .bool false, .int .i64 k, .bool true, .bool true, .bool true, undef, undef, undef, .bool true, undef, undef, undef, undef, undef, undef, undef, undef, undef, undef, undef, undef, undef, undef, undef, undef, undef, undef, undef], []⟩) (by kernel_rfl) ?_
          refine wp_cond_true (by kernel_rfl) ?_
          refine wp_seq_k (fun K21 hK21 => ?_)
          refine wl_region ?_
          refine st_callB M9 (.bool true) (by kernel_rfl) (args := #[]) (run_value_call 15 #[] _ rfl Try.func15 (by kernel_rfl) (by kernel_rfl) _ (by kernel_rfl)) (awake_walk W8) ?_
          intro W22 M23
          refine st_val (.bool true) (by kernel_rfl) (by kernel_rfl) ?_
          refine wl_nil ?_
          refine hK21 _ _ ?_
          try clear hK21 K21
          refine wp_ret ?_
          refine th_ret ?_
          exact done1 4 (.bool true) (by kernel_rfl) (by kernel_rfl) (by kernel_rfl) ⟨rfl, M23.toBelow⟩
        ·
          refine st_val (.bool false) (by kernel_rfl) (bool_of (dec_f c33) (by kernel_rfl)) ?_
          refine st_val (.bool false) (by kernel_rfl) (by kernel_rfl) ?_
          refine st_val (.bool false) (by kernel_rfl) (by kernel_rfl) ?_
          refine st_val (.int .i64 i) (by kernel_rfl) (by kernel_rfl) ?_
          refine st_val (.int .i64 k) (by kernel_rfl) (by kernel_rfl) ?_
          rcases Decidable.em ((i : Int) = k) with c38 | c38
          ·
            refine st_val (.bool true) (by kernel_rfl) (bool_of (dec_t c38) (by kernel_rfl)) ?_
            refine st_val (.bool true) (by kernel_rfl) (by kernel_rfl) ?_
            refine wl_nil ?_
            refine hK11 _ _ ?_
            try clear hK11 K11
            refine wp_frame (a' := ⟨#[.int .i64 i, .int .i64 k, undef, undef, .bool false, undef, undef, .int .i64 i, .int .i64 k, .int .i64 (bas i k), .int .i64 i, .int .i64 k, .int .i64 (bas i k), .bool false, .bool false, .int .i64 i, .int .i64 (bnrm i), .int .i64 i, .int .i64 (bnrm i), .bool false, .bool false, .int .i64 i, .bool false, .bool false, .int .i64 i, .bool false, .bool false, .bool false, .int .i64 k, .bool false, .bool false, .bool false, .int .i64 k, .bool false, .bool false, .bool false, .int .i64 i, .int .i64 k, .bool true, .bool true, undef, undef, undef, undef, undef, undef, undef, undef, undef, undef, undef, undef, undef, undef, undef, undef, undef, undef, undef], []⟩) (by kernel_rfl) ?_
            refine wp_cond_true (by kernel_rfl) ?_
            refine wp_seq_k (fun K24 hK24 => ?_)
            refine wl_region ?_
            refine st_callB M9 (.bool true) (by kernel_rfl) (args := #[]) (run_value_call 15 #[] _ rfl Try.func15 (by kernel_rfl) (by kernel_rfl) _ (by kernel_rfl)) (awake_walk W8) ?_
            intro W25 M26
            refine st_val (.bool true) (by kernel_rfl) (by kernel_rfl) ?_
            refine wl_nil ?_
            refine hK24 _ _ ?_
            try clear hK24 K24
            refine wp_ret ?_
            refine th_ret ?_
            exact done1 4 (.bool true) (by kernel_rfl) (by kernel_rfl) (by kernel_rfl) ⟨rfl, M26.toBelow⟩
          ·
            refine st_val (.bool false) (by kernel_rfl) (bool_of (dec_f c38) (by kernel_rfl)) ?_
            refine st_val (.bool false) (by kernel_rfl) (by kernel_rfl) ?_
            refine wl_nil ?_
            refine hK11 _ _ ?_
            try clear hK11 K11
            refine wp_frame (a' := ⟨#[.int .i64 i, .int .i64 k, undef, undef, .bool false, undef, undef, .int .i64 i, .int .i64 k, .int .i64 (bas i k), .int .i64 i, .int .i64 k, .int .i64 (bas i k), .bool false, .bool false, .int .i64 i, .int .i64 (bnrm i), .int .i64 i, .int .i64 (bnrm i), .bool false, .bool false, .int .i64 i, .bool false, .bool false, .int .i64 i, .bool false, .bool false, .bool false, .int .i64 k, .bool false, .bool false, .bool false, .int .i64 k, .bool false, .bool false, .bool false, .int .i64 i, .int .i64 k, .bool false, .bool false, undef, undef, undef, undef, undef, undef, undef, undef, undef, undef, undef, undef, undef, undef, undef, undef, undef, undef, undef], []⟩) (by kernel_rfl) ?_
            refine wp_cond_false (by kernel_rfl) ?_
            refine wp_skip ?_
            refine hK10 _ _ ?_
            try clear hK10 K10
            refine wp_seq_k (fun K27 hK27 => ?_)
            refine wl_region ?_
            refine st_val (.int .i64 0) (by kernel_rfl) (by kernel_rfl) ?_
            refine wl_nil ?_
            refine hK27 _ _ ?_
            try clear hK27 K27
            refine wp_seq_k (fun K28 hK28 => ?_)
            refine wp_seq_k (fun K29 hK29 => ?_)
            refine wl_region ?_
            refine st_val (.int .i64 0) (by kernel_rfl) (by kernel_rfl) ?_
            refine wl_nil ?_
            refine hK29 _ _ ?_
            try clear hK29 K29
            refine wp_block ?_
            refine wp_loop_ghost (fun gn a' w' => ∃ (n : Nat) (u30 : Nat → Value), ((n ≤ 8) ∧ Mem NoS w w' []) ∧ gn = 8 - n ∧ a' = ⟨#[.int .i64 i, .int .i64 k, undef, undef, .bool false, .int .i64 (dot (fun n => bas i (n : Int) * bas k (n : Int)) n), .int .i64 (n : Int), .int .i64 i, .int .i64 k, .int .i64 (bas i k), .int .i64 i, .int .i64 k, .int .i64 (bas i k), .bool false, .bool false, .int .i64 i, .int .i64 (bnrm i), .int .i64 i, .int .i64 (bnrm i), .bool false, .bool false, .int .i64 i, .bool false, .bool false, .int .i64 i, .bool false, .bool false, .bool false, .int .i64 k, .bool false, .bool false, .bool false, .int .i64 k, .bool false, .bool false, .bool false, .int .i64 i, .int .i64 k, .bool false, .bool false, undef, (u30 41), (u30 42), (u30 43), (u30 44), (u30 45), (u30 46), (u30 47), (u30 48), (u30 49), (u30 50), (u30 51), (u30 52), (u30 53), undef, undef, undef, undef, undef], []⟩) _ ⟨0, (fun zz => Array.getD #[.int .i64 i, .int .i64 k, undef, undef, .bool false, .int .i64 0, .int .i64 0, .int .i64 i, .int .i64 k, .int .i64 (bas i k), .int .i64 i, .int .i64 k, .int .i64 (bas i k), .bool false, .bool false, .int .i64 i, .int .i64 (bnrm i), .int .i64 i, .int .i64 (bnrm i), .bool false, .bool false, .int .i64 i, .bool false, .bool false, .int .i64 i, .bool false, .bool false, .bool false, .int .i64 k, .bool false, .bool false, .bool false, .int .i64 k, .bool false, .bool false, .bool false, .int .i64 i, .int .i64 k, .bool false, .bool false, undef, undef, undef, undef, undef, undef, undef, undef, undef, undef, undef, undef, undef, undef, undef, undef, undef, undef, undef] zz undef), ⟨by omega, M9⟩, rfl, (by kernel_rfl)⟩ ?_
            rintro gn _ W31 ⟨n, u30, ⟨r1, M32⟩, rfl, rfl⟩
            refine wp_seq_k (fun K33 hK33 => ?_)
            refine wp_seq_k (fun K34 hK34 => ?_)
            refine wl_region ?_
            refine st_val (.int .i64 (n : Int)) (by kernel_rfl) (by kernel_rfl) ?_
            rcases Decidable.em (((n : Int) : Int) < 8) with c42 | c42
            ·
              have b1 := bas_mul i k n
              have b2 := bas_dot i k n (by omega)
              refine st_val (.bool true) (by kernel_rfl) (bool_of (dec_t c42) (by kernel_rfl)) ?_
              refine wl_nil ?_
              refine hK34 _ _ ?_
              try clear hK34 K34
              refine wp_cond_true (by kernel_rfl) ?_
              refine wp_skip ?_
              refine hK33 _ _ ?_
              try clear hK33 K33
              refine wp_seq_k (fun K35 hK35 => ?_)
              refine wp_block ?_
              refine wl_region ?_
              refine st_val (.int .i64 (dot (fun n => bas i (n : Int) * bas k (n : Int)) n)) (by kernel_rfl) (by kernel_rfl) ?_
              refine st_val (.int .i64 i) (by kernel_rfl) (by kernel_rfl) ?_
              refine st_val (.int .i64 (n : Int)) (by kernel_rfl) (by kernel_rfl) ?_
              refine st_callB M32 (.int .i64 (bas i (n : Int))) (by kernel_rfl) (args := #[.int .i64 i, .int .i64 (n : Int)]) (run_value_call 22 #[(Operand.tmp 46), (Operand.tmp 47)] _ rfl Try.func22 (by kernel_rfl) (by kernel_rfl) _ (by kernel_rfl)) (basis_walk W31 i (n : Int)) ?_
              intro W36 M37
              refine st_val (.int .i64 k) (by kernel_rfl) (by kernel_rfl) ?_
              refine st_val (.int .i64 (n : Int)) (by kernel_rfl) (by kernel_rfl) ?_
              refine st_callB M37 (.int .i64 (bas k (n : Int))) (by kernel_rfl) (args := #[.int .i64 k, .int .i64 (n : Int)]) (run_value_call 22 #[(Operand.tmp 49), (Operand.tmp 50)] _ rfl Try.func22 (by kernel_rfl) (by kernel_rfl) _ (by kernel_rfl)) (basis_walk W36 k (n : Int)) ?_
              intro W38 M39
              refine st_val (.int .i64 ((bas i (n : Int)) * (bas k (n : Int)))) (by kernel_rfl) (i64_of (by omega) (by kernel_rfl)) ?_
              refine st_val (.int .i64 ((dot (fun n => bas i (n : Int) * bas k (n : Int)) n) + ((bas i (n : Int)) * (bas k (n : Int))))) (by kernel_rfl) (i64_of (by omega) (by kernel_rfl)) ?_
              refine st_val (.int .i64 ((dot (fun n => bas i (n : Int) * bas k (n : Int)) n) + ((bas i (n : Int)) * (bas k (n : Int))))) (by kernel_rfl) (by kernel_rfl) ?_
              refine wl_nil ?_
              refine blk_normal ?_
              refine hK35 _ _ ?_
              try clear hK35 K35
              refine wl_region ?_
              refine st_val (.int .i64 (n : Int)) (by kernel_rfl) (by kernel_rfl) ?_
              refine st_val (.int .i64 ((n : Int) + 1)) (by kernel_rfl) (i64_of (by omega) (by kernel_rfl)) ?_
              refine st_val (.int .i64 ((n : Int) + 1)) (by kernel_rfl) (by kernel_rfl) ?_
              refine wl_nil ?_
              refine th_normal ?_
              exact ⟨_, by omega, (n + 1), (fun zz => Array.getD #[.int .i64 i, .int .i64 k, undef, undef, .bool false, .int .i64 ((dot (fun n => bas i (n : Int) * bas k (n : Int)) n) + ((bas i (n : Int)) * (bas k (n : Int)))), .int .i64 ((n : Int) + 1), .int .i64 i, .int .i64 k, .int .i64 (bas i k), .int .i64 i, .int .i64 k, .int .i64 (bas i k), .bool false, .bool false, .int .i64 i, .int .i64 (bnrm i), .int .i64 i, .int .i64 (bnrm i), .bool false, .bool false, .int .i64 i, .bool false, .bool false, .int .i64 i, .bool false, .bool false, .bool false, .int .i64 k, .bool false, .bool false, .bool false, .int .i64 k, .bool false, .bool false, .bool false, .int .i64 i, .int .i64 k, .bool false, .bool false, undef, .int .i64 (n : Int), .bool true, .int .i64 (n : Int), .int .i64 ((n : Int) + 1), .int .i64 (dot (fun n => bas i (n : Int) * bas k (n : Int)) n), .int .i64 i, .int .i64 (n : Int), .int .i64 (bas i (n : Int)), .int .i64 k, .int .i64 (n : Int), .int .i64 (bas k (n : Int)), .int .i64 ((bas i (n : Int)) * (bas k (n : Int))), .int .i64 ((dot (fun n => bas i (n : Int) * bas k (n : Int)) n) + ((bas i (n : Int)) * (bas k (n : Int)))), undef, undef, undef, undef, undef] zz undef), ⟨by omega, M39⟩, rfl, (by kernel_rfl)⟩
            ·
              refine st_val (.bool false) (by kernel_rfl) (bool_of (dec_f c42) (by kernel_rfl)) ?_
              refine wl_nil ?_
              refine hK34 _ _ ?_
              try clear hK34 K34
              refine wp_cond_false (by kernel_rfl) ?_
              refine wp_exit ?_
              refine th_exit ?_
              refine th_exit ?_
              refine blk_exit ?_
              refine hK28 _ _ ?_
              try clear hK28 K28
              refine wp_seq_k (fun K40 hK40 => ?_)
              refine wl_region ?_
              refine st_callB M32 (.bool true) (by kernel_rfl) (args := #[]) (run_value_call 15 #[] _ rfl Try.func15 (by kernel_rfl) (by kernel_rfl) _ (by kernel_rfl)) (awake_walk W31) ?_
              intro W41 M42
              refine st_val (.bool true) (by kernel_rfl) (by kernel_rfl) ?_
              refine st_val (.int .i64 (dot (fun n => bas i (n : Int) * bas k (n : Int)) n)) (by kernel_rfl) (by kernel_rfl) ?_
              refine st_val (.bool true) (by kernel_rfl) (bool_of (dec_t (show (dot (fun n => bas i (n : Int) * bas k (n : Int)) n : Int) = 0 from by rw [show n = 8 by omega]; exact bas_ortho (by omega) (by omega) (by omega) (by omega) c38)) (by kernel_rfl)) ?_
              refine st_val (.bool true) (by kernel_rfl) (by kernel_rfl) ?_
              refine st_val (.bool true) (by kernel_rfl) (by kernel_rfl) ?_
              refine wl_nil ?_
              refine hK40 _ _ ?_
              try clear hK40 K40
              refine wp_ret ?_
              exact done1 4 (.bool true) (by kernel_rfl) (by kernel_rfl) (by kernel_rfl) ⟨rfl, M42.toBelow⟩
end Go.Proofs.Ytpjhehpgpfomjaa
