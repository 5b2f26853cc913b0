/- Codes, as the reference has them. -/
import Derived.Test.YtmchfkkifeioeaaVc
namespace Go.Proofs.Ytmchfkkifeioeaa
open Go.RowKit Bt

theorem pow_16 {k x : Nat} (h : 2 ^ (k + 1) ≤ x) (hx : x ≤ 65535) : k + 1 ≤ 15 := by
  rcases Nat.lt_or_ge k 15 with h1 | h1
  · omega
  · have : 2 ^ 16 ≤ 2 ^ (k + 1) := Nat.pow_le_pow_right (by decide) (by omega)
    omega
theorem code_own (v : Nat) : List.replicate (kOf v) (Value.int .u8 0) ++ u8s (bitsOf (v + 1) (kOf v + 1)) = u8s (codeN v) := by
  rw [codeN_eq, u8s_append, bits_zero, ← u8s_rep]; rfl
set_option maxHeartbeats 4000000 in
set_option maxRecDepth 100000 in
theorem half_walk (w : World) (v : Nat) (hv : v ≤ 65534) : Calls Try.prog 45 #[.int .i64 (v : Int)] w fun e w' => e = .returned (.int .i64 ((kOf v : Nat) : Int)) ∧ Below w.heap.size w w' := by
  refine calls_of_wp Try.func45 rfl ?_
  refine wp_frame (a' := ⟨#[.int .i64 ((v : Nat) : Int), undef, undef, undef, undef, undef, undef, undef, undef, undef, undef, undef, undef], []⟩) (by kernel_rfl) ?_
  have M0 : Mem NoS w w [] := Mem.start _ _
  refine wp_seq_k (fun K1 hK1 => ?_)
  refine wl_region ?_
  refine st_val (.int .i64 0) (by kernel_rfl) (by kernel_rfl) ?_
  refine wl_nil ?_
  refine hK1 _ _ ?_
  try clear hK1 K1
  refine wp_seq_k (fun K2 hK2 => ?_)
  refine wl_region ?_
  refine st_val (.int .i64 0) (by kernel_rfl) (by kernel_rfl) ?_
  refine wl_nil ?_
  refine hK2 _ _ ?_
  try clear hK2 K2
  refine wp_seq_k (fun K3 hK3 => ?_)
  refine wp_block ?_
  refine wp_loop_ghost (fun gn a' w' => ∃ (k : Nat) (u4 : Nat → Value), ((k ≤ 16 ∧ 2 ^ k ≤ v + 1) ∧ Mem NoS w w' []) ∧ gn = 17 - k ∧ a' = ⟨#[.int .i64 ((v : Nat) : Int), undef, .int .i64 0, .int .i64 ((k : Nat) : Int), (u4 4), (u4 5), (u4 6), (u4 7), (u4 8), (u4 9), (u4 10), (u4 11), undef], []⟩) _ ⟨0, (fun zz => Array.getD #[.int .i64 ((v : Nat) : Int), undef, .int .i64 0, .int .i64 0, undef, undef, undef, undef, undef, undef, undef, undef, undef] zz undef), ⟨⟨by omega, by omega⟩, M0⟩, rfl, (by kernel_rfl)⟩ ?_
  rintro gn _ W5 ⟨k, u4, ⟨⟨rk, hk⟩, M6⟩, rfl, rfl⟩
  refine wp_seq_k (fun K7 hK7 => ?_)
  refine wp_seq_k (fun K8 hK8 => ?_)
  refine wl_region ?_
  refine st_val (.int .i64 ((k : Nat) : Int)) (by kernel_rfl) (by kernel_rfl) ?_
  refine st_val (.int .u64 ((k : Nat) : Int)) (by kernel_rfl) (int_of (wrap_u64 (by omega)) (by kernel_rfl)) ?_
  refine st_val (.int .i64 ((2 ^ (k + 1) : Nat) : Int)) (by kernel_rfl) (run_value_bin .shl 3 63 _ (.tmp 5) rfl (.int .i64 2) (.int .u64 ((k : Nat) : Int)) _ (by kernel_rfl) (by kernel_rfl) (by kernel_rfl) (bin_shl (n := k) (by show _ ≤ 64; omega) (show IntKind.i64.wrap (2 * 2 ^ k) = ((2 ^ (k + 1) : Nat) : Int) from wrap_kz k (by omega)))) ?_
  refine st_val (.int .i64 ((v : Nat) : Int)) (by kernel_rfl) (by kernel_rfl) ?_
  refine st_val (.int .i64 (((v : Nat) : Int) + 1)) (by kernel_rfl) (i64_of (by omega) (by kernel_rfl)) ?_
  rcases Decidable.em ((((2 ^ (k + 1) : Nat) : Int) : Int) ≤ ((v : Nat) : Int) + 1) with c9 | c9
  ·
    refine st_val (.bool true) (by kernel_rfl) (bool_of (dec_t c9) (by kernel_rfl)) ?_
    refine wl_nil ?_
    refine hK8 _ _ ?_
    try clear hK8 K8
    refine wp_cond_true (by kernel_rfl) ?_
    refine wp_skip ?_
    refine hK7 _ _ ?_
    try clear hK7 K7
    refine wp_block ?_
    refine wl_region ?_
    refine st_val (.int .i64 ((k : Nat) : Int)) (by kernel_rfl) (by kernel_rfl) ?_
    refine st_val (.int .i64 (((k : Nat) : Int) + 1)) (by kernel_rfl) (i64_of (by omega) (by kernel_rfl)) ?_
    refine st_val (.int .i64 (((k : Nat) : Int) + 1)) (by kernel_rfl) (by kernel_rfl) ?_
    refine wl_nil ?_
    refine blk_normal ?_
    refine th_normal ?_
    exact ⟨_, (by omega), (k + 1), (fun zz => Array.getD #[.int .i64 ((v : Nat) : Int), undef, .int .i64 0, .int .i64 (((k : Nat) : Int) + 1), .int .i64 ((k : Nat) : Int), .int .u64 ((k : Nat) : Int), .int .i64 ((2 ^ (k + 1) : Nat) : Int), .int .i64 ((v : Nat) : Int), .int .i64 (((v : Nat) : Int) + 1), .bool true, .int .i64 ((k : Nat) : Int), .int .i64 (((k : Nat) : Int) + 1), undef] zz undef), ⟨⟨by have := pow_16 (k := k) (x := v + 1) (by omega) (by omega); omega, by omega⟩, M6⟩, rfl, (by kernel_rfl)⟩
  ·
    have hkk : kOf v = k := kOf_of hk (by omega)
    refine st_val (.bool false) (by kernel_rfl) (bool_of (dec_f c9) (by kernel_rfl)) ?_
    refine wl_nil ?_
    refine hK8 _ _ ?_
    try clear hK8 K8
    refine wp_cond_false (by kernel_rfl) ?_
    refine wp_exit ?_
    refine th_exit ?_
    refine th_exit ?_
    refine blk_exit ?_
    refine hK3 _ _ ?_
    try clear hK3 K3
    refine wp_seq_k (fun K9 hK9 => ?_)
    refine wl_region ?_
    refine st_val (.int .i64 ((k : Nat) : Int)) (by kernel_rfl) (by kernel_rfl) ?_
    refine st_val (.int .i64 ((k : Nat) : Int)) (by kernel_rfl) (by kernel_rfl) ?_
    refine wl_nil ?_
    refine hK9 _ _ ?_
    try clear hK9 K9
    refine wp_ret ?_
    exact done1 2 (.int .i64 ((k : Nat) : Int)) (by kernel_rfl) (by kernel_rfl) (by kernel_rfl) ⟨by rw [hkk], M6.toBelow⟩
set_option maxHeartbeats 4000000 in
set_option maxRecDepth 100000 in
theorem refUnsg_walk (w : World) (v : Int) (hv : mayS v) : Calls Try.prog 46 #[.int .i64 v] w fun e w' => e = .returned (.int .i64 (unsg v)) ∧ Below w.heap.size w w' := by
  obtain ⟨hv1, hv2⟩ := hv
  refine calls_of_wp Try.func46 rfl ?_
  refine wp_frame (a' := ⟨#[.int .i64 v, undef, undef, undef, undef, undef, undef, undef, undef, undef], []⟩) (by kernel_rfl) ?_
  have M0 : Mem NoS w w [] := Mem.start _ _
  refine wp_seq_k (fun K1 hK1 => ?_)
  refine wl_region ?_
  refine st_val (.int .i64 0) (by kernel_rfl) (by kernel_rfl) ?_
  refine wl_nil ?_
  refine hK1 _ _ ?_
  try clear hK1 K1
  refine wp_seq_k (fun K2 hK2 => ?_)
  refine wp_seq_k (fun K3 hK3 => ?_)
  refine wl_region ?_
  refine st_val (.int .i64 v) (by kernel_rfl) (by kernel_rfl) ?_
  rcases Decidable.em ((v : Int) > 0) with c4 | c4
  ·
    refine st_val (.bool true) (by kernel_rfl) (bool_of (dec_t c4) (by kernel_rfl)) ?_
    refine wl_nil ?_
    refine hK3 _ _ ?_
    try clear hK3 K3
    refine wp_cond_true (by kernel_rfl) ?_
    refine wp_seq_k (fun K4 hK4 => ?_)
    refine wl_region ?_
    refine st_val (.int .i64 v) (by kernel_rfl) (by kernel_rfl) ?_
    refine st_val (.int .i64 (2 * v)) (by kernel_rfl) (i64_of (by omega) (by kernel_rfl)) ?_
    refine st_val (.int .i64 ((2 * v) - 1)) (by kernel_rfl) (i64_of (by omega) (by kernel_rfl)) ?_
    refine st_val (.int .i64 ((2 * v) - 1)) (by kernel_rfl) (by kernel_rfl) ?_
    refine wl_nil ?_
    refine hK4 _ _ ?_
    try clear hK4 K4
    refine wp_ret ?_
    refine th_ret ?_
    exact done1 2 (.int .i64 ((2 * v) - 1)) (by kernel_rfl) (by kernel_rfl) (by kernel_rfl) ⟨by rw [show unsg v = (2 * v) - 1 from if_pos c4], M0.toBelow⟩
  ·
    refine st_val (.bool false) (by kernel_rfl) (bool_of (dec_f c4) (by kernel_rfl)) ?_
    refine wl_nil ?_
    refine hK3 _ _ ?_
    try clear hK3 K3
    refine wp_cond_false (by kernel_rfl) ?_
    refine wp_skip ?_
    refine hK2 _ _ ?_
    try clear hK2 K2
    refine wp_seq_k (fun K5 hK5 => ?_)
    refine wl_region ?_
    refine st_val (.int .i64 v) (by kernel_rfl) (by kernel_rfl) ?_
    refine st_val (.int .i64 ((-2) * v)) (by kernel_rfl) (i64_of (by omega) (by kernel_rfl)) ?_
    refine st_val (.int .i64 ((-2) * v)) (by kernel_rfl) (by kernel_rfl) ?_
    refine wl_nil ?_
    refine hK5 _ _ ?_
    try clear hK5 K5
    refine wp_ret ?_
    exact done1 2 (.int .i64 ((-2) * v)) (by kernel_rfl) (by kernel_rfl) (by kernel_rfl) ⟨by rw [show unsg v = (-2) * v from if_neg c4], M0.toBelow⟩
set_option maxHeartbeats 4000000 in
set_option maxRecDepth 100000 in
theorem code_walk (w : World) (v : Nat) (hv : v ≤ 65534) : MakesRow Try.prog 29 #[.int .i64 (v : Int)] w (fun r T => Own 5 1 r (kOf v + (kOf v + 1)) (u8s (codeN v)) T) := by
  unfold MakesRow
  refine calls_of_wp Try.func29 rfl ?_
  refine wp_frame (a' := ⟨#[.int .i64 ((v : Nat) : Int), undef, undef, undef, undef, undef, undef, undef, undef, undef, undef, undef, undef, undef, undef], []⟩) (by kernel_rfl) ?_
  have M0 : Mem NoS w w [] := Mem.start _ _
  refine wp_seq_k (fun K1 hK1 => ?_)
  refine wl_region ?_
  refine st_val ((Go.Value.slice none 0 0)) (by kernel_rfl) (by kernel_rfl) ?_
  refine wl_nil ?_
  refine hK1 _ _ ?_
  try clear hK1 K1
  refine wp_seq_k (fun K2 hK2 => ?_)
  refine wl_region ?_
  refine st_val (.int .i64 ((v : Nat) : Int)) (by kernel_rfl) (by kernel_rfl) ?_
  refine st_callB M0 (.int .i64 ((kOf v : Nat) : Int)) (by kernel_rfl) (args := #[.int .i64 ((v : Nat) : Int)]) (run_value_call 45 #[(Operand.tmp 4)] _ rfl Try.func45 (by kernel_rfl) (by kernel_rfl) _ (by kernel_rfl)) (half_walk w v hv) ?_
  intro W3 M4
  refine st_val (.int .i64 ((kOf v : Nat) : Int)) (by kernel_rfl) (by kernel_rfl) ?_
  refine wl_nil ?_
  refine hK2 _ _ ?_
  try clear hK2 K2
  refine wp_seq_k (fun K5 hK5 => ?_)
  have hk := kOf_lt hv
  refine wh_region (fun w' => Mem NoS w w' []) (by kernel_rfl) (by kernel_rfl) (fun d _ _ _ _ h => by cases d <;> exact h) 10 rfl #[false, false, false, false, false, false, false, false, false, false] rfl ?_
  intro R6
  have M8 := M4.drew
  have hS9 : Mem NoS w W3.drew [] := M8
  refine wh_take R6 0 (.int .i64 ((kOf v : Nat) : Int)) rfl (by kernel_rfl) (by kernel_rfl) (by kernel_rfl) (fun w' M' => (by kernel_rfl)) hS9 #[true, false, false, false, false, false, false, false, false, false] rfl ?_
  refine wh_take R6 2 (.int .i64 ((v : Nat) : Int)) rfl (by kernel_rfl) (by kernel_rfl) (by kernel_rfl) (fun w' M' => (by kernel_rfl)) hS9 #[true, false, true, false, false, false, false, false, false, false] rfl ?_
  refine wh_take R6 3 (.int .i64 (((v : Nat) : Int) + 1)) rfl (by kernel_rfl) (by kernel_rfl) (by kernel_rfl) (fun w' M' => (i64_of (by omega) (by kernel_rfl))) hS9 #[true, false, true, true, false, false, false, false, false, false] rfl ?_
  refine wh_take R6 4 (.int .u32 ((v + 1 : Nat) : Int)) rfl (by kernel_rfl) (by kernel_rfl) (by kernel_rfl) (fun w' M' => (int_of (show IntKind.u32.wrap (((v : Nat) : Int) + 1) = ((v + 1 : Nat) : Int) by rw [wrap_u32 (by omega)]; omega) (by kernel_rfl))) hS9 #[true, false, true, true, true, false, false, false, false, false] rfl ?_
  refine wh_take R6 5 (.int .i64 ((kOf v : Nat) : Int)) rfl (by kernel_rfl) (by kernel_rfl) (by kernel_rfl) (fun w' M' => (by kernel_rfl)) hS9 #[true, false, true, true, true, true, false, false, false, false] rfl ?_
  refine wh_take R6 6 (.int .i64 ((kOf v + 1 : Nat) : Int)) rfl (by kernel_rfl) (by kernel_rfl) (by kernel_rfl) (fun w' M' => (int_of (show ((kOf v : Nat) : Int) + 1 = ((kOf v + 1 : Nat) : Int) by omega) (i64_of (by omega) (by kernel_rfl)))) hS9 #[true, false, true, true, true, true, true, false, false, false] rfl ?_
  refine wh_branch2 1 7 (by kernel_rfl) ?_ ?_
  ·
    refine wi_new M8 1 (.cells (madeCells #[.int .u8 0] (kOf v)) 5 (0, 0)) (fun g => .slice (some ⟨g, 0, none⟩) (kOf v) (kOf v)) rfl trivial (by kernel_rfl) (run_make_u8 (.tmp 6) (.tmp 6) rfl .i64 .i64 (kOf v) (by kernel_rfl) (by kernel_rfl) (by omega)) #[true, true, true, true, true, true, true, false, false, false] rfl ?_
    intro g10 W11 M12
    obtain ⟨T13, e16⟩ : ∃ T, T = [(g10, Obj.cells (madeCells #[.int .u8 0] (kOf v)) 5 (0, 0))] := ⟨_, rfl⟩
    have O14 : Own 5 1 (.slice (some ⟨g10, 0, none⟩) (kOf v) (kOf v)) (kOf v) (List.replicate (kOf v) (.int .u8 0)) T13 := e16 ▸ own_made 5 g10 _ (kOf v) (by simp only [maxLen]; omega)
    have M12 : Mem NoS w W11 ((T13 ++ [])) := by rw [e16]; exact M12
    obtain ⟨A15, hA15⟩ : ∃ A, A = some (⟨g10, 0, none⟩ : Addr) := ⟨_, rfl⟩
    rw [← hA15] at O14
    have hS17 : Mem NoS w W11 [] := M12.sub ((List.Sublist.refl []).trans (List.sublist_append_right T13 _))
    refine ⟨hS17, ?_⟩
    rw [← hA15]
    refine wh_callR (A := []) (B := (T13 ++ [])) M12 7 rfl (by kernel_rfl) (by kernel_rfl) (run_value_call 34 #[(Operand.tmp 10), (Operand.tmp 12)] _ rfl Try.func34 (by kernel_rfl) (by kernel_rfl) _ (by kernel_rfl)) #[true, true, true, true, true, true, true, true, false, false] rfl (bitsM W11 (v + 1) (kOf v + 1) (by omega) (by omega)) ?_
    intro v18 T19 W20 O21 M22
    have M22 : Mem NoS w W20 ((T19 ++ (T13 ++ []))) := M22
    obtain ⟨A23, cq24, rfl, hc25⟩ := O21.shape
    have hS26 : Mem NoS w W20 [] := M22.sub (((List.Sublist.refl []).trans (List.sublist_append_right T13 _)).trans (List.sublist_append_right T19 _))
    refine ⟨hS26, ?_⟩
    have M36 : Mem NoS w W20 ((T13 ++ (T19 ++ []))) := M22.swap (A := []) (T := T19) (U := T13) (B := [])
    obtain ⟨v27, T28, W29, hr30, O31, M32⟩ := append_u8 (A := []) (T := T13) (B := (T19 ++ [])) M36 29 _ _ _ O14 _ (kOf v + 1) (u8s (bitsOf (v + 1) (kOf v + 1))) (O21.rd (fun p hp => M36.at_ p (List.mem_append_right _ (List.mem_append_left _ hp)))) (by rw [u8s_length, bitsOf_length]; omega) (u8s_one _) (by omega)
    have M32 : Mem NoS w W29 ((T28 ++ (T19 ++ []))) := M32
    obtain ⟨A33, cq34, rfl, hc35⟩ := O31.shape
    have hS37 : Mem NoS w W29 [] := M32.sub (((List.Sublist.refl []).trans (List.sublist_append_right T19 _)).trans (List.sublist_append_right T28 _))
    refine wh_world 8 (.slice A33 (kOf v + (kOf v + 1)) cq34) W29 rfl (by kernel_rfl) (by kernel_rfl) (run_append_op (.tmp 7) (.tmp 13) _ rfl (.slice A15 (kOf v) (kOf v)) (.slice A23 (kOf v + 1) cq24) _ (by kernel_rfl) (by kernel_rfl) hr30) #[true, true, true, true, true, true, true, true, true, false] rfl hS37 ?_
    refine wh_take R6 9 (.slice A33 (kOf v + (kOf v + 1)) cq34) rfl (by kernel_rfl) (by kernel_rfl) (by kernel_rfl) (fun w' M' => (by kernel_rfl)) hS37 #[true, true, true, true, true, true, true, true, true, true] rfl ?_
    refine wh_done (by kernel_rfl) ?_
    refine hK5 _ _ ?_
    try clear hK5 K5
    refine wp_frame (a' := ⟨#[.int .i64 ((v : Nat) : Int), undef, .slice A33 (kOf v + (kOf v + 1)) cq34, .int .i64 ((kOf v : Nat) : Int), .int .i64 ((v : Nat) : Int), .int .i64 ((kOf v : Nat) : Int), .int .i64 ((kOf v : Nat) : Int), .slice A15 (kOf v) (kOf v), .int .i64 ((v : Nat) : Int), .int .i64 (((v : Nat) : Int) + 1), .int .u32 ((v + 1 : Nat) : Int), .int .i64 ((kOf v : Nat) : Int), .int .i64 ((kOf v + 1 : Nat) : Int), .slice A23 (kOf v + 1) cq24, .slice A33 (kOf v + (kOf v + 1)) cq34], []⟩) (by kernel_rfl) ?_
    refine wp_ret ?_
    exact done1 2 (.slice A33 (kOf v + (kOf v + 1)) cq34) (by kernel_rfl) (by kernel_rfl) (by kernel_rfl) ⟨_, T28, rfl, by have h := O31; rw [code_own v] at h; exact h, M32.sub (List.sublist_append_left T28 (T19 ++ []))⟩
  ·
    refine wi_callR (A := []) (B := []) M8 7 rfl trivial (by kernel_rfl) (run_value_call 34 #[(Operand.tmp 10), (Operand.tmp 12)] _ rfl Try.func34 (by kernel_rfl) (by kernel_rfl) _ (by kernel_rfl)) #[true, false, true, true, true, true, true, true, false, false] rfl (bitsM W3.drew (v + 1) (kOf v + 1) (by omega) (by omega)) ?_
    intro v38 T39 W40 O41 M42
    have M42 : Mem NoS w W40 ((T39 ++ [])) := M42
    obtain ⟨A43, cq44, rfl, hc45⟩ := O41.shape
    have hS46 : Mem NoS w W40 [] := M42.sub ((List.Sublist.refl []).trans (List.sublist_append_right T39 _))
    refine ⟨hS46, ?_⟩
    refine wh_new M42 1 (.cells (madeCells #[.int .u8 0] (kOf v)) 5 (0, 0)) (fun g => .slice (some ⟨g, 0, none⟩) (kOf v) (kOf v)) rfl (by kernel_rfl) (by kernel_rfl) (run_make_u8 (.tmp 6) (.tmp 6) rfl .i64 .i64 (kOf v) (by kernel_rfl) (by kernel_rfl) (by omega)) #[true, true, true, true, true, true, true, true, false, false] rfl ?_
    intro g47 W48 M49
    obtain ⟨T50, e53⟩ : ∃ T, T = [(g47, Obj.cells (madeCells #[.int .u8 0] (kOf v)) 5 (0, 0))] := ⟨_, rfl⟩
    have O51 : Own 5 1 (.slice (some ⟨g47, 0, none⟩) (kOf v) (kOf v)) (kOf v) (List.replicate (kOf v) (.int .u8 0)) T50 := e53 ▸ own_made 5 g47 _ (kOf v) (by simp only [maxLen]; omega)
    have M49 : Mem NoS w W48 ((T50 ++ (T39 ++ []))) := by rw [e53]; exact M49
    obtain ⟨A52, hA52⟩ : ∃ A, A = some (⟨g47, 0, none⟩ : Addr) := ⟨_, rfl⟩
    rw [← hA52] at O51
    have hS54 : Mem NoS w W48 [] := M49.sub (((List.Sublist.refl []).trans (List.sublist_append_right T39 _)).trans (List.sublist_append_right T50 _))
    refine ⟨hS54, ?_⟩
    rw [← hA52]
    obtain ⟨v55, T56, W57, hr58, O59, M60⟩ := append_u8 (A := []) (T := T50) (B := (T39 ++ [])) M49 29 _ _ _ O51 _ (kOf v + 1) (u8s (bitsOf (v + 1) (kOf v + 1))) (O41.rd (fun p hp => M49.at_ p (List.mem_append_right _ (List.mem_append_left _ hp)))) (by rw [u8s_length, bitsOf_length]; omega) (u8s_one _) (by omega)
    have M60 : Mem NoS w W57 ((T56 ++ (T39 ++ []))) := M60
    obtain ⟨A61, cq62, rfl, hc63⟩ := O59.shape
    have hS64 : Mem NoS w W57 [] := M60.sub (((List.Sublist.refl []).trans (List.sublist_append_right T39 _)).trans (List.sublist_append_right T56 _))
    refine wh_world 8 (.slice A61 (kOf v + (kOf v + 1)) cq62) W57 rfl (by kernel_rfl) (by kernel_rfl) (run_append_op (.tmp 7) (.tmp 13) _ rfl (.slice A52 (kOf v) (kOf v)) (.slice A43 (kOf v + 1) cq44) _ (by kernel_rfl) (by kernel_rfl) hr58) #[true, true, true, true, true, true, true, true, true, false] rfl hS64 ?_
    refine wh_take R6 9 (.slice A61 (kOf v + (kOf v + 1)) cq62) rfl (by kernel_rfl) (by kernel_rfl) (by kernel_rfl) (fun w' M' => (by kernel_rfl)) hS64 #[true, true, true, true, true, true, true, true, true, true] rfl ?_
    refine wh_done (by kernel_rfl) ?_
    refine hK5 _ _ ?_
    try clear hK5 K5
    refine wp_frame (a' := ⟨#[.int .i64 ((v : Nat) : Int), undef, .slice A61 (kOf v + (kOf v + 1)) cq62, .int .i64 ((kOf v : Nat) : Int), .int .i64 ((v : Nat) : Int), .int .i64 ((kOf v : Nat) : Int), .int .i64 ((kOf v : Nat) : Int), .slice A52 (kOf v) (kOf v), .int .i64 ((v : Nat) : Int), .int .i64 (((v : Nat) : Int) + 1), .int .u32 ((v + 1 : Nat) : Int), .int .i64 ((kOf v : Nat) : Int), .int .i64 ((kOf v + 1 : Nat) : Int), .slice A43 (kOf v + 1) cq44, .slice A61 (kOf v + (kOf v + 1)) cq62], []⟩) (by kernel_rfl) ?_
    refine wp_ret ?_
    exact done1 2 (.slice A61 (kOf v + (kOf v + 1)) cq62) (by kernel_rfl) (by kernel_rfl) (by kernel_rfl) ⟨_, T56, rfl, by have h := O59; rw [code_own v] at h; exact h, M60.sub (List.sublist_append_left T56 (T39 ++ []))⟩
set_option maxHeartbeats 4000000 in
set_option maxRecDepth 100000 in
theorem scode_walk (w : World) (v : Int) (hv : mayS v) : MakesRow Try.prog 30 #[.int .i64 v] w (fun r T => Own 5 1 r (kOf (unsg v).toNat + (kOf (unsg v).toNat + 1)) (u8s (codeN (unsg v).toNat)) T) := by
  unfold MakesRow
  obtain ⟨hu1, hu2⟩ := unsg_may hv
  obtain ⟨n, hn⟩ := Int.eq_ofNat_of_zero_le hu1
  refine calls_of_wp Try.func30 rfl ?_
  refine wp_frame (a' := ⟨#[.int .i64 v, undef, undef, undef, undef, undef], []⟩) (by kernel_rfl) ?_
  have M0 : Mem NoS w w [] := Mem.start _ _
  refine wp_seq_k (fun K1 hK1 => ?_)
  refine wl_region ?_
  refine st_val ((Go.Value.slice none 0 0)) (by kernel_rfl) (by kernel_rfl) ?_
  refine wl_nil ?_
  refine hK1 _ _ ?_
  try clear hK1 K1
  refine wp_seq_k (fun K2 hK2 => ?_)
  refine wl_region ?_
  refine st_val (.int .i64 v) (by kernel_rfl) (by kernel_rfl) ?_
  refine st_callB M0 (.int .i64 ((n : Nat) : Int)) (by kernel_rfl) (args := #[.int .i64 v]) (run_value_call 46 #[(Operand.tmp 3)] _ rfl Try.func46 (by kernel_rfl) (by kernel_rfl) _ (by kernel_rfl)) ((by have := refUnsg_walk w v hv; rw [hn] at this; exact this)) ?_
  intro W3 M4
  refine st_callR (A := []) (B := []) M4 (by kernel_rfl) (run_value_call 29 #[(Operand.tmp 4)] _ rfl Try.func29 (by kernel_rfl) (by kernel_rfl) _ (by kernel_rfl)) (code_walk W3 n (by omega)) ?_
  intro v5 T6 W7 O8 M9
  have M9 : Mem NoS w W7 ((T6 ++ [])) := M9
  obtain ⟨A10, cq11, rfl, hc12⟩ := O8.shape
  refine st_val (.slice A10 (kOf n + (kOf n + 1)) cq11) (by kernel_rfl) (by kernel_rfl) ?_
  refine wl_nil ?_
  refine hK2 _ _ ?_
  try clear hK2 K2
  refine wp_ret ?_
  exact done1 2 (.slice A10 (kOf n + (kOf n + 1)) cq11) (by kernel_rfl) (by kernel_rfl) (by kernel_rfl) ⟨_, T6, rfl, by rw [hn]; exact O8, M9.sub (List.sublist_append_left T6 [])⟩
end Go.Proofs.Ytmchfkkifeioeaa
