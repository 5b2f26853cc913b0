/- Exponents. -/
import Derived.Test.YtmimljaniliecaaAp
namespace Go.Proofs.Ytmimljaniliecaa
open Go.RowKit Bt
set_option maxHeartbeats 4000000 in
set_option maxRecDepth 100000 in
theorem expo_walk (w : World) (A : Option Addr) (c : Nat) (l : List Int) (hr : 0 < l.length → RdK w (.slice A l.length c) l.length (i16s l)) (hs : S16 l) (hn : l.length ≤ 1000000000) : Calls Try.prog 44 #[.slice A l.length c] w fun e w' => e = .returned (.int .i64 ((expo l : Nat) : Int)) ∧ Below w.heap.size w w' := by
  refine calls_of_wp Try.func44 rfl ?_
  refine wp_frame (a' := ⟨#[.slice A l.length c, undef, undef, undef, undef, undef, undef, undef, undef, undef, undef, undef, undef, undef, undef, undef, undef, undef, undef, undef, undef, undef, undef, undef, undef, undef, undef, undef, undef, undef], []⟩) (by kernel_rfl) ?_
  have M0 : Mem NoS w w [] := Mem.start _ _
  refine wp_seq_k (fun K1 hK1 => ?_)
  refine wl_region ?_
  refine st_val (.int .i64 0) (by kernel_rfl) (by kernel_rfl) ?_
  refine wl_nil ?_
  refine hK1 _ _ ?_
  try clear hK1 K1
  refine wp_seq_k (fun K2 hK2 => ?_)
  refine wl_region ?_
  refine st_val (.int .i64 0) (by kernel_rfl) (by kernel_rfl) ?_
  refine wl_nil ?_
  refine hK2 _ _ ?_
  try clear hK2 K2
  refine wp_seq_k (fun K3 hK3 => ?_)
  refine wp_seq_k (fun K4 hK4 => ?_)
  refine wl_region ?_
  refine st_val (.slice A l.length c) (by kernel_rfl) (by kernel_rfl) ?_
  refine st_val (.int .i64 ((l.length : Nat) : Int)) (by kernel_rfl) (by kernel_rfl) ?_
  refine st_val (.int .i64 0) (by kernel_rfl) (by kernel_rfl) ?_
  refine wl_nil ?_
  refine hK4 _ _ ?_
  try clear hK4 K4
  refine wp_block ?_
  refine wp_loop_ghost (fun gn a' w' => ∃ (i : Nat) (e0 : Nat) (u5 : Nat → Value), ((i ≤ l.length ∧ e0 ≤ 7 ∧ e0 = (l.take i).foldl bump 0) ∧ Mem NoS w w' []) ∧ gn = l.length - i ∧ a' = ⟨#[.slice A l.length c, undef, .int .i64 0, .int .i64 ((e0 : Nat) : Int), undef, (u5 5), .slice A l.length c, .int .i64 ((l.length : Nat) : Int), .int .i64 ((i : Nat) : Int), (u5 9), (u5 10), (u5 11), (u5 12), (u5 13), (u5 14), (u5 15), (u5 16), (u5 17), (u5 18), (u5 19), (u5 20), (u5 21), (u5 22), (u5 23), (u5 24), (u5 25), (u5 26), (u5 27), (u5 28), undef], []⟩) _ ⟨0, 0, (fun zz => Array.getD #[.slice A l.length c, undef, .int .i64 0, .int .i64 0, undef, undef, .slice A l.length c, .int .i64 ((l.length : Nat) : Int), .int .i64 0, undef, undef, undef, undef, undef, undef, undef, undef, undef, undef, undef, undef, undef, undef, undef, undef, undef, undef, undef, undef, undef] zz undef), ⟨⟨by omega, by omega, by rw [List.take_zero]; rfl⟩, M0⟩, rfl, (by kernel_rfl)⟩ ?_
  rintro gn _ W6 ⟨i, e0, u5, ⟨⟨ri, r0, hE⟩, M7⟩, rfl, rfl⟩
  refine wp_seq_k (fun K8 hK8 => ?_)
  refine wl_region ?_
  rcases Decidable.em ((((i : Nat) : Int) : Int) < ((l.length : Nat) : Int)) with c9 | c9
  ·
    refine st_val (.bool true) (by kernel_rfl) (bool_of (dec_t c9) (by kernel_rfl)) ?_
    refine wl_nil ?_
    refine hK8 _ _ ?_
    try clear hK8 K8
    refine wp_seq_k (fun K9 hK9 => ?_)
    refine wp_cond_true (by kernel_rfl) ?_
    refine wp_skip ?_
    refine hK9 _ _ ?_
    try clear hK9 K9
    refine wp_seq_k (fun K10 hK10 => ?_)
    refine wp_block ?_
    refine wp_seq_k (fun K11 hK11 => ?_)
    have hx := s16_get hs i
    refine wl_region ?_
    obtain ⟨b12, o13, eA14⟩ := RdK.addr ((hr (by omega)).keep M7.keep (fun _ _ h => h)) (j := i * 1) (by rw [i16s_length]; omega)
    refine st_val (.pointer (some ⟨b12, o13 + i * 1, none⟩)) (by kernel_rfl) (run_indexSliceA 39 (.tmp 6) (.tmp 8) rfl A ⟨b12, o13, none⟩ eA14 l.length c .i64 i (by kernel_rfl) (by kernel_rfl) Try.underlying39 1 (by kernel_rfl) (by omega) ⟨b12, o13 + i * 1, none⟩ (addr_atK _ _ _ _)) ?_
    refine st_val (.int .i16 (l.getD i 0)) (by kernel_rfl) (run_load_cell 45 (.tmp 10) rfl ⟨b12, o13 + i * 1, none⟩ (by kernel_rfl) _ (((hr (by omega)).keep M7.keep (fun _ _ h => h)).cellF eA14 (f := 0) (i16s_get l i (by omega))) (by kernel_rfl)) ?_
    refine st_val (.int .i16 (l.getD i 0)) (by kernel_rfl) (by kernel_rfl) ?_
    refine wl_nil ?_
    refine hK11 _ _ ?_
    try clear hK11 K11
    refine wp_block ?_
    refine wp_loop_ghost (fun gn a' w' => ∃ (ex : Nat) (u15 : Nat → Value), ((ex ≤ 7 ∧ bump ex (l.getD i 0) = bump e0 (l.getD i 0)) ∧ Mem NoS w w' []) ∧ gn = 8 - ex ∧ a' = ⟨#[.slice A l.length c, undef, .int .i64 0, .int .i64 ((ex : Nat) : Int), undef, .int .i16 (l.getD i 0), .slice A l.length c, .int .i64 ((l.length : Nat) : Int), .int .i64 ((i : Nat) : Int), .bool true, .pointer (some ⟨b12, o13 + i * 1, none⟩), .int .i16 (l.getD i 0), (u15 12), (u15 13), (u15 14), (u15 15), (u15 16), (u15 17), (u15 18), (u15 19), (u15 20), (u15 21), (u15 22), (u15 23), (u15 24), (u15 25), (u15 26), (u15 27), (u5 28), undef], []⟩) _ ⟨e0, (fun zz => Array.getD #[.slice A l.length c, undef, .int .i64 0, .int .i64 ((e0 : Nat) : Int), undef, .int .i16 (l.getD i 0), .slice A l.length c, .int .i64 ((l.length : Nat) : Int), .int .i64 ((i : Nat) : Int), .bool true, .pointer (some ⟨b12, o13 + i * 1, none⟩), .int .i16 (l.getD i 0), (u5 12), (u5 13), (u5 14), (u5 15), (u5 16), (u5 17), (u5 18), (u5 19), (u5 20), (u5 21), (u5 22), (u5 23), (u5 24), (u5 25), (u5 26), (u5 27), (u5 28), undef] zz undef), ⟨⟨by omega, rfl⟩, M7⟩, rfl, (by kernel_rfl)⟩ ?_
    rintro gn _ W16 ⟨ex, u15, ⟨⟨re, hB⟩, M17⟩, rfl, rfl⟩
    refine wp_seq_k (fun K18 hK18 => ?_)
    refine wp_seq_k (fun K19 hK19 => ?_)
    have hx := s16_get hs i
    have h2k : (2 : Nat) ^ ex ≤ 2 ^ 7 := Nat.pow_le_pow_right (by decide) (by omega)
    have h2p : 0 < (2 : Nat) ^ ex := Nat.pow_pos (by decide)
    refine wl_region ?_
    refine st_val (.int .i16 (l.getD i 0)) (by kernel_rfl) (by kernel_rfl) ?_
    refine st_val (.int .i64 (l.getD i 0)) (by kernel_rfl) (i64_of (by omega) (by kernel_rfl)) ?_
    refine st_val (.int .i64 ((ex : Nat) : Int)) (by kernel_rfl) (by kernel_rfl) ?_
    refine st_val (.int .i64 ((8 + ex : Nat) : Int)) (by kernel_rfl) (int_of (show 8 + ((ex : Nat) : Int) = ((8 + ex : Nat) : Int) by omega) (i64_of (by omega) (by kernel_rfl))) ?_
    refine st_val (.int .i64 (-(256 * ((2 ^ ex : Nat) : Int)))) (by kernel_rfl) (run_value_bin .shl 3 3 _ (.tmp 15) rfl (.int .i64 (-1)) (.int .i64 ((8 + ex : Nat) : Int)) _ (by kernel_rfl) (by kernel_rfl) (by kernel_rfl) (bin_shl (n := (8 + ex)) (by show _ ≤ 64; omega) (show IntKind.i64.wrap ((-1) * 2 ^ (8 + ex)) = -(256 * ((2 ^ ex : Nat) : Int)) from wrap_n8 ex (by omega)))) ?_
    rcases Decidable.em ((l.getD i 0 : Int) < -(256 * ((2 ^ ex : Nat) : Int))) with c17 | c17
    ·
      refine st_val (.bool true) (by kernel_rfl) (bool_of (dec_t c17) (by kernel_rfl)) ?_
      refine st_val (.bool true) (by kernel_rfl) (by kernel_rfl) ?_
      refine st_skip (by kernel_rfl) ?_
      refine st_skip (by kernel_rfl) ?_
      refine st_skip (by kernel_rfl) ?_
      refine st_skip (by kernel_rfl) ?_
      refine st_skip (by kernel_rfl) ?_
      refine st_skip (by kernel_rfl) ?_
      refine st_val (.bool true) (by kernel_rfl) (by kernel_rfl) ?_
      refine wl_nil ?_
      refine hK19 _ _ ?_
      try clear hK19 K19
      refine wp_frame (a' := ⟨#[.slice A l.length c, undef, .int .i64 0, .int .i64 ((ex : Nat) : Int), undef, .int .i16 (l.getD i 0), .slice A l.length c, .int .i64 ((l.length : Nat) : Int), .int .i64 ((i : Nat) : Int), .bool true, .pointer (some ⟨b12, o13 + i * 1, none⟩), .int .i16 (l.getD i 0), .int .i16 (l.getD i 0), .int .i64 (l.getD i 0), .int .i64 ((ex : Nat) : Int), .int .i64 ((8 + ex : Nat) : Int), .int .i64 (-(256 * ((2 ^ ex : Nat) : Int))), .bool true, .bool true, undef, undef, undef, undef, undef, undef, .bool true, (u15 26), (u15 27), (u5 28), undef], []⟩) (by kernel_rfl) ?_
      refine wp_cond_true (by kernel_rfl) ?_
      refine wp_skip ?_
      refine hK18 _ _ ?_
      try clear hK18 K18
      refine wp_block ?_
      refine wl_region ?_
      refine st_val (.int .i64 ((ex : Nat) : Int)) (by kernel_rfl) (by kernel_rfl) ?_
      refine st_val (.int .i64 (((ex : Nat) : Int) + 1)) (by kernel_rfl) (i64_of (by omega) (by kernel_rfl)) ?_
      refine st_val (.int .i64 (((ex : Nat) : Int) + 1)) (by kernel_rfl) (by kernel_rfl) ?_
      refine wl_nil ?_
      refine blk_normal ?_
      refine th_normal ?_
      obtain ⟨hb7, hbs⟩ := bump_step (ex := ex) (x := l.getD i 0) (by omega) hx (fun h => by have := h.1; have := h.2; omega)
      exact ⟨_, (by omega), (ex + 1), (fun zz => Array.getD #[.slice A l.length c, undef, .int .i64 0, .int .i64 (((ex : Nat) : Int) + 1), undef, .int .i16 (l.getD i 0), .slice A l.length c, .int .i64 ((l.length : Nat) : Int), .int .i64 ((i : Nat) : Int), .bool true, .pointer (some ⟨b12, o13 + i * 1, none⟩), .int .i16 (l.getD i 0), .int .i16 (l.getD i 0), .int .i64 (l.getD i 0), .int .i64 ((ex : Nat) : Int), .int .i64 ((8 + ex : Nat) : Int), .int .i64 (-(256 * ((2 ^ ex : Nat) : Int))), .bool true, .bool true, undef, undef, undef, undef, undef, undef, .bool true, .int .i64 ((ex : Nat) : Int), .int .i64 (((ex : Nat) : Int) + 1), (u5 28), undef] zz undef), ⟨⟨by omega, by rw [← hbs]; exact hB⟩, M17⟩, rfl, (by kernel_rfl)⟩
    ·
      refine st_val (.bool false) (by kernel_rfl) (bool_of (dec_f c17) (by kernel_rfl)) ?_
      refine st_val (.bool false) (by kernel_rfl) (by kernel_rfl) ?_
      refine st_val (.int .i16 (l.getD i 0)) (by kernel_rfl) (by kernel_rfl) ?_
      refine st_val (.int .i64 (l.getD i 0)) (by kernel_rfl) (i64_of (by omega) (by kernel_rfl)) ?_
      refine st_val (.int .i64 ((ex : Nat) : Int)) (by kernel_rfl) (by kernel_rfl) ?_
      refine st_val (.int .i64 ((8 + ex : Nat) : Int)) (by kernel_rfl) (int_of (show 8 + ((ex : Nat) : Int) = ((8 + ex : Nat) : Int) by omega) (i64_of (by omega) (by kernel_rfl))) ?_
      refine st_val (.int .i64 (256 * ((2 ^ ex : Nat) : Int))) (by kernel_rfl) (run_value_bin .shl 3 3 _ (.tmp 22) rfl (.int .i64 1) (.int .i64 ((8 + ex : Nat) : Int)) _ (by kernel_rfl) (by kernel_rfl) (by kernel_rfl) (bin_shl (n := (8 + ex)) (by show _ ≤ 64; omega) (show IntKind.i64.wrap (1 * 2 ^ (8 + ex)) = 256 * ((2 ^ ex : Nat) : Int) from wrap_p8 ex (by omega)))) ?_
      rcases Decidable.em ((l.getD i 0 : Int) ≥ 256 * ((2 ^ ex : Nat) : Int)) with c24 | c24
      ·
        refine st_val (.bool true) (by kernel_rfl) (bool_of (dec_t c24) (by kernel_rfl)) ?_
        refine st_val (.bool true) (by kernel_rfl) (by kernel_rfl) ?_
        refine wl_nil ?_
        refine hK19 _ _ ?_
        try clear hK19 K19
        refine wp_frame (a' := ⟨#[.slice A l.length c, undef, .int .i64 0, .int .i64 ((ex : Nat) : Int), undef, .int .i16 (l.getD i 0), .slice A l.length c, .int .i64 ((l.length : Nat) : Int), .int .i64 ((i : Nat) : Int), .bool true, .pointer (some ⟨b12, o13 + i * 1, none⟩), .int .i16 (l.getD i 0), .int .i16 (l.getD i 0), .int .i64 (l.getD i 0), .int .i64 ((ex : Nat) : Int), .int .i64 ((8 + ex : Nat) : Int), .int .i64 (-(256 * ((2 ^ ex : Nat) : Int))), .bool false, .bool false, .int .i16 (l.getD i 0), .int .i64 (l.getD i 0), .int .i64 ((ex : Nat) : Int), .int .i64 ((8 + ex : Nat) : Int), .int .i64 (256 * ((2 ^ ex : Nat) : Int)), .bool true, .bool true, (u15 26), (u15 27), (u5 28), undef], []⟩) (by kernel_rfl) ?_
        refine wp_cond_true (by kernel_rfl) ?_
        refine wp_skip ?_
        refine hK18 _ _ ?_
        try clear hK18 K18
        refine wp_block ?_
        refine wl_region ?_
        refine st_val (.int .i64 ((ex : Nat) : Int)) (by kernel_rfl) (by kernel_rfl) ?_
        refine st_val (.int .i64 (((ex : Nat) : Int) + 1)) (by kernel_rfl) (i64_of (by omega) (by kernel_rfl)) ?_
        refine st_val (.int .i64 (((ex : Nat) : Int) + 1)) (by kernel_rfl) (by kernel_rfl) ?_
        refine wl_nil ?_
        refine blk_normal ?_
        refine th_normal ?_
        obtain ⟨hb7, hbs⟩ := bump_step (ex := ex) (x := l.getD i 0) (by omega) hx (fun h => by have := h.1; have := h.2; omega)
        exact ⟨_, (by omega), (ex + 1), (fun zz => Array.getD #[.slice A l.length c, undef, .int .i64 0, .int .i64 (((ex : Nat) : Int) + 1), undef, .int .i16 (l.getD i 0), .slice A l.length c, .int .i64 ((l.length : Nat) : Int), .int .i64 ((i : Nat) : Int), .bool true, .pointer (some ⟨b12, o13 + i * 1, none⟩), .int .i16 (l.getD i 0), .int .i16 (l.getD i 0), .int .i64 (l.getD i 0), .int .i64 ((ex : Nat) : Int), .int .i64 ((8 + ex : Nat) : Int), .int .i64 (-(256 * ((2 ^ ex : Nat) : Int))), .bool false, .bool false, .int .i16 (l.getD i 0), .int .i64 (l.getD i 0), .int .i64 ((ex : Nat) : Int), .int .i64 ((8 + ex : Nat) : Int), .int .i64 (256 * ((2 ^ ex : Nat) : Int)), .bool true, .bool true, .int .i64 ((ex : Nat) : Int), .int .i64 (((ex : Nat) : Int) + 1), (u5 28), undef] zz undef), ⟨⟨by omega, by rw [← hbs]; exact hB⟩, M17⟩, rfl, (by kernel_rfl)⟩
      ·
        refine st_val (.bool false) (by kernel_rfl) (bool_of (dec_f c24) (by kernel_rfl)) ?_
        refine st_val (.bool false) (by kernel_rfl) (by kernel_rfl) ?_
        refine wl_nil ?_
        refine hK19 _ _ ?_
        try clear hK19 K19
        refine wp_frame (a' := ⟨#[.slice A l.length c, undef, .int .i64 0, .int .i64 ((ex : Nat) : Int), undef, .int .i16 (l.getD i 0), .slice A l.length c, .int .i64 ((l.length : Nat) : Int), .int .i64 ((i : Nat) : Int), .bool true, .pointer (some ⟨b12, o13 + i * 1, none⟩), .int .i16 (l.getD i 0), .int .i16 (l.getD i 0), .int .i64 (l.getD i 0), .int .i64 ((ex : Nat) : Int), .int .i64 ((8 + ex : Nat) : Int), .int .i64 (-(256 * ((2 ^ ex : Nat) : Int))), .bool false, .bool false, .int .i16 (l.getD i 0), .int .i64 (l.getD i 0), .int .i64 ((ex : Nat) : Int), .int .i64 ((8 + ex : Nat) : Int), .int .i64 (256 * ((2 ^ ex : Nat) : Int)), .bool false, .bool false, (u15 26), (u15 27), (u5 28), undef], []⟩) (by kernel_rfl) ?_
        refine wp_cond_false (by kernel_rfl) ?_
        refine wp_exit ?_
        refine th_exit ?_
        refine th_exit ?_
        refine blk_exit ?_
        refine blk_normal ?_
        refine hK10 _ _ ?_
        try clear hK10 K10
        refine wl_region ?_
        refine st_val (.int .i64 (((i : Nat) : Int) + 1)) (by kernel_rfl) (i64_of (by omega) (by kernel_rfl)) ?_
        refine st_val (.int .i64 (((i : Nat) : Int) + 1)) (by kernel_rfl) (by kernel_rfl) ?_
        refine wl_nil ?_
        refine th_normal ?_
        have hbf := bump_fit (ex := ex) (x := l.getD i 0) (by omega) ⟨by omega, by omega⟩
        exact ⟨_, by omega, (i + 1), ex, (fun zz => Array.getD #[.slice A l.length c, undef, .int .i64 0, .int .i64 ((ex : Nat) : Int), undef, .int .i16 (l.getD i 0), .slice A l.length c, .int .i64 ((l.length : Nat) : Int), .int .i64 (((i : Nat) : Int) + 1), .bool true, .pointer (some ⟨b12, o13 + i * 1, none⟩), .int .i16 (l.getD i 0), .int .i16 (l.getD i 0), .int .i64 (l.getD i 0), .int .i64 ((ex : Nat) : Int), .int .i64 ((8 + ex : Nat) : Int), .int .i64 (-(256 * ((2 ^ ex : Nat) : Int))), .bool false, .bool false, .int .i16 (l.getD i 0), .int .i64 (l.getD i 0), .int .i64 ((ex : Nat) : Int), .int .i64 ((8 + ex : Nat) : Int), .int .i64 (256 * ((2 ^ ex : Nat) : Int)), .bool false, .bool false, (u15 26), (u15 27), .int .i64 (((i : Nat) : Int) + 1), undef] zz undef), ⟨⟨by omega, by omega, by rw [expo_take l i (by omega), ← hE, ← hB, hbf]⟩, M17⟩, rfl, (by kernel_rfl)⟩
  ·
    refine st_val (.bool false) (by kernel_rfl) (bool_of (dec_f c9) (by kernel_rfl)) ?_
    refine wl_nil ?_
    refine hK8 _ _ ?_
    try clear hK8 K8
    refine wp_seq_k (fun K20 hK20 => ?_)
    refine wp_cond_false (by kernel_rfl) ?_
    refine wp_exit ?_
    refine th_exit ?_
    refine th_exit ?_
    refine blk_exit ?_
    refine hK3 _ _ ?_
    try clear hK3 K3
    refine wp_seq_k (fun K21 hK21 => ?_)
    refine wl_region ?_
    refine st_val (.int .i64 ((e0 : Nat) : Int)) (by kernel_rfl) (by kernel_rfl) ?_
    refine st_val (.int .i64 ((e0 : Nat) : Int)) (by kernel_rfl) (by kernel_rfl) ?_
    refine wl_nil ?_
    refine hK21 _ _ ?_
    try clear hK21 K21
    refine wp_ret ?_
    exact done1 2 (.int .i64 ((e0 : Nat) : Int)) (by kernel_rfl) (by kernel_rfl) (by kernel_rfl) ⟨by rw [hE, List.take_of_length_le (by omega)]; rfl, M7.toBelow⟩
set_option maxHeartbeats 4000000 in
set_option maxRecDepth 100000 in
theorem refExpo_walk (w : World) (A : Option Addr) (c : Nat) (l : List Int) (hr : 0 < l.length → RdK w (.slice A l.length c) l.length (i16s l)) (hs : S16 l) (hn : l.length ≤ 1000000000) : Calls Try.prog 49 #[.slice A l.length c] w fun e w' => e = .returned (.int .i64 ((expo l : Nat) : Int)) ∧ Below w.heap.size w w' := by
  refine calls_of_wp Try.func49 rfl ?_
  refine wp_frame (a' := ⟨#[.slice A l.length c, undef, undef, undef, undef, undef, undef, undef, undef, undef, undef, undef, undef, undef, undef, undef, undef, undef, undef, undef, undef, undef, undef, undef, undef, undef, undef, undef, undef, undef, undef, undef, undef, undef, undef], []⟩) (by kernel_rfl) ?_
  have M0 : Mem NoS w w [] := Mem.start _ _
  refine wp_seq_k (fun K1 hK1 => ?_)
  refine wl_region ?_
  refine st_val (.int .i64 0) (by kernel_rfl) (by kernel_rfl) ?_
  refine wl_nil ?_
  refine hK1 _ _ ?_
  try clear hK1 K1
  refine wp_seq_k (fun K2 hK2 => ?_)
  refine wl_region ?_
  refine st_val (.int .i64 0) (by kernel_rfl) (by kernel_rfl) ?_
  refine wl_nil ?_
  refine hK2 _ _ ?_
  try clear hK2 K2
  refine wp_seq_k (fun K3 hK3 => ?_)
  refine wp_seq_k (fun K4 hK4 => ?_)
  refine wl_region ?_
  refine st_val (.int .i64 0) (by kernel_rfl) (by kernel_rfl) ?_
  refine wl_nil ?_
  refine hK4 _ _ ?_
  try clear hK4 K4
  refine wp_block ?_
  refine wp_loop_ghost (fun gn a' w' => ∃ (i : Nat) (e0 : Nat) (u5 : Nat → Value), ((i ≤ l.length ∧ e0 ≤ 7 ∧ e0 = (l.take i).foldl bump 0) ∧ Mem NoS w w' []) ∧ gn = l.length - i ∧ a' = ⟨#[.slice A l.length c, undef, .int .i64 0, .int .i64 ((e0 : Nat) : Int), .int .i64 ((i : Nat) : Int), (u5 5), (u5 6), (u5 7), (u5 8), (u5 9), (u5 10), (u5 11), (u5 12), (u5 13), (u5 14), (u5 15), (u5 16), (u5 17), (u5 18), (u5 19), (u5 20), (u5 21), (u5 22), (u5 23), (u5 24), (u5 25), (u5 26), (u5 27), (u5 28), (u5 29), (u5 30), (u5 31), (u5 32), (u5 33), undef], []⟩) _ ⟨0, 0, (fun zz => Array.getD #[.slice A l.length c, undef, .int .i64 0, .int .i64 0, .int .i64 0, undef, undef, undef, undef, undef, undef, undef, undef, undef, undef, undef, undef, undef, undef, undef, undef, undef, undef, undef, undef, undef, undef, undef, undef, undef, undef, undef, undef, undef, undef] zz undef), ⟨⟨by omega, by omega, by rw [List.take_zero]; rfl⟩, M0⟩, rfl, (by kernel_rfl)⟩ ?_
  rintro gn _ W6 ⟨i, e0, u5, ⟨⟨ri, r0, hE⟩, M7⟩, rfl, rfl⟩
  refine wp_seq_k (fun K8 hK8 => ?_)
  refine wp_seq_k (fun K9 hK9 => ?_)
  refine wl_region ?_
  refine st_val (.int .i64 ((i : Nat) : Int)) (by kernel_rfl) (by kernel_rfl) ?_
  refine st_val (.slice A l.length c) (by kernel_rfl) (by kernel_rfl) ?_
  refine st_val (.int .i64 ((l.length : Nat) : Int)) (by kernel_rfl) (by kernel_rfl) ?_
  rcases Decidable.em ((((i : Nat) : Int) : Int) < ((l.length : Nat) : Int)) with c8 | c8
  ·
    refine st_val (.bool true) (by kernel_rfl) (bool_of (dec_t c8) (by kernel_rfl)) ?_
    refine wl_nil ?_
    refine hK9 _ _ ?_
    try clear hK9 K9
    refine wp_cond_true (by kernel_rfl) ?_
    refine wp_skip ?_
    refine hK8 _ _ ?_
    try clear hK8 K8
    refine wp_seq_k (fun K10 hK10 => ?_)
    refine wp_block ?_
    refine wp_block ?_
    refine wp_loop_ghost (fun gn a' w' => ∃ (ex : Nat) (u11 : Nat → Value), ((ex ≤ 7 ∧ bump ex (l.getD i 0) = bump e0 (l.getD i 0)) ∧ Mem NoS w w' []) ∧ gn = 8 - ex ∧ a' = ⟨#[.slice A l.length c, undef, .int .i64 0, .int .i64 ((ex : Nat) : Int), .int .i64 ((i : Nat) : Int), .int .i64 ((i : Nat) : Int), .slice A l.length c, .int .i64 ((l.length : Nat) : Int), .bool true, (u5 9), (u5 10), (u11 11), (u11 12), (u11 13), (u11 14), (u11 15), (u11 16), (u11 17), (u11 18), (u11 19), (u11 20), (u11 21), (u11 22), (u11 23), (u11 24), (u11 25), (u11 26), (u11 27), (u11 28), (u11 29), (u11 30), (u11 31), (u11 32), (u11 33), undef], []⟩) _ ⟨e0, (fun zz => Array.getD #[.slice A l.length c, undef, .int .i64 0, .int .i64 ((e0 : Nat) : Int), .int .i64 ((i : Nat) : Int), .int .i64 ((i : Nat) : Int), .slice A l.length c, .int .i64 ((l.length : Nat) : Int), .bool true, (u5 9), (u5 10), (u5 11), (u5 12), (u5 13), (u5 14), (u5 15), (u5 16), (u5 17), (u5 18), (u5 19), (u5 20), (u5 21), (u5 22), (u5 23), (u5 24), (u5 25), (u5 26), (u5 27), (u5 28), (u5 29), (u5 30), (u5 31), (u5 32), (u5 33), undef] zz undef), ⟨⟨by omega, rfl⟩, M7⟩, rfl, (by kernel_rfl)⟩ ?_
    rintro gn _ W12 ⟨ex, u11, ⟨⟨re, hB⟩, M13⟩, rfl, rfl⟩
    refine wp_seq_k (fun K14 hK14 => ?_)
    refine wp_seq_k (fun K15 hK15 => ?_)
    have hx := s16_get hs i
    have h2k : (2 : Nat) ^ ex ≤ 2 ^ 7 := Nat.pow_le_pow_right (by decide) (by omega)
    have h2p : 0 < (2 : Nat) ^ ex := Nat.pow_pos (by decide)
    refine wl_region ?_
    refine st_val (.slice A l.length c) (by kernel_rfl) (by kernel_rfl) ?_
    refine st_val (.int .i64 ((i : Nat) : Int)) (by kernel_rfl) (by kernel_rfl) ?_
    obtain ⟨b16, o17, eA18⟩ := RdK.addr ((hr (by omega)).keep M13.keep (fun _ _ h => h)) (j := i * 1) (by rw [i16s_length]; omega)
    refine st_val (.pointer (some ⟨b16, o17 + i * 1, none⟩)) (by kernel_rfl) (run_indexSliceA 39 (.tmp 11) (.tmp 12) rfl A ⟨b16, o17, none⟩ eA18 l.length c .i64 i (by kernel_rfl) (by kernel_rfl) Try.underlying39 1 (by kernel_rfl) (by omega) ⟨b16, o17 + i * 1, none⟩ (addr_atK _ _ _ _)) ?_
    refine st_val (.int .i16 (l.getD i 0)) (by kernel_rfl) (run_load_cell 45 (.tmp 13) rfl ⟨b16, o17 + i * 1, none⟩ (by kernel_rfl) _ (((hr (by omega)).keep M13.keep (fun _ _ h => h)).cellF eA18 (f := 0) (i16s_get l i (by omega))) (by kernel_rfl)) ?_
    refine st_val (.int .i64 (l.getD i 0)) (by kernel_rfl) (i64_of (by omega) (by kernel_rfl)) ?_
    refine st_val (.int .i64 ((ex : Nat) : Int)) (by kernel_rfl) (by kernel_rfl) ?_
    refine st_val (.int .u64 ((ex : Nat) : Int)) (by kernel_rfl) (int_of (wrap_u64 (by omega)) (by kernel_rfl)) ?_
    refine st_val (.int .i64 (256 * ((2 ^ ex : Nat) : Int))) (by kernel_rfl) (run_value_bin .shl 3 48 _ (.tmp 17) rfl (.int .i64 256) (.int .u64 ((ex : Nat) : Int)) _ (by kernel_rfl) (by kernel_rfl) (by kernel_rfl) (bin_shl (n := ex) (by show _ ≤ 64; omega) (show IntKind.i64.wrap (256 * 2 ^ ex) = 256 * ((2 ^ ex : Nat) : Int) from wrap_256 ex (by omega)))) ?_
    refine st_val (.int .i64 (-(256 * ((2 ^ ex : Nat) : Int)))) (by kernel_rfl) (int_of (show (0 : Int) - (256 * ((2 ^ ex : Nat) : Int)) = -(256 * ((2 ^ ex : Nat) : Int)) by omega) (i64_of (by omega) (by kernel_rfl))) ?_
    rcases Decidable.em ((l.getD i 0 : Int) < -(256 * ((2 ^ ex : Nat) : Int))) with c20 | c20
    ·
      refine st_val (.bool true) (by kernel_rfl) (bool_of (dec_t c20) (by kernel_rfl)) ?_
      refine st_val (.bool true) (by kernel_rfl) (by kernel_rfl) ?_
      refine st_skip (by kernel_rfl) ?_
      refine st_skip (by kernel_rfl) ?_
      refine st_skip (by kernel_rfl) ?_
      refine st_skip (by kernel_rfl) ?_
      refine st_skip (by kernel_rfl) ?_
      refine st_skip (by kernel_rfl) ?_
      refine st_skip (by kernel_rfl) ?_
      refine st_skip (by kernel_rfl) ?_
      refine st_skip (by kernel_rfl) ?_
      refine st_val (.bool true) (by kernel_rfl) (by kernel_rfl) ?_
      refine wl_nil ?_
      refine hK15 _ _ ?_
      try clear hK15 K15
      refine wp_frame (a' := ⟨#[.slice A l.length c, undef, .int .i64 0, .int .i64 ((ex : Nat) : Int), .int .i64 ((i : Nat) : Int), .int .i64 ((i : Nat) : Int), .slice A l.length c, .int .i64 ((l.length : Nat) : Int), .bool true, (u5 9), (u5 10), .slice A l.length c, .int .i64 ((i : Nat) : Int), .pointer (some ⟨b16, o17 + i * 1, none⟩), .int .i16 (l.getD i 0), .int .i64 (l.getD i 0), .int .i64 ((ex : Nat) : Int), .int .u64 ((ex : Nat) : Int), .int .i64 (256 * ((2 ^ ex : Nat) : Int)), .int .i64 (-(256 * ((2 ^ ex : Nat) : Int))), .bool true, .bool true, undef, undef, undef, undef, undef, undef, undef, undef, undef, .bool true, (u11 32), (u11 33), undef], []⟩) (by kernel_rfl) ?_
      refine wp_cond_true (by kernel_rfl) ?_
      refine wp_skip ?_
      refine hK14 _ _ ?_
      try clear hK14 K14
      refine wp_block ?_
      refine wl_region ?_
      refine st_val (.int .i64 ((ex : Nat) : Int)) (by kernel_rfl) (by kernel_rfl) ?_
      refine st_val (.int .i64 (((ex : Nat) : Int) + 1)) (by kernel_rfl) (i64_of (by omega) (by kernel_rfl)) ?_
      refine st_val (.int .i64 (((ex : Nat) : Int) + 1)) (by kernel_rfl) (by kernel_rfl) ?_
      refine wl_nil ?_
      refine blk_normal ?_
      refine th_normal ?_
      obtain ⟨hb7, hbs⟩ := bump_step (ex := ex) (x := l.getD i 0) (by omega) hx (fun h => by have := h.1; have := h.2; omega)
      exact ⟨_, (by omega), (ex + 1), (fun zz => Array.getD #[.slice A l.length c, undef, .int .i64 0, .int .i64 (((ex : Nat) : Int) + 1), .int .i64 ((i : Nat) : Int), .int .i64 ((i : Nat) : Int), .slice A l.length c, .int .i64 ((l.length : Nat) : Int), .bool true, (u5 9), (u5 10), .slice A l.length c, .int .i64 ((i : Nat) : Int), .pointer (some ⟨b16, o17 + i * 1, none⟩), .int .i16 (l.getD i 0), .int .i64 (l.getD i 0), .int .i64 ((ex : Nat) : Int), .int .u64 ((ex : Nat) : Int), .int .i64 (256 * ((2 ^ ex : Nat) : Int)), .int .i64 (-(256 * ((2 ^ ex : Nat) : Int))), .bool true, .bool true, undef, undef, undef, undef, undef, undef, undef, undef, undef, .bool true, .int .i64 ((ex : Nat) : Int), .int .i64 (((ex : Nat) : Int) + 1), undef] zz undef), ⟨⟨by omega, by rw [← hbs]; exact hB⟩, M13⟩, rfl, (by kernel_rfl)⟩
    ·
      refine st_val (.bool false) (by kernel_rfl) (bool_of (dec_f c20) (by kernel_rfl)) ?_
      refine st_val (.bool false) (by kernel_rfl) (by kernel_rfl) ?_
      refine st_val (.slice A l.length c) (by kernel_rfl) (by kernel_rfl) ?_
      refine st_val (.int .i64 ((i : Nat) : Int)) (by kernel_rfl) (by kernel_rfl) ?_
      obtain ⟨b19, o20, eA21⟩ := RdK.addr ((hr (by omega)).keep M13.keep (fun _ _ h => h)) (j := i * 1) (by rw [i16s_length]; omega)
      refine st_val (.pointer (some ⟨b19, o20 + i * 1, none⟩)) (by kernel_rfl) (run_indexSliceA 39 (.tmp 22) (.tmp 23) rfl A ⟨b19, o20, none⟩ eA21 l.length c .i64 i (by kernel_rfl) (by kernel_rfl) Try.underlying39 1 (by kernel_rfl) (by omega) ⟨b19, o20 + i * 1, none⟩ (addr_atK _ _ _ _)) ?_
      refine st_val (.int .i16 (l.getD i 0)) (by kernel_rfl) (run_load_cell 45 (.tmp 24) rfl ⟨b19, o20 + i * 1, none⟩ (by kernel_rfl) _ (((hr (by omega)).keep M13.keep (fun _ _ h => h)).cellF eA21 (f := 0) (i16s_get l i (by omega))) (by kernel_rfl)) ?_
      refine st_val (.int .i64 (l.getD i 0)) (by kernel_rfl) (i64_of (by omega) (by kernel_rfl)) ?_
      refine st_val (.int .i64 ((ex : Nat) : Int)) (by kernel_rfl) (by kernel_rfl) ?_
      refine st_val (.int .u64 ((ex : Nat) : Int)) (by kernel_rfl) (int_of (wrap_u64 (by omega)) (by kernel_rfl)) ?_
      refine st_val (.int .i64 (256 * ((2 ^ ex : Nat) : Int))) (by kernel_rfl) (run_value_bin .shl 3 48 _ (.tmp 28) rfl (.int .i64 256) (.int .u64 ((ex : Nat) : Int)) _ (by kernel_rfl) (by kernel_rfl) (by kernel_rfl) (bin_shl (n := ex) (by show _ ≤ 64; omega) (show IntKind.i64.wrap (256 * 2 ^ ex) = 256 * ((2 ^ ex : Nat) : Int) from wrap_256 ex (by omega)))) ?_
      rcases Decidable.em ((l.getD i 0 : Int) ≥ 256 * ((2 ^ ex : Nat) : Int)) with c30 | c30
      ·
        refine st_val (.bool true) (by kernel_rfl) (bool_of (dec_t c30) (by kernel_rfl)) ?_
        refine st_val (.bool true) (by kernel_rfl) (by kernel_rfl) ?_
        refine wl_nil ?_
        refine hK15 _ _ ?_
        try clear hK15 K15
        refine wp_frame (a' := ⟨#[.slice A l.length c, undef, .int .i64 0, .int .i64 ((ex : Nat) : Int), .int .i64 ((i : Nat) : Int), .int .i64 ((i : Nat) : Int), .slice A l.length c, .int .i64 ((l.length : Nat) : Int), .bool true, (u5 9), (u5 10), .slice A l.length c, .int .i64 ((i : Nat) : Int), .pointer (some ⟨b16, o17 + i * 1, none⟩), .int .i16 (l.getD i 0), .int .i64 (l.getD i 0), .int .i64 ((ex : Nat) : Int), .int .u64 ((ex : Nat) : Int), .int .i64 (256 * ((2 ^ ex : Nat) : Int)), .int .i64 (-(256 * ((2 ^ ex : Nat) : Int))), .bool false, .bool false, .slice A l.length c, .int .i64 ((i : Nat) : Int), .pointer (some ⟨b19, o20 + i * 1, none⟩), .int .i16 (l.getD i 0), .int .i64 (l.getD i 0), .int .i64 ((ex : Nat) : Int), .int .u64 ((ex : Nat) : Int), .int .i64 (256 * ((2 ^ ex : Nat) : Int)), .bool true, .bool true, (u11 32), (u11 33), undef], []⟩) (by kernel_rfl) ?_
        refine wp_cond_true (by kernel_rfl) ?_
        refine wp_skip ?_
        refine hK14 _ _ ?_
        try clear hK14 K14
        refine wp_block ?_
        refine wl_region ?_
        refine st_val (.int .i64 ((ex : Nat) : Int)) (by kernel_rfl) (by kernel_rfl) ?_
        refine st_val (.int .i64 (((ex : Nat) : Int) + 1)) (by kernel_rfl) (i64_of (by omega) (by kernel_rfl)) ?_
        refine st_val (.int .i64 (((ex : Nat) : Int) + 1)) (by kernel_rfl) (by kernel_rfl) ?_
        refine wl_nil ?_
        refine blk_normal ?_
        refine th_normal ?_
        obtain ⟨hb7, hbs⟩ := bump_step (ex := ex) (x := l.getD i 0) (by omega) hx (fun h => by have := h.1; have := h.2; omega)
        exact ⟨_, (by omega), (ex + 1), (fun zz => Array.getD #[.slice A l.length c, undef, .int .i64 0, .int .i64 (((ex : Nat) : Int) + 1), .int .i64 ((i : Nat) : Int), .int .i64 ((i : Nat) : Int), .slice A l.length c, .int .i64 ((l.length : Nat) : Int), .bool true, (u5 9), (u5 10), .slice A l.length c, .int .i64 ((i : Nat) : Int), .pointer (some ⟨b16, o17 + i * 1, none⟩), .int .i16 (l.getD i 0), .int .i64 (l.getD i 0), .int .i64 ((ex : Nat) : Int), .int .u64 ((ex : Nat) : Int), .int .i64 (256 * ((2 ^ ex : Nat) : Int)), .int .i64 (-(256 * ((2 ^ ex : Nat) : Int))), .bool false, .bool false, .slice A l.length c, .int .i64 ((i : Nat) : Int), .pointer (some ⟨b19, o20 + i * 1, none⟩), .int .i16 (l.getD i 0), .int .i64 (l.getD i 0), .int .i64 ((ex : Nat) : Int), .int .u64 ((ex : Nat) : Int), .int .i64 (256 * ((2 ^ ex : Nat) : Int)), .bool true, .bool true, .int .i64 ((ex : Nat) : Int), .int .i64 (((ex : Nat) : Int) + 1), undef] zz undef), ⟨⟨by omega, by rw [← hbs]; exact hB⟩, M13⟩, rfl, (by kernel_rfl)⟩
      ·
        refine st_val (.bool false) (by kernel_rfl) (bool_of (dec_f c30) (by kernel_rfl)) ?_
        refine st_val (.bool false) (by kernel_rfl) (by kernel_rfl) ?_
        refine wl_nil ?_
        refine hK15 _ _ ?_
        try clear hK15 K15
        refine wp_frame (a' := ⟨#[.slice A l.length c, undef, .int .i64 0, .int .i64 ((ex : Nat) : Int), .int .i64 ((i : Nat) : Int), .int .i64 ((i : Nat) : Int), .slice A l.length c, .int .i64 ((l.length : Nat) : Int), .bool true, (u5 9), (u5 10), .slice A l.length c, .int .i64 ((i : Nat) : Int), .pointer (some ⟨b16, o17 + i * 1, none⟩), .int .i16 (l.getD i 0), .int .i64 (l.getD i 0), .int .i64 ((ex : Nat) : Int), .int .u64 ((ex : Nat) : Int), .int .i64 (256 * ((2 ^ ex : Nat) : Int)), .int .i64 (-(256 * ((2 ^ ex : Nat) : Int))), .bool false, .bool false, .slice A l.length c, .int .i64 ((i : Nat) : Int), .pointer (some ⟨b19, o20 + i * 1, none⟩), .int .i16 (l.getD i 0), .int .i64 (l.getD i 0), .int .i64 ((ex : Nat) : Int), .int .u64 ((ex : Nat) : Int), .int .i64 (256 * ((2 ^ ex : Nat) : Int)), .bool false, .bool false, (u11 32), (u11 33), undef], []⟩) (by kernel_rfl) ?_
        refine wp_cond_false (by kernel_rfl) ?_
        refine wp_exit ?_
        refine th_exit ?_
        refine th_exit ?_
        refine blk_exit ?_
        refine blk_normal ?_
        refine hK10 _ _ ?_
        try clear hK10 K10
        refine wl_region ?_
        refine st_val (.int .i64 ((i : Nat) : Int)) (by kernel_rfl) (by kernel_rfl) ?_
        refine st_val (.int .i64 (((i : Nat) : Int) + 1)) (by kernel_rfl) (i64_of (by omega) (by kernel_rfl)) ?_
        refine st_val (.int .i64 (((i : Nat) : Int) + 1)) (by kernel_rfl) (by kernel_rfl) ?_
        refine wl_nil ?_
        refine th_normal ?_
        have hbf := bump_fit (ex := ex) (x := l.getD i 0) (by omega) ⟨by omega, by omega⟩
        exact ⟨_, by omega, (i + 1), ex, (fun zz => Array.getD #[.slice A l.length c, undef, .int .i64 0, .int .i64 ((ex : Nat) : Int), .int .i64 (((i : Nat) : Int) + 1), .int .i64 ((i : Nat) : Int), .slice A l.length c, .int .i64 ((l.length : Nat) : Int), .bool true, .int .i64 ((i : Nat) : Int), .int .i64 (((i : Nat) : Int) + 1), .slice A l.length c, .int .i64 ((i : Nat) : Int), .pointer (some ⟨b16, o17 + i * 1, none⟩), .int .i16 (l.getD i 0), .int .i64 (l.getD i 0), .int .i64 ((ex : Nat) : Int), .int .u64 ((ex : Nat) : Int), .int .i64 (256 * ((2 ^ ex : Nat) : Int)), .int .i64 (-(256 * ((2 ^ ex : Nat) : Int))), .bool false, .bool false, .slice A l.length c, .int .i64 ((i : Nat) : Int), .pointer (some ⟨b19, o20 + i * 1, none⟩), .int .i16 (l.getD i 0), .int .i64 (l.getD i 0), .int .i64 ((ex : Nat) : Int), .int .u64 ((ex : Nat) : Int), .int .i64 (256 * ((2 ^ ex : Nat) : Int)), .bool false, .bool false, (u11 32), (u11 33), undef] zz undef), ⟨⟨by omega, by omega, by rw [expo_take l i (by omega), ← hE, ← hB, hbf]⟩, M13⟩, rfl, (by kernel_rfl)⟩
  ·
    refine st_val (.bool false) (by kernel_rfl) (bool_of (dec_f c8) (by kernel_rfl)) ?_
    refine wl_nil ?_
    refine hK9 _ _ ?_
    try clear hK9 K9
    refine wp_cond_false (by kernel_rfl) ?_
    refine wp_exit ?_
    refine th_exit ?_
    refine th_exit ?_
    refine blk_exit ?_
    refine hK3 _ _ ?_
    try clear hK3 K3
    refine wp_seq_k (fun K22 hK22 => ?_)
    refine wl_region ?_
    refine st_val (.int .i64 ((e0 : Nat) : Int)) (by kernel_rfl) (by kernel_rfl) ?_
    refine st_val (.int .i64 ((e0 : Nat) : Int)) (by kernel_rfl) (by kernel_rfl) ?_
    refine wl_nil ?_
    refine hK22 _ _ ?_
    try clear hK22 K22
    refine wp_ret ?_
    exact done1 2 (.int .i64 ((e0 : Nat) : Int)) (by kernel_rfl) (by kernel_rfl) (by kernel_rfl) ⟨by rw [hE, List.take_of_length_le (by omega)]; rfl, M7.toBelow⟩
set_option maxHeartbeats 4000000 in
set_option maxRecDepth 100000 in
theorem err_walk (w : World) (A : Option Addr) (c : Nat) (l : List Int) (hr : 0 < l.length → RdK w (.slice A l.length c) l.length (i16s l)) (hs : S16 l) (hn : l.length ≤ 1000000000) : Calls Try.prog 24 #[.slice A l.length c] w fun e w' => e = .returned (.int .i64 ((half (expo l) : Nat) : Int)) ∧ Below w.heap.size w w' := by
  have hel := expo_le l
  refine calls_of_wp Try.func24 rfl ?_
  refine wp_frame (a' := ⟨#[.slice A l.length c, undef, undef, undef, undef, undef], []⟩) (by kernel_rfl) ?_
  have M0 : Mem NoS w w [] := Mem.start _ _
  refine wp_seq_k (fun K1 hK1 => ?_)
  refine wl_region ?_
  refine st_val (.int .i64 0) (by kernel_rfl) (by kernel_rfl) ?_
  refine wl_nil ?_
  refine hK1 _ _ ?_
  try clear hK1 K1
  refine wp_seq_k (fun K2 hK2 => ?_)
  refine wl_region ?_
  refine st_val (.slice A l.length c) (by kernel_rfl) (by kernel_rfl) ?_
  refine st_callB M0 (.int .i64 ((expo l : Nat) : Int)) (by kernel_rfl) (args := #[.slice A l.length c]) (run_value_call 44 #[(Operand.tmp 3)] _ rfl Try.func44 (by kernel_rfl) (by kernel_rfl) _ (by kernel_rfl)) (expo_walk w A c l (fun h => (hr h).keep M0.keep (fun _ _ h => h)) hs (by omega)) ?_
  intro W3 M4
  refine st_callB M4 (.int .i64 ((half (expo l) : Nat) : Int)) (by kernel_rfl) (args := #[.int .i64 ((expo l : Nat) : Int)]) (run_value_call 52 #[(Operand.tmp 4)] _ rfl Try.func52 (by kernel_rfl) (by kernel_rfl) _ (by kernel_rfl)) (half_walk W3 (expo l) (by omega)) ?_
  intro W5 M6
  refine st_val (.int .i64 ((half (expo l) : Nat) : Int)) (by kernel_rfl) (by kernel_rfl) ?_
  refine wl_nil ?_
  refine hK2 _ _ ?_
  try clear hK2 K2
  refine wp_ret ?_
  exact done1 2 (.int .i64 ((half (expo l) : Nat) : Int)) (by kernel_rfl) (by kernel_rfl) (by kernel_rfl) ⟨rfl, M6.toBelow⟩
set_option maxHeartbeats 4000000 in
set_option maxRecDepth 100000 in
theorem refErr_walk (w : World) (A : Option Addr) (c : Nat) (l : List Int) (hr : 0 < l.length → RdK w (.slice A l.length c) l.length (i16s l)) (hs : S16 l) (hn : l.length ≤ 1000000000) : Calls Try.prog 25 #[.slice A l.length c] w fun e w' => e = .returned (.int .i64 ((half (expo l) : Nat) : Int)) ∧ Below w.heap.size w w' := by
  have hel := expo_le l
  refine calls_of_wp Try.func25 rfl ?_
  refine wp_frame (a' := ⟨#[.slice A l.length c, undef, undef, undef, undef, undef], []⟩) (by kernel_rfl) ?_
  have M0 : Mem NoS w w [] := Mem.start _ _
  refine wp_seq_k (fun K1 hK1 => ?_)
  refine wl_region ?_
  refine st_val (.int .i64 0) (by kernel_rfl) (by kernel_rfl) ?_
  refine wl_nil ?_
  refine hK1 _ _ ?_
  try clear hK1 K1
  refine wp_seq_k (fun K2 hK2 => ?_)
  refine wl_region ?_
  refine st_val (.slice A l.length c) (by kernel_rfl) (by kernel_rfl) ?_
  refine st_callB M0 (.int .i64 ((expo l : Nat) : Int)) (by kernel_rfl) (args := #[.slice A l.length c]) (run_value_call 49 #[(Operand.tmp 3)] _ rfl Try.func49 (by kernel_rfl) (by kernel_rfl) _ (by kernel_rfl)) (refExpo_walk w A c l (fun h => (hr h).keep M0.keep (fun _ _ h => h)) hs (by omega)) ?_
  intro W3 M4
  refine st_callB M4 (.int .i64 ((half (expo l) : Nat) : Int)) (by kernel_rfl) (args := #[.int .i64 ((expo l : Nat) : Int)]) (run_value_call 41 #[(Operand.tmp 4)] _ rfl Try.func41 (by kernel_rfl) (by kernel_rfl) _ (by kernel_rfl)) (refHalf_walk W3 (expo l) (by omega)) ?_
  intro W5 M6
  refine st_val (.int .i64 ((half (expo l) : Nat) : Int)) (by kernel_rfl) (by kernel_rfl) ?_
  refine wl_nil ?_
  refine hK2 _ _ ?_
  try clear hK2 K2
  refine wp_ret ?_
  exact done1 2 (.int .i64 ((half (expo l) : Nat) : Int)) (by kernel_rfl) (by kernel_rfl) (by kernel_rfl) ⟨rfl, M6.toBelow⟩
end Go.Proofs.Ytmimljaniliecaa
