/- The reference decodes a block. -/
import Derived.Test.YtmimljaniliecaaAv
namespace Go.Proofs.Ytmimljaniliecaa
open Go.RowKit Bt

theorem part_take {D : List Nat} {en a n : Nat} (h : a + n ≤ en) : ((D.take en).drop a).take n = (D.drop a).take n := by
  rw [List.drop_take, List.take_take, Nat.min_eq_left (by omega)]
theorem refQ_len {p : List Nat} (h : ¬ p = []) : ((unpack p).take (endOf p)).length = endOf p := by
  rw [List.length_take, unpack_length]; have := endOf_lt p h; omega
theorem chB_mono {D : List Nat} {a n : Nat} : ∀ k, chB' D a n k = true → ∀ j, j ≤ k → chB' D a n j = true := by
  intro k
  induction k with
  | zero => intro h j hj; obtain rfl : j = 0 := (by omega); exact h
  | succ k ih =>
    intro h j hj
    have h1 : chB' D a n k = true := by
      have : (chB' D a n k && _) = true := h
      exact (Bool.and_eq_true_iff.1 this).1
    rcases Nat.lt_or_ge k j with h2 | h2
    · obtain rfl : j = k + 1 := by omega
      exact h
    · exact ih h1 j h2
theorem chB_fst {D : List Nat} {a n : Nat} (h : chB' D a n 32 = true) : chE D a ≤ 7 := of_decide_eq_true (chB_mono 32 h 0 (by omega))
theorem chB_at {D : List Nat} {a n k : Nat} (h : chB' D a n 32 = true) (h1 : k < 32) (h2 : n ≤ k) : chM D a k = 0 := by
  have := chB_mono 32 h (k + 1) (by omega)
  rw [chB_ge (by omega)] at this
  exact of_decide_eq_true (Bool.and_eq_true_iff.1 this).2
set_option maxHeartbeats 4000000 in
set_option maxRecDepth 100000 in
theorem refTakeB_walk (w : World) (v : Value) (l : List Nat) (hr : RdK w v l.length (u8s l)) (hb : ∀ x ∈ l, x < 256) (hlen : l.length ≤ 1000000) : MakesRow Try.prog 18 #[v] w (fun v T => ∃ v1, v = .tuple #[v1, .int .i64 (tbE l)] ∧ OwnP v1 (tbL l) T) := by
  unfold MakesRow
  obtain ⟨A, c, rfl, hc⟩ := hr.shape
  refine calls_of_wp Try.func18 rfl ?_
  refine wp_frame (a' := ⟨#[.slice A l.length c, undef, undef, undef, undef, undef, undef, undef, undef, undef, undef, undef, undef, undef, undef, undef, undef, undef, undef, undef, undef, undef, undef, undef, undef, undef, undef, undef, undef, undef, undef, undef, undef, undef, undef, undef, undef, undef, undef, undef, undef, undef, undef, undef, undef, undef, undef, undef, undef, undef, undef, undef, undef, undef, undef, undef, undef, undef, undef, undef, undef, undef, undef, undef, undef, undef, undef, undef, undef, undef, undef, undef, undef, undef, undef, undef, undef, undef, undef, undef, undef, undef, undef, undef, undef, undef, undef, undef, undef, undef, undef, undef, undef, undef, undef, undef, undef, undef, undef, undef, undef, undef, undef, undef, undef, undef, undef, undef, undef, undef, undef, undef, undef, undef, undef, undef, undef, undef, undef, undef, undef, undef, undef, undef, undef, undef, undef, undef, undef, undef, undef, undef, undef, undef, undef], []⟩) (by kernel_rfl) ?_
  have M0 : Mem NoS w w [] := Mem.start _ _
  refine wp_seq_k (fun K1 hK1 => ?_)
  refine wl_region ?_
  refine st_val ((Go.Value.slice none 0 0)) (by kernel_rfl) (by kernel_rfl) ?_
  refine st_val (.int .i64 0) (by kernel_rfl) (by kernel_rfl) ?_
  refine wl_nil ?_
  refine hK1 _ _ ?_
  try clear hK1 K1
  refine wp_seq_k (fun K2 hK2 => ?_)
  refine wl_region ?_
  refine st_val (.slice A l.length c) (by kernel_rfl) (by kernel_rfl) ?_
  refine st_val (.int .i64 ((l.length : Nat) : Int)) (by kernel_rfl) (by kernel_rfl) ?_
  refine st_val (.int .i64 ((l.length : Nat) : Int)) (by kernel_rfl) (by kernel_rfl) ?_
  refine wl_nil ?_
  refine hK2 _ _ ?_
  try clear hK2 K2
  refine wp_seq_k (fun K3 hK3 => ?_)
  refine wp_seq_k (fun K4 hK4 => ?_)
  have hb0 := getDb_lt hb 0
  have hb1 := getDb_lt hb 1
  refine wl_region ?_
  refine st_val (.int .i64 ((l.length : Nat) : Int)) (by kernel_rfl) (by kernel_rfl) ?_
  rcases Decidable.em ((((l.length : Nat) : Int) : Int) < 2) with c19 | c19
  ·
    refine st_val (.bool true) (by kernel_rfl) (bool_of (dec_t c19) (by kernel_rfl)) ?_
    refine st_val (.bool true) (by kernel_rfl) (by kernel_rfl) ?_
    refine st_skip (by kernel_rfl) ?_
    refine st_skip (by kernel_rfl) ?_
    refine st_skip (by kernel_rfl) ?_
    refine st_skip (by kernel_rfl) ?_
    refine st_val (.bool true) (by kernel_rfl) (by kernel_rfl) ?_
    refine st_val (.bool true) (by kernel_rfl) (by kernel_rfl) ?_
    refine st_skip (by kernel_rfl) ?_
    refine st_skip (by kernel_rfl) ?_
    refine st_skip (by kernel_rfl) ?_
    refine st_skip (by kernel_rfl) ?_
    refine st_val (.bool true) (by kernel_rfl) (by kernel_rfl) ?_
    refine st_val (.bool true) (by kernel_rfl) (by kernel_rfl) ?_
    refine st_skip (by kernel_rfl) ?_
    refine st_skip (by kernel_rfl) ?_
    refine st_skip (by kernel_rfl) ?_
    refine st_skip (by kernel_rfl) ?_
    refine st_val (.bool true) (by kernel_rfl) (by kernel_rfl) ?_
    refine st_val (.bool true) (by kernel_rfl) (by kernel_rfl) ?_
    refine st_skip (by kernel_rfl) ?_
    refine st_skip (by kernel_rfl) ?_
    refine st_skip (by kernel_rfl) ?_
    refine st_skip (by kernel_rfl) ?_
    refine st_val (.bool true) (by kernel_rfl) (by kernel_rfl) ?_
    refine st_val (.bool true) (by kernel_rfl) (by kernel_rfl) ?_
    refine st_skip (by kernel_rfl) ?_
    refine st_skip (by kernel_rfl) ?_
    refine st_skip (by kernel_rfl) ?_
    refine st_skip (by kernel_rfl) ?_
    refine st_skip (by kernel_rfl) ?_
    refine st_skip (by kernel_rfl) ?_
    refine st_skip (by kernel_rfl) ?_
    refine st_val (.bool true) (by kernel_rfl) (by kernel_rfl) ?_
    refine wl_nil ?_
    refine hK4 _ _ ?_
    try clear hK4 K4
    refine wp_frame (a' := ⟨#[.slice A l.length c, undef, (Go.Value.slice none 0 0), .int .i64 0, .int .i64 ((l.length : Nat) : Int), undef, undef, undef, undef, undef, undef, undef, undef, undef, undef, undef, .slice A l.length c, .int .i64 ((l.length : Nat) : Int), .int .i64 ((l.length : Nat) : Int), .bool true, .bool true, undef, undef, undef, undef, .bool true, .bool true, undef, undef, undef, undef, .bool true, .bool true, undef, undef, undef, undef, .bool true, .bool true, undef, undef, undef, undef, .bool true, .bool true, undef, undef, undef, undef, undef, undef, undef, .bool true, undef, undef, undef, undef, undef, undef, undef, undef, undef, undef, undef, undef, undef, undef, undef, undef, undef, undef, undef, undef, undef, undef, undef, undef, undef, undef, undef, undef, undef, undef, undef, undef, undef, undef, undef, undef, undef, undef, undef, undef, undef, undef, undef, undef, undef, undef, undef, undef, undef, undef, undef, undef, undef, undef, undef, undef, undef, undef, undef, undef, undef, undef, undef, undef, undef, undef, undef, undef, undef, undef, undef, undef, undef, undef, undef, undef, undef, undef, undef, undef, undef, undef], []⟩) (by kernel_rfl) ?_
    refine wp_cond_true (by kernel_rfl) ?_
    refine wp_seq_k (fun K5 hK5 => ?_)
    refine wl_region ?_
    refine st_val ((Go.Value.slice none 0 0)) (by kernel_rfl) (by kernel_rfl) ?_
    refine st_val (.int .i64 3) (by kernel_rfl) (by kernel_rfl) ?_
    refine wl_nil ?_
    refine hK5 _ _ ?_
    try clear hK5 K5
    refine wp_ret ?_
    refine th_ret ?_
    have hte := tb_a (l := l) (fun h => by have h1 := h.1; have h2 := h.2.1; have h3 := h.2.2.1; have h4 := h.2.2.2; omega)
    exact done2 2 3 ((Go.Value.slice none 0 0)) (.int .i64 3) (by kernel_rfl) (by kernel_rfl) (by kernel_rfl) (by kernel_rfl) ⟨_, [], rfl, ⟨_, by rw [hte.1], by rw [hte.2]; exact OwnP.nil⟩, M0.sub (List.nil_sublist _)⟩
  ·
    refine st_val (.bool false) (by kernel_rfl) (bool_of (dec_f c19) (by kernel_rfl)) ?_
    refine st_val (.bool false) (by kernel_rfl) (by kernel_rfl) ?_
    refine st_val (.slice A l.length c) (by kernel_rfl) (by kernel_rfl) ?_
    obtain ⟨b6, o7, eA8⟩ := RdK.addr (hr.keep M0.keep (fun _ _ h => h)) (j := 0 * 1) (by rw [u8s_length]; omega)
    refine st_val (.pointer (some ⟨b6, o7 + 0 * 1, none⟩)) (by kernel_rfl) (run_indexSliceA 22 (.tmp 21) _ rfl A ⟨b6, o7, none⟩ eA8 l.length c .i64 0 (by kernel_rfl) (by kernel_rfl) Try.underlying22 1 (by kernel_rfl) (by omega) ⟨b6, o7 + 0 * 1, none⟩ (addr_atK _ _ _ _)) ?_
    refine st_val (.int .u8 ((l.getD 0 0 : Nat) : Int)) (by kernel_rfl) (run_load_cell 5 (.tmp 22) rfl ⟨b6, o7 + 0 * 1, none⟩ (by kernel_rfl) _ ((hr.keep M0.keep (fun _ _ h => h)).cellF eA8 (f := 0) (u8s_get l 0 (by omega))) (by kernel_rfl)) ?_
    rcases Decidable.em ((((l.getD 0 0 : Nat) : Int) : Int) < 1) with c24 | c24
    ·
      refine st_val (.bool true) (by kernel_rfl) (bool_of (dec_t c24) (by kernel_rfl)) ?_
      refine st_val (.bool true) (by kernel_rfl) (by kernel_rfl) ?_
      refine st_val (.bool true) (by kernel_rfl) (by kernel_rfl) ?_
      refine st_skip (by kernel_rfl) ?_
      refine st_skip (by kernel_rfl) ?_
      refine st_skip (by kernel_rfl) ?_
      refine st_skip (by kernel_rfl) ?_
      refine st_val (.bool true) (by kernel_rfl) (by kernel_rfl) ?_
      refine st_val (.bool true) (by kernel_rfl) (by kernel_rfl) ?_
      refine st_skip (by kernel_rfl) ?_
      refine st_skip (by kernel_rfl) ?_
      refine st_skip (by kernel_rfl) ?_
      refine st_skip (by kernel_rfl) ?_
      refine st_val (.bool true) (by kernel_rfl) (by kernel_rfl) ?_
      refine st_val (.bool true) (by kernel_rfl) (by kernel_rfl) ?_
      refine st_skip (by kernel_rfl) ?_
      refine st_skip (by kernel_rfl) ?_
      refine st_skip (by kernel_rfl) ?_
      refine st_skip (by kernel_rfl) ?_
      refine st_val (.bool true) (by kernel_rfl) (by kernel_rfl) ?_
      refine st_val (.bool true) (by kernel_rfl) (by kernel_rfl) ?_
      refine st_skip (by kernel_rfl) ?_
      refine st_skip (by kernel_rfl) ?_
      refine st_skip (by kernel_rfl) ?_
      refine st_skip (by kernel_rfl) ?_
      refine st_skip (by kernel_rfl) ?_
      refine st_skip (by kernel_rfl) ?_
      refine st_skip (by kernel_rfl) ?_
      refine st_val (.bool true) (by kernel_rfl) (by kernel_rfl) ?_
      refine wl_nil ?_
      refine hK4 _ _ ?_
      try clear hK4 K4
      refine wp_frame (a' := ⟨#[.slice A l.length c, undef, (Go.Value.slice none 0 0), .int .i64 0, .int .i64 ((l.length : Nat) : Int), undef, undef, undef, undef, undef, undef, undef, undef, undef, undef, undef, .slice A l.length c, .int .i64 ((l.length : Nat) : Int), .int .i64 ((l.length : Nat) : Int), .bool false, .bool false, .slice A l.length c, .pointer (some ⟨b6, o7 + 0 * 1, none⟩), .int .u8 ((l.getD 0 0 : Nat) : Int), .bool true, .bool true, .bool true, undef, undef, undef, undef, .bool true, .bool true, undef, undef, undef, undef, .bool true, .bool true, undef, undef, undef, undef, .bool true, .bool true, undef, undef, undef, undef, undef, undef, undef, .bool true, undef, undef, undef, undef, undef, undef, undef, undef, undef, undef, undef, undef, undef, undef, undef, undef, undef, undef, undef, undef, undef, undef, undef, undef, undef, undef, undef, undef, undef, undef, undef, undef, undef, undef, undef, undef, undef, undef, undef, undef, undef, undef, undef, undef, undef, undef, undef, undef, undef, undef, undef, undef, undef, undef, undef, undef, undef, undef, undef, undef, undef, undef, undef, undef, undef, undef, undef, undef, undef, undef, undef, undef, undef, undef, undef, undef, undef, undef, undef, undef, undef, undef], []⟩) (by kernel_rfl) ?_
      refine wp_cond_true (by kernel_rfl) ?_
      refine wp_seq_k (fun K9 hK9 => ?_)
      refine wl_region ?_
      refine st_val ((Go.Value.slice none 0 0)) (by kernel_rfl) (by kernel_rfl) ?_
      refine st_val (.int .i64 3) (by kernel_rfl) (by kernel_rfl) ?_
      refine wl_nil ?_
      refine hK9 _ _ ?_
      try clear hK9 K9
      refine wp_ret ?_
      refine th_ret ?_
      have hte := tb_a (l := l) (fun h => by have h1 := h.1; have h2 := h.2.1; have h3 := h.2.2.1; have h4 := h.2.2.2; omega)
      exact done2 2 3 ((Go.Value.slice none 0 0)) (.int .i64 3) (by kernel_rfl) (by kernel_rfl) (by kernel_rfl) (by kernel_rfl) ⟨_, [], rfl, ⟨_, by rw [hte.1], by rw [hte.2]; exact OwnP.nil⟩, M0.sub (List.nil_sublist _)⟩
    ·
      refine st_val (.bool false) (by kernel_rfl) (bool_of (dec_f c24) (by kernel_rfl)) ?_
      refine st_val (.bool false) (by kernel_rfl) (by kernel_rfl) ?_
      refine st_val (.bool false) (by kernel_rfl) (by kernel_rfl) ?_
      refine st_val (.slice A l.length c) (by kernel_rfl) (by kernel_rfl) ?_
      obtain ⟨b10, o11, eA12⟩ := RdK.addr (hr.keep M0.keep (fun _ _ h => h)) (j := 0 * 1) (by rw [u8s_length]; omega)
      refine st_val (.pointer (some ⟨b10, o11 + 0 * 1, none⟩)) (by kernel_rfl) (run_indexSliceA 22 (.tmp 27) _ rfl A ⟨b10, o11, none⟩ eA12 l.length c .i64 0 (by kernel_rfl) (by kernel_rfl) Try.underlying22 1 (by kernel_rfl) (by omega) ⟨b10, o11 + 0 * 1, none⟩ (addr_atK _ _ _ _)) ?_
      refine st_val (.int .u8 ((l.getD 0 0 : Nat) : Int)) (by kernel_rfl) (run_load_cell 5 (.tmp 28) rfl ⟨b10, o11 + 0 * 1, none⟩ (by kernel_rfl) _ ((hr.keep M0.keep (fun _ _ h => h)).cellF eA12 (f := 0) (u8s_get l 0 (by omega))) (by kernel_rfl)) ?_
      rcases Decidable.em ((((l.getD 0 0 : Nat) : Int) : Int) > 4) with c30 | c30
      ·
        refine st_val (.bool true) (by kernel_rfl) (bool_of (dec_t c30) (by kernel_rfl)) ?_
        refine st_val (.bool true) (by kernel_rfl) (by kernel_rfl) ?_
        refine st_val (.bool true) (by kernel_rfl) (by kernel_rfl) ?_
        refine st_skip (by kernel_rfl) ?_
        refine st_skip (by kernel_rfl) ?_
        refine st_skip (by kernel_rfl) ?_
        refine st_skip (by kernel_rfl) ?_
        refine st_val (.bool true) (by kernel_rfl) (by kernel_rfl) ?_
        refine st_val (.bool true) (by kernel_rfl) (by kernel_rfl) ?_
        refine st_skip (by kernel_rfl) ?_
        refine st_skip (by kernel_rfl) ?_
        refine st_skip (by kernel_rfl) ?_
        refine st_skip (by kernel_rfl) ?_
        refine st_val (.bool true) (by kernel_rfl) (by kernel_rfl) ?_
        refine st_val (.bool true) (by kernel_rfl) (by kernel_rfl) ?_
        refine st_skip (by kernel_rfl) ?_
        refine st_skip (by kernel_rfl) ?_
        refine st_skip (by kernel_rfl) ?_
        refine st_skip (by kernel_rfl) ?_
        refine st_skip (by kernel_rfl) ?_
        refine st_skip (by kernel_rfl) ?_
        refine st_skip (by kernel_rfl) ?_
        refine st_val (.bool true) (by kernel_rfl) (by kernel_rfl) ?_
        refine wl_nil ?_
        refine hK4 _ _ ?_
        try clear hK4 K4
        refine wp_frame (a' := ⟨#[.slice A l.length c, undef, (Go.Value.slice none 0 0), .int .i64 0, .int .i64 ((l.length : Nat) : Int), undef, undef, undef, undef, undef, undef, undef, undef, undef, undef, undef, .slice A l.length c, .int .i64 ((l.length : Nat) : Int), .int .i64 ((l.length : Nat) : Int), .bool false, .bool false, .slice A l.length c, .pointer (some ⟨b6, o7 + 0 * 1, none⟩), .int .u8 ((l.getD 0 0 : Nat) : Int), .bool false, .bool false, .bool false, .slice A l.length c, .pointer (some ⟨b10, o11 + 0 * 1, none⟩), .int .u8 ((l.getD 0 0 : Nat) : Int), .bool true, .bool true, .bool true, undef, undef, undef, undef, .bool true, .bool true, undef, undef, undef, undef, .bool true, .bool true, undef, undef, undef, undef, undef, undef, undef, .bool true, undef, undef, undef, undef, undef, undef, undef, undef, undef, undef, undef, undef, undef, undef, undef, undef, undef, undef, undef, undef, undef, undef, undef, undef, undef, undef, undef, undef, undef, undef, undef, undef, undef, undef, undef, undef, undef, undef, undef, undef, undef, undef, undef, undef, undef, undef, undef, undef, undef, undef, undef, undef, undef, undef, undef, undef, undef, undef, undef, undef, undef, undef, undef, undef, undef, undef, undef, undef, undef, undef, undef, undef, undef, undef, undef, undef, undef, undef, undef, undef, undef, undef], []⟩) (by kernel_rfl) ?_
        refine wp_cond_true (by kernel_rfl) ?_
        refine wp_seq_k (fun K13 hK13 => ?_)
        refine wl_region ?_
        refine st_val ((Go.Value.slice none 0 0)) (by kernel_rfl) (by kernel_rfl) ?_
        refine st_val (.int .i64 3) (by kernel_rfl) (by kernel_rfl) ?_
        refine wl_nil ?_
        refine hK13 _ _ ?_
        try clear hK13 K13
        refine wp_ret ?_
        refine th_ret ?_
        have hte := tb_a (l := l) (fun h => by have h1 := h.1; have h2 := h.2.1; have h3 := h.2.2.1; have h4 := h.2.2.2; omega)
        exact done2 2 3 ((Go.Value.slice none 0 0)) (.int .i64 3) (by kernel_rfl) (by kernel_rfl) (by kernel_rfl) (by kernel_rfl) ⟨_, [], rfl, ⟨_, by rw [hte.1], by rw [hte.2]; exact OwnP.nil⟩, M0.sub (List.nil_sublist _)⟩
      ·
        refine st_val (.bool false) (by kernel_rfl) (bool_of (dec_f c30) (by kernel_rfl)) ?_
        refine st_val (.bool false) (by kernel_rfl) (by kernel_rfl) ?_
        refine st_val (.bool false) (by kernel_rfl) (by kernel_rfl) ?_
        refine st_val (.slice A l.length c) (by kernel_rfl) (by kernel_rfl) ?_
        obtain ⟨b14, o15, eA16⟩ := RdK.addr (hr.keep M0.keep (fun _ _ h => h)) (j := 1 * 1) (by rw [u8s_length]; omega)
        refine st_val (.pointer (some ⟨b14, o15 + 1 * 1, none⟩)) (by kernel_rfl) (run_indexSliceA 22 (.tmp 33) _ rfl A ⟨b14, o15, none⟩ eA16 l.length c .i64 1 (by kernel_rfl) (by kernel_rfl) Try.underlying22 1 (by kernel_rfl) (by omega) ⟨b14, o15 + 1 * 1, none⟩ (addr_atK _ _ _ _)) ?_
        refine st_val (.int .u8 ((l.getD 1 0 : Nat) : Int)) (by kernel_rfl) (run_load_cell 5 (.tmp 34) rfl ⟨b14, o15 + 1 * 1, none⟩ (by kernel_rfl) _ ((hr.keep M0.keep (fun _ _ h => h)).cellF eA16 (f := 0) (u8s_get l 1 (by omega))) (by kernel_rfl)) ?_
        rcases Decidable.em ((((l.getD 1 0 : Nat) : Int) : Int) < 1) with c36 | c36
        ·
          refine st_val (.bool true) (by kernel_rfl) (bool_of (dec_t c36) (by kernel_rfl)) ?_
          refine st_val (.bool true) (by kernel_rfl) (by kernel_rfl) ?_
          refine st_val (.bool true) (by kernel_rfl) (by kernel_rfl) ?_
          refine st_skip (by kernel_rfl) ?_
          refine st_skip (by kernel_rfl) ?_
          refine st_skip (by kernel_rfl) ?_
          refine st_skip (by kernel_rfl) ?_
          refine st_val (.bool true) (by kernel_rfl) (by kernel_rfl) ?_
          refine st_val (.bool true) (by kernel_rfl) (by kernel_rfl) ?_
          refine st_skip (by kernel_rfl) ?_
          refine st_skip (by kernel_rfl) ?_
          refine st_skip (by kernel_rfl) ?_
          refine st_skip (by kernel_rfl) ?_
          refine st_skip (by kernel_rfl) ?_
          refine st_skip (by kernel_rfl) ?_
          refine st_skip (by kernel_rfl) ?_
          refine st_val (.bool true) (by kernel_rfl) (by kernel_rfl) ?_
          refine wl_nil ?_
          refine hK4 _ _ ?_
          try clear hK4 K4
          refine wp_frame (a' := ⟨#[.slice A l.length c, undef, (Go.Value.slice none 0 0), .int .i64 0, .int .i64 ((l.length : Nat) : Int), undef, undef, undef, undef, undef, undef, undef, undef, undef, undef, undef, .slice A l.length c, .int .i64 ((l.length : Nat) : Int), .int .i64 ((l.length : Nat) : Int), .bool false, .bool false, .slice A l.length c, .pointer (some ⟨b6, o7 + 0 * 1, none⟩), .int .u8 ((l.getD 0 0 : Nat) : Int), .bool false, .bool false, .bool false, .slice A l.length c, .pointer (some ⟨b10, o11 + 0 * 1, none⟩), .int .u8 ((l.getD 0 0 : Nat) : Int), .bool false, .bool false, .bool false, .slice A l.length c, .pointer (some ⟨b14, o15 + 1 * 1, none⟩), .int .u8 ((l.getD 1 0 : Nat) : Int), .bool true, .bool true, .bool true, undef, undef, undef, undef, .bool true, .bool true, undef, undef, undef, undef, undef, undef, undef, .bool true, undef, undef, undef, undef, undef, undef, undef, undef, undef, undef, undef, undef, undef, undef, undef, undef, undef, undef, undef, undef, undef, undef, undef, undef, undef, undef, undef, undef, undef, undef, undef, undef, undef, undef, undef, undef, undef, undef, undef, undef, undef, undef, undef, undef, undef, undef, undef, undef, undef, undef, undef, undef, undef, undef, undef, undef, undef, undef, undef, undef, undef, undef, undef, undef, undef, undef, undef, undef, undef, undef, undef, undef, undef, undef, undef, undef, undef, undef, undef, undef, undef, undef], []⟩) (by kernel_rfl) ?_
          refine wp_cond_true (by kernel_rfl) ?_
          refine wp_seq_k (fun K17 hK17 => ?_)
          refine wl_region ?_
          refine st_val ((Go.Value.slice none 0 0)) (by kernel_rfl) (by kernel_rfl) ?_
          refine st_val (.int .i64 3) (by kernel_rfl) (by kernel_rfl) ?_
          refine wl_nil ?_
          refine hK17 _ _ ?_
          try clear hK17 K17
          refine wp_ret ?_
          refine th_ret ?_
          have hte := tb_a (l := l) (fun h => by have h1 := h.1; have h2 := h.2.1; have h3 := h.2.2.1; have h4 := h.2.2.2; omega)
          exact done2 2 3 ((Go.Value.slice none 0 0)) (.int .i64 3) (by kernel_rfl) (by kernel_rfl) (by kernel_rfl) (by kernel_rfl) ⟨_, [], rfl, ⟨_, by rw [hte.1], by rw [hte.2]; exact OwnP.nil⟩, M0.sub (List.nil_sublist _)⟩
        ·
          refine st_val (.bool false) (by kernel_rfl) (bool_of (dec_f c36) (by kernel_rfl)) ?_
          refine st_val (.bool false) (by kernel_rfl) (by kernel_rfl) ?_
          refine st_val (.bool false) (by kernel_rfl) (by kernel_rfl) ?_
          refine st_val (.slice A l.length c) (by kernel_rfl) (by kernel_rfl) ?_
          obtain ⟨b18, o19, eA20⟩ := RdK.addr (hr.keep M0.keep (fun _ _ h => h)) (j := 1 * 1) (by rw [u8s_length]; omega)
          refine st_val (.pointer (some ⟨b18, o19 + 1 * 1, none⟩)) (by kernel_rfl) (run_indexSliceA 22 (.tmp 39) _ rfl A ⟨b18, o19, none⟩ eA20 l.length c .i64 1 (by kernel_rfl) (by kernel_rfl) Try.underlying22 1 (by kernel_rfl) (by omega) ⟨b18, o19 + 1 * 1, none⟩ (addr_atK _ _ _ _)) ?_
          refine st_val (.int .u8 ((l.getD 1 0 : Nat) : Int)) (by kernel_rfl) (run_load_cell 5 (.tmp 40) rfl ⟨b18, o19 + 1 * 1, none⟩ (by kernel_rfl) _ ((hr.keep M0.keep (fun _ _ h => h)).cellF eA20 (f := 0) (u8s_get l 1 (by omega))) (by kernel_rfl)) ?_
          rcases Decidable.em ((((l.getD 1 0 : Nat) : Int) : Int) > 32) with c42 | c42
          ·
            refine st_val (.bool true) (by kernel_rfl) (bool_of (dec_t c42) (by kernel_rfl)) ?_
            refine st_val (.bool true) (by kernel_rfl) (by kernel_rfl) ?_
            refine st_val (.bool true) (by kernel_rfl) (by kernel_rfl) ?_
            refine st_skip (by kernel_rfl) ?_
            refine st_skip (by kernel_rfl) ?_
            refine st_skip (by kernel_rfl) ?_
            refine st_skip (by kernel_rfl) ?_
            refine st_skip (by kernel_rfl) ?_
            refine st_skip (by kernel_rfl) ?_
            refine st_skip (by kernel_rfl) ?_
            refine st_val (.bool true) (by kernel_rfl) (by kernel_rfl) ?_
            refine wl_nil ?_
            refine hK4 _ _ ?_
            try clear hK4 K4
            refine wp_frame (a' := ⟨#[.slice A l.length c, undef, (Go.Value.slice none 0 0), .int .i64 0, .int .i64 ((l.length : Nat) : Int), undef, undef, undef, undef, undef, undef, undef, undef, undef, undef, undef, .slice A l.length c, .int .i64 ((l.length : Nat) : Int), .int .i64 ((l.length : Nat) : Int), .bool false, .bool false, .slice A l.length c, .pointer (some ⟨b6, o7 + 0 * 1, none⟩), .int .u8 ((l.getD 0 0 : Nat) : Int), .bool false, .bool false, .bool false, .slice A l.length c, .pointer (some ⟨b10, o11 + 0 * 1, none⟩), .int .u8 ((l.getD 0 0 : Nat) : Int), .bool false, .bool false, .bool false, .slice A l.length c, .pointer (some ⟨b14, o15 + 1 * 1, none⟩), .int .u8 ((l.getD 1 0 : Nat) : Int), .bool false, .bool false, .bool false, .slice A l.length c, .pointer (some ⟨b18, o19 + 1 * 1, none⟩), .int .u8 ((l.getD 1 0 : Nat) : Int), .bool true, .bool true, .bool true, undef, undef, undef, undef, undef, undef, undef, .bool true, undef, undef, undef, undef, undef, undef, undef, undef, undef, undef, undef, undef, undef, undef, undef, undef, undef, undef, undef, undef, undef, undef, undef, undef, undef, undef, undef, undef, undef, undef, undef, undef, undef, undef, undef, undef, undef, undef, undef, undef, undef, undef, undef, undef, undef, undef, undef, undef, undef, undef, undef, undef, undef, undef, undef, undef, undef, undef, undef, undef, undef, undef, undef, undef, undef, undef, undef, undef, undef, undef, undef, undef, undef, undef, undef, undef, undef, undef, undef, undef, undef, undef], []⟩) (by kernel_rfl) ?_
            refine wp_cond_true (by kernel_rfl) ?_
            refine wp_seq_k (fun K21 hK21 => ?_)
            refine wl_region ?_
            refine st_val ((Go.Value.slice none 0 0)) (by kernel_rfl) (by kernel_rfl) ?_
            refine st_val (.int .i64 3) (by kernel_rfl) (by kernel_rfl) ?_
            refine wl_nil ?_
            refine hK21 _ _ ?_
            try clear hK21 K21
            refine wp_ret ?_
            refine th_ret ?_
            have hte := tb_a (l := l) (fun h => by have h1 := h.1; have h2 := h.2.1; have h3 := h.2.2.1; have h4 := h.2.2.2; omega)
            exact done2 2 3 ((Go.Value.slice none 0 0)) (.int .i64 3) (by kernel_rfl) (by kernel_rfl) (by kernel_rfl) (by kernel_rfl) ⟨_, [], rfl, ⟨_, by rw [hte.1], by rw [hte.2]; exact OwnP.nil⟩, M0.sub (List.nil_sublist _)⟩
          ·
            refine st_val (.bool false) (by kernel_rfl) (bool_of (dec_f c42) (by kernel_rfl)) ?_
            refine st_val (.bool false) (by kernel_rfl) (by kernel_rfl) ?_
            refine st_val (.bool false) (by kernel_rfl) (by kernel_rfl) ?_
            refine st_val (.int .i64 ((l.length : Nat) : Int)) (by kernel_rfl) (by kernel_rfl) ?_
            refine st_val (.slice A l.length c) (by kernel_rfl) (by kernel_rfl) ?_
            obtain ⟨b22, o23, eA24⟩ := RdK.addr (hr.keep M0.keep (fun _ _ h => h)) (j := 0 * 1) (by rw [u8s_length]; omega)
            refine st_val (.pointer (some ⟨b22, o23 + 0 * 1, none⟩)) (by kernel_rfl) (run_indexSliceA 22 (.tmp 46) _ rfl A ⟨b22, o23, none⟩ eA24 l.length c .i64 0 (by kernel_rfl) (by kernel_rfl) Try.underlying22 1 (by kernel_rfl) (by omega) ⟨b22, o23 + 0 * 1, none⟩ (addr_atK _ _ _ _)) ?_
            refine st_val (.int .u8 ((l.getD 0 0 : Nat) : Int)) (by kernel_rfl) (run_load_cell 5 (.tmp 47) rfl ⟨b22, o23 + 0 * 1, none⟩ (by kernel_rfl) _ ((hr.keep M0.keep (fun _ _ h => h)).cellF eA24 (f := 0) (u8s_get l 0 (by omega))) (by kernel_rfl)) ?_
            refine st_val (.int .i64 ((l.getD 0 0 : Nat) : Int)) (by kernel_rfl) (i64_of (by omega) (by kernel_rfl)) ?_
            refine st_callB M0 (.int .i64 (bsz ((l.getD 0 0 : Nat) : Int))) (by kernel_rfl) (args := #[.int .i64 ((l.getD 0 0 : Nat) : Int)]) (run_value_call 16 #[(Operand.tmp 49)] _ rfl Try.func16 (by kernel_rfl) (by kernel_rfl) _ (by kernel_rfl)) (refBsz_walk w ((l.getD 0 0 : Nat) : Int)) ?_
            intro W25 M26
            rcases Decidable.em ((((l.length : Nat) : Int) : Int) = bsz ((l.getD 0 0 : Nat) : Int)) with c51 | c51
            ·
              refine st_val (.bool false) (by kernel_rfl) (bool_of (neq_f c51) (by kernel_rfl)) ?_
              refine st_val (.bool false) (by kernel_rfl) (by kernel_rfl) ?_
              refine wl_nil ?_
              refine hK4 _ _ ?_
              try clear hK4 K4
              refine wp_frame (a' := ⟨#[.slice A l.length c, undef, (Go.Value.slice none 0 0), .int .i64 0, .int .i64 ((l.length : Nat) : Int), undef, undef, undef, undef, undef, undef, undef, undef, undef, undef, undef, .slice A l.length c, .int .i64 ((l.length : Nat) : Int), .int .i64 ((l.length : Nat) : Int), .bool false, .bool false, .slice A l.length c, .pointer (some ⟨b6, o7 + 0 * 1, none⟩), .int .u8 ((l.getD 0 0 : Nat) : Int), .bool false, .bool false, .bool false, .slice A l.length c, .pointer (some ⟨b10, o11 + 0 * 1, none⟩), .int .u8 ((l.getD 0 0 : Nat) : Int), .bool false, .bool false, .bool false, .slice A l.length c, .pointer (some ⟨b14, o15 + 1 * 1, none⟩), .int .u8 ((l.getD 1 0 : Nat) : Int), .bool false, .bool false, .bool false, .slice A l.length c, .pointer (some ⟨b18, o19 + 1 * 1, none⟩), .int .u8 ((l.getD 1 0 : Nat) : Int), .bool false, .bool false, .bool false, .int .i64 ((l.length : Nat) : Int), .slice A l.length c, .pointer (some ⟨b22, o23 + 0 * 1, none⟩), .int .u8 ((l.getD 0 0 : Nat) : Int), .int .i64 ((l.getD 0 0 : Nat) : Int), .int .i64 (bsz ((l.getD 0 0 : Nat) : Int)), .bool false, .bool false, undef, undef, undef, undef, undef, undef, undef, undef, undef, undef, undef, undef, undef, undef, undef, undef, undef, undef, undef, undef, undef, undef, undef, undef, undef, undef, undef, undef, undef, undef, undef, undef, undef, undef, undef, undef, undef, undef, undef, undef, undef, undef, undef, undef, undef, undef, undef, undef, undef, undef, undef, undef, undef, undef, undef, undef, undef, undef, undef, undef, undef, undef, undef, undef, undef, undef, undef, undef, undef, undef, undef, undef, undef, undef, undef, undef, undef, undef, undef, undef, undef, undef], []⟩) (by kernel_rfl) ?_
              refine wp_cond_false (by kernel_rfl) ?_
              refine wp_skip ?_
              refine hK3 _ _ ?_
              try clear hK3 K3
              refine wp_seq_k (fun K27 hK27 => ?_)
              refine wp_seq_k (fun K28 hK28 => ?_)
              have hA : tbA l := ⟨by omega, ⟨by omega, by omega⟩, ⟨by omega, by omega⟩, by omega⟩; have hsz := tbA_len hA
              refine wl_region ?_
              refine st_val (.slice A l.length c) (by kernel_rfl) (by kernel_rfl) ?_
              refine st_val (.slice A l.length c) (by kernel_rfl) (by kernel_rfl) ?_
              refine st_val (.int .i64 ((l.length : Nat) : Int)) (by kernel_rfl) (by kernel_rfl) ?_
              refine st_val (.int .i64 ((l.length - 2 : Nat) : Int)) (by kernel_rfl) (int_of (show ((l.length : Nat) : Int) - 2 = ((l.length - 2 : Nat) : Int) by omega) (i64_of (by omega) (by kernel_rfl))) ?_
              refine st_val (.slice (subA A c 0) ((l.length - 2) - 0) (c - 0)) (by kernel_rfl) (run_sub_hi 22 5 (.tmp 54) (.tmp 56) rfl Try.underlying22 (by kernel_rfl) A l.length c (by kernel_rfl) .i64 (l.length - 2) (by kernel_rfl) (by omega)) ?_
              refine st_callR (A := []) (B := []) M26 (by kernel_rfl) (run_value_call 37 #[(Operand.tmp 57)] _ rfl Try.func37 (by kernel_rfl) (by kernel_rfl) _ (by kernel_rfl)) (refSummed_walk W25 (.slice (subA A c 0) ((l.length - 2) - 0) (c - 0)) (sl l 0 ((l.length - 2) - 0)) ((by rw [sl_len (by omega)]; exact (rdk_sl (hr.keep M26.keep (fun _ _ h => h)) rfl (by omega) (lo := 0) (hi := (l.length - 2)) (by omega) (by omega)))) (sl_lt hb _ _) (by rw [sl_len (by omega)]; omega)) ?_
              intro v29 T30 W31 O32 M33
              have M33 : Mem NoS w W31 ((T30 ++ [])) := M33
              obtain ⟨m34, hm35, O36⟩ := O32
              obtain ⟨A37, cq38, rfl, hc39⟩ := O36.shape
              rcases Bool.eq_false_or_eq_true (intB l) with hit | hit
              ·
                refine st_callE (.bool true) (by kernel_rfl) (args := #[.slice A l.length c, .slice A37 m34 cq38]) (run_value_call 23 #[(Operand.tmp 53), (Operand.tmp 58)] _ rfl Try.func23 (by kernel_rfl) (by kernel_rfl) _ (by kernel_rfl)) ((by have := sameM W31 (.slice A l.length c) (.slice A37 m34 cq38) l (summedB (sl l 0 ((l.length - 2) - 0))) (hr.keep M33.keep (fun _ _ h => h)) ((by rw [summedB_len, ← hm35]; exact O36.rd (fun p hp => M33.at_ p (List.mem_append_left _ hp)))) hb (summedB_lt (sl_lt hb _ _)); rw [show decide (l = summedB (sl l 0 ((l.length - 2) - 0))) = intB l from rfl, hit] at this; exact this)) ?_
                refine st_val (.bool false) (by kernel_rfl) (by kernel_rfl) ?_
                refine wl_nil ?_
                refine hK28 _ _ ?_
                try clear hK28 K28
                refine wp_cond_false (by kernel_rfl) ?_
                refine wp_skip ?_
                refine hK27 _ _ ?_
                try clear hK27 K27
                refine wp_seq_k (fun K40 hK40 => ?_)
                refine wl_region ?_
                refine st_val (.slice A l.length c) (by kernel_rfl) (by kernel_rfl) ?_
                refine st_val (.int .i64 ((l.length : Nat) : Int)) (by kernel_rfl) (by kernel_rfl) ?_
                refine st_val (.int .i64 ((l.length - 2 : Nat) : Int)) (by kernel_rfl) (int_of (show ((l.length : Nat) : Int) - 2 = ((l.length - 2 : Nat) : Int) by omega) (i64_of (by omega) (by kernel_rfl))) ?_
                refine st_val (.slice (subA A c 2) ((l.length - 2) - 2) (c - 2)) (by kernel_rfl) (run_sub_lh 22 5 (.tmp 62) _ (.tmp 64) rfl Try.underlying22 (by kernel_rfl) A l.length c (by kernel_rfl) .i64 .i64 2 (l.length - 2) (by kernel_rfl) (by kernel_rfl) (by omega) (by omega)) ?_
                rcases Classical.em ((sl l 2 ((l.length - 2) - 2)) = [] ∨ (sl l 2 ((l.length - 2) - 2)).getD ((sl l 2 ((l.length - 2) - 2)).length - 1) 0 = 0) with hpb | hpb
                ·
                  refine st_callB M33 (.tuple #[.pointer none, .int .i64 3]) (by kernel_rfl) (args := #[.slice (subA A c 2) ((l.length - 2) - 2) (c - 2)]) (run_value_call 38 #[(Operand.tmp 65)] _ rfl Try.func38 (by kernel_rfl) (by kernel_rfl) _ (by kernel_rfl)) (openBadM W31 (.slice (subA A c 2) ((l.length - 2) - 2) (c - 2)) (sl l 2 ((l.length - 2) - 2)) ((by rw [sl_len (by omega)]; exact (rdk_sl (hr.keep M33.keep (fun _ _ h => h)) rfl (by omega) (lo := 2) (hi := (l.length - 2)) (by omega) (by omega)))) (by rw [sl_len (by omega)]; omega) hpb) ?_
                  intro W41 M42
                  refine st_val (.tuple #[.pointer none, .int .i64 3]) (by kernel_rfl) (by kernel_rfl) ?_
                  refine st_val (.pointer none) (by kernel_rfl) (by kernel_rfl) ?_
                  refine st_val (.int .i64 3) (by kernel_rfl) (by kernel_rfl) ?_
                  refine st_val (.pointer none) (by kernel_rfl) (by kernel_rfl) ?_
                  refine st_val (.int .i64 3) (by kernel_rfl) (by kernel_rfl) ?_
                  refine wl_nil ?_
                  refine hK40 _ _ ?_
                  try clear hK40 K40
                  refine wp_frame (a' := ⟨#[.slice A l.length c, undef, (Go.Value.slice none 0 0), .int .i64 0, .int .i64 ((l.length : Nat) : Int), .pointer none, .int .i64 3, undef, undef, undef, undef, undef, undef, undef, undef, undef, .slice A l.length c, .int .i64 ((l.length : Nat) : Int), .int .i64 ((l.length : Nat) : Int), .bool false, .bool false, .slice A l.length c, .pointer (some ⟨b6, o7 + 0 * 1, none⟩), .int .u8 ((l.getD 0 0 : Nat) : Int), .bool false, .bool false, .bool false, .slice A l.length c, .pointer (some ⟨b10, o11 + 0 * 1, none⟩), .int .u8 ((l.getD 0 0 : Nat) : Int), .bool false, .bool false, .bool false, .slice A l.length c, .pointer (some ⟨b14, o15 + 1 * 1, none⟩), .int .u8 ((l.getD 1 0 : Nat) : Int), .bool false, .bool false, .bool false, .slice A l.length c, .pointer (some ⟨b18, o19 + 1 * 1, none⟩), .int .u8 ((l.getD 1 0 : Nat) : Int), .bool false, .bool false, .bool false, .int .i64 ((l.length : Nat) : Int), .slice A l.length c, .pointer (some ⟨b22, o23 + 0 * 1, none⟩), .int .u8 ((l.getD 0 0 : Nat) : Int), .int .i64 ((l.getD 0 0 : Nat) : Int), .int .i64 (bsz ((l.getD 0 0 : Nat) : Int)), .bool false, .bool false, .slice A l.length c, .slice A l.length c, .int .i64 ((l.length : Nat) : Int), .int .i64 ((l.length - 2 : Nat) : Int), .slice (subA A c 0) ((l.length - 2) - 0) (c - 0), .slice A37 m34 cq38, .bool true, .bool false, .tuple #[.pointer none, .int .i64 3], .slice A l.length c, .int .i64 ((l.length : Nat) : Int), .int .i64 ((l.length - 2 : Nat) : Int), .slice (subA A c 2) ((l.length - 2) - 2) (c - 2), .tuple #[.pointer none, .int .i64 3], .pointer none, .int .i64 3, undef, undef, undef, undef, undef, undef, undef, undef, undef, undef, undef, undef, undef, undef, undef, undef, undef, undef, undef, undef, undef, undef, undef, undef, undef, undef, undef, undef, undef, undef, undef, undef, undef, undef, undef, undef, undef, undef, undef, undef, undef, undef, undef, undef, undef, undef, undef, undef, undef, undef, undef, undef, undef, undef, undef, undef, undef, undef, undef, undef, undef, undef, undef, undef, undef, undef], []⟩) (by kernel_rfl) ?_
                  refine wp_seq_k (fun K43 hK43 => ?_)
                  refine wp_seq_k (fun K44 hK44 => ?_)
                  refine wl_seq 12 (fun w' => Mem NoS w w' ((T30 ++ []))) (by decide) (by kernel_rfl) (by kernel_rfl) M42.drew ?_
                  refine seq_run (v := .int .i64 3) (by decide) (by kernel_rfl) (fun w' M' => (by kernel_rfl)) ?_
                  refine seq_run (v := .bool true) (by decide) (by kernel_rfl) (fun w' M' => (by kernel_rfl)) ?_
                  refine seq_run (v := .bool true) (by decide) (by kernel_rfl) (fun w' M' => (by kernel_rfl)) ?_
                  refine seq_skip (by decide) (by kernel_rfl) ?_
                  refine seq_skip (by decide) (by kernel_rfl) ?_
                  refine seq_skip (by decide) (by kernel_rfl) ?_
                  refine seq_skip (by decide) (by kernel_rfl) ?_
                  refine seq_skip (by decide) (by kernel_rfl) ?_
                  refine seq_skip (by decide) (by kernel_rfl) ?_
                  refine seq_skip (by decide) (by kernel_rfl) ?_
                  refine seq_skip (by decide) (by kernel_rfl) ?_
                  refine seq_run (v := .bool true) (by decide) (by kernel_rfl) (fun w' M' => (by kernel_rfl)) ?_
                  refine seq_end (by decide) ?_
                  intro W45 M46
                  refine wl_nil ?_
                  refine hK44 _ _ ?_
                  try clear hK44 K44
                  refine wp_cond_true (by kernel_rfl) ?_
                  refine wp_seq_k (fun K47 hK47 => ?_)
                  refine wl_region ?_
                  refine st_val ((Go.Value.slice none 0 0)) (by kernel_rfl) (by kernel_rfl) ?_
                  refine st_val (.int .i64 3) (by kernel_rfl) (by kernel_rfl) ?_
                  refine wl_nil ?_
                  refine hK47 _ _ ?_
                  try clear hK47 K47
                  refine wp_frame (a' := ⟨#[.slice A l.length c, undef, (Go.Value.slice none 0 0), .int .i64 3, .int .i64 ((l.length : Nat) : Int), .pointer none, .int .i64 3, undef, undef, undef, undef, undef, undef, undef, undef, undef, .slice A l.length c, .int .i64 ((l.length : Nat) : Int), .int .i64 ((l.length : Nat) : Int), .bool false, .bool false, .slice A l.length c, .pointer (some ⟨b6, o7 + 0 * 1, none⟩), .int .u8 ((l.getD 0 0 : Nat) : Int), .bool false, .bool false, .bool false, .slice A l.length c, .pointer (some ⟨b10, o11 + 0 * 1, none⟩), .int .u8 ((l.getD 0 0 : Nat) : Int), .bool false, .bool false, .bool false, .slice A l.length c, .pointer (some ⟨b14, o15 + 1 * 1, none⟩), .int .u8 ((l.getD 1 0 : Nat) : Int), .bool false, .bool false, .bool false, .slice A l.length c, .pointer (some ⟨b18, o19 + 1 * 1, none⟩), .int .u8 ((l.getD 1 0 : Nat) : Int), .bool false, .bool false, .bool false, .int .i64 ((l.length : Nat) : Int), .slice A l.length c, .pointer (some ⟨b22, o23 + 0 * 1, none⟩), .int .u8 ((l.getD 0 0 : Nat) : Int), .int .i64 ((l.getD 0 0 : Nat) : Int), .int .i64 (bsz ((l.getD 0 0 : Nat) : Int)), .bool false, .bool false, .slice A l.length c, .slice A l.length c, .int .i64 ((l.length : Nat) : Int), .int .i64 ((l.length - 2 : Nat) : Int), .slice (subA A c 0) ((l.length - 2) - 0) (c - 0), .slice A37 m34 cq38, .bool true, .bool false, .tuple #[.pointer none, .int .i64 3], .slice A l.length c, .int .i64 ((l.length : Nat) : Int), .int .i64 ((l.length - 2 : Nat) : Int), .slice (subA A c 2) ((l.length - 2) - 2) (c - 2), .tuple #[.pointer none, .int .i64 3], .pointer none, .int .i64 3, .int .i64 3, .bool true, .bool true, undef, undef, undef, undef, undef, undef, undef, undef, .bool true, undef, undef, undef, undef, undef, undef, undef, undef, undef, undef, undef, undef, undef, undef, undef, undef, undef, undef, undef, undef, undef, undef, undef, undef, undef, undef, undef, undef, undef, undef, undef, undef, undef, undef, undef, undef, undef, undef, undef, undef, undef, undef, undef, undef, undef, undef, undef, undef, undef, undef, undef, undef, undef, undef], []⟩) (by kernel_rfl) ?_
                  refine wp_ret ?_
                  refine th_ret ?_
                  have hte := tb_f hA hit (fun h => by first | exact h.1 hpb | (have h2 := h.2.1; rw [show tbP l = (sl l 2 ((l.length - 2) - 2)) from rfl] at h2; omega))
                  exact done2 2 3 ((Go.Value.slice none 0 0)) (.int .i64 3) (by kernel_rfl) (by kernel_rfl) (by kernel_rfl) (by kernel_rfl) ⟨_, [], rfl, ⟨_, by rw [hte.1], by rw [hte.2]; exact OwnP.nil⟩, M46.sub (List.nil_sublist _)⟩
                ·
                  have hne : ¬ (sl l 2 ((l.length - 2) - 2)) = [] := fun h => hpb (.inl h)
                  have hla := fun h => hpb (.inr h)
                  have hql := refQ_len hne
                  refine st_callR (A := []) (B := (T30 ++ [])) M33 (by kernel_rfl) (run_value_call 38 #[(Operand.tmp 65)] _ rfl Try.func38 (by kernel_rfl) (by kernel_rfl) _ (by kernel_rfl)) (openM W31 (.slice (subA A c 2) ((l.length - 2) - 2) (c - 2)) (sl l 2 ((l.length - 2) - 2)) ((by rw [sl_len (by omega)]; exact (rdk_sl (hr.keep M33.keep (fun _ _ h => h)) rfl (by omega) (lo := 2) (hi := (l.length - 2)) (by omega) (by omega)))) (sl_lt hb _ _) (by rw [sl_len (by omega)]; omega) hne hla) ?_
                  intro v48 T49 W50 O51 M52
                  have M52 : Mem NoS w W50 ((T49 ++ (T30 ++ []))) := M52
                  obtain ⟨g53, rfl, O54⟩ := O51
                  refine st_val (.tuple #[.pointer (some ⟨g53, 0, none⟩), .int .i64 0]) (by kernel_rfl) (by kernel_rfl) ?_
                  refine st_val (.pointer (some ⟨g53, 0, none⟩)) (by kernel_rfl) (by kernel_rfl) ?_
                  refine st_val (.int .i64 0) (by kernel_rfl) (by kernel_rfl) ?_
                  refine st_val (.pointer (some ⟨g53, 0, none⟩)) (by kernel_rfl) (by kernel_rfl) ?_
                  refine st_val (.int .i64 0) (by kernel_rfl) (by kernel_rfl) ?_
                  refine wl_nil ?_
                  refine hK40 _ _ ?_
                  try clear hK40 K40
                  refine wp_frame (a' := ⟨#[.slice A l.length c, undef, (Go.Value.slice none 0 0), .int .i64 0, .int .i64 ((l.length : Nat) : Int), .pointer (some ⟨g53, 0, none⟩), .int .i64 0, undef, undef, undef, undef, undef, undef, undef, undef, undef, .slice A l.length c, .int .i64 ((l.length : Nat) : Int), .int .i64 ((l.length : Nat) : Int), .bool false, .bool false, .slice A l.length c, .pointer (some ⟨b6, o7 + 0 * 1, none⟩), .int .u8 ((l.getD 0 0 : Nat) : Int), .bool false, .bool false, .bool false, .slice A l.length c, .pointer (some ⟨b10, o11 + 0 * 1, none⟩), .int .u8 ((l.getD 0 0 : Nat) : Int), .bool false, .bool false, .bool false, .slice A l.length c, .pointer (some ⟨b14, o15 + 1 * 1, none⟩), .int .u8 ((l.getD 1 0 : Nat) : Int), .bool false, .bool false, .bool false, .slice A l.length c, .pointer (some ⟨b18, o19 + 1 * 1, none⟩), .int .u8 ((l.getD 1 0 : Nat) : Int), .bool false, .bool false, .bool false, .int .i64 ((l.length : Nat) : Int), .slice A l.length c, .pointer (some ⟨b22, o23 + 0 * 1, none⟩), .int .u8 ((l.getD 0 0 : Nat) : Int), .int .i64 ((l.getD 0 0 : Nat) : Int), .int .i64 (bsz ((l.getD 0 0 : Nat) : Int)), .bool false, .bool false, .slice A l.length c, .slice A l.length c, .int .i64 ((l.length : Nat) : Int), .int .i64 ((l.length - 2 : Nat) : Int), .slice (subA A c 0) ((l.length - 2) - 0) (c - 0), .slice A37 m34 cq38, .bool true, .bool false, .tuple #[.pointer (some ⟨g53, 0, none⟩), .int .i64 0], .slice A l.length c, .int .i64 ((l.length : Nat) : Int), .int .i64 ((l.length - 2 : Nat) : Int), .slice (subA A c 2) ((l.length - 2) - 2) (c - 2), .tuple #[.pointer (some ⟨g53, 0, none⟩), .int .i64 0], .pointer (some ⟨g53, 0, none⟩), .int .i64 0, undef, undef, undef, undef, undef, undef, undef, undef, undef, undef, undef, undef, undef, undef, undef, undef, undef, undef, undef, undef, undef, undef, undef, undef, undef, undef, undef, undef, undef, undef, undef, undef, undef, undef, undef, undef, undef, undef, undef, undef, undef, undef, undef, undef, undef, undef, undef, undef, undef, undef, undef, undef, undef, undef, undef, undef, undef, undef, undef, undef, undef, undef, undef, undef, undef, undef], []⟩) (by kernel_rfl) ?_
                  refine wp_seq_k (fun K55 hK55 => ?_)
                  refine wp_seq_k (fun K56 hK56 => ?_)
                  refine wl_seq 12 (fun w' => Mem NoS w w' ((T49 ++ (T30 ++ [])))) (by decide) (by kernel_rfl) (by kernel_rfl) M52.drew ?_
                  refine seq_run (v := .int .i64 0) (by decide) (by kernel_rfl) (fun w' M' => (by kernel_rfl)) ?_
                  refine seq_run (v := .bool false) (by decide) (by kernel_rfl) (fun w' M' => (by kernel_rfl)) ?_
                  refine seq_run (v := .bool false) (by decide) (by kernel_rfl) (fun w' M' => (by kernel_rfl)) ?_
                  refine seq_run (v := .pointer (some ⟨g53, 0, none⟩)) (by decide) (by kernel_rfl) (fun w' M' => (by kernel_rfl)) ?_
                  refine seq_call (v := .int .i64 ((((unpack (sl l 2 ((l.length - 2) - 2))).take (endOf (sl l 2 ((l.length - 2) - 2)))).length - 0 : Nat) : Int)) (f := 39) (args := #[.pointer (some ⟨g53, 0, none⟩)]) (by decide) (by kernel_rfl) (fun w' M' => (run_value_call 39 #[(Operand.tmp 72)] _ rfl Try.func39 (by kernel_rfl) (by kernel_rfl) _ (by kernel_rfl))) (fun w' M' => callB_mem M' (qLeftM w' O54 (Mem.part (A := []) (T := T49) (B := (T30 ++ [])) M'))) ?_
                  refine seq_run (v := .slice A l.length c) (by decide) (by kernel_rfl) (fun w' M' => (by kernel_rfl)) ?_
                  obtain ⟨b57, o58, eA59⟩ := RdK.addr (hr.keep M52.keep (fun _ _ h => h)) (j := 0 * 1) (by rw [u8s_length]; omega)
                  refine seq_run (v := .pointer (some ⟨b57, o58 + 0 * 1, none⟩)) (by decide) (by kernel_rfl) (fun w' M' => (run_indexSliceA 22 (.tmp 74) _ rfl A ⟨b57, o58, none⟩ eA59 l.length c .i64 0 (by kernel_rfl) (by kernel_rfl) Try.underlying22 1 (by kernel_rfl) (by omega) ⟨b57, o58 + 0 * 1, none⟩ (addr_atK _ _ _ _))) ?_
                  refine seq_run (v := .int .u8 ((l.getD 0 0 : Nat) : Int)) (by decide) (by kernel_rfl) (fun w' M' => (run_load_cell 5 (.tmp 75) rfl ⟨b57, o58 + 0 * 1, none⟩ (by kernel_rfl) _ ((hr.keep M'.keep (fun _ _ h => h)).cellF eA59 (f := 0) (u8s_get l 0 (by omega))) (by kernel_rfl))) ?_
                  refine seq_run (v := .int .i64 ((l.getD 0 0 : Nat) : Int)) (by decide) (by kernel_rfl) (fun w' M' => (i64_of (by omega) (by kernel_rfl))) ?_
                  refine seq_run (v := .int .i64 ((292 * (l.getD 0 0) : Nat) : Int)) (by decide) (by kernel_rfl) (fun w' M' => (i64_of (by omega) (by kernel_rfl))) ?_
                  rcases Decidable.em ((((((unpack (sl l 2 ((l.length - 2) - 2))).take (endOf (sl l 2 ((l.length - 2) - 2)))).length - 0 : Nat) : Int) : Int) = ((292 * (l.getD 0 0) : Nat) : Int)) with c79 | c79
                  ·
                    refine seq_run (v := .bool false) (by decide) (by kernel_rfl) (fun w' M' => (bool_of (neq_f c79) (by kernel_rfl))) ?_
                    refine seq_run (v := .bool false) (by decide) (by kernel_rfl) (fun w' M' => (by kernel_rfl)) ?_
                    refine seq_end (by decide) ?_
                    intro W60 M61
                    refine wl_nil ?_
                    refine hK56 _ _ ?_
                    try clear hK56 K56
                    refine wp_cond_false (by kernel_rfl) ?_
                    refine wp_skip ?_
                    refine hK55 _ _ ?_
                    try clear hK55 K55
                    refine wp_seq_k (fun K62 hK62 => ?_)
                    refine wl_region ?_
                    refine st_val ((Go.Value.slice none 0 0)) (by kernel_rfl) (by kernel_rfl) ?_
                    refine wl_nil ?_
                    refine hK62 _ _ ?_
                    try clear hK62 K62
                    refine wp_frame (a' := ⟨#[.slice A l.length c, undef, (Go.Value.slice none 0 0), .int .i64 0, .int .i64 ((l.length : Nat) : Int), .pointer (some ⟨g53, 0, none⟩), .int .i64 0, (Go.Value.slice none 0 0), undef, undef, undef, undef, undef, undef, undef, undef, .slice A l.length c, .int .i64 ((l.length : Nat) : Int), .int .i64 ((l.length : Nat) : Int), .bool false, .bool false, .slice A l.length c, .pointer (some ⟨b6, o7 + 0 * 1, none⟩), .int .u8 ((l.getD 0 0 : Nat) : Int), .bool false, .bool false, .bool false, .slice A l.length c, .pointer (some ⟨b10, o11 + 0 * 1, none⟩), .int .u8 ((l.getD 0 0 : Nat) : Int), .bool false, .bool false, .bool false, .slice A l.length c, .pointer (some ⟨b14, o15 + 1 * 1, none⟩), .int .u8 ((l.getD 1 0 : Nat) : Int), .bool false, .bool false, .bool false, .slice A l.length c, .pointer (some ⟨b18, o19 + 1 * 1, none⟩), .int .u8 ((l.getD 1 0 : Nat) : Int), .bool false, .bool false, .bool false, .int .i64 ((l.length : Nat) : Int), .slice A l.length c, .pointer (some ⟨b22, o23 + 0 * 1, none⟩), .int .u8 ((l.getD 0 0 : Nat) : Int), .int .i64 ((l.getD 0 0 : Nat) : Int), .int .i64 (bsz ((l.getD 0 0 : Nat) : Int)), .bool false, .bool false, .slice A l.length c, .slice A l.length c, .int .i64 ((l.length : Nat) : Int), .int .i64 ((l.length - 2 : Nat) : Int), .slice (subA A c 0) ((l.length - 2) - 0) (c - 0), .slice A37 m34 cq38, .bool true, .bool false, .tuple #[.pointer (some ⟨g53, 0, none⟩), .int .i64 0], .slice A l.length c, .int .i64 ((l.length : Nat) : Int), .int .i64 ((l.length - 2 : Nat) : Int), .slice (subA A c 2) ((l.length - 2) - 2) (c - 2), .tuple #[.pointer (some ⟨g53, 0, none⟩), .int .i64 0], .pointer (some ⟨g53, 0, none⟩), .int .i64 0, .int .i64 0, .bool false, .bool false, .pointer (some ⟨g53, 0, none⟩), .int .i64 ((((unpack (sl l 2 ((l.length - 2) - 2))).take (endOf (sl l 2 ((l.length - 2) - 2)))).length - 0 : Nat) : Int), .slice A l.length c, .pointer (some ⟨b57, o58 + 0 * 1, none⟩), .int .u8 ((l.getD 0 0 : Nat) : Int), .int .i64 ((l.getD 0 0 : Nat) : Int), .int .i64 ((292 * (l.getD 0 0) : Nat) : Int), .bool false, .bool false, undef, undef, undef, undef, undef, undef, undef, undef, undef, undef, undef, undef, undef, undef, undef, undef, undef, undef, undef, undef, undef, undef, undef, undef, undef, undef, undef, undef, undef, undef, undef, undef, undef, undef, undef, undef, undef, undef, undef, undef, undef, undef, undef, undef, undef, undef, undef, undef, undef, undef, undef, undef, undef, undef], []⟩) (by kernel_rfl) ?_
                    refine wp_seq_k (fun K63 hK63 => ?_)
                    refine wp_seq_k (fun K64 hK64 => ?_)
                    refine wl_region ?_
                    refine st_val (.int .i64 0) (by kernel_rfl) (by kernel_rfl) ?_
                    refine wl_nil ?_
                    refine hK64 _ _ ?_
                    try clear hK64 K64
                    refine wp_block ?_
                    have M65 : Mem NoS w W60 ((T49 ++ [])) := M61.sub (((List.Sublist.refl []).trans (List.sublist_append_right T30 _)).append_left T49)
                    have hen := c79
                    have hM0 := M65
                    refine wp_loop_ghost (fun gn a' w' => ∃ (i : Nat) (A1 : Option Addr) (c1 : Nat) (T1 : List (Nat × Obj)) (As : Nat → Option Addr) (cs : Nat → Nat) (Ts : Nat → List (Nat × Obj)) (T3 : List (Nat × Obj)) (u66 : Nat → Value), ((i ≤ l.getD 0 0 ∧ Own 39 1 (.slice A1 i c1) i (pvs (chLs (unpack (sl l 2 ((l.length - 2) - 2))) (l.getD 1 0) i) As cs) T1 ∧ OwnI (chLs (unpack (sl l 2 ((l.length - 2) - 2))) (l.getD 1 0) i) As cs Ts ∧ (∀ j, j < i → chB' (unpack (sl l 2 ((l.length - 2) - 2))) (292 * j) (l.getD 1 0) 32 = true) ∧ OwnQ g53 ((unpack (sl l 2 ((l.length - 2) - 2))).take (endOf (sl l 2 ((l.length - 2) - 2)))) (292 * i) T3) ∧ Mem NoS w w' ((T1 ++ (flatT Ts i ++ (T3 ++ []))))) ∧ gn = (l.getD 0 0) - i ∧ a' = ⟨#[.slice A l.length c, undef, (u66 2), (u66 3), .int .i64 ((l.length : Nat) : Int), .pointer (some ⟨g53, 0, none⟩), .int .i64 0, .slice A1 i c1, .int .i64 ((i : Nat) : Int), (u66 9), (u66 10), (u66 11), (u66 12), (u66 13), (u66 14), (u66 15), .slice A l.length c, .int .i64 ((l.length : Nat) : Int), .int .i64 ((l.length : Nat) : Int), .bool false, .bool false, .slice A l.length c, .pointer (some ⟨b6, o7 + 0 * 1, none⟩), .int .u8 ((l.getD 0 0 : Nat) : Int), .bool false, .bool false, .bool false, .slice A l.length c, .pointer (some ⟨b10, o11 + 0 * 1, none⟩), .int .u8 ((l.getD 0 0 : Nat) : Int), .bool false, .bool false, .bool false, .slice A l.length c, .pointer (some ⟨b14, o15 + 1 * 1, none⟩), .int .u8 ((l.getD 1 0 : Nat) : Int), .bool false, .bool false, .bool false, .slice A l.length c, .pointer (some ⟨b18, o19 + 1 * 1, none⟩), .int .u8 ((l.getD 1 0 : Nat) : Int), .bool false, .bool false, .bool false, .int .i64 ((l.length : Nat) : Int), .slice A l.length c, .pointer (some ⟨b22, o23 + 0 * 1, none⟩), .int .u8 ((l.getD 0 0 : Nat) : Int), .int .i64 ((l.getD 0 0 : Nat) : Int), .int .i64 (bsz ((l.getD 0 0 : Nat) : Int)), .bool false, .bool false, .slice A l.length c, .slice A l.length c, .int .i64 ((l.length : Nat) : Int), .int .i64 ((l.length - 2 : Nat) : Int), .slice (subA A c 0) ((l.length - 2) - 0) (c - 0), .slice A37 m34 cq38, .bool true, .bool false, .tuple #[.pointer (some ⟨g53, 0, none⟩), .int .i64 0], .slice A l.length c, .int .i64 ((l.length : Nat) : Int), .int .i64 ((l.length - 2 : Nat) : Int), .slice (subA A c 2) ((l.length - 2) - 2) (c - 2), .tuple #[.pointer (some ⟨g53, 0, none⟩), .int .i64 0], .pointer (some ⟨g53, 0, none⟩), .int .i64 0, .int .i64 0, .bool false, .bool false, .pointer (some ⟨g53, 0, none⟩), .int .i64 ((((unpack (sl l 2 ((l.length - 2) - 2))).take (endOf (sl l 2 ((l.length - 2) - 2)))).length - 0 : Nat) : Int), .slice A l.length c, .pointer (some ⟨b57, o58 + 0 * 1, none⟩), .int .u8 ((l.getD 0 0 : Nat) : Int), .int .i64 ((l.getD 0 0 : Nat) : Int), .int .i64 ((292 * (l.getD 0 0) : Nat) : Int), .bool false, .bool false, (u66 81), (u66 82), (u66 83), (u66 84), (u66 85), (u66 86), (u66 87), (u66 88), (u66 89), (u66 90), (u66 91), (u66 92), (u66 93), (u66 94), (u66 95), (u66 96), (u66 97), (u66 98), (u66 99), (u66 100), (u66 101), (u66 102), (u66 103), (u66 104), (u66 105), (u66 106), (u66 107), (u66 108), (u66 109), (u66 110), (u66 111), (u66 112), (u66 113), (u66 114), (u66 115), (u66 116), (u66 117), (u66 118), (u66 119), (u66 120), (u66 121), (u66 122), (u66 123), (u66 124), (u66 125), (u66 126), (u66 127), (u66 128), (u66 129), (u66 130), (u66 131), (u66 132), (u66 133), undef], []⟩) _ ⟨0, none, 0, ([]), (fun _ => none), (fun _ => 0), (fun _ => []), T49, (fun zz => Array.getD #[.slice A l.length c, undef, (Go.Value.slice none 0 0), .int .i64 0, .int .i64 ((l.length : Nat) : Int), .pointer (some ⟨g53, 0, none⟩), .int .i64 0, (Go.Value.slice none 0 0), .int .i64 0, undef, undef, undef, undef, undef, undef, undef, .slice A l.length c, .int .i64 ((l.length : Nat) : Int), .int .i64 ((l.length : Nat) : Int), .bool false, .bool false, .slice A l.length c, .pointer (some ⟨b6, o7 + 0 * 1, none⟩), .int .u8 ((l.getD 0 0 : Nat) : Int), .bool false, .bool false, .bool false, .slice A l.length c, .pointer (some ⟨b10, o11 + 0 * 1, none⟩), .int .u8 ((l.getD 0 0 : Nat) : Int), .bool false, .bool false, .bool false, .slice A l.length c, .pointer (some ⟨b14, o15 + 1 * 1, none⟩), .int .u8 ((l.getD 1 0 : Nat) : Int), .bool false, .bool false, .bool false, .slice A l.length c, .pointer (some ⟨b18, o19 + 1 * 1, none⟩), .int .u8 ((l.getD 1 0 : Nat) : Int), .bool false, .bool false, .bool false, .int .i64 ((l.length : Nat) : Int), .slice A l.length c, .pointer (some ⟨b22, o23 + 0 * 1, none⟩), .int .u8 ((l.getD 0 0 : Nat) : Int), .int .i64 ((l.getD 0 0 : Nat) : Int), .int .i64 (bsz ((l.getD 0 0 : Nat) : Int)), .bool false, .bool false, .slice A l.length c, .slice A l.length c, .int .i64 ((l.length : Nat) : Int), .int .i64 ((l.length - 2 : Nat) : Int), .slice (subA A c 0) ((l.length - 2) - 0) (c - 0), .slice A37 m34 cq38, .bool true, .bool false, .tuple #[.pointer (some ⟨g53, 0, none⟩), .int .i64 0], .slice A l.length c, .int .i64 ((l.length : Nat) : Int), .int .i64 ((l.length - 2 : Nat) : Int), .slice (subA A c 2) ((l.length - 2) - 2) (c - 2), .tuple #[.pointer (some ⟨g53, 0, none⟩), .int .i64 0], .pointer (some ⟨g53, 0, none⟩), .int .i64 0, .int .i64 0, .bool false, .bool false, .pointer (some ⟨g53, 0, none⟩), .int .i64 ((((unpack (sl l 2 ((l.length - 2) - 2))).take (endOf (sl l 2 ((l.length - 2) - 2)))).length - 0 : Nat) : Int), .slice A l.length c, .pointer (some ⟨b57, o58 + 0 * 1, none⟩), .int .u8 ((l.getD 0 0 : Nat) : Int), .int .i64 ((l.getD 0 0 : Nat) : Int), .int .i64 ((292 * (l.getD 0 0) : Nat) : Int), .bool false, .bool false, undef, undef, undef, undef, undef, undef, undef, undef, undef, undef, undef, undef, undef, undef, undef, undef, undef, undef, undef, undef, undef, undef, undef, undef, undef, undef, undef, undef, undef, undef, undef, undef, undef, undef, undef, undef, undef, undef, undef, undef, undef, undef, undef, undef, undef, undef, undef, undef, undef, undef, undef, undef, undef, undef] zz undef), ⟨⟨by omega, Own.nil _ _, OwnI.nil _ _ _, fun j hj => by omega, O54⟩, hM0⟩, rfl, (by kernel_rfl)⟩ ?_
                    rintro gn _ W67 ⟨i, A1, c1, T1, As, cs, Ts, T3, u66, ⟨⟨ri, O1, OI1, hok, O3⟩, M68⟩, rfl, rfl⟩
                    refine wp_seq_k (fun K69 hK69 => ?_)
                    refine wp_seq_k (fun K70 hK70 => ?_)
                    refine wl_region ?_
                    refine st_val (.int .i64 ((i : Nat) : Int)) (by kernel_rfl) (by kernel_rfl) ?_
                    refine st_val (.slice A l.length c) (by kernel_rfl) (by kernel_rfl) ?_
                    obtain ⟨b71, o72, eA73⟩ := RdK.addr (hr.keep M68.keep (fun _ _ h => h)) (j := 0 * 1) (by rw [u8s_length]; omega)
                    refine st_val (.pointer (some ⟨b71, o72 + 0 * 1, none⟩)) (by kernel_rfl) (run_indexSliceA 22 (.tmp 82) _ rfl A ⟨b71, o72, none⟩ eA73 l.length c .i64 0 (by kernel_rfl) (by kernel_rfl) Try.underlying22 1 (by kernel_rfl) (by omega) ⟨b71, o72 + 0 * 1, none⟩ (addr_atK _ _ _ _)) ?_
                    refine st_val (.int .u8 ((l.getD 0 0 : Nat) : Int)) (by kernel_rfl) (run_load_cell 5 (.tmp 83) rfl ⟨b71, o72 + 0 * 1, none⟩ (by kernel_rfl) _ ((hr.keep M68.keep (fun _ _ h => h)).cellF eA73 (f := 0) (u8s_get l 0 (by omega))) (by kernel_rfl)) ?_
                    refine st_val (.int .i64 ((l.getD 0 0 : Nat) : Int)) (by kernel_rfl) (i64_of (by omega) (by kernel_rfl)) ?_
                    rcases Decidable.em ((((i : Nat) : Int) : Int) < ((l.getD 0 0 : Nat) : Int)) with c86 | c86
                    ·
                      refine st_val (.bool true) (by kernel_rfl) (bool_of (dec_t c86) (by kernel_rfl)) ?_
                      refine wl_nil ?_
                      refine hK70 _ _ ?_
                      try clear hK70 K70
                      refine wp_cond_true (by kernel_rfl) ?_
                      refine wp_skip ?_
                      refine hK69 _ _ ?_
                      try clear hK69 K69
                      refine wp_seq_k (fun K74 hK74 => ?_)
                      refine wp_block ?_
                      refine wp_seq_k (fun K75 hK75 => ?_)
                      refine wl_region ?_
                      refine st_val (.pointer (some ⟨g53, 0, none⟩)) (by kernel_rfl) (by kernel_rfl) ?_
                      have M76 : Mem NoS w W67 ((T3 ++ (T1 ++ (flatT Ts i ++ [])))) := Mem.pull (A := []) [T1, flatT Ts i] T3 [] M68
                      refine st_callU (A := []) (T := T3) (B := (T1 ++ (flatT Ts i ++ []))) M76 (by kernel_rfl) (run_value_call 40 #[(Operand.tmp 90), (Operand.const (Value.int IntKind.i64 4))] _ rfl Try.func40 (by kernel_rfl) (by kernel_rfl) _ (by kernel_rfl)) (qTakeM W67 O3 (Mem.part (A := []) (T := T3) (B := (T1 ++ (flatT Ts i ++ []))) M76) 4 (by omega) (by omega)) ?_
                      intro v77 T78 W79 O80 M81
                      obtain ⟨rfl, O82⟩ := O80
                      have M83 : Mem NoS w W79 ((T78 ++ (T1 ++ (flatT Ts i ++ [])))) := M81
                      refine st_val (.tuple #[.int .u32 ((valueOf ((((unpack (sl l 2 ((l.length - 2) - 2))).take (endOf (sl l 2 ((l.length - 2) - 2)))).drop (292 * i)).take 4) : Nat) : Int), .int .i64 0]) (by kernel_rfl) (by kernel_rfl) ?_
                      refine st_val (.int .u32 ((chE (unpack (sl l 2 ((l.length - 2) - 2))) (292 * i) : Nat) : Int)) (by kernel_rfl) (int_of (show ((valueOf ((((unpack (sl l 2 ((l.length - 2) - 2))).take (endOf (sl l 2 ((l.length - 2) - 2)))).drop (292 * i)).take 4) : Nat) : Int) = ((chE (unpack (sl l 2 ((l.length - 2) - 2))) (292 * i) : Nat) : Int) by rw [part_take (by omega)]; rfl) (by kernel_rfl)) ?_
                      refine st_val (.int .i64 0) (by kernel_rfl) (by kernel_rfl) ?_
                      refine st_val (.int .u32 ((chE (unpack (sl l 2 ((l.length - 2) - 2))) (292 * i) : Nat) : Int)) (by kernel_rfl) (by kernel_rfl) ?_
                      refine st_val (.int .i64 0) (by kernel_rfl) (by kernel_rfl) ?_
                      refine wl_nil ?_
                      refine hK75 _ _ ?_
                      try clear hK75 K75
                      refine wp_frame (a' := ⟨#[.slice A l.length c, undef, (u66 2), (u66 3), .int .i64 ((l.length : Nat) : Int), .pointer (some ⟨g53, 0, none⟩), .int .i64 0, .slice A1 i c1, .int .i64 ((i : Nat) : Int), .int .u32 ((chE (unpack (sl l 2 ((l.length - 2) - 2))) (292 * i) : Nat) : Int), .int .i64 0, (u66 11), (u66 12), (u66 13), (u66 14), (u66 15), .slice A l.length c, .int .i64 ((l.length : Nat) : Int), .int .i64 ((l.length : Nat) : Int), .bool false, .bool false, .slice A l.length c, .pointer (some ⟨b6, o7 + 0 * 1, none⟩), .int .u8 ((l.getD 0 0 : Nat) : Int), .bool false, .bool false, .bool false, .slice A l.length c, .pointer (some ⟨b10, o11 + 0 * 1, none⟩), .int .u8 ((l.getD 0 0 : Nat) : Int), .bool false, .bool false, .bool false, .slice A l.length c, .pointer (some ⟨b14, o15 + 1 * 1, none⟩), .int .u8 ((l.getD 1 0 : Nat) : Int), .bool false, .bool false, .bool false, .slice A l.length c, .pointer (some ⟨b18, o19 + 1 * 1, none⟩), .int .u8 ((l.getD 1 0 : Nat) : Int), .bool false, .bool false, .bool false, .int .i64 ((l.length : Nat) : Int), .slice A l.length c, .pointer (some ⟨b22, o23 + 0 * 1, none⟩), .int .u8 ((l.getD 0 0 : Nat) : Int), .int .i64 ((l.getD 0 0 : Nat) : Int), .int .i64 (bsz ((l.getD 0 0 : Nat) : Int)), .bool false, .bool false, .slice A l.length c, .slice A l.length c, .int .i64 ((l.length : Nat) : Int), .int .i64 ((l.length - 2 : Nat) : Int), .slice (subA A c 0) ((l.length - 2) - 0) (c - 0), .slice A37 m34 cq38, .bool true, .bool false, .tuple #[.pointer (some ⟨g53, 0, none⟩), .int .i64 0], .slice A l.length c, .int .i64 ((l.length : Nat) : Int), .int .i64 ((l.length - 2 : Nat) : Int), .slice (subA A c 2) ((l.length - 2) - 2) (c - 2), .tuple #[.pointer (some ⟨g53, 0, none⟩), .int .i64 0], .pointer (some ⟨g53, 0, none⟩), .int .i64 0, .int .i64 0, .bool false, .bool false, .pointer (some ⟨g53, 0, none⟩), .int .i64 ((((unpack (sl l 2 ((l.length - 2) - 2))).take (endOf (sl l 2 ((l.length - 2) - 2)))).length - 0 : Nat) : Int), .slice A l.length c, .pointer (some ⟨b57, o58 + 0 * 1, none⟩), .int .u8 ((l.getD 0 0 : Nat) : Int), .int .i64 ((l.getD 0 0 : Nat) : Int), .int .i64 ((292 * (l.getD 0 0) : Nat) : Int), .bool false, .bool false, .int .i64 ((i : Nat) : Int), .slice A l.length c, .pointer (some ⟨b71, o72 + 0 * 1, none⟩), .int .u8 ((l.getD 0 0 : Nat) : Int), .int .i64 ((l.getD 0 0 : Nat) : Int), .bool true, (u66 87), (u66 88), .tuple #[.int .u32 ((valueOf ((((unpack (sl l 2 ((l.length - 2) - 2))).take (endOf (sl l 2 ((l.length - 2) - 2)))).drop (292 * i)).take 4) : Nat) : Int), .int .i64 0], .pointer (some ⟨g53, 0, none⟩), .tuple #[.int .u32 ((valueOf ((((unpack (sl l 2 ((l.length - 2) - 2))).take (endOf (sl l 2 ((l.length - 2) - 2)))).drop (292 * i)).take 4) : Nat) : Int), .int .i64 0], .int .u32 ((chE (unpack (sl l 2 ((l.length - 2) - 2))) (292 * i) : Nat) : Int), .int .i64 0, (u66 94), (u66 95), (u66 96), (u66 97), (u66 98), (u66 99), (u66 100), (u66 101), (u66 102), (u66 103), (u66 104), (u66 105), (u66 106), (u66 107), (u66 108), (u66 109), (u66 110), (u66 111), (u66 112), (u66 113), (u66 114), (u66 115), (u66 116), (u66 117), (u66 118), (u66 119), (u66 120), (u66 121), (u66 122), (u66 123), (u66 124), (u66 125), (u66 126), (u66 127), (u66 128), (u66 129), (u66 130), (u66 131), (u66 132), (u66 133), undef], []⟩) (by kernel_rfl) ?_
                      refine wp_seq_k (fun K84 hK84 => ?_)
                      refine wp_seq_k (fun K85 hK85 => ?_)
                      have hEl := chE_lt (unpack_bin (sl l 2 ((l.length - 2) - 2))) (292 * i)
                      refine wl_region ?_
                      refine st_val (.int .u32 ((chE (unpack (sl l 2 ((l.length - 2) - 2))) (292 * i) : Nat) : Int)) (by kernel_rfl) (by kernel_rfl) ?_
                      rcases Decidable.em ((((chE (unpack (sl l 2 ((l.length - 2) - 2))) (292 * i) : Nat) : Int) : Int) > 7) with c95 | c95
                      ·
                        refine st_val (.bool true) (by kernel_rfl) (bool_of (dec_t c95) (by kernel_rfl)) ?_
                        refine wl_nil ?_
                        refine hK85 _ _ ?_
                        try clear hK85 K85
                        refine wp_cond_true (by kernel_rfl) ?_
                        refine wp_seq_k (fun K86 hK86 => ?_)
                        refine wl_region ?_
                        refine st_val ((Go.Value.slice none 0 0)) (by kernel_rfl) (by kernel_rfl) ?_
                        refine st_val (.int .i64 3) (by kernel_rfl) (by kernel_rfl) ?_
                        refine wl_nil ?_
                        refine hK86 _ _ ?_
                        try clear hK86 K86
                        refine wp_ret ?_
                        refine th_ret ?_
                        refine blk_ret ?_
                        refine th_ret ?_
                        refine th_ret ?_
                        refine blk_ret ?_
                        refine th_ret ?_
                        have hte := tb_f hA hit (fun h => by have := chB_fst (h.2.2 i (by omega)); rw [show tbP l = (sl l 2 ((l.length - 2) - 2)) from rfl] at this; omega)
                        exact done2 2 3 ((Go.Value.slice none 0 0)) (.int .i64 3) (by kernel_rfl) (by kernel_rfl) (by kernel_rfl) (by kernel_rfl) ⟨_, [], rfl, ⟨_, by rw [hte.1], by rw [hte.2]; exact OwnP.nil⟩, M83.sub (List.nil_sublist _)⟩
                      ·
                        refine st_val (.bool false) (by kernel_rfl) (bool_of (dec_f c95) (by kernel_rfl)) ?_
                        refine wl_nil ?_
                        refine hK85 _ _ ?_
                        try clear hK85 K85
                        refine wp_cond_false (by kernel_rfl) ?_
                        refine wp_skip ?_
                        refine hK84 _ _ ?_
                        try clear hK84 K84
                        refine wp_seq_k (fun K87 hK87 => ?_)
                        refine wl_region ?_
                        refine st_val ((Go.Value.slice none 0 0)) (by kernel_rfl) (by kernel_rfl) ?_
                        refine wl_nil ?_
                        refine hK87 _ _ ?_
                        try clear hK87 K87
                        refine wp_seq_k (fun K88 hK88 => ?_)
                        refine wp_seq_k (fun K89 hK89 => ?_)
                        refine wl_region ?_
                        refine st_val (.int .i64 0) (by kernel_rfl) (by kernel_rfl) ?_
                        refine wl_nil ?_
                        refine hK89 _ _ ?_
                        try clear hK89 K89
                        refine wp_block ?_
                        have M90 : Mem NoS w W79 ((flatT Ts i ++ (T78 ++ (T1 ++ [])))) := Mem.pull (A := []) [T78, T1] (flatT Ts i) [] M83
                        have M91 : Mem NoS w W79 ((T1 ++ (flatT Ts i ++ (T78 ++ [])))) := Mem.pull (A := []) [flatT Ts i, T78] T1 [] M90
                        have hM1 := M91
                        refine wp_loop_ghost (fun gn a' w' => ∃ (k : Nat) (m : Nat) (q : Nat) (A2 : Option Addr) (c2 : Nat) (T2 : List (Nat × Obj)) (T4 : List (Nat × Obj)) (u92 : Nat → Value), ((k ≤ 32 ∧ m = min k (l.getD 1 0) ∧ q = 292 * i + 4 + 9 * k ∧ chB' (unpack (sl l 2 ((l.length - 2) - 2))) (292 * i) (l.getD 1 0) k = true ∧ Own 45 1 (.slice A2 m c2) m (i16s (chL (unpack (sl l 2 ((l.length - 2) - 2))) (292 * i) m)) T2 ∧ OwnQ g53 ((unpack (sl l 2 ((l.length - 2) - 2))).take (endOf (sl l 2 ((l.length - 2) - 2)))) q T4) ∧ Mem NoS w w' ((T2 ++ (T1 ++ (flatT Ts i ++ (T4 ++ [])))))) ∧ gn = 32 - k ∧ a' = ⟨#[.slice A l.length c, undef, (u92 2), (u92 3), .int .i64 ((l.length : Nat) : Int), .pointer (some ⟨g53, 0, none⟩), .int .i64 0, .slice A1 i c1, .int .i64 ((i : Nat) : Int), .int .u32 ((chE (unpack (sl l 2 ((l.length - 2) - 2))) (292 * i) : Nat) : Int), .int .i64 0, .slice A2 m c2, .int .i64 ((k : Nat) : Int), (u92 13), (u92 14), (u92 15), .slice A l.length c, .int .i64 ((l.length : Nat) : Int), .int .i64 ((l.length : Nat) : Int), .bool false, .bool false, .slice A l.length c, .pointer (some ⟨b6, o7 + 0 * 1, none⟩), .int .u8 ((l.getD 0 0 : Nat) : Int), .bool false, .bool false, .bool false, .slice A l.length c, .pointer (some ⟨b10, o11 + 0 * 1, none⟩), .int .u8 ((l.getD 0 0 : Nat) : Int), .bool false, .bool false, .bool false, .slice A l.length c, .pointer (some ⟨b14, o15 + 1 * 1, none⟩), .int .u8 ((l.getD 1 0 : Nat) : Int), .bool false, .bool false, .bool false, .slice A l.length c, .pointer (some ⟨b18, o19 + 1 * 1, none⟩), .int .u8 ((l.getD 1 0 : Nat) : Int), .bool false, .bool false, .bool false, .int .i64 ((l.length : Nat) : Int), .slice A l.length c, .pointer (some ⟨b22, o23 + 0 * 1, none⟩), .int .u8 ((l.getD 0 0 : Nat) : Int), .int .i64 ((l.getD 0 0 : Nat) : Int), .int .i64 (bsz ((l.getD 0 0 : Nat) : Int)), .bool false, .bool false, .slice A l.length c, .slice A l.length c, .int .i64 ((l.length : Nat) : Int), .int .i64 ((l.length - 2 : Nat) : Int), .slice (subA A c 0) ((l.length - 2) - 0) (c - 0), .slice A37 m34 cq38, .bool true, .bool false, .tuple #[.pointer (some ⟨g53, 0, none⟩), .int .i64 0], .slice A l.length c, .int .i64 ((l.length : Nat) : Int), .int .i64 ((l.length - 2 : Nat) : Int), .slice (subA A c 2) ((l.length - 2) - 2) (c - 2), .tuple #[.pointer (some ⟨g53, 0, none⟩), .int .i64 0], .pointer (some ⟨g53, 0, none⟩), .int .i64 0, .int .i64 0, .bool false, .bool false, .pointer (some ⟨g53, 0, none⟩), .int .i64 ((((unpack (sl l 2 ((l.length - 2) - 2))).take (endOf (sl l 2 ((l.length - 2) - 2)))).length - 0 : Nat) : Int), .slice A l.length c, .pointer (some ⟨b57, o58 + 0 * 1, none⟩), .int .u8 ((l.getD 0 0 : Nat) : Int), .int .i64 ((l.getD 0 0 : Nat) : Int), .int .i64 ((292 * (l.getD 0 0) : Nat) : Int), .bool false, .bool false, .int .i64 ((i : Nat) : Int), .slice A l.length c, .pointer (some ⟨b71, o72 + 0 * 1, none⟩), .int .u8 ((l.getD 0 0 : Nat) : Int), .int .i64 ((l.getD 0 0 : Nat) : Int), .bool true, (u66 87), (u66 88), .tuple #[.int .u32 ((valueOf ((((unpack (sl l 2 ((l.length - 2) - 2))).take (endOf (sl l 2 ((l.length - 2) - 2)))).drop (292 * i)).take 4) : Nat) : Int), .int .i64 0], .pointer (some ⟨g53, 0, none⟩), .tuple #[.int .u32 ((valueOf ((((unpack (sl l 2 ((l.length - 2) - 2))).take (endOf (sl l 2 ((l.length - 2) - 2)))).drop (292 * i)).take 4) : Nat) : Int), .int .i64 0], .int .u32 ((chE (unpack (sl l 2 ((l.length - 2) - 2))) (292 * i) : Nat) : Int), .int .i64 0, .int .u32 ((chE (unpack (sl l 2 ((l.length - 2) - 2))) (292 * i) : Nat) : Int), .bool false, (u92 96), (u92 97), (u92 98), (u92 99), (u92 100), (u92 101), (u92 102), (u92 103), (u92 104), (u92 105), (u92 106), (u92 107), (u92 108), (u92 109), (u92 110), (u92 111), (u92 112), (u92 113), (u92 114), (u92 115), (u92 116), (u92 117), (u92 118), (u92 119), (u92 120), (u92 121), (u92 122), (u92 123), (u92 124), (u92 125), (u92 126), (u92 127), (u92 128), (u92 129), (u66 130), (u66 131), (u66 132), (u66 133), undef], []⟩) _ ⟨0, 0, (292 * i + 4), none, 0, ([]), T78, (fun zz => Array.getD #[.slice A l.length c, undef, (u66 2), (u66 3), .int .i64 ((l.length : Nat) : Int), .pointer (some ⟨g53, 0, none⟩), .int .i64 0, .slice A1 i c1, .int .i64 ((i : Nat) : Int), .int .u32 ((chE (unpack (sl l 2 ((l.length - 2) - 2))) (292 * i) : Nat) : Int), .int .i64 0, (Go.Value.slice none 0 0), .int .i64 0, (u66 13), (u66 14), (u66 15), .slice A l.length c, .int .i64 ((l.length : Nat) : Int), .int .i64 ((l.length : Nat) : Int), .bool false, .bool false, .slice A l.length c, .pointer (some ⟨b6, o7 + 0 * 1, none⟩), .int .u8 ((l.getD 0 0 : Nat) : Int), .bool false, .bool false, .bool false, .slice A l.length c, .pointer (some ⟨b10, o11 + 0 * 1, none⟩), .int .u8 ((l.getD 0 0 : Nat) : Int), .bool false, .bool false, .bool false, .slice A l.length c, .pointer (some ⟨b14, o15 + 1 * 1, none⟩), .int .u8 ((l.getD 1 0 : Nat) : Int), .bool false, .bool false, .bool false, .slice A l.length c, .pointer (some ⟨b18, o19 + 1 * 1, none⟩), .int .u8 ((l.getD 1 0 : Nat) : Int), .bool false, .bool false, .bool false, .int .i64 ((l.length : Nat) : Int), .slice A l.length c, .pointer (some ⟨b22, o23 + 0 * 1, none⟩), .int .u8 ((l.getD 0 0 : Nat) : Int), .int .i64 ((l.getD 0 0 : Nat) : Int), .int .i64 (bsz ((l.getD 0 0 : Nat) : Int)), .bool false, .bool false, .slice A l.length c, .slice A l.length c, .int .i64 ((l.length : Nat) : Int), .int .i64 ((l.length - 2 : Nat) : Int), .slice (subA A c 0) ((l.length - 2) - 0) (c - 0), .slice A37 m34 cq38, .bool true, .bool false, .tuple #[.pointer (some ⟨g53, 0, none⟩), .int .i64 0], .slice A l.length c, .int .i64 ((l.length : Nat) : Int), .int .i64 ((l.length - 2 : Nat) : Int), .slice (subA A c 2) ((l.length - 2) - 2) (c - 2), .tuple #[.pointer (some ⟨g53, 0, none⟩), .int .i64 0], .pointer (some ⟨g53, 0, none⟩), .int .i64 0, .int .i64 0, .bool false, .bool false, .pointer (some ⟨g53, 0, none⟩), .int .i64 ((((unpack (sl l 2 ((l.length - 2) - 2))).take (endOf (sl l 2 ((l.length - 2) - 2)))).length - 0 : Nat) : Int), .slice A l.length c, .pointer (some ⟨b57, o58 + 0 * 1, none⟩), .int .u8 ((l.getD 0 0 : Nat) : Int), .int .i64 ((l.getD 0 0 : Nat) : Int), .int .i64 ((292 * (l.getD 0 0) : Nat) : Int), .bool false, .bool false, .int .i64 ((i : Nat) : Int), .slice A l.length c, .pointer (some ⟨b71, o72 + 0 * 1, none⟩), .int .u8 ((l.getD 0 0 : Nat) : Int), .int .i64 ((l.getD 0 0 : Nat) : Int), .bool true, (u66 87), (u66 88), .tuple #[.int .u32 ((valueOf ((((unpack (sl l 2 ((l.length - 2) - 2))).take (endOf (sl l 2 ((l.length - 2) - 2)))).drop (292 * i)).take 4) : Nat) : Int), .int .i64 0], .pointer (some ⟨g53, 0, none⟩), .tuple #[.int .u32 ((valueOf ((((unpack (sl l 2 ((l.length - 2) - 2))).take (endOf (sl l 2 ((l.length - 2) - 2)))).drop (292 * i)).take 4) : Nat) : Int), .int .i64 0], .int .u32 ((chE (unpack (sl l 2 ((l.length - 2) - 2))) (292 * i) : Nat) : Int), .int .i64 0, .int .u32 ((chE (unpack (sl l 2 ((l.length - 2) - 2))) (292 * i) : Nat) : Int), .bool false, (u66 96), (u66 97), (u66 98), (u66 99), (u66 100), (u66 101), (u66 102), (u66 103), (u66 104), (u66 105), (u66 106), (u66 107), (u66 108), (u66 109), (u66 110), (u66 111), (u66 112), (u66 113), (u66 114), (u66 115), (u66 116), (u66 117), (u66 118), (u66 119), (u66 120), (u66 121), (u66 122), (u66 123), (u66 124), (u66 125), (u66 126), (u66 127), (u66 128), (u66 129), (u66 130), (u66 131), (u66 132), (u66 133), undef] zz undef), ⟨⟨by omega, by omega, by omega, decide_eq_true (by omega), Own.nil _ _, O82⟩, hM1⟩, rfl, (by kernel_rfl)⟩ ?_
                        rintro gn _ W93 ⟨k, m, q, A2, c2, T2, T4, u92, ⟨⟨rk, hm, hq, hb2, O2, O4⟩, M94⟩, rfl, rfl⟩
                        refine wp_seq_k (fun K95 hK95 => ?_)
                        refine wp_seq_k (fun K96 hK96 => ?_)
                        refine wl_region ?_
                        refine st_val (.int .i64 ((k : Nat) : Int)) (by kernel_rfl) (by kernel_rfl) ?_
                        rcases Decidable.em ((((k : Nat) : Int) : Int) < 32) with c97 | c97
                        ·
                          refine st_val (.bool true) (by kernel_rfl) (bool_of (dec_t c97) (by kernel_rfl)) ?_
                          refine wl_nil ?_
                          refine hK96 _ _ ?_
                          try clear hK96 K96
                          refine wp_cond_true (by kernel_rfl) ?_
                          refine wp_skip ?_
                          refine hK95 _ _ ?_
                          try clear hK95 K95
                          refine wp_seq_k (fun K97 hK97 => ?_)
                          refine wp_block ?_
                          refine wp_seq_k (fun K98 hK98 => ?_)
                          refine wl_region ?_
                          refine st_val (.pointer (some ⟨g53, 0, none⟩)) (by kernel_rfl) (by kernel_rfl) ?_
                          have M99 : Mem NoS w W93 ((T4 ++ (T2 ++ (T1 ++ (flatT Ts i ++ []))))) := Mem.pull (A := []) [T2, T1, flatT Ts i] T4 [] M94
                          refine st_callU (A := []) (T := T4) (B := (T2 ++ (T1 ++ (flatT Ts i ++ [])))) M99 (by kernel_rfl) (run_value_call 40 #[(Operand.tmp 101), (Operand.const (Value.int IntKind.i64 9))] _ rfl Try.func40 (by kernel_rfl) (by kernel_rfl) _ (by kernel_rfl)) (qTakeM W93 O4 (Mem.part (A := []) (T := T4) (B := (T2 ++ (T1 ++ (flatT Ts i ++ [])))) M99) 9 (by omega) (by omega)) ?_
                          intro v100 T101 W102 O103 M104
                          obtain ⟨rfl, O105⟩ := O103
                          have M106 : Mem NoS w W102 ((T101 ++ (T2 ++ (T1 ++ (flatT Ts i ++ []))))) := M104
                          refine st_val (.tuple #[.int .u32 ((valueOf ((((unpack (sl l 2 ((l.length - 2) - 2))).take (endOf (sl l 2 ((l.length - 2) - 2)))).drop q).take 9) : Nat) : Int), .int .i64 0]) (by kernel_rfl) (by kernel_rfl) ?_
                          refine st_val (.int .u32 ((chM (unpack (sl l 2 ((l.length - 2) - 2))) (292 * i) k : Nat) : Int)) (by kernel_rfl) (int_of (show ((valueOf ((((unpack (sl l 2 ((l.length - 2) - 2))).take (endOf (sl l 2 ((l.length - 2) - 2)))).drop q).take 9) : Nat) : Int) = ((chM (unpack (sl l 2 ((l.length - 2) - 2))) (292 * i) k : Nat) : Int) by rw [part_take (by omega), hq]; rfl) (by kernel_rfl)) ?_
                          refine st_val (.int .i64 0) (by kernel_rfl) (by kernel_rfl) ?_
                          refine st_val (.int .u32 ((chM (unpack (sl l 2 ((l.length - 2) - 2))) (292 * i) k : Nat) : Int)) (by kernel_rfl) (by kernel_rfl) ?_
                          refine st_val (.int .i64 0) (by kernel_rfl) (by kernel_rfl) ?_
                          refine wl_nil ?_
                          refine hK98 _ _ ?_
                          try clear hK98 K98
                          refine wp_seq_k (fun K107 hK107 => ?_)
                          have hMl := chM_lt (unpack_bin (sl l 2 ((l.length - 2) - 2))) (292 * i) k
                          refine wl_region ?_
                          refine st_val (.int .u32 ((chM (unpack (sl l 2 ((l.length - 2) - 2))) (292 * i) k : Nat) : Int)) (by kernel_rfl) (by kernel_rfl) ?_
                          refine st_val (.int .i64 ((chM (unpack (sl l 2 ((l.length - 2) - 2))) (292 * i) k : Nat) : Int)) (by kernel_rfl) (i64_of (by omega) (by kernel_rfl)) ?_
                          refine st_val (.int .i64 ((chM (unpack (sl l 2 ((l.length - 2) - 2))) (292 * i) k : Nat) : Int)) (by kernel_rfl) (by kernel_rfl) ?_
                          refine wl_nil ?_
                          refine hK107 _ _ ?_
                          try clear hK107 K107
                          refine wp_seq_k (fun K108 hK108 => ?_)
                          refine wp_seq_k (fun K109 hK109 => ?_)
                          refine wl_region ?_
                          refine st_val (.int .i64 ((chM (unpack (sl l 2 ((l.length - 2) - 2))) (292 * i) k : Nat) : Int)) (by kernel_rfl) (by kernel_rfl) ?_
                          rcases Decidable.em ((((chM (unpack (sl l 2 ((l.length - 2) - 2))) (292 * i) k : Nat) : Int) : Int) > 255) with c108 | c108
                          ·
                            refine st_val (.bool true) (by kernel_rfl) (bool_of (dec_t c108) (by kernel_rfl)) ?_
                            refine wl_nil ?_
                            refine hK109 _ _ ?_
                            try clear hK109 K109
                            refine wp_frame (a' := ⟨#[.slice A l.length c, undef, (u92 2), (u92 3), .int .i64 ((l.length : Nat) : Int), .pointer (some ⟨g53, 0, none⟩), .int .i64 0, .slice A1 i c1, .int .i64 ((i : Nat) : Int), .int .u32 ((chE (unpack (sl l 2 ((l.length - 2) - 2))) (292 * i) : Nat) : Int), .int .i64 0, .slice A2 m c2, .int .i64 ((k : Nat) : Int), .int .u32 ((chM (unpack (sl l 2 ((l.length - 2) - 2))) (292 * i) k : Nat) : Int), .int .i64 0, .int .i64 ((chM (unpack (sl l 2 ((l.length - 2) - 2))) (292 * i) k : Nat) : Int), .slice A l.length c, .int .i64 ((l.length : Nat) : Int), .int .i64 ((l.length : Nat) : Int), .bool false, .bool false, .slice A l.length c, .pointer (some ⟨b6, o7 + 0 * 1, none⟩), .int .u8 ((l.getD 0 0 : Nat) : Int), .bool false, .bool false, .bool false, .slice A l.length c, .pointer (some ⟨b10, o11 + 0 * 1, none⟩), .int .u8 ((l.getD 0 0 : Nat) : Int), .bool false, .bool false, .bool false, .slice A l.length c, .pointer (some ⟨b14, o15 + 1 * 1, none⟩), .int .u8 ((l.getD 1 0 : Nat) : Int), .bool false, .bool false, .bool false, .slice A l.length c, .pointer (some ⟨b18, o19 + 1 * 1, none⟩), .int .u8 ((l.getD 1 0 : Nat) : Int), .bool false, .bool false, .bool false, .int .i64 ((l.length : Nat) : Int), .slice A l.length c, .pointer (some ⟨b22, o23 + 0 * 1, none⟩), .int .u8 ((l.getD 0 0 : Nat) : Int), .int .i64 ((l.getD 0 0 : Nat) : Int), .int .i64 (bsz ((l.getD 0 0 : Nat) : Int)), .bool false, .bool false, .slice A l.length c, .slice A l.length c, .int .i64 ((l.length : Nat) : Int), .int .i64 ((l.length - 2 : Nat) : Int), .slice (subA A c 0) ((l.length - 2) - 0) (c - 0), .slice A37 m34 cq38, .bool true, .bool false, .tuple #[.pointer (some ⟨g53, 0, none⟩), .int .i64 0], .slice A l.length c, .int .i64 ((l.length : Nat) : Int), .int .i64 ((l.length - 2 : Nat) : Int), .slice (subA A c 2) ((l.length - 2) - 2) (c - 2), .tuple #[.pointer (some ⟨g53, 0, none⟩), .int .i64 0], .pointer (some ⟨g53, 0, none⟩), .int .i64 0, .int .i64 0, .bool false, .bool false, .pointer (some ⟨g53, 0, none⟩), .int .i64 ((((unpack (sl l 2 ((l.length - 2) - 2))).take (endOf (sl l 2 ((l.length - 2) - 2)))).length - 0 : Nat) : Int), .slice A l.length c, .pointer (some ⟨b57, o58 + 0 * 1, none⟩), .int .u8 ((l.getD 0 0 : Nat) : Int), .int .i64 ((l.getD 0 0 : Nat) : Int), .int .i64 ((292 * (l.getD 0 0) : Nat) : Int), .bool false, .bool false, .int .i64 ((i : Nat) : Int), .slice A l.length c, .pointer (some ⟨b71, o72 + 0 * 1, none⟩), .int .u8 ((l.getD 0 0 : Nat) : Int), .int .i64 ((l.getD 0 0 : Nat) : Int), .bool true, (u66 87), (u66 88), .tuple #[.int .u32 ((valueOf ((((unpack (sl l 2 ((l.length - 2) - 2))).take (endOf (sl l 2 ((l.length - 2) - 2)))).drop (292 * i)).take 4) : Nat) : Int), .int .i64 0], .pointer (some ⟨g53, 0, none⟩), .tuple #[.int .u32 ((valueOf ((((unpack (sl l 2 ((l.length - 2) - 2))).take (endOf (sl l 2 ((l.length - 2) - 2)))).drop (292 * i)).take 4) : Nat) : Int), .int .i64 0], .int .u32 ((chE (unpack (sl l 2 ((l.length - 2) - 2))) (292 * i) : Nat) : Int), .int .i64 0, .int .u32 ((chE (unpack (sl l 2 ((l.length - 2) - 2))) (292 * i) : Nat) : Int), .bool false, .int .i64 ((k : Nat) : Int), .bool true, (u92 98), (u92 99), .tuple #[.int .u32 ((valueOf ((((unpack (sl l 2 ((l.length - 2) - 2))).take (endOf (sl l 2 ((l.length - 2) - 2)))).drop q).take 9) : Nat) : Int), .int .i64 0], .pointer (some ⟨g53, 0, none⟩), .tuple #[.int .u32 ((valueOf ((((unpack (sl l 2 ((l.length - 2) - 2))).take (endOf (sl l 2 ((l.length - 2) - 2)))).drop q).take 9) : Nat) : Int), .int .i64 0], .int .u32 ((chM (unpack (sl l 2 ((l.length - 2) - 2))) (292 * i) k : Nat) : Int), .int .i64 0, .int .u32 ((chM (unpack (sl l 2 ((l.length - 2) - 2))) (292 * i) k : Nat) : Int), .int .i64 ((chM (unpack (sl l 2 ((l.length - 2) - 2))) (292 * i) k : Nat) : Int), .int .i64 ((chM (unpack (sl l 2 ((l.length - 2) - 2))) (292 * i) k : Nat) : Int), .bool true, (u92 109), (u92 110), (u92 111), (u92 112), (u92 113), (u92 114), (u92 115), (u92 116), (u92 117), (u92 118), (u92 119), (u92 120), (u92 121), (u92 122), (u92 123), (u92 124), (u92 125), (u92 126), (u92 127), (u92 128), (u92 129), (u66 130), (u66 131), (u66 132), (u66 133), undef], []⟩) (by kernel_rfl) ?_
                            refine wp_cond_true (by kernel_rfl) ?_
                            refine wl_region ?_
                            refine st_val (.int .i64 ((chM (unpack (sl l 2 ((l.length - 2) - 2))) (292 * i) k : Nat) : Int)) (by kernel_rfl) (by kernel_rfl) ?_
                            refine st_val (.int .i64 (((chM (unpack (sl l 2 ((l.length - 2) - 2))) (292 * i) k : Nat) : Int) - 512)) (by kernel_rfl) (i64_of (by omega) (by kernel_rfl)) ?_
                            refine st_val (.int .i64 (((chM (unpack (sl l 2 ((l.length - 2) - 2))) (292 * i) k : Nat) : Int) - 512)) (by kernel_rfl) (by kernel_rfl) ?_
                            refine wl_nil ?_
                            refine hK108 _ _ ?_
                            try clear hK108 K108
                            refine wp_seq_k (fun K110 hK110 => ?_)
                            refine wl_region ?_
                            refine st_val (.int .i64 ((k : Nat) : Int)) (by kernel_rfl) (by kernel_rfl) ?_
                            refine st_val (.slice A l.length c) (by kernel_rfl) (by kernel_rfl) ?_
                            obtain ⟨b111, o112, eA113⟩ := RdK.addr (hr.keep M106.keep (fun _ _ h => h)) (j := 1 * 1) (by rw [u8s_length]; omega)
                            refine st_val (.pointer (some ⟨b111, o112 + 1 * 1, none⟩)) (by kernel_rfl) (run_indexSliceA 22 (.tmp 112) _ rfl A ⟨b111, o112, none⟩ eA113 l.length c .i64 1 (by kernel_rfl) (by kernel_rfl) Try.underlying22 1 (by kernel_rfl) (by omega) ⟨b111, o112 + 1 * 1, none⟩ (addr_atK _ _ _ _)) ?_
                            refine st_val (.int .u8 ((l.getD 1 0 : Nat) : Int)) (by kernel_rfl) (run_load_cell 5 (.tmp 113) rfl ⟨b111, o112 + 1 * 1, none⟩ (by kernel_rfl) _ ((hr.keep M106.keep (fun _ _ h => h)).cellF eA113 (f := 0) (u8s_get l 1 (by omega))) (by kernel_rfl)) ?_
                            refine st_val (.int .i64 ((l.getD 1 0 : Nat) : Int)) (by kernel_rfl) (i64_of (by omega) (by kernel_rfl)) ?_
                            rcases Decidable.em ((((k : Nat) : Int) : Int) < ((l.getD 1 0 : Nat) : Int)) with c116 | c116
                            ·
                              refine st_val (.bool true) (by kernel_rfl) (bool_of (dec_t c116) (by kernel_rfl)) ?_
                              refine wl_nil ?_
                              refine hK110 _ _ ?_
                              try clear hK110 K110
                              refine wp_cond_true (by kernel_rfl) ?_
                              have hxr := sxp_rng (e := chE (unpack (sl l 2 ((l.length - 2) - 2))) (292 * i)) (m := chM (unpack (sl l 2 ((l.length - 2) - 2))) (292 * i) k) (by omega) hMl
                              have hhr := half_le (e := chE (unpack (sl l 2 ((l.length - 2) - 2))) (292 * i)) (by omega)
                              have hdr := dcS_rng (e := chE (unpack (sl l 2 ((l.length - 2) - 2))) (292 * i)) (m := chM (unpack (sl l 2 ((l.length - 2) - 2))) (292 * i) k) (by omega) hMl
                              refine wl_region ?_
                              refine st_val (.slice A2 m c2) (by kernel_rfl) (by kernel_rfl) ?_
                              refine st_val (.int .i64 (((chM (unpack (sl l 2 ((l.length - 2) - 2))) (292 * i) k : Nat) : Int) - 512)) (by kernel_rfl) (by kernel_rfl) ?_
                              refine st_val (.int .u32 ((chE (unpack (sl l 2 ((l.length - 2) - 2))) (292 * i) : Nat) : Int)) (by kernel_rfl) (by kernel_rfl) ?_
                              refine st_val (.int .i64 (sx (chM (unpack (sl l 2 ((l.length - 2) - 2))) (292 * i) k) * ((2 ^ (chE (unpack (sl l 2 ((l.length - 2) - 2))) (292 * i)) : Nat) : Int))) (by kernel_rfl) (run_value_bin .shl 3 60 (.tmp 118) (.tmp 119) rfl (.int .i64 (((chM (unpack (sl l 2 ((l.length - 2) - 2))) (292 * i) k : Nat) : Int) - 512)) (.int .u32 ((chE (unpack (sl l 2 ((l.length - 2) - 2))) (292 * i) : Nat) : Int)) _ (by kernel_rfl) (by kernel_rfl) (by kernel_rfl) (bin_shl (n := chE (unpack (sl l 2 ((l.length - 2) - 2))) (292 * i)) (by show _ ≤ 64; omega) (sx_shl (by omega) hMl (by unfold sx; rw [if_pos (by omega)])))) ?_
                              refine st_val (.int .u32 ((chE (unpack (sl l 2 ((l.length - 2) - 2))) (292 * i) : Nat) : Int)) (by kernel_rfl) (by kernel_rfl) ?_
                              refine st_val (.int .i64 ((chE (unpack (sl l 2 ((l.length - 2) - 2))) (292 * i) : Nat) : Int)) (by kernel_rfl) (i64_of (by omega) (by kernel_rfl)) ?_
                              refine st_callB M106 (.int .i64 ((half (chE (unpack (sl l 2 ((l.length - 2) - 2))) (292 * i)) : Nat) : Int)) (by kernel_rfl) (args := #[.int .i64 ((chE (unpack (sl l 2 ((l.length - 2) - 2))) (292 * i) : Nat) : Int)]) (run_value_call 41 #[(Operand.tmp 122)] _ rfl Try.func41 (by kernel_rfl) (by kernel_rfl) _ (by kernel_rfl)) (refHalf_walk W102 (chE (unpack (sl l 2 ((l.length - 2) - 2))) (292 * i)) (by omega)) ?_
                              intro W114 M115
                              refine st_val (.int .i64 ((sx (chM (unpack (sl l 2 ((l.length - 2) - 2))) (292 * i) k) * ((2 ^ (chE (unpack (sl l 2 ((l.length - 2) - 2))) (292 * i)) : Nat) : Int)) + ((half (chE (unpack (sl l 2 ((l.length - 2) - 2))) (292 * i)) : Nat) : Int))) (by kernel_rfl) (i64_of (by omega) (by kernel_rfl)) ?_
                              refine st_val (.int .i16 (dcS (chE (unpack (sl l 2 ((l.length - 2) - 2))) (292 * i)) (chM (unpack (sl l 2 ((l.length - 2) - 2))) (292 * i) k))) (by kernel_rfl) (int_of (wrap_i16 hdr) (by kernel_rfl)) ?_
                              refine st_new M115 (.cells #[.int .i16 (dcS (chE (unpack (sl l 2 ((l.length - 2) - 2))) (292 * i)) (chM (unpack (sl l 2 ((l.length - 2) - 2))) (292 * i) k))] 45 (0, 0)) (fun g => .slice (some ⟨g, 0, none⟩) 1 1) (by kernel_rfl) (by kernel_rfl) ?_
                              intro g116 W117 M118
                              have M128 : Mem NoS w W117 ((g116, .cells #[.int .i16 (dcS (chE (unpack (sl l 2 ((l.length - 2) - 2))) (292 * i)) (chM (unpack (sl l 2 ((l.length - 2) - 2))) (292 * i) k))] 45 (0, 0)) :: (T2 ++ (T101 ++ (T1 ++ (flatT Ts i ++ []))))) := M118.swap (A := [(g116, .cells #[.int .i16 (dcS (chE (unpack (sl l 2 ((l.length - 2) - 2))) (292 * i)) (chM (unpack (sl l 2 ((l.length - 2) - 2))) (292 * i) k))] 45 (0, 0))]) (T := T101) (U := T2) (B := (T1 ++ (flatT Ts i ++ [])))
                              obtain ⟨v119, T120, W121, hr122, O123, M124⟩ := append_i16 (A := [(g116, .cells #[.int .i16 (dcS (chE (unpack (sl l 2 ((l.length - 2) - 2))) (292 * i)) (chM (unpack (sl l 2 ((l.length - 2) - 2))) (292 * i) k))] 45 (0, 0))]) (T := T2) (B := (T101 ++ (T1 ++ (flatT Ts i ++ [])))) M128 39 _ _ _ O2 _ 1 (i16s ([dcS (chE (unpack (sl l 2 ((l.length - 2) - 2))) (292 * i)) (chM (unpack (sl l 2 ((l.length - 2) - 2))) (292 * i) k)])) (rdk_lit (xs := i16s [dcS (chE (unpack (sl l 2 ((l.length - 2) - 2))) (292 * i)) (chM (unpack (sl l 2 ((l.length - 2) - 2))) (292 * i) k)]) (M128.get 0 rfl) rfl) rfl (i16s_one _) (by omega)
                              have M124 : Mem NoS w W121 ((g116, .cells #[.int .i16 (dcS (chE (unpack (sl l 2 ((l.length - 2) - 2))) (292 * i)) (chM (unpack (sl l 2 ((l.length - 2) - 2))) (292 * i) k))] 45 (0, 0)) :: (T120 ++ (T101 ++ (T1 ++ (flatT Ts i ++ []))))) := M124
                              obtain ⟨A125, cq126, rfl, hc127⟩ := O123.shape
                              refine st_world (.slice A125 (m + 1) cq126) W121 (by kernel_rfl) (run_append_op (.tmp 117) (.tmp 126) _ rfl (.slice A2 m c2) (.slice (some ⟨g116, 0, none⟩) 1 1) _ (by kernel_rfl) (by kernel_rfl) hr122) ?_
                              refine st_val (.slice A125 (m + 1) cq126) (by kernel_rfl) (by kernel_rfl) ?_
                              refine wl_nil ?_
                              refine blk_normal ?_
                              refine hK97 _ _ ?_
                              try clear hK97 K97
                              refine wp_frame (a' := ⟨#[.slice A l.length c, undef, (u92 2), (u92 3), .int .i64 ((l.length : Nat) : Int), .pointer (some ⟨g53, 0, none⟩), .int .i64 0, .slice A1 i c1, .int .i64 ((i : Nat) : Int), .int .u32 ((chE (unpack (sl l 2 ((l.length - 2) - 2))) (292 * i) : Nat) : Int), .int .i64 0, .slice A125 (m + 1) cq126, .int .i64 ((k : Nat) : Int), .int .u32 ((chM (unpack (sl l 2 ((l.length - 2) - 2))) (292 * i) k : Nat) : Int), .int .i64 0, .int .i64 (((chM (unpack (sl l 2 ((l.length - 2) - 2))) (292 * i) k : Nat) : Int) - 512), .slice A l.length c, .int .i64 ((l.length : Nat) : Int), .int .i64 ((l.length : Nat) : Int), .bool false, .bool false, .slice A l.length c, .pointer (some ⟨b6, o7 + 0 * 1, none⟩), .int .u8 ((l.getD 0 0 : Nat) : Int), .bool false, .bool false, .bool false, .slice A l.length c, .pointer (some ⟨b10, o11 + 0 * 1, none⟩), .int .u8 ((l.getD 0 0 : Nat) : Int), .bool false, .bool false, .bool false, .slice A l.length c, .pointer (some ⟨b14, o15 + 1 * 1, none⟩), .int .u8 ((l.getD 1 0 : Nat) : Int), .bool false, .bool false, .bool false, .slice A l.length c, .pointer (some ⟨b18, o19 + 1 * 1, none⟩), .int .u8 ((l.getD 1 0 : Nat) : Int), .bool false, .bool false, .bool false, .int .i64 ((l.length : Nat) : Int), .slice A l.length c, .pointer (some ⟨b22, o23 + 0 * 1, none⟩), .int .u8 ((l.getD 0 0 : Nat) : Int), .int .i64 ((l.getD 0 0 : Nat) : Int), .int .i64 (bsz ((l.getD 0 0 : Nat) : Int)), .bool false, .bool false, .slice A l.length c, .slice A l.length c, .int .i64 ((l.length : Nat) : Int), .int .i64 ((l.length - 2 : Nat) : Int), .slice (subA A c 0) ((l.length - 2) - 0) (c - 0), .slice A37 m34 cq38, .bool true, .bool false, .tuple #[.pointer (some ⟨g53, 0, none⟩), .int .i64 0], .slice A l.length c, .int .i64 ((l.length : Nat) : Int), .int .i64 ((l.length - 2 : Nat) : Int), .slice (subA A c 2) ((l.length - 2) - 2) (c - 2), .tuple #[.pointer (some ⟨g53, 0, none⟩), .int .i64 0], .pointer (some ⟨g53, 0, none⟩), .int .i64 0, .int .i64 0, .bool false, .bool false, .pointer (some ⟨g53, 0, none⟩), .int .i64 ((((unpack (sl l 2 ((l.length - 2) - 2))).take (endOf (sl l 2 ((l.length - 2) - 2)))).length - 0 : Nat) : Int), .slice A l.length c, .pointer (some ⟨b57, o58 + 0 * 1, none⟩), .int .u8 ((l.getD 0 0 : Nat) : Int), .int .i64 ((l.getD 0 0 : Nat) : Int), .int .i64 ((292 * (l.getD 0 0) : Nat) : Int), .bool false, .bool false, .int .i64 ((i : Nat) : Int), .slice A l.length c, .pointer (some ⟨b71, o72 + 0 * 1, none⟩), .int .u8 ((l.getD 0 0 : Nat) : Int), .int .i64 ((l.getD 0 0 : Nat) : Int), .bool true, (u66 87), (u66 88), .tuple #[.int .u32 ((valueOf ((((unpack (sl l 2 ((l.length - 2) - 2))).take (endOf (sl l 2 ((l.length - 2) - 2)))).drop (292 * i)).take 4) : Nat) : Int), .int .i64 0], .pointer (some ⟨g53, 0, none⟩), .tuple #[.int .u32 ((valueOf ((((unpack (sl l 2 ((l.length - 2) - 2))).take (endOf (sl l 2 ((l.length - 2) - 2)))).drop (292 * i)).take 4) : Nat) : Int), .int .i64 0], .int .u32 ((chE (unpack (sl l 2 ((l.length - 2) - 2))) (292 * i) : Nat) : Int), .int .i64 0, .int .u32 ((chE (unpack (sl l 2 ((l.length - 2) - 2))) (292 * i) : Nat) : Int), .bool false, .int .i64 ((k : Nat) : Int), .bool true, (u92 98), (u92 99), .tuple #[.int .u32 ((valueOf ((((unpack (sl l 2 ((l.length - 2) - 2))).take (endOf (sl l 2 ((l.length - 2) - 2)))).drop q).take 9) : Nat) : Int), .int .i64 0], .pointer (some ⟨g53, 0, none⟩), .tuple #[.int .u32 ((valueOf ((((unpack (sl l 2 ((l.length - 2) - 2))).take (endOf (sl l 2 ((l.length - 2) - 2)))).drop q).take 9) : Nat) : Int), .int .i64 0], .int .u32 ((chM (unpack (sl l 2 ((l.length - 2) - 2))) (292 * i) k : Nat) : Int), .int .i64 0, .int .u32 ((chM (unpack (sl l 2 ((l.length - 2) - 2))) (292 * i) k : Nat) : Int), .int .i64 ((chM (unpack (sl l 2 ((l.length - 2) - 2))) (292 * i) k : Nat) : Int), .int .i64 ((chM (unpack (sl l 2 ((l.length - 2) - 2))) (292 * i) k : Nat) : Int), .bool true, .int .i64 ((chM (unpack (sl l 2 ((l.length - 2) - 2))) (292 * i) k : Nat) : Int), .int .i64 (((chM (unpack (sl l 2 ((l.length - 2) - 2))) (292 * i) k : Nat) : Int) - 512), .int .i64 ((k : Nat) : Int), .slice A l.length c, .pointer (some ⟨b111, o112 + 1 * 1, none⟩), .int .u8 ((l.getD 1 0 : Nat) : Int), .int .i64 ((l.getD 1 0 : Nat) : Int), .bool true, .slice A2 m c2, .int .i64 (((chM (unpack (sl l 2 ((l.length - 2) - 2))) (292 * i) k : Nat) : Int) - 512), .int .u32 ((chE (unpack (sl l 2 ((l.length - 2) - 2))) (292 * i) : Nat) : Int), .int .i64 (sx (chM (unpack (sl l 2 ((l.length - 2) - 2))) (292 * i) k) * ((2 ^ (chE (unpack (sl l 2 ((l.length - 2) - 2))) (292 * i)) : Nat) : Int)), .int .u32 ((chE (unpack (sl l 2 ((l.length - 2) - 2))) (292 * i) : Nat) : Int), .int .i64 ((chE (unpack (sl l 2 ((l.length - 2) - 2))) (292 * i) : Nat) : Int), .int .i64 ((half (chE (unpack (sl l 2 ((l.length - 2) - 2))) (292 * i)) : Nat) : Int), .int .i64 ((sx (chM (unpack (sl l 2 ((l.length - 2) - 2))) (292 * i) k) * ((2 ^ (chE (unpack (sl l 2 ((l.length - 2) - 2))) (292 * i)) : Nat) : Int)) + ((half (chE (unpack (sl l 2 ((l.length - 2) - 2))) (292 * i)) : Nat) : Int)), .int .i16 (dcS (chE (unpack (sl l 2 ((l.length - 2) - 2))) (292 * i)) (chM (unpack (sl l 2 ((l.length - 2) - 2))) (292 * i) k)), .slice (some ⟨g116, 0, none⟩) 1 1, .slice A125 (m + 1) cq126, (u92 128), (u92 129), (u66 130), (u66 131), (u66 132), (u66 133), undef], []⟩) (by kernel_rfl) ?_
                              refine wl_region ?_
                              refine st_val (.int .i64 ((k : Nat) : Int)) (by kernel_rfl) (by kernel_rfl) ?_
                              refine st_val (.int .i64 (((k : Nat) : Int) + 1)) (by kernel_rfl) (i64_of (by omega) (by kernel_rfl)) ?_
                              refine st_val (.int .i64 (((k : Nat) : Int) + 1)) (by kernel_rfl) (by kernel_rfl) ?_
                              refine wl_nil ?_
                              refine th_normal ?_
                              have M129 : Mem NoS w W121 ((T120 ++ (T101 ++ (T1 ++ (flatT Ts i ++ []))))) := M124.sub ((((((List.Sublist.refl []).append_left (flatT Ts i)).append_left T1).append_left T101).append_left T120).cons _)
                              have M130 : Mem NoS w W121 ((T101 ++ (T120 ++ (T1 ++ (flatT Ts i ++ []))))) := M129.swap (A := []) (T := T120) (U := T101) (B := (T1 ++ (flatT Ts i ++ [])))
                              have M131 : Mem NoS w W121 ((flatT Ts i ++ (T101 ++ (T120 ++ (T1 ++ []))))) := Mem.pull (A := []) [T101, T120, T1] (flatT Ts i) [] M130
                              have M132 : Mem NoS w W121 ((T1 ++ (flatT Ts i ++ (T101 ++ (T120 ++ []))))) := Mem.pull (A := []) [flatT Ts i, T101, T120] T1 [] M131
                              have M133 : Mem NoS w W121 ((T120 ++ (T1 ++ (flatT Ts i ++ (T101 ++ []))))) := Mem.pull (A := []) [T1, flatT Ts i, T101] T120 [] M132
                              have hmk : m = k := (by omega)
                              have hO5 := O123
                              rw [hmk] at hO5
                              have hO6 : Own 45 1 _ (k + 1) (i16s (chL (unpack (sl l 2 ((l.length - 2) - 2))) (292 * i) (k + 1))) _ := (by show Own _ _ _ _ (i16s (chL (unpack (sl l 2 ((l.length - 2) - 2))) (292 * i) k ++ [dcS (min (chE (unpack (sl l 2 ((l.length - 2) - 2))) (292 * i)) 7) (chM (unpack (sl l 2 ((l.length - 2) - 2))) (292 * i) k)])) _; rw [i16s_append, Nat.min_eq_left (by omega)]; exact hO5)
                              rw [← hmk] at hO6
                              exact ⟨_, by omega, (k + 1), (m + 1), (q + 9), A125, cq126, T120, T101, (fun zz => Array.getD #[.slice A l.length c, undef, (u92 2), (u92 3), .int .i64 ((l.length : Nat) : Int), .pointer (some ⟨g53, 0, none⟩), .int .i64 0, .slice A1 i c1, .int .i64 ((i : Nat) : Int), .int .u32 ((chE (unpack (sl l 2 ((l.length - 2) - 2))) (292 * i) : Nat) : Int), .int .i64 0, .slice A125 (m + 1) cq126, .int .i64 (((k : Nat) : Int) + 1), .int .u32 ((chM (unpack (sl l 2 ((l.length - 2) - 2))) (292 * i) k : Nat) : Int), .int .i64 0, .int .i64 (((chM (unpack (sl l 2 ((l.length - 2) - 2))) (292 * i) k : Nat) : Int) - 512), .slice A l.length c, .int .i64 ((l.length : Nat) : Int), .int .i64 ((l.length : Nat) : Int), .bool false, .bool false, .slice A l.length c, .pointer (some ⟨b6, o7 + 0 * 1, none⟩), .int .u8 ((l.getD 0 0 : Nat) : Int), .bool false, .bool false, .bool false, .slice A l.length c, .pointer (some ⟨b10, o11 + 0 * 1, none⟩), .int .u8 ((l.getD 0 0 : Nat) : Int), .bool false, .bool false, .bool false, .slice A l.length c, .pointer (some ⟨b14, o15 + 1 * 1, none⟩), .int .u8 ((l.getD 1 0 : Nat) : Int), .bool false, .bool false, .bool false, .slice A l.length c, .pointer (some ⟨b18, o19 + 1 * 1, none⟩), .int .u8 ((l.getD 1 0 : Nat) : Int), .bool false, .bool false, .bool false, .int .i64 ((l.length : Nat) : Int), .slice A l.length c, .pointer (some ⟨b22, o23 + 0 * 1, none⟩), .int .u8 ((l.getD 0 0 : Nat) : Int), .int .i64 ((l.getD 0 0 : Nat) : Int), .int .i64 (bsz ((l.getD 0 0 : Nat) : Int)), .bool false, .bool false, .slice A l.length c, .slice A l.length c, .int .i64 ((l.length : Nat) : Int), .int .i64 ((l.length - 2 : Nat) : Int), .slice (subA A c 0) ((l.length - 2) - 0) (c - 0), .slice A37 m34 cq38, .bool true, .bool false, .tuple #[.pointer (some ⟨g53, 0, none⟩), .int .i64 0], .slice A l.length c, .int .i64 ((l.length : Nat) : Int), .int .i64 ((l.length - 2 : Nat) : Int), .slice (subA A c 2) ((l.length - 2) - 2) (c - 2), .tuple #[.pointer (some ⟨g53, 0, none⟩), .int .i64 0], .pointer (some ⟨g53, 0, none⟩), .int .i64 0, .int .i64 0, .bool false, .bool false, .pointer (some ⟨g53, 0, none⟩), .int .i64 ((((unpack (sl l 2 ((l.length - 2) - 2))).take (endOf (sl l 2 ((l.length - 2) - 2)))).length - 0 : Nat) : Int), .slice A l.length c, .pointer (some ⟨b57, o58 + 0 * 1, none⟩), .int .u8 ((l.getD 0 0 : Nat) : Int), .int .i64 ((l.getD 0 0 : Nat) : Int), .int .i64 ((292 * (l.getD 0 0) : Nat) : Int), .bool false, .bool false, .int .i64 ((i : Nat) : Int), .slice A l.length c, .pointer (some ⟨b71, o72 + 0 * 1, none⟩), .int .u8 ((l.getD 0 0 : Nat) : Int), .int .i64 ((l.getD 0 0 : Nat) : Int), .bool true, (u66 87), (u66 88), .tuple #[.int .u32 ((valueOf ((((unpack (sl l 2 ((l.length - 2) - 2))).take (endOf (sl l 2 ((l.length - 2) - 2)))).drop (292 * i)).take 4) : Nat) : Int), .int .i64 0], .pointer (some ⟨g53, 0, none⟩), .tuple #[.int .u32 ((valueOf ((((unpack (sl l 2 ((l.length - 2) - 2))).take (endOf (sl l 2 ((l.length - 2) - 2)))).drop (292 * i)).take 4) : Nat) : Int), .int .i64 0], .int .u32 ((chE (unpack (sl l 2 ((l.length - 2) - 2))) (292 * i) : Nat) : Int), .int .i64 0, .int .u32 ((chE (unpack (sl l 2 ((l.length - 2) - 2))) (292 * i) : Nat) : Int), .bool false, .int .i64 ((k : Nat) : Int), .bool true, .int .i64 ((k : Nat) : Int), .int .i64 (((k : Nat) : Int) + 1), .tuple #[.int .u32 ((valueOf ((((unpack (sl l 2 ((l.length - 2) - 2))).take (endOf (sl l 2 ((l.length - 2) - 2)))).drop q).take 9) : Nat) : Int), .int .i64 0], .pointer (some ⟨g53, 0, none⟩), .tuple #[.int .u32 ((valueOf ((((unpack (sl l 2 ((l.length - 2) - 2))).take (endOf (sl l 2 ((l.length - 2) - 2)))).drop q).take 9) : Nat) : Int), .int .i64 0], .int .u32 ((chM (unpack (sl l 2 ((l.length - 2) - 2))) (292 * i) k : Nat) : Int), .int .i64 0, .int .u32 ((chM (unpack (sl l 2 ((l.length - 2) - 2))) (292 * i) k : Nat) : Int), .int .i64 ((chM (unpack (sl l 2 ((l.length - 2) - 2))) (292 * i) k : Nat) : Int), .int .i64 ((chM (unpack (sl l 2 ((l.length - 2) - 2))) (292 * i) k : Nat) : Int), .bool true, .int .i64 ((chM (unpack (sl l 2 ((l.length - 2) - 2))) (292 * i) k : Nat) : Int), .int .i64 (((chM (unpack (sl l 2 ((l.length - 2) - 2))) (292 * i) k : Nat) : Int) - 512), .int .i64 ((k : Nat) : Int), .slice A l.length c, .pointer (some ⟨b111, o112 + 1 * 1, none⟩), .int .u8 ((l.getD 1 0 : Nat) : Int), .int .i64 ((l.getD 1 0 : Nat) : Int), .bool true, .slice A2 m c2, .int .i64 (((chM (unpack (sl l 2 ((l.length - 2) - 2))) (292 * i) k : Nat) : Int) - 512), .int .u32 ((chE (unpack (sl l 2 ((l.length - 2) - 2))) (292 * i) : Nat) : Int), .int .i64 (sx (chM (unpack (sl l 2 ((l.length - 2) - 2))) (292 * i) k) * ((2 ^ (chE (unpack (sl l 2 ((l.length - 2) - 2))) (292 * i)) : Nat) : Int)), .int .u32 ((chE (unpack (sl l 2 ((l.length - 2) - 2))) (292 * i) : Nat) : Int), .int .i64 ((chE (unpack (sl l 2 ((l.length - 2) - 2))) (292 * i) : Nat) : Int), .int .i64 ((half (chE (unpack (sl l 2 ((l.length - 2) - 2))) (292 * i)) : Nat) : Int), .int .i64 ((sx (chM (unpack (sl l 2 ((l.length - 2) - 2))) (292 * i) k) * ((2 ^ (chE (unpack (sl l 2 ((l.length - 2) - 2))) (292 * i)) : Nat) : Int)) + ((half (chE (unpack (sl l 2 ((l.length - 2) - 2))) (292 * i)) : Nat) : Int)), .int .i16 (dcS (chE (unpack (sl l 2 ((l.length - 2) - 2))) (292 * i)) (chM (unpack (sl l 2 ((l.length - 2) - 2))) (292 * i) k)), .slice (some ⟨g116, 0, none⟩) 1 1, .slice A125 (m + 1) cq126, (u92 128), (u92 129), (u66 130), (u66 131), (u66 132), (u66 133), undef] zz undef), ⟨⟨by omega, by omega, by omega, by rw [chB_lt (by omega)]; exact hb2, hO6, O105⟩, M133⟩, rfl, (by kernel_rfl)⟩
                            ·
                              refine st_val (.bool false) (by kernel_rfl) (bool_of (dec_f c116) (by kernel_rfl)) ?_
                              refine wl_nil ?_
                              refine hK110 _ _ ?_
                              try clear hK110 K110
                              refine wp_cond_false (by kernel_rfl) ?_
                              refine wp_seq_k (fun K134 hK134 => ?_)
                              refine wl_region ?_
                              refine st_val (.int .i64 (((chM (unpack (sl l 2 ((l.length - 2) - 2))) (292 * i) k : Nat) : Int) - 512)) (by kernel_rfl) (by kernel_rfl) ?_
                              rcases Decidable.em ((((chM (unpack (sl l 2 ((l.length - 2) - 2))) (292 * i) k : Nat) : Int) - 512 : Int) = 0) with c129 | c129
                              ·
                                refine st_val (.bool false) (by kernel_rfl) (bool_of (neq_f c129) (by kernel_rfl)) ?_
                                refine wl_nil ?_
                                refine hK134 _ _ ?_
                                try clear hK134 K134
                                refine wp_cond_false (by kernel_rfl) ?_
                                refine wp_skip ?_
                                refine blk_normal ?_
                                refine hK97 _ _ ?_
                                try clear hK97 K97
                                refine wl_region ?_
                                refine st_val (.int .i64 ((k : Nat) : Int)) (by kernel_rfl) (by kernel_rfl) ?_
                                refine st_val (.int .i64 (((k : Nat) : Int) + 1)) (by kernel_rfl) (i64_of (by omega) (by kernel_rfl)) ?_
                                refine st_val (.int .i64 (((k : Nat) : Int) + 1)) (by kernel_rfl) (by kernel_rfl) ?_
                                refine wl_nil ?_
                                refine th_normal ?_
                                have M135 : Mem NoS w W102 ((flatT Ts i ++ (T101 ++ (T2 ++ (T1 ++ []))))) := Mem.pull (A := []) [T101, T2, T1] (flatT Ts i) [] M106
                                have M136 : Mem NoS w W102 ((T1 ++ (flatT Ts i ++ (T101 ++ (T2 ++ []))))) := Mem.pull (A := []) [flatT Ts i, T101, T2] T1 [] M135
                                have M137 : Mem NoS w W102 ((T2 ++ (T1 ++ (flatT Ts i ++ (T101 ++ []))))) := Mem.pull (A := []) [T1, flatT Ts i, T101] T2 [] M136
                                exact ⟨_, by omega, (k + 1), m, (q + 9), A2, c2, T2, T101, (fun zz => Array.getD #[.slice A l.length c, undef, (u92 2), (u92 3), .int .i64 ((l.length : Nat) : Int), .pointer (some ⟨g53, 0, none⟩), .int .i64 0, .slice A1 i c1, .int .i64 ((i : Nat) : Int), .int .u32 ((chE (unpack (sl l 2 ((l.length - 2) - 2))) (292 * i) : Nat) : Int), .int .i64 0, .slice A2 m c2, .int .i64 (((k : Nat) : Int) + 1), .int .u32 ((chM (unpack (sl l 2 ((l.length - 2) - 2))) (292 * i) k : Nat) : Int), .int .i64 0, .int .i64 (((chM (unpack (sl l 2 ((l.length - 2) - 2))) (292 * i) k : Nat) : Int) - 512), .slice A l.length c, .int .i64 ((l.length : Nat) : Int), .int .i64 ((l.length : Nat) : Int), .bool false, .bool false, .slice A l.length c, .pointer (some ⟨b6, o7 + 0 * 1, none⟩), .int .u8 ((l.getD 0 0 : Nat) : Int), .bool false, .bool false, .bool false, .slice A l.length c, .pointer (some ⟨b10, o11 + 0 * 1, none⟩), .int .u8 ((l.getD 0 0 : Nat) : Int), .bool false, .bool false, .bool false, .slice A l.length c, .pointer (some ⟨b14, o15 + 1 * 1, none⟩), .int .u8 ((l.getD 1 0 : Nat) : Int), .bool false, .bool false, .bool false, .slice A l.length c, .pointer (some ⟨b18, o19 + 1 * 1, none⟩), .int .u8 ((l.getD 1 0 : Nat) : Int), .bool false, .bool false, .bool false, .int .i64 ((l.length : Nat) : Int), .slice A l.length c, .pointer (some ⟨b22, o23 + 0 * 1, none⟩), .int .u8 ((l.getD 0 0 : Nat) : Int), .int .i64 ((l.getD 0 0 : Nat) : Int), .int .i64 (bsz ((l.getD 0 0 : Nat) : Int)), .bool false, .bool false, .slice A l.length c, .slice A l.length c, .int .i64 ((l.length : Nat) : Int), .int .i64 ((l.length - 2 : Nat) : Int), .slice (subA A c 0) ((l.length - 2) - 0) (c - 0), .slice A37 m34 cq38, .bool true, .bool false, .tuple #[.pointer (some ⟨g53, 0, none⟩), .int .i64 0], .slice A l.length c, .int .i64 ((l.length : Nat) : Int), .int .i64 ((l.length - 2 : Nat) : Int), .slice (subA A c 2) ((l.length - 2) - 2) (c - 2), .tuple #[.pointer (some ⟨g53, 0, none⟩), .int .i64 0], .pointer (some ⟨g53, 0, none⟩), .int .i64 0, .int .i64 0, .bool false, .bool false, .pointer (some ⟨g53, 0, none⟩), .int .i64 ((((unpack (sl l 2 ((l.length - 2) - 2))).take (endOf (sl l 2 ((l.length - 2) - 2)))).length - 0 : Nat) : Int), .slice A l.length c, .pointer (some ⟨b57, o58 + 0 * 1, none⟩), .int .u8 ((l.getD 0 0 : Nat) : Int), .int .i64 ((l.getD 0 0 : Nat) : Int), .int .i64 ((292 * (l.getD 0 0) : Nat) : Int), .bool false, .bool false, .int .i64 ((i : Nat) : Int), .slice A l.length c, .pointer (some ⟨b71, o72 + 0 * 1, none⟩), .int .u8 ((l.getD 0 0 : Nat) : Int), .int .i64 ((l.getD 0 0 : Nat) : Int), .bool true, (u66 87), (u66 88), .tuple #[.int .u32 ((valueOf ((((unpack (sl l 2 ((l.length - 2) - 2))).take (endOf (sl l 2 ((l.length - 2) - 2)))).drop (292 * i)).take 4) : Nat) : Int), .int .i64 0], .pointer (some ⟨g53, 0, none⟩), .tuple #[.int .u32 ((valueOf ((((unpack (sl l 2 ((l.length - 2) - 2))).take (endOf (sl l 2 ((l.length - 2) - 2)))).drop (292 * i)).take 4) : Nat) : Int), .int .i64 0], .int .u32 ((chE (unpack (sl l 2 ((l.length - 2) - 2))) (292 * i) : Nat) : Int), .int .i64 0, .int .u32 ((chE (unpack (sl l 2 ((l.length - 2) - 2))) (292 * i) : Nat) : Int), .bool false, .int .i64 ((k : Nat) : Int), .bool true, .int .i64 ((k : Nat) : Int), .int .i64 (((k : Nat) : Int) + 1), .tuple #[.int .u32 ((valueOf ((((unpack (sl l 2 ((l.length - 2) - 2))).take (endOf (sl l 2 ((l.length - 2) - 2)))).drop q).take 9) : Nat) : Int), .int .i64 0], .pointer (some ⟨g53, 0, none⟩), .tuple #[.int .u32 ((valueOf ((((unpack (sl l 2 ((l.length - 2) - 2))).take (endOf (sl l 2 ((l.length - 2) - 2)))).drop q).take 9) : Nat) : Int), .int .i64 0], .int .u32 ((chM (unpack (sl l 2 ((l.length - 2) - 2))) (292 * i) k : Nat) : Int), .int .i64 0, .int .u32 ((chM (unpack (sl l 2 ((l.length - 2) - 2))) (292 * i) k : Nat) : Int), .int .i64 ((chM (unpack (sl l 2 ((l.length - 2) - 2))) (292 * i) k : Nat) : Int), .int .i64 ((chM (unpack (sl l 2 ((l.length - 2) - 2))) (292 * i) k : Nat) : Int), .bool true, .int .i64 ((chM (unpack (sl l 2 ((l.length - 2) - 2))) (292 * i) k : Nat) : Int), .int .i64 (((chM (unpack (sl l 2 ((l.length - 2) - 2))) (292 * i) k : Nat) : Int) - 512), .int .i64 ((k : Nat) : Int), .slice A l.length c, .pointer (some ⟨b111, o112 + 1 * 1, none⟩), .int .u8 ((l.getD 1 0 : Nat) : Int), .int .i64 ((l.getD 1 0 : Nat) : Int), .bool false, (u92 117), (u92 118), (u92 119), (u92 120), (u92 121), (u92 122), (u92 123), (u92 124), (u92 125), (u92 126), (u92 127), .int .i64 (((chM (unpack (sl l 2 ((l.length - 2) - 2))) (292 * i) k : Nat) : Int) - 512), .bool false, (u66 130), (u66 131), (u66 132), (u66 133), undef] zz undef), ⟨⟨by omega, by omega, by omega, by rw [chB_ge (by omega), hb2, decide_eq_true (by omega)]; rfl, O2, O105⟩, M137⟩, rfl, (by kernel_rfl)⟩
                              ·
                                refine st_val (.bool true) (by kernel_rfl) (bool_of (neq_t c129) (by kernel_rfl)) ?_
                                refine wl_nil ?_
                                refine hK134 _ _ ?_
                                try clear hK134 K134
                                refine wp_cond_true (by kernel_rfl) ?_
                                refine wp_seq_k (fun K138 hK138 => ?_)
                                refine wl_region ?_
                                refine st_val ((Go.Value.slice none 0 0)) (by kernel_rfl) (by kernel_rfl) ?_
                                refine st_val (.int .i64 3) (by kernel_rfl) (by kernel_rfl) ?_
                                refine wl_nil ?_
                                refine hK138 _ _ ?_
                                try clear hK138 K138
                                refine wp_frame (a' := ⟨#[.slice A l.length c, undef, (Go.Value.slice none 0 0), .int .i64 3, .int .i64 ((l.length : Nat) : Int), .pointer (some ⟨g53, 0, none⟩), .int .i64 0, .slice A1 i c1, .int .i64 ((i : Nat) : Int), .int .u32 ((chE (unpack (sl l 2 ((l.length - 2) - 2))) (292 * i) : Nat) : Int), .int .i64 0, .slice A2 m c2, .int .i64 ((k : Nat) : Int), .int .u32 ((chM (unpack (sl l 2 ((l.length - 2) - 2))) (292 * i) k : Nat) : Int), .int .i64 0, .int .i64 (((chM (unpack (sl l 2 ((l.length - 2) - 2))) (292 * i) k : Nat) : Int) - 512), .slice A l.length c, .int .i64 ((l.length : Nat) : Int), .int .i64 ((l.length : Nat) : Int), .bool false, .bool false, .slice A l.length c, .pointer (some ⟨b6, o7 + 0 * 1, none⟩), .int .u8 ((l.getD 0 0 : Nat) : Int), .bool false, .bool false, .bool false, .slice A l.length c, .pointer (some ⟨b10, o11 + 0 * 1, none⟩), .int .u8 ((l.getD 0 0 : Nat) : Int), .bool false, .bool false, .bool false, .slice A l.length c, .pointer (some ⟨b14, o15 + 1 * 1, none⟩), .int .u8 ((l.getD 1 0 : Nat) : Int), .bool false, .bool false, .bool false, .slice A l.length c, .pointer (some ⟨b18, o19 + 1 * 1, none⟩), .int .u8 ((l.getD 1 0 : Nat) : Int), .bool false, .bool false, .bool false, .int .i64 ((l.length : Nat) : Int), .slice A l.length c, .pointer (some ⟨b22, o23 + 0 * 1, none⟩), .int .u8 ((l.getD 0 0 : Nat) : Int), .int .i64 ((l.getD 0 0 : Nat) : Int), .int .i64 (bsz ((l.getD 0 0 : Nat) : Int)), .bool false, .bool false, .slice A l.length c, .slice A l.length c, .int .i64 ((l.length : Nat) : Int), .int .i64 ((l.length - 2 : Nat) : Int), .slice (subA A c 0) ((l.length - 2) - 0) (c - 0), .slice A37 m34 cq38, .bool true, .bool false, .tuple #[.pointer (some ⟨g53, 0, none⟩), .int .i64 0], .slice A l.length c, .int .i64 ((l.length : Nat) : Int), .int .i64 ((l.length - 2 : Nat) : Int), .slice (subA A c 2) ((l.length - 2) - 2) (c - 2), .tuple #[.pointer (some ⟨g53, 0, none⟩), .int .i64 0], .pointer (some ⟨g53, 0, none⟩), .int .i64 0, .int .i64 0, .bool false, .bool false, .pointer (some ⟨g53, 0, none⟩), .int .i64 ((((unpack (sl l 2 ((l.length - 2) - 2))).take (endOf (sl l 2 ((l.length - 2) - 2)))).length - 0 : Nat) : Int), .slice A l.length c, .pointer (some ⟨b57, o58 + 0 * 1, none⟩), .int .u8 ((l.getD 0 0 : Nat) : Int), .int .i64 ((l.getD 0 0 : Nat) : Int), .int .i64 ((292 * (l.getD 0 0) : Nat) : Int), .bool false, .bool false, .int .i64 ((i : Nat) : Int), .slice A l.length c, .pointer (some ⟨b71, o72 + 0 * 1, none⟩), .int .u8 ((l.getD 0 0 : Nat) : Int), .int .i64 ((l.getD 0 0 : Nat) : Int), .bool true, (u66 87), (u66 88), .tuple #[.int .u32 ((valueOf ((((unpack (sl l 2 ((l.length - 2) - 2))).take (endOf (sl l 2 ((l.length - 2) - 2)))).drop (292 * i)).take 4) : Nat) : Int), .int .i64 0], .pointer (some ⟨g53, 0, none⟩), .tuple #[.int .u32 ((valueOf ((((unpack (sl l 2 ((l.length - 2) - 2))).take (endOf (sl l 2 ((l.length - 2) - 2)))).drop (292 * i)).take 4) : Nat) : Int), .int .i64 0], .int .u32 ((chE (unpack (sl l 2 ((l.length - 2) - 2))) (292 * i) : Nat) : Int), .int .i64 0, .int .u32 ((chE (unpack (sl l 2 ((l.length - 2) - 2))) (292 * i) : Nat) : Int), .bool false, .int .i64 ((k : Nat) : Int), .bool true, (u92 98), (u92 99), .tuple #[.int .u32 ((valueOf ((((unpack (sl l 2 ((l.length - 2) - 2))).take (endOf (sl l 2 ((l.length - 2) - 2)))).drop q).take 9) : Nat) : Int), .int .i64 0], .pointer (some ⟨g53, 0, none⟩), .tuple #[.int .u32 ((valueOf ((((unpack (sl l 2 ((l.length - 2) - 2))).take (endOf (sl l 2 ((l.length - 2) - 2)))).drop q).take 9) : Nat) : Int), .int .i64 0], .int .u32 ((chM (unpack (sl l 2 ((l.length - 2) - 2))) (292 * i) k : Nat) : Int), .int .i64 0, .int .u32 ((chM (unpack (sl l 2 ((l.length - 2) - 2))) (292 * i) k : Nat) : Int), .int .i64 ((chM (unpack (sl l 2 ((l.length - 2) - 2))) (292 * i) k : Nat) : Int), .int .i64 ((chM (unpack (sl l 2 ((l.length - 2) - 2))) (292 * i) k : Nat) : Int), .bool true, .int .i64 ((chM (unpack (sl l 2 ((l.length - 2) - 2))) (292 * i) k : Nat) : Int), .int .i64 (((chM (unpack (sl l 2 ((l.length - 2) - 2))) (292 * i) k : Nat) : Int) - 512), .int .i64 ((k : Nat) : Int), .slice A l.length c, .pointer (some ⟨b111, o112 + 1 * 1, none⟩), .int .u8 ((l.getD 1 0 : Nat) : Int), .int .i64 ((l.getD 1 0 : Nat) : Int), .bool false, (u92 117), (u92 118), (u92 119), (u92 120), (u92 121), (u92 122), (u92 123), (u92 124), (u92 125), (u92 126), (u92 127), .int .i64 (((chM (unpack (sl l 2 ((l.length - 2) - 2))) (292 * i) k : Nat) : Int) - 512), .bool true, (u66 130), (u66 131), (u66 132), (u66 133), undef], []⟩) (by kernel_rfl) ?_
                                refine wp_ret ?_
                                refine blk_ret ?_
                                refine th_ret ?_
                                refine th_ret ?_
                                refine blk_ret ?_
                                refine th_ret ?_
                                refine blk_ret ?_
                                refine th_ret ?_
                                refine th_ret ?_
                                refine blk_ret ?_
                                refine th_ret ?_
                                have hte := tb_f hA hit (fun h => by have := chB_at (h.2.2 i (by omega)) (k := k) (by omega) (by omega); rw [show tbP l = (sl l 2 ((l.length - 2) - 2)) from rfl] at this; omega)
                                exact done2 2 3 ((Go.Value.slice none 0 0)) (.int .i64 3) (by kernel_rfl) (by kernel_rfl) (by kernel_rfl) (by kernel_rfl) ⟨_, [], rfl, ⟨_, by rw [hte.1], by rw [hte.2]; exact OwnP.nil⟩, M106.sub (List.nil_sublist _)⟩
                          ·
                            refine st_val (.bool false) (by kernel_rfl) (bool_of (dec_f c108) (by kernel_rfl)) ?_
                            refine wl_nil ?_
                            refine hK109 _ _ ?_
                            try clear hK109 K109
                            refine wp_frame (a' := ⟨#[.slice A l.length c, undef, (u92 2), (u92 3), .int .i64 ((l.length : Nat) : Int), .pointer (some ⟨g53, 0, none⟩), .int .i64 0, .slice A1 i c1, .int .i64 ((i : Nat) : Int), .int .u32 ((chE (unpack (sl l 2 ((l.length - 2) - 2))) (292 * i) : Nat) : Int), .int .i64 0, .slice A2 m c2, .int .i64 ((k : Nat) : Int), .int .u32 ((chM (unpack (sl l 2 ((l.length - 2) - 2))) (292 * i) k : Nat) : Int), .int .i64 0, .int .i64 ((chM (unpack (sl l 2 ((l.length - 2) - 2))) (292 * i) k : Nat) : Int), .slice A l.length c, .int .i64 ((l.length : Nat) : Int), .int .i64 ((l.length : Nat) : Int), .bool false, .bool false, .slice A l.length c, .pointer (some ⟨b6, o7 + 0 * 1, none⟩), .int .u8 ((l.getD 0 0 : Nat) : Int), .bool false, .bool false, .bool false, .slice A l.length c, .pointer (some ⟨b10, o11 + 0 * 1, none⟩), .int .u8 ((l.getD 0 0 : Nat) : Int), .bool false, .bool false, .bool false, .slice A l.length c, .pointer (some ⟨b14, o15 + 1 * 1, none⟩), .int .u8 ((l.getD 1 0 : Nat) : Int), .bool false, .bool false, .bool false, .slice A l.length c, .pointer (some ⟨b18, o19 + 1 * 1, none⟩), .int .u8 ((l.getD 1 0 : Nat) : Int), .bool false, .bool false, .bool false, .int .i64 ((l.length : Nat) : Int), .slice A l.length c, .pointer (some ⟨b22, o23 + 0 * 1, none⟩), .int .u8 ((l.getD 0 0 : Nat) : Int), .int .i64 ((l.getD 0 0 : Nat) : Int), .int .i64 (bsz ((l.getD 0 0 : Nat) : Int)), .bool false, .bool false, .slice A l.length c, .slice A l.length c, .int .i64 ((l.length : Nat) : Int), .int .i64 ((l.length - 2 : Nat) : Int), .slice (subA A c 0) ((l.length - 2) - 0) (c - 0), .slice A37 m34 cq38, .bool true, .bool false, .tuple #[.pointer (some ⟨g53, 0, none⟩), .int .i64 0], .slice A l.length c, .int .i64 ((l.length : Nat) : Int), .int .i64 ((l.length - 2 : Nat) : Int), .slice (subA A c 2) ((l.length - 2) - 2) (c - 2), .tuple #[.pointer (some ⟨g53, 0, none⟩), .int .i64 0], .pointer (some ⟨g53, 0, none⟩), .int .i64 0, .int .i64 0, .bool false, .bool false, .pointer (some ⟨g53, 0, none⟩), .int .i64 ((((unpack (sl l 2 ((l.length - 2) - 2))).take (endOf (sl l 2 ((l.length - 2) - 2)))).length - 0 : Nat) : Int), .slice A l.length c, .pointer (some ⟨b57, o58 + 0 * 1, none⟩), .int .u8 ((l.getD 0 0 : Nat) : Int), .int .i64 ((l.getD 0 0 : Nat) : Int), .int .i64 ((292 * (l.getD 0 0) : Nat) : Int), .bool false, .bool false, .int .i64 ((i : Nat) : Int), .slice A l.length c, .pointer (some ⟨b71, o72 + 0 * 1, none⟩), .int .u8 ((l.getD 0 0 : Nat) : Int), .int .i64 ((l.getD 0 0 : Nat) : Int), .bool true, (u66 87), (u66 88), .tuple #[.int .u32 ((valueOf ((((unpack (sl l 2 ((l.length - 2) - 2))).take (endOf (sl l 2 ((l.length - 2) - 2)))).drop (292 * i)).take 4) : Nat) : Int), .int .i64 0], .pointer (some ⟨g53, 0, none⟩), .tuple #[.int .u32 ((valueOf ((((unpack (sl l 2 ((l.length - 2) - 2))).take (endOf (sl l 2 ((l.length - 2) - 2)))).drop (292 * i)).take 4) : Nat) : Int), .int .i64 0], .int .u32 ((chE (unpack (sl l 2 ((l.length - 2) - 2))) (292 * i) : Nat) : Int), .int .i64 0, .int .u32 ((chE (unpack (sl l 2 ((l.length - 2) - 2))) (292 * i) : Nat) : Int), .bool false, .int .i64 ((k : Nat) : Int), .bool true, (u92 98), (u92 99), .tuple #[.int .u32 ((valueOf ((((unpack (sl l 2 ((l.length - 2) - 2))).take (endOf (sl l 2 ((l.length - 2) - 2)))).drop q).take 9) : Nat) : Int), .int .i64 0], .pointer (some ⟨g53, 0, none⟩), .tuple #[.int .u32 ((valueOf ((((unpack (sl l 2 ((l.length - 2) - 2))).take (endOf (sl l 2 ((l.length - 2) - 2)))).drop q).take 9) : Nat) : Int), .int .i64 0], .int .u32 ((chM (unpack (sl l 2 ((l.length - 2) - 2))) (292 * i) k : Nat) : Int), .int .i64 0, .int .u32 ((chM (unpack (sl l 2 ((l.length - 2) - 2))) (292 * i) k : Nat) : Int), .int .i64 ((chM (unpack (sl l 2 ((l.length - 2) - 2))) (292 * i) k : Nat) : Int), .int .i64 ((chM (unpack (sl l 2 ((l.length - 2) - 2))) (292 * i) k : Nat) : Int), .bool false, (u92 109), (u92 110), (u92 111), (u92 112), (u92 113), (u92 114), (u92 115), (u92 116), (u92 117), (u92 118), (u92 119), (u92 120), (u92 121), (u92 122), (u92 123), (u92 124), (u92 125), (u92 126), (u92 127), (u92 128), (u92 129), (u66 130), (u66 131), (u66 132), (u66 133), undef], []⟩) (by kernel_rfl) ?_
                            refine wp_cond_false (by kernel_rfl) ?_
                            refine wp_skip ?_
                            refine hK108 _ _ ?_
                            try clear hK108 K108
                            refine wp_seq_k (fun K139 hK139 => ?_)
                            refine wl_region ?_
                            refine st_val (.int .i64 ((k : Nat) : Int)) (by kernel_rfl) (by kernel_rfl) ?_
                            refine st_val (.slice A l.length c) (by kernel_rfl) (by kernel_rfl) ?_
                            obtain ⟨b140, o141, eA142⟩ := RdK.addr (hr.keep M106.keep (fun _ _ h => h)) (j := 1 * 1) (by rw [u8s_length]; omega)
                            refine st_val (.pointer (some ⟨b140, o141 + 1 * 1, none⟩)) (by kernel_rfl) (run_indexSliceA 22 (.tmp 112) _ rfl A ⟨b140, o141, none⟩ eA142 l.length c .i64 1 (by kernel_rfl) (by kernel_rfl) Try.underlying22 1 (by kernel_rfl) (by omega) ⟨b140, o141 + 1 * 1, none⟩ (addr_atK _ _ _ _)) ?_
                            refine st_val (.int .u8 ((l.getD 1 0 : Nat) : Int)) (by kernel_rfl) (run_load_cell 5 (.tmp 113) rfl ⟨b140, o141 + 1 * 1, none⟩ (by kernel_rfl) _ ((hr.keep M106.keep (fun _ _ h => h)).cellF eA142 (f := 0) (u8s_get l 1 (by omega))) (by kernel_rfl)) ?_
                            refine st_val (.int .i64 ((l.getD 1 0 : Nat) : Int)) (by kernel_rfl) (i64_of (by omega) (by kernel_rfl)) ?_
                            rcases Decidable.em ((((k : Nat) : Int) : Int) < ((l.getD 1 0 : Nat) : Int)) with c116 | c116
                            ·
                              refine st_val (.bool true) (by kernel_rfl) (bool_of (dec_t c116) (by kernel_rfl)) ?_
                              refine wl_nil ?_
                              refine hK139 _ _ ?_
                              try clear hK139 K139
                              refine wp_cond_true (by kernel_rfl) ?_
                              have hxr := sxp_rng (e := chE (unpack (sl l 2 ((l.length - 2) - 2))) (292 * i)) (m := chM (unpack (sl l 2 ((l.length - 2) - 2))) (292 * i) k) (by omega) hMl
                              have hhr := half_le (e := chE (unpack (sl l 2 ((l.length - 2) - 2))) (292 * i)) (by omega)
                              have hdr := dcS_rng (e := chE (unpack (sl l 2 ((l.length - 2) - 2))) (292 * i)) (m := chM (unpack (sl l 2 ((l.length - 2) - 2))) (292 * i) k) (by omega) hMl
                              refine wl_region ?_
                              refine st_val (.slice A2 m c2) (by kernel_rfl) (by kernel_rfl) ?_
                              refine st_val (.int .i64 ((chM (unpack (sl l 2 ((l.length - 2) - 2))) (292 * i) k : Nat) : Int)) (by kernel_rfl) (by kernel_rfl) ?_
                              refine st_val (.int .u32 ((chE (unpack (sl l 2 ((l.length - 2) - 2))) (292 * i) : Nat) : Int)) (by kernel_rfl) (by kernel_rfl) ?_
                              refine st_val (.int .i64 (sx (chM (unpack (sl l 2 ((l.length - 2) - 2))) (292 * i) k) * ((2 ^ (chE (unpack (sl l 2 ((l.length - 2) - 2))) (292 * i)) : Nat) : Int))) (by kernel_rfl) (run_value_bin .shl 3 60 (.tmp 118) (.tmp 119) rfl (.int .i64 ((chM (unpack (sl l 2 ((l.length - 2) - 2))) (292 * i) k : Nat) : Int)) (.int .u32 ((chE (unpack (sl l 2 ((l.length - 2) - 2))) (292 * i) : Nat) : Int)) _ (by kernel_rfl) (by kernel_rfl) (by kernel_rfl) (bin_shl (n := chE (unpack (sl l 2 ((l.length - 2) - 2))) (292 * i)) (by show _ ≤ 64; omega) (sx_shl (by omega) hMl (by unfold sx; rw [if_neg (by omega)])))) ?_
                              refine st_val (.int .u32 ((chE (unpack (sl l 2 ((l.length - 2) - 2))) (292 * i) : Nat) : Int)) (by kernel_rfl) (by kernel_rfl) ?_
                              refine st_val (.int .i64 ((chE (unpack (sl l 2 ((l.length - 2) - 2))) (292 * i) : Nat) : Int)) (by kernel_rfl) (i64_of (by omega) (by kernel_rfl)) ?_
                              refine st_callB M106 (.int .i64 ((half (chE (unpack (sl l 2 ((l.length - 2) - 2))) (292 * i)) : Nat) : Int)) (by kernel_rfl) (args := #[.int .i64 ((chE (unpack (sl l 2 ((l.length - 2) - 2))) (292 * i) : Nat) : Int)]) (run_value_call 41 #[(Operand.tmp 122)] _ rfl Try.func41 (by kernel_rfl) (by kernel_rfl) _ (by kernel_rfl)) (refHalf_walk W102 (chE (unpack (sl l 2 ((l.length - 2) - 2))) (292 * i)) (by omega)) ?_
                              intro W143 M144
                              refine st_val (.int .i64 ((sx (chM (unpack (sl l 2 ((l.length - 2) - 2))) (292 * i) k) * ((2 ^ (chE (unpack (sl l 2 ((l.length - 2) - 2))) (292 * i)) : Nat) : Int)) + ((half (chE (unpack (sl l 2 ((l.length - 2) - 2))) (292 * i)) : Nat) : Int))) (by kernel_rfl) (i64_of (by omega) (by kernel_rfl)) ?_
                              refine st_val (.int .i16 (dcS (chE (unpack (sl l 2 ((l.length - 2) - 2))) (292 * i)) (chM (unpack (sl l 2 ((l.length - 2) - 2))) (292 * i) k))) (by kernel_rfl) (int_of (wrap_i16 hdr) (by kernel_rfl)) ?_
                              refine st_new M144 (.cells #[.int .i16 (dcS (chE (unpack (sl l 2 ((l.length - 2) - 2))) (292 * i)) (chM (unpack (sl l 2 ((l.length - 2) - 2))) (292 * i) k))] 45 (0, 0)) (fun g => .slice (some ⟨g, 0, none⟩) 1 1) (by kernel_rfl) (by kernel_rfl) ?_
                              intro g145 W146 M147
                              have M157 : Mem NoS w W146 ((g145, .cells #[.int .i16 (dcS (chE (unpack (sl l 2 ((l.length - 2) - 2))) (292 * i)) (chM (unpack (sl l 2 ((l.length - 2) - 2))) (292 * i) k))] 45 (0, 0)) :: (T2 ++ (T101 ++ (T1 ++ (flatT Ts i ++ []))))) := M147.swap (A := [(g145, .cells #[.int .i16 (dcS (chE (unpack (sl l 2 ((l.length - 2) - 2))) (292 * i)) (chM (unpack (sl l 2 ((l.length - 2) - 2))) (292 * i) k))] 45 (0, 0))]) (T := T101) (U := T2) (B := (T1 ++ (flatT Ts i ++ [])))
                              obtain ⟨v148, T149, W150, hr151, O152, M153⟩ := append_i16 (A := [(g145, .cells #[.int .i16 (dcS (chE (unpack (sl l 2 ((l.length - 2) - 2))) (292 * i)) (chM (unpack (sl l 2 ((l.length - 2) - 2))) (292 * i) k))] 45 (0, 0))]) (T := T2) (B := (T101 ++ (T1 ++ (flatT Ts i ++ [])))) M157 39 _ _ _ O2 _ 1 (i16s ([dcS (chE (unpack (sl l 2 ((l.length - 2) - 2))) (292 * i)) (chM (unpack (sl l 2 ((l.length - 2) - 2))) (292 * i) k)])) (rdk_lit (xs := i16s [dcS (chE (unpack (sl l 2 ((l.length - 2) - 2))) (292 * i)) (chM (unpack (sl l 2 ((l.length - 2) - 2))) (292 * i) k)]) (M157.get 0 rfl) rfl) rfl (i16s_one _) (by omega)
                              have M153 : Mem NoS w W150 ((g145, .cells #[.int .i16 (dcS (chE (unpack (sl l 2 ((l.length - 2) - 2))) (292 * i)) (chM (unpack (sl l 2 ((l.length - 2) - 2))) (292 * i) k))] 45 (0, 0)) :: (T149 ++ (T101 ++ (T1 ++ (flatT Ts i ++ []))))) := M153
                              obtain ⟨A154, cq155, rfl, hc156⟩ := O152.shape
                              refine st_world (.slice A154 (m + 1) cq155) W150 (by kernel_rfl) (run_append_op (.tmp 117) (.tmp 126) _ rfl (.slice A2 m c2) (.slice (some ⟨g145, 0, none⟩) 1 1) _ (by kernel_rfl) (by kernel_rfl) hr151) ?_
                              refine st_val (.slice A154 (m + 1) cq155) (by kernel_rfl) (by kernel_rfl) ?_
                              refine wl_nil ?_
                              refine blk_normal ?_
                              refine hK97 _ _ ?_
                              try clear hK97 K97
                              refine wp_frame (a' := ⟨#[.slice A l.length c, undef, (u92 2), (u92 3), .int .i64 ((l.length : Nat) : Int), .pointer (some ⟨g53, 0, none⟩), .int .i64 0, .slice A1 i c1, .int .i64 ((i : Nat) : Int), .int .u32 ((chE (unpack (sl l 2 ((l.length - 2) - 2))) (292 * i) : Nat) : Int), .int .i64 0, .slice A154 (m + 1) cq155, .int .i64 ((k : Nat) : Int), .int .u32 ((chM (unpack (sl l 2 ((l.length - 2) - 2))) (292 * i) k : Nat) : Int), .int .i64 0, .int .i64 ((chM (unpack (sl l 2 ((l.length - 2) - 2))) (292 * i) k : Nat) : Int), .slice A l.length c, .int .i64 ((l.length : Nat) : Int), .int .i64 ((l.length : Nat) : Int), .bool false, .bool false, .slice A l.length c, .pointer (some ⟨b6, o7 + 0 * 1, none⟩), .int .u8 ((l.getD 0 0 : Nat) : Int), .bool false, .bool false, .bool false, .slice A l.length c, .pointer (some ⟨b10, o11 + 0 * 1, none⟩), .int .u8 ((l.getD 0 0 : Nat) : Int), .bool false, .bool false, .bool false, .slice A l.length c, .pointer (some ⟨b14, o15 + 1 * 1, none⟩), .int .u8 ((l.getD 1 0 : Nat) : Int), .bool false, .bool false, .bool false, .slice A l.length c, .pointer (some ⟨b18, o19 + 1 * 1, none⟩), .int .u8 ((l.getD 1 0 : Nat) : Int), .bool false, .bool false, .bool false, .int .i64 ((l.length : Nat) : Int), .slice A l.length c, .pointer (some ⟨b22, o23 + 0 * 1, none⟩), .int .u8 ((l.getD 0 0 : Nat) : Int), .int .i64 ((l.getD 0 0 : Nat) : Int), .int .i64 (bsz ((l.getD 0 0 : Nat) : Int)), .bool false, .bool false, .slice A l.length c, .slice A l.length c, .int .i64 ((l.length : Nat) : Int), .int .i64 ((l.length - 2 : Nat) : Int), .slice (subA A c 0) ((l.length - 2) - 0) (c - 0), .slice A37 m34 cq38, .bool true, .bool false, .tuple #[.pointer (some ⟨g53, 0, none⟩), .int .i64 0], .slice A l.length c, .int .i64 ((l.length : Nat) : Int), .int .i64 ((l.length - 2 : Nat) : Int), .slice (subA A c 2) ((l.length - 2) - 2) (c - 2), .tuple #[.pointer (some ⟨g53, 0, none⟩), .int .i64 0], .pointer (some ⟨g53, 0, none⟩), .int .i64 0, .int .i64 0, .bool false, .bool false, .pointer (some ⟨g53, 0, none⟩), .int .i64 ((((unpack (sl l 2 ((l.length - 2) - 2))).take (endOf (sl l 2 ((l.length - 2) - 2)))).length - 0 : Nat) : Int), .slice A l.length c, .pointer (some ⟨b57, o58 + 0 * 1, none⟩), .int .u8 ((l.getD 0 0 : Nat) : Int), .int .i64 ((l.getD 0 0 : Nat) : Int), .int .i64 ((292 * (l.getD 0 0) : Nat) : Int), .bool false, .bool false, .int .i64 ((i : Nat) : Int), .slice A l.length c, .pointer (some ⟨b71, o72 + 0 * 1, none⟩), .int .u8 ((l.getD 0 0 : Nat) : Int), .int .i64 ((l.getD 0 0 : Nat) : Int), .bool true, (u66 87), (u66 88), .tuple #[.int .u32 ((valueOf ((((unpack (sl l 2 ((l.length - 2) - 2))).take (endOf (sl l 2 ((l.length - 2) - 2)))).drop (292 * i)).take 4) : Nat) : Int), .int .i64 0], .pointer (some ⟨g53, 0, none⟩), .tuple #[.int .u32 ((valueOf ((((unpack (sl l 2 ((l.length - 2) - 2))).take (endOf (sl l 2 ((l.length - 2) - 2)))).drop (292 * i)).take 4) : Nat) : Int), .int .i64 0], .int .u32 ((chE (unpack (sl l 2 ((l.length - 2) - 2))) (292 * i) : Nat) : Int), .int .i64 0, .int .u32 ((chE (unpack (sl l 2 ((l.length - 2) - 2))) (292 * i) : Nat) : Int), .bool false, .int .i64 ((k : Nat) : Int), .bool true, (u92 98), (u92 99), .tuple #[.int .u32 ((valueOf ((((unpack (sl l 2 ((l.length - 2) - 2))).take (endOf (sl l 2 ((l.length - 2) - 2)))).drop q).take 9) : Nat) : Int), .int .i64 0], .pointer (some ⟨g53, 0, none⟩), .tuple #[.int .u32 ((valueOf ((((unpack (sl l 2 ((l.length - 2) - 2))).take (endOf (sl l 2 ((l.length - 2) - 2)))).drop q).take 9) : Nat) : Int), .int .i64 0], .int .u32 ((chM (unpack (sl l 2 ((l.length - 2) - 2))) (292 * i) k : Nat) : Int), .int .i64 0, .int .u32 ((chM (unpack (sl l 2 ((l.length - 2) - 2))) (292 * i) k : Nat) : Int), .int .i64 ((chM (unpack (sl l 2 ((l.length - 2) - 2))) (292 * i) k : Nat) : Int), .int .i64 ((chM (unpack (sl l 2 ((l.length - 2) - 2))) (292 * i) k : Nat) : Int), .bool false, (u92 109), (u92 110), .int .i64 ((k : Nat) : Int), .slice A l.length c, .pointer (some ⟨b140, o141 + 1 * 1, none⟩), .int .u8 ((l.getD 1 0 : Nat) : Int), .int .i64 ((l.getD 1 0 : Nat) : Int), .bool true, .slice A2 m c2, .int .i64 ((chM (unpack (sl l 2 ((l.length - 2) - 2))) (292 * i) k : Nat) : Int), .int .u32 ((chE (unpack (sl l 2 ((l.length - 2) - 2))) (292 * i) : Nat) : Int), .int .i64 (sx (chM (unpack (sl l 2 ((l.length - 2) - 2))) (292 * i) k) * ((2 ^ (chE (unpack (sl l 2 ((l.length - 2) - 2))) (292 * i)) : Nat) : Int)), .int .u32 ((chE (unpack (sl l 2 ((l.length - 2) - 2))) (292 * i) : Nat) : Int), .int .i64 ((chE (unpack (sl l 2 ((l.length - 2) - 2))) (292 * i) : Nat) : Int), .int .i64 ((half (chE (unpack (sl l 2 ((l.length - 2) - 2))) (292 * i)) : Nat) : Int), .int .i64 ((sx (chM (unpack (sl l 2 ((l.length - 2) - 2))) (292 * i) k) * ((2 ^ (chE (unpack (sl l 2 ((l.length - 2) - 2))) (292 * i)) : Nat) : Int)) + ((half (chE (unpack (sl l 2 ((l.length - 2) - 2))) (292 * i)) : Nat) : Int)), .int .i16 (dcS (chE (unpack (sl l 2 ((l.length - 2) - 2))) (292 * i)) (chM (unpack (sl l 2 ((l.length - 2) - 2))) (292 * i) k)), .slice (some ⟨g145, 0, none⟩) 1 1, .slice A154 (m + 1) cq155, (u92 128), (u92 129), (u66 130), (u66 131), (u66 132), (u66 133), undef], []⟩) (by kernel_rfl) ?_
                              refine wl_region ?_
                              refine st_val (.int .i64 ((k : Nat) : Int)) (by kernel_rfl) (by kernel_rfl) ?_
                              refine st_val (.int .i64 (((k : Nat) : Int) + 1)) (by kernel_rfl) (i64_of (by omega) (by kernel_rfl)) ?_
                              refine st_val (.int .i64 (((k : Nat) : Int) + 1)) (by kernel_rfl) (by kernel_rfl) ?_
                              refine wl_nil ?_
                              refine th_normal ?_
                              have M158 : Mem NoS w W150 ((T149 ++ (T101 ++ (T1 ++ (flatT Ts i ++ []))))) := M153.sub ((((((List.Sublist.refl []).append_left (flatT Ts i)).append_left T1).append_left T101).append_left T149).cons _)
                              have M159 : Mem NoS w W150 ((T101 ++ (T149 ++ (T1 ++ (flatT Ts i ++ []))))) := M158.swap (A := []) (T := T149) (U := T101) (B := (T1 ++ (flatT Ts i ++ [])))
                              have M160 : Mem NoS w W150 ((flatT Ts i ++ (T101 ++ (T149 ++ (T1 ++ []))))) := Mem.pull (A := []) [T101, T149, T1] (flatT Ts i) [] M159
                              have M161 : Mem NoS w W150 ((T1 ++ (flatT Ts i ++ (T101 ++ (T149 ++ []))))) := Mem.pull (A := []) [flatT Ts i, T101, T149] T1 [] M160
                              have M162 : Mem NoS w W150 ((T149 ++ (T1 ++ (flatT Ts i ++ (T101 ++ []))))) := Mem.pull (A := []) [T1, flatT Ts i, T101] T149 [] M161
                              have hmk : m = k := (by omega)
                              have hO5 := O152
                              rw [hmk] at hO5
                              have hO6 : Own 45 1 _ (k + 1) (i16s (chL (unpack (sl l 2 ((l.length - 2) - 2))) (292 * i) (k + 1))) _ := (by show Own _ _ _ _ (i16s (chL (unpack (sl l 2 ((l.length - 2) - 2))) (292 * i) k ++ [dcS (min (chE (unpack (sl l 2 ((l.length - 2) - 2))) (292 * i)) 7) (chM (unpack (sl l 2 ((l.length - 2) - 2))) (292 * i) k)])) _; rw [i16s_append, Nat.min_eq_left (by omega)]; exact hO5)
                              rw [← hmk] at hO6
                              exact ⟨_, by omega, (k + 1), (m + 1), (q + 9), A154, cq155, T149, T101, (fun zz => Array.getD #[.slice A l.length c, undef, (u92 2), (u92 3), .int .i64 ((l.length : Nat) : Int), .pointer (some ⟨g53, 0, none⟩), .int .i64 0, .slice A1 i c1, .int .i64 ((i : Nat) : Int), .int .u32 ((chE (unpack (sl l 2 ((l.length - 2) - 2))) (292 * i) : Nat) : Int), .int .i64 0, .slice A154 (m + 1) cq155, .int .i64 (((k : Nat) : Int) + 1), .int .u32 ((chM (unpack (sl l 2 ((l.length - 2) - 2))) (292 * i) k : Nat) : Int), .int .i64 0, .int .i64 ((chM (unpack (sl l 2 ((l.length - 2) - 2))) (292 * i) k : Nat) : Int), .slice A l.length c, .int .i64 ((l.length : Nat) : Int), .int .i64 ((l.length : Nat) : Int), .bool false, .bool false, .slice A l.length c, .pointer (some ⟨b6, o7 + 0 * 1, none⟩), .int .u8 ((l.getD 0 0 : Nat) : Int), .bool false, .bool false, .bool false, .slice A l.length c, .pointer (some ⟨b10, o11 + 0 * 1, none⟩), .int .u8 ((l.getD 0 0 : Nat) : Int), .bool false, .bool false, .bool false, .slice A l.length c, .pointer (some ⟨b14, o15 + 1 * 1, none⟩), .int .u8 ((l.getD 1 0 : Nat) : Int), .bool false, .bool false, .bool false, .slice A l.length c, .pointer (some ⟨b18, o19 + 1 * 1, none⟩), .int .u8 ((l.getD 1 0 : Nat) : Int), .bool false, .bool false, .bool false, .int .i64 ((l.length : Nat) : Int), .slice A l.length c, .pointer (some ⟨b22, o23 + 0 * 1, none⟩), .int .u8 ((l.getD 0 0 : Nat) : Int), .int .i64 ((l.getD 0 0 : Nat) : Int), .int .i64 (bsz ((l.getD 0 0 : Nat) : Int)), .bool false, .bool false, .slice A l.length c, .slice A l.length c, .int .i64 ((l.length : Nat) : Int), .int .i64 ((l.length - 2 : Nat) : Int), .slice (subA A c 0) ((l.length - 2) - 0) (c - 0), .slice A37 m34 cq38, .bool true, .bool false, .tuple #[.pointer (some ⟨g53, 0, none⟩), .int .i64 0], .slice A l.length c, .int .i64 ((l.length : Nat) : Int), .int .i64 ((l.length - 2 : Nat) : Int), .slice (subA A c 2) ((l.length - 2) - 2) (c - 2), .tuple #[.pointer (some ⟨g53, 0, none⟩), .int .i64 0], .pointer (some ⟨g53, 0, none⟩), .int .i64 0, .int .i64 0, .bool false, .bool false, .pointer (some ⟨g53, 0, none⟩), .int .i64 ((((unpack (sl l 2 ((l.length - 2) - 2))).take (endOf (sl l 2 ((l.length - 2) - 2)))).length - 0 : Nat) : Int), .slice A l.length c, .pointer (some ⟨b57, o58 + 0 * 1, none⟩), .int .u8 ((l.getD 0 0 : Nat) : Int), .int .i64 ((l.getD 0 0 : Nat) : Int), .int .i64 ((292 * (l.getD 0 0) : Nat) : Int), .bool false, .bool false, .int .i64 ((i : Nat) : Int), .slice A l.length c, .pointer (some ⟨b71, o72 + 0 * 1, none⟩), .int .u8 ((l.getD 0 0 : Nat) : Int), .int .i64 ((l.getD 0 0 : Nat) : Int), .bool true, (u66 87), (u66 88), .tuple #[.int .u32 ((valueOf ((((unpack (sl l 2 ((l.length - 2) - 2))).take (endOf (sl l 2 ((l.length - 2) - 2)))).drop (292 * i)).take 4) : Nat) : Int), .int .i64 0], .pointer (some ⟨g53, 0, none⟩), .tuple #[.int .u32 ((valueOf ((((unpack (sl l 2 ((l.length - 2) - 2))).take (endOf (sl l 2 ((l.length - 2) - 2)))).drop (292 * i)).take 4) : Nat) : Int), .int .i64 0], .int .u32 ((chE (unpack (sl l 2 ((l.length - 2) - 2))) (292 * i) : Nat) : Int), .int .i64 0, .int .u32 ((chE (unpack (sl l 2 ((l.length - 2) - 2))) (292 * i) : Nat) : Int), .bool false, .int .i64 ((k : Nat) : Int), .bool true, .int .i64 ((k : Nat) : Int), .int .i64 (((k : Nat) : Int) + 1), .tuple #[.int .u32 ((valueOf ((((unpack (sl l 2 ((l.length - 2) - 2))).take (endOf (sl l 2 ((l.length - 2) - 2)))).drop q).take 9) : Nat) : Int), .int .i64 0], .pointer (some ⟨g53, 0, none⟩), .tuple #[.int .u32 ((valueOf ((((unpack (sl l 2 ((l.length - 2) - 2))).take (endOf (sl l 2 ((l.length - 2) - 2)))).drop q).take 9) : Nat) : Int), .int .i64 0], .int .u32 ((chM (unpack (sl l 2 ((l.length - 2) - 2))) (292 * i) k : Nat) : Int), .int .i64 0, .int .u32 ((chM (unpack (sl l 2 ((l.length - 2) - 2))) (292 * i) k : Nat) : Int), .int .i64 ((chM (unpack (sl l 2 ((l.length - 2) - 2))) (292 * i) k : Nat) : Int), .int .i64 ((chM (unpack (sl l 2 ((l.length - 2) - 2))) (292 * i) k : Nat) : Int), .bool false, (u92 109), (u92 110), .int .i64 ((k : Nat) : Int), .slice A l.length c, .pointer (some ⟨b140, o141 + 1 * 1, none⟩), .int .u8 ((l.getD 1 0 : Nat) : Int), .int .i64 ((l.getD 1 0 : Nat) : Int), .bool true, .slice A2 m c2, .int .i64 ((chM (unpack (sl l 2 ((l.length - 2) - 2))) (292 * i) k : Nat) : Int), .int .u32 ((chE (unpack (sl l 2 ((l.length - 2) - 2))) (292 * i) : Nat) : Int), .int .i64 (sx (chM (unpack (sl l 2 ((l.length - 2) - 2))) (292 * i) k) * ((2 ^ (chE (unpack (sl l 2 ((l.length - 2) - 2))) (292 * i)) : Nat) : Int)), .int .u32 ((chE (unpack (sl l 2 ((l.length - 2) - 2))) (292 * i) : Nat) : Int), .int .i64 ((chE (unpack (sl l 2 ((l.length - 2) - 2))) (292 * i) : Nat) : Int), .int .i64 ((half (chE (unpack (sl l 2 ((l.length - 2) - 2))) (292 * i)) : Nat) : Int), .int .i64 ((sx (chM (unpack (sl l 2 ((l.length - 2) - 2))) (292 * i) k) * ((2 ^ (chE (unpack (sl l 2 ((l.length - 2) - 2))) (292 * i)) : Nat) : Int)) + ((half (chE (unpack (sl l 2 ((l.length - 2) - 2))) (292 * i)) : Nat) : Int)), .int .i16 (dcS (chE (unpack (sl l 2 ((l.length - 2) - 2))) (292 * i)) (chM (unpack (sl l 2 ((l.length - 2) - 2))) (292 * i) k)), .slice (some ⟨g145, 0, none⟩) 1 1, .slice A154 (m + 1) cq155, (u92 128), (u92 129), (u66 130), (u66 131), (u66 132), (u66 133), undef] zz undef), ⟨⟨by omega, by omega, by omega, by rw [chB_lt (by omega)]; exact hb2, hO6, O105⟩, M162⟩, rfl, (by kernel_rfl)⟩
                            ·
                              refine st_val (.bool false) (by kernel_rfl) (bool_of (dec_f c116) (by kernel_rfl)) ?_
                              refine wl_nil ?_
                              refine hK139 _ _ ?_
                              try clear hK139 K139
                              refine wp_cond_false (by kernel_rfl) ?_
                              refine wp_seq_k (fun K163 hK163 => ?_)
                              refine wl_region ?_
                              refine st_val (.int .i64 ((chM (unpack (sl l 2 ((l.length - 2) - 2))) (292 * i) k : Nat) : Int)) (by kernel_rfl) (by kernel_rfl) ?_
                              rcases Decidable.em ((((chM (unpack (sl l 2 ((l.length - 2) - 2))) (292 * i) k : Nat) : Int) : Int) = 0) with c129 | c129
                              ·
                                refine st_val (.bool false) (by kernel_rfl) (bool_of (neq_f c129) (by kernel_rfl)) ?_
                                refine wl_nil ?_
                                refine hK163 _ _ ?_
                                try clear hK163 K163
                                refine wp_cond_false (by kernel_rfl) ?_
                                refine wp_skip ?_
                                refine blk_normal ?_
                                refine hK97 _ _ ?_
                                try clear hK97 K97
                                refine wl_region ?_
                                refine st_val (.int .i64 ((k : Nat) : Int)) (by kernel_rfl) (by kernel_rfl) ?_
                                refine st_val (.int .i64 (((k : Nat) : Int) + 1)) (by kernel_rfl) (i64_of (by omega) (by kernel_rfl)) ?_
                                refine st_val (.int .i64 (((k : Nat) : Int) + 1)) (by kernel_rfl) (by kernel_rfl) ?_
                                refine wl_nil ?_
                                refine th_normal ?_
                                have M164 : Mem NoS w W102 ((flatT Ts i ++ (T101 ++ (T2 ++ (T1 ++ []))))) := Mem.pull (A := []) [T101, T2, T1] (flatT Ts i) [] M106
                                have M165 : Mem NoS w W102 ((T1 ++ (flatT Ts i ++ (T101 ++ (T2 ++ []))))) := Mem.pull (A := []) [flatT Ts i, T101, T2] T1 [] M164
                                have M166 : Mem NoS w W102 ((T2 ++ (T1 ++ (flatT Ts i ++ (T101 ++ []))))) := Mem.pull (A := []) [T1, flatT Ts i, T101] T2 [] M165
                                exact ⟨_, by omega, (k + 1), m, (q + 9), A2, c2, T2, T101, (fun zz => Array.getD #[.slice A l.length c, undef, (u92 2), (u92 3), .int .i64 ((l.length : Nat) : Int), .pointer (some ⟨g53, 0, none⟩), .int .i64 0, .slice A1 i c1, .int .i64 ((i : Nat) : Int), .int .u32 ((chE (unpack (sl l 2 ((l.length - 2) - 2))) (292 * i) : Nat) : Int), .int .i64 0, .slice A2 m c2, .int .i64 (((k : Nat) : Int) + 1), .int .u32 ((chM (unpack (sl l 2 ((l.length - 2) - 2))) (292 * i) k : Nat) : Int), .int .i64 0, .int .i64 ((chM (unpack (sl l 2 ((l.length - 2) - 2))) (292 * i) k : Nat) : Int), .slice A l.length c, .int .i64 ((l.length : Nat) : Int), .int .i64 ((l.length : Nat) : Int), .bool false, .bool false, .slice A l.length c, .pointer (some ⟨b6, o7 + 0 * 1, none⟩), .int .u8 ((l.getD 0 0 : Nat) : Int), .bool false, .bool false, .bool false, .slice A l.length c, .pointer (some ⟨b10, o11 + 0 * 1, none⟩), .int .u8 ((l.getD 0 0 : Nat) : Int), .bool false, .bool false, .bool false, .slice A l.length c, .pointer (some ⟨b14, o15 + 1 * 1, none⟩), .int .u8 ((l.getD 1 0 : Nat) : Int), .bool false, .bool false, .bool false, .slice A l.length c, .pointer (some ⟨b18, o19 + 1 * 1, none⟩), .int .u8 ((l.getD 1 0 : Nat) : Int), .bool false, .bool false, .bool false, .int .i64 ((l.length : Nat) : Int), .slice A l.length c, .pointer (some ⟨b22, o23 + 0 * 1, none⟩), .int .u8 ((l.getD 0 0 : Nat) : Int), .int .i64 ((l.getD 0 0 : Nat) : Int), .int .i64 (bsz ((l.getD 0 0 : Nat) : Int)), .bool false, .bool false, .slice A l.length c, .slice A l.length c, .int .i64 ((l.length : Nat) : Int), .int .i64 ((l.length - 2 : Nat) : Int), .slice (subA A c 0) ((l.length - 2) - 0) (c - 0), .slice A37 m34 cq38, .bool true, .bool false, .tuple #[.pointer (some ⟨g53, 0, none⟩), .int .i64 0], .slice A l.length c, .int .i64 ((l.length : Nat) : Int), .int .i64 ((l.length - 2 : Nat) : Int), .slice (subA A c 2) ((l.length - 2) - 2) (c - 2), .tuple #[.pointer (some ⟨g53, 0, none⟩), .int .i64 0], .pointer (some ⟨g53, 0, none⟩), .int .i64 0, .int .i64 0, .bool false, .bool false, .pointer (some ⟨g53, 0, none⟩), .int .i64 ((((unpack (sl l 2 ((l.length - 2) - 2))).take (endOf (sl l 2 ((l.length - 2) - 2)))).length - 0 : Nat) : Int), .slice A l.length c, .pointer (some ⟨b57, o58 + 0 * 1, none⟩), .int .u8 ((l.getD 0 0 : Nat) : Int), .int .i64 ((l.getD 0 0 : Nat) : Int), .int .i64 ((292 * (l.getD 0 0) : Nat) : Int), .bool false, .bool false, .int .i64 ((i : Nat) : Int), .slice A l.length c, .pointer (some ⟨b71, o72 + 0 * 1, none⟩), .int .u8 ((l.getD 0 0 : Nat) : Int), .int .i64 ((l.getD 0 0 : Nat) : Int), .bool true, (u66 87), (u66 88), .tuple #[.int .u32 ((valueOf ((((unpack (sl l 2 ((l.length - 2) - 2))).take (endOf (sl l 2 ((l.length - 2) - 2)))).drop (292 * i)).take 4) : Nat) : Int), .int .i64 0], .pointer (some ⟨g53, 0, none⟩), .tuple #[.int .u32 ((valueOf ((((unpack (sl l 2 ((l.length - 2) - 2))).take (endOf (sl l 2 ((l.length - 2) - 2)))).drop (292 * i)).take 4) : Nat) : Int), .int .i64 0], .int .u32 ((chE (unpack (sl l 2 ((l.length - 2) - 2))) (292 * i) : Nat) : Int), .int .i64 0, .int .u32 ((chE (unpack (sl l 2 ((l.length - 2) - 2))) (292 * i) : Nat) : Int), .bool false, .int .i64 ((k : Nat) : Int), .bool true, .int .i64 ((k : Nat) : Int), .int .i64 (((k : Nat) : Int) + 1), .tuple #[.int .u32 ((valueOf ((((unpack (sl l 2 ((l.length - 2) - 2))).take (endOf (sl l 2 ((l.length - 2) - 2)))).drop q).take 9) : Nat) : Int), .int .i64 0], .pointer (some ⟨g53, 0, none⟩), .tuple #[.int .u32 ((valueOf ((((unpack (sl l 2 ((l.length - 2) - 2))).take (endOf (sl l 2 ((l.length - 2) - 2)))).drop q).take 9) : Nat) : Int), .int .i64 0], .int .u32 ((chM (unpack (sl l 2 ((l.length - 2) - 2))) (292 * i) k : Nat) : Int), .int .i64 0, .int .u32 ((chM (unpack (sl l 2 ((l.length - 2) - 2))) (292 * i) k : Nat) : Int), .int .i64 ((chM (unpack (sl l 2 ((l.length - 2) - 2))) (292 * i) k : Nat) : Int), .int .i64 ((chM (unpack (sl l 2 ((l.length - 2) - 2))) (292 * i) k : Nat) : Int), .bool false, (u92 109), (u92 110), .int .i64 ((k : Nat) : Int), .slice A l.length c, .pointer (some ⟨b140, o141 + 1 * 1, none⟩), .int .u8 ((l.getD 1 0 : Nat) : Int), .int .i64 ((l.getD 1 0 : Nat) : Int), .bool false, (u92 117), (u92 118), (u92 119), (u92 120), (u92 121), (u92 122), (u92 123), (u92 124), (u92 125), (u92 126), (u92 127), .int .i64 ((chM (unpack (sl l 2 ((l.length - 2) - 2))) (292 * i) k : Nat) : Int), .bool false, (u66 130), (u66 131), (u66 132), (u66 133), undef] zz undef), ⟨⟨by omega, by omega, by omega, by rw [chB_ge (by omega), hb2, decide_eq_true (by omega)]; rfl, O2, O105⟩, M166⟩, rfl, (by kernel_rfl)⟩
                              ·
                                refine st_val (.bool true) (by kernel_rfl) (bool_of (neq_t c129) (by kernel_rfl)) ?_
                                refine wl_nil ?_
                                refine hK163 _ _ ?_
                                try clear hK163 K163
                                refine wp_cond_true (by kernel_rfl) ?_
                                refine wp_seq_k (fun K167 hK167 => ?_)
                                refine wl_region ?_
                                refine st_val ((Go.Value.slice none 0 0)) (by kernel_rfl) (by kernel_rfl) ?_
                                refine st_val (.int .i64 3) (by kernel_rfl) (by kernel_rfl) ?_
                                refine wl_nil ?_
                                refine hK167 _ _ ?_
                                try clear hK167 K167
                                refine wp_ret ?_
                                refine blk_ret ?_
                                refine th_ret ?_
                                refine th_ret ?_
                                refine blk_ret ?_
                                refine th_ret ?_
                                refine blk_ret ?_
                                refine th_ret ?_
                                refine th_ret ?_
                                refine blk_ret ?_
                                refine th_ret ?_
                                have hte := tb_f hA hit (fun h => by have := chB_at (h.2.2 i (by omega)) (k := k) (by omega) (by omega); rw [show tbP l = (sl l 2 ((l.length - 2) - 2)) from rfl] at this; omega)
                                exact done2 2 3 ((Go.Value.slice none 0 0)) (.int .i64 3) (by kernel_rfl) (by kernel_rfl) (by kernel_rfl) (by kernel_rfl) ⟨_, [], rfl, ⟨_, by rw [hte.1], by rw [hte.2]; exact OwnP.nil⟩, M106.sub (List.nil_sublist _)⟩
                        ·
                          refine st_val (.bool false) (by kernel_rfl) (bool_of (dec_f c97) (by kernel_rfl)) ?_
                          refine wl_nil ?_
                          refine hK96 _ _ ?_
                          try clear hK96 K96
                          refine wp_cond_false (by kernel_rfl) ?_
                          refine wp_exit ?_
                          refine th_exit ?_
                          refine th_exit ?_
                          refine blk_exit ?_
                          refine hK88 _ _ ?_
                          try clear hK88 K88
                          refine wl_region ?_
                          refine st_val (.slice A1 i c1) (by kernel_rfl) (by kernel_rfl) ?_
                          refine st_val (.slice A2 m c2) (by kernel_rfl) (by kernel_rfl) ?_
                          refine st_new M94 (.cells #[.slice A2 m c2] 39 (0, 0)) (fun g => .slice (some ⟨g, 0, none⟩) 1 1) (by kernel_rfl) (by kernel_rfl) ?_
                          intro g168 W169 M170
                          have M180 : Mem NoS w W169 ((g168, .cells #[.slice A2 m c2] 39 (0, 0)) :: (T1 ++ (T2 ++ (flatT Ts i ++ (T4 ++ []))))) := M170.swap (A := [(g168, .cells #[.slice A2 m c2] 39 (0, 0))]) (T := T2) (U := T1) (B := (flatT Ts i ++ (T4 ++ [])))
                          obtain ⟨v171, T172, W173, hr174, O175, M176⟩ := append_s16 (A := [(g168, .cells #[.slice A2 m c2] 39 (0, 0))]) (T := T1) (B := (T2 ++ (flatT Ts i ++ (T4 ++ [])))) M180 28 _ _ _ O1 _ 1 ([.slice A2 m c2]) (rdk_lit (xs := [.slice A2 m c2]) (M180.get 0 rfl) rfl) rfl (by intro x hx; simp only [List.mem_cons, List.not_mem_nil, or_false] at hx; subst hx; rfl) (by omega)
                          have M176 : Mem NoS w W173 ((g168, .cells #[.slice A2 m c2] 39 (0, 0)) :: (T172 ++ (T2 ++ (flatT Ts i ++ (T4 ++ []))))) := M176
                          obtain ⟨A177, cq178, rfl, hc179⟩ := O175.shape
                          refine st_world (.slice A177 (i + 1) cq178) W173 (by kernel_rfl) (run_append_op (.tmp 130) (.tmp 132) _ rfl (.slice A1 i c1) (.slice (some ⟨g168, 0, none⟩) 1 1) _ (by kernel_rfl) (by kernel_rfl) hr174) ?_
                          refine st_val (.slice A177 (i + 1) cq178) (by kernel_rfl) (by kernel_rfl) ?_
                          refine wl_nil ?_
                          refine blk_normal ?_
                          refine hK74 _ _ ?_
                          try clear hK74 K74
                          refine wl_region ?_
                          refine st_val (.int .i64 ((i : Nat) : Int)) (by kernel_rfl) (by kernel_rfl) ?_
                          refine st_val (.int .i64 (((i : Nat) : Int) + 1)) (by kernel_rfl) (i64_of (by omega) (by kernel_rfl)) ?_
                          refine st_val (.int .i64 (((i : Nat) : Int) + 1)) (by kernel_rfl) (by kernel_rfl) ?_
                          refine wl_nil ?_
                          refine th_normal ?_
                          have M181 : Mem NoS w W173 ((T172 ++ (T2 ++ (flatT Ts i ++ (T4 ++ []))))) := M176.sub ((((((List.Sublist.refl []).append_left T4).append_left (flatT Ts i)).append_left T2).append_left T172).cons _)
                          have M182 : Mem NoS w W173 ((T4 ++ (T172 ++ (T2 ++ (flatT Ts i ++ []))))) := Mem.pull (A := []) [T172, T2, flatT Ts i] T4 [] M181
                          have M183 : Mem NoS w W173 ((T2 ++ (T4 ++ (T172 ++ (flatT Ts i ++ []))))) := Mem.pull (A := []) [T4, T172] T2 [flatT Ts i] M182
                          have M184 : Mem NoS w W173 ((flatT Ts i ++ (T2 ++ (T4 ++ (T172 ++ []))))) := Mem.pull (A := []) [T2, T4, T172] (flatT Ts i) [] M183
                          have M185 : Mem NoS w W173 ((T172 ++ (flatT Ts i ++ (T2 ++ (T4 ++ []))))) := Mem.pull (A := []) [flatT Ts i, T2, T4] T172 [] M184
                          have hM4 := M185
                          have hk32 : k = 32 := (by omega)
                          have hmn : m = l.getD 1 0 := (by omega)
                          have hck : chB' (unpack (sl l 2 ((l.length - 2) - 2))) (292 * i) (l.getD 1 0) 32 = true := by rw [← hk32]; exact hb2
                          have hq32 : q = 292 * (i + 1) := (by omega)
                          have hO3 := O4
                          rw [hq32] at hO3
                          have hO2 := O2
                          rw [hmn] at hO2
                          have hO4 := O175
                          rw [hmn] at hO4
                          have hI4 := OwnI.snoc OI1 hO2 (chL_length _ _ _)
                          rw [← pvs_snoc (chLs (unpack (sl l 2 ((l.length - 2) - 2))) (l.getD 1 0) i) _ As cs A2 c2 _ (chL_length (unpack (sl l 2 ((l.length - 2) - 2))) (292 * i) (l.getD 1 0))] at hO4
                          have hF4 : flatT (setF Ts (chLs (unpack (sl l 2 ((l.length - 2) - 2))) (l.getD 1 0) i).length T2) (i + 1) = flatT Ts i ++ T2 := flatT_snoc (chLs_length _ _ _)
                          rw [← List.append_assoc (flatT Ts i), ← hF4] at hM4
                          exact ⟨_, by omega, (i + 1), A177, cq178, T172, (setF As (chLs (unpack (sl l 2 ((l.length - 2) - 2))) (l.getD 1 0) i).length A2), (setF cs (chLs (unpack (sl l 2 ((l.length - 2) - 2))) (l.getD 1 0) i).length c2), (setF Ts (chLs (unpack (sl l 2 ((l.length - 2) - 2))) (l.getD 1 0) i).length T2), T4, (fun zz => Array.getD #[.slice A l.length c, undef, (u92 2), (u92 3), .int .i64 ((l.length : Nat) : Int), .pointer (some ⟨g53, 0, none⟩), .int .i64 0, .slice A177 (i + 1) cq178, .int .i64 (((i : Nat) : Int) + 1), .int .u32 ((chE (unpack (sl l 2 ((l.length - 2) - 2))) (292 * i) : Nat) : Int), .int .i64 0, .slice A2 m c2, .int .i64 ((k : Nat) : Int), (u92 13), (u92 14), (u92 15), .slice A l.length c, .int .i64 ((l.length : Nat) : Int), .int .i64 ((l.length : Nat) : Int), .bool false, .bool false, .slice A l.length c, .pointer (some ⟨b6, o7 + 0 * 1, none⟩), .int .u8 ((l.getD 0 0 : Nat) : Int), .bool false, .bool false, .bool false, .slice A l.length c, .pointer (some ⟨b10, o11 + 0 * 1, none⟩), .int .u8 ((l.getD 0 0 : Nat) : Int), .bool false, .bool false, .bool false, .slice A l.length c, .pointer (some ⟨b14, o15 + 1 * 1, none⟩), .int .u8 ((l.getD 1 0 : Nat) : Int), .bool false, .bool false, .bool false, .slice A l.length c, .pointer (some ⟨b18, o19 + 1 * 1, none⟩), .int .u8 ((l.getD 1 0 : Nat) : Int), .bool false, .bool false, .bool false, .int .i64 ((l.length : Nat) : Int), .slice A l.length c, .pointer (some ⟨b22, o23 + 0 * 1, none⟩), .int .u8 ((l.getD 0 0 : Nat) : Int), .int .i64 ((l.getD 0 0 : Nat) : Int), .int .i64 (bsz ((l.getD 0 0 : Nat) : Int)), .bool false, .bool false, .slice A l.length c, .slice A l.length c, .int .i64 ((l.length : Nat) : Int), .int .i64 ((l.length - 2 : Nat) : Int), .slice (subA A c 0) ((l.length - 2) - 0) (c - 0), .slice A37 m34 cq38, .bool true, .bool false, .tuple #[.pointer (some ⟨g53, 0, none⟩), .int .i64 0], .slice A l.length c, .int .i64 ((l.length : Nat) : Int), .int .i64 ((l.length - 2 : Nat) : Int), .slice (subA A c 2) ((l.length - 2) - 2) (c - 2), .tuple #[.pointer (some ⟨g53, 0, none⟩), .int .i64 0], .pointer (some ⟨g53, 0, none⟩), .int .i64 0, .int .i64 0, .bool false, .bool false, .pointer (some ⟨g53, 0, none⟩), .int .i64 ((((unpack (sl l 2 ((l.length - 2) - 2))).take (endOf (sl l 2 ((l.length - 2) - 2)))).length - 0 : Nat) : Int), .slice A l.length c, .pointer (some ⟨b57, o58 + 0 * 1, none⟩), .int .u8 ((l.getD 0 0 : Nat) : Int), .int .i64 ((l.getD 0 0 : Nat) : Int), .int .i64 ((292 * (l.getD 0 0) : Nat) : Int), .bool false, .bool false, .int .i64 ((i : Nat) : Int), .slice A l.length c, .pointer (some ⟨b71, o72 + 0 * 1, none⟩), .int .u8 ((l.getD 0 0 : Nat) : Int), .int .i64 ((l.getD 0 0 : Nat) : Int), .bool true, .int .i64 ((i : Nat) : Int), .int .i64 (((i : Nat) : Int) + 1), .tuple #[.int .u32 ((valueOf ((((unpack (sl l 2 ((l.length - 2) - 2))).take (endOf (sl l 2 ((l.length - 2) - 2)))).drop (292 * i)).take 4) : Nat) : Int), .int .i64 0], .pointer (some ⟨g53, 0, none⟩), .tuple #[.int .u32 ((valueOf ((((unpack (sl l 2 ((l.length - 2) - 2))).take (endOf (sl l 2 ((l.length - 2) - 2)))).drop (292 * i)).take 4) : Nat) : Int), .int .i64 0], .int .u32 ((chE (unpack (sl l 2 ((l.length - 2) - 2))) (292 * i) : Nat) : Int), .int .i64 0, .int .u32 ((chE (unpack (sl l 2 ((l.length - 2) - 2))) (292 * i) : Nat) : Int), .bool false, .int .i64 ((k : Nat) : Int), .bool false, (u92 98), (u92 99), (u92 100), (u92 101), (u92 102), (u92 103), (u92 104), (u92 105), (u92 106), (u92 107), (u92 108), (u92 109), (u92 110), (u92 111), (u92 112), (u92 113), (u92 114), (u92 115), (u92 116), (u92 117), (u92 118), (u92 119), (u92 120), (u92 121), (u92 122), (u92 123), (u92 124), (u92 125), (u92 126), (u92 127), (u92 128), (u92 129), .slice A1 i c1, .slice A2 m c2, .slice (some ⟨g168, 0, none⟩) 1 1, .slice A177 (i + 1) cq178, undef] zz undef), ⟨⟨by omega, hO4, hI4, fun j hj => by by_cases e : j = i; subst e; exact hck; exact hok j (by omega), hO3⟩, hM4⟩, rfl, (by kernel_rfl)⟩
                    ·
                      refine st_val (.bool false) (by kernel_rfl) (bool_of (dec_f c86) (by kernel_rfl)) ?_
                      refine wl_nil ?_
                      refine hK70 _ _ ?_
                      try clear hK70 K70
                      refine wp_cond_false (by kernel_rfl) ?_
                      refine wp_exit ?_
                      refine th_exit ?_
                      refine th_exit ?_
                      refine blk_exit ?_
                      refine hK63 _ _ ?_
                      try clear hK63 K63
                      refine wp_seq_k (fun K186 hK186 => ?_)
                      refine wl_region ?_
                      refine st_val (.slice A1 i c1) (by kernel_rfl) (by kernel_rfl) ?_
                      refine st_val (.slice A1 i c1) (by kernel_rfl) (by kernel_rfl) ?_
                      refine st_val (.int .i64 0) (by kernel_rfl) (by kernel_rfl) ?_
                      refine wl_nil ?_
                      refine hK186 _ _ ?_
                      try clear hK186 K186
                      refine wp_ret ?_
                      have M187 : Mem NoS w W67 ((T1 ++ (flatT Ts i ++ []))) := M68.sub ((((List.Sublist.refl []).trans (List.sublist_append_right T3 _)).append_left (flatT Ts i)).append_left T1)
                      have hib : i = l.getD 0 0 := (by omega)
                      have hF : tbF l := ⟨hpb, (by show endOf (sl l 2 ((l.length - 2) - 2)) = _; omega), fun j hj => hok j (by omega)⟩
                      have hMf := M187
                      rw [List.append_nil] at hMf
                      exact done2 2 3 (.slice A1 i c1) (.int .i64 0) (by kernel_rfl) (by kernel_rfl) (by kernel_rfl) (by kernel_rfl) ⟨_, T1 ++ flatT Ts i, rfl, ⟨_, by rw [(tb_t hA hit hF).1], by rw [(tb_t hA hit hF).2]; exact ⟨As, cs, T1, Ts, by rw [chLs_length, ← hib]; exact O1, by rw [← hib]; exact OI1, by rw [chLs_length, ← hib]⟩⟩, hMf⟩
                  ·
                    refine seq_run (v := .bool true) (by decide) (by kernel_rfl) (fun w' M' => (bool_of (neq_t c79) (by kernel_rfl))) ?_
                    refine seq_run (v := .bool true) (by decide) (by kernel_rfl) (fun w' M' => (by kernel_rfl)) ?_
                    refine seq_end (by decide) ?_
                    intro W188 M189
                    refine wl_nil ?_
                    refine hK56 _ _ ?_
                    try clear hK56 K56
                    refine wp_cond_true (by kernel_rfl) ?_
                    refine wp_seq_k (fun K190 hK190 => ?_)
                    refine wl_region ?_
                    refine st_val ((Go.Value.slice none 0 0)) (by kernel_rfl) (by kernel_rfl) ?_
                    refine st_val (.int .i64 3) (by kernel_rfl) (by kernel_rfl) ?_
                    refine wl_nil ?_
                    refine hK190 _ _ ?_
                    try clear hK190 K190
                    refine wp_frame (a' := ⟨#[.slice A l.length c, undef, (Go.Value.slice none 0 0), .int .i64 3, .int .i64 ((l.length : Nat) : Int), .pointer (some ⟨g53, 0, none⟩), .int .i64 0, undef, undef, undef, undef, undef, undef, undef, undef, undef, .slice A l.length c, .int .i64 ((l.length : Nat) : Int), .int .i64 ((l.length : Nat) : Int), .bool false, .bool false, .slice A l.length c, .pointer (some ⟨b6, o7 + 0 * 1, none⟩), .int .u8 ((l.getD 0 0 : Nat) : Int), .bool false, .bool false, .bool false, .slice A l.length c, .pointer (some ⟨b10, o11 + 0 * 1, none⟩), .int .u8 ((l.getD 0 0 : Nat) : Int), .bool false, .bool false, .bool false, .slice A l.length c, .pointer (some ⟨b14, o15 + 1 * 1, none⟩), .int .u8 ((l.getD 1 0 : Nat) : Int), .bool false, .bool false, .bool false, .slice A l.length c, .pointer (some ⟨b18, o19 + 1 * 1, none⟩), .int .u8 ((l.getD 1 0 : Nat) : Int), .bool false, .bool false, .bool false, .int .i64 ((l.length : Nat) : Int), .slice A l.length c, .pointer (some ⟨b22, o23 + 0 * 1, none⟩), .int .u8 ((l.getD 0 0 : Nat) : Int), .int .i64 ((l.getD 0 0 : Nat) : Int), .int .i64 (bsz ((l.getD 0 0 : Nat) : Int)), .bool false, .bool false, .slice A l.length c, .slice A l.length c, .int .i64 ((l.length : Nat) : Int), .int .i64 ((l.length - 2 : Nat) : Int), .slice (subA A c 0) ((l.length - 2) - 0) (c - 0), .slice A37 m34 cq38, .bool true, .bool false, .tuple #[.pointer (some ⟨g53, 0, none⟩), .int .i64 0], .slice A l.length c, .int .i64 ((l.length : Nat) : Int), .int .i64 ((l.length - 2 : Nat) : Int), .slice (subA A c 2) ((l.length - 2) - 2) (c - 2), .tuple #[.pointer (some ⟨g53, 0, none⟩), .int .i64 0], .pointer (some ⟨g53, 0, none⟩), .int .i64 0, .int .i64 0, .bool false, .bool false, .pointer (some ⟨g53, 0, none⟩), .int .i64 ((((unpack (sl l 2 ((l.length - 2) - 2))).take (endOf (sl l 2 ((l.length - 2) - 2)))).length - 0 : Nat) : Int), .slice A l.length c, .pointer (some ⟨b57, o58 + 0 * 1, none⟩), .int .u8 ((l.getD 0 0 : Nat) : Int), .int .i64 ((l.getD 0 0 : Nat) : Int), .int .i64 ((292 * (l.getD 0 0) : Nat) : Int), .bool true, .bool true, undef, undef, undef, undef, undef, undef, undef, undef, undef, undef, undef, undef, undef, undef, undef, undef, undef, undef, undef, undef, undef, undef, undef, undef, undef, undef, undef, undef, undef, undef, undef, undef, undef, undef, undef, undef, undef, undef, undef, undef, undef, undef, undef, undef, undef, undef, undef, undef, undef, undef, undef, undef, undef, undef], []⟩) (by kernel_rfl) ?_
                    refine wp_ret ?_
                    refine th_ret ?_
                    have hte := tb_f hA hit (fun h => by first | exact h.1 hpb | (have h2 := h.2.1; rw [show tbP l = (sl l 2 ((l.length - 2) - 2)) from rfl] at h2; omega))
                    exact done2 2 3 ((Go.Value.slice none 0 0)) (.int .i64 3) (by kernel_rfl) (by kernel_rfl) (by kernel_rfl) (by kernel_rfl) ⟨_, [], rfl, ⟨_, by rw [hte.1], by rw [hte.2]; exact OwnP.nil⟩, M189.sub (List.nil_sublist _)⟩
              ·
                refine st_callE (.bool false) (by kernel_rfl) (args := #[.slice A l.length c, .slice A37 m34 cq38]) (run_value_call 23 #[(Operand.tmp 53), (Operand.tmp 58)] _ rfl Try.func23 (by kernel_rfl) (by kernel_rfl) _ (by kernel_rfl)) ((by have := sameM W31 (.slice A l.length c) (.slice A37 m34 cq38) l (summedB (sl l 0 ((l.length - 2) - 0))) (hr.keep M33.keep (fun _ _ h => h)) ((by rw [summedB_len, ← hm35]; exact O36.rd (fun p hp => M33.at_ p (List.mem_append_left _ hp)))) hb (summedB_lt (sl_lt hb _ _)); rw [show decide (l = summedB (sl l 0 ((l.length - 2) - 0))) = intB l from rfl, hit] at this; exact this)) ?_
                refine st_val (.bool true) (by kernel_rfl) (by kernel_rfl) ?_
                refine wl_nil ?_
                refine hK28 _ _ ?_
                try clear hK28 K28
                refine wp_cond_true (by kernel_rfl) ?_
                refine wp_seq_k (fun K191 hK191 => ?_)
                refine wl_region ?_
                refine st_val ((Go.Value.slice none 0 0)) (by kernel_rfl) (by kernel_rfl) ?_
                refine st_val (.int .i64 10) (by kernel_rfl) (by kernel_rfl) ?_
                refine wl_nil ?_
                refine hK191 _ _ ?_
                try clear hK191 K191
                refine wp_ret ?_
                refine th_ret ?_
                have hte := tb_i hA hit
                exact done2 2 3 ((Go.Value.slice none 0 0)) (.int .i64 10) (by kernel_rfl) (by kernel_rfl) (by kernel_rfl) (by kernel_rfl) ⟨_, [], rfl, ⟨_, by rw [hte.1], by rw [hte.2]; exact OwnP.nil⟩, M33.sub (List.nil_sublist _)⟩
            ·
              refine st_val (.bool true) (by kernel_rfl) (bool_of (neq_t c51) (by kernel_rfl)) ?_
              refine st_val (.bool true) (by kernel_rfl) (by kernel_rfl) ?_
              refine wl_nil ?_
              refine hK4 _ _ ?_
              try clear hK4 K4
              refine wp_frame (a' := ⟨#[.slice A l.length c, undef, (Go.Value.slice none 0 0), .int .i64 0, .int .i64 ((l.length : Nat) : Int), undef, undef, undef, undef, undef, undef, undef, undef, undef, undef, undef, .slice A l.length c, .int .i64 ((l.length : Nat) : Int), .int .i64 ((l.length : Nat) : Int), .bool false, .bool false, .slice A l.length c, .pointer (some ⟨b6, o7 + 0 * 1, none⟩), .int .u8 ((l.getD 0 0 : Nat) : Int), .bool false, .bool false, .bool false, .slice A l.length c, .pointer (some ⟨b10, o11 + 0 * 1, none⟩), .int .u8 ((l.getD 0 0 : Nat) : Int), .bool false, .bool false, .bool false, .slice A l.length c, .pointer (some ⟨b14, o15 + 1 * 1, none⟩), .int .u8 ((l.getD 1 0 : Nat) : Int), .bool false, .bool false, .bool false, .slice A l.length c, .pointer (some ⟨b18, o19 + 1 * 1, none⟩), .int .u8 ((l.getD 1 0 : Nat) : Int), .bool false, .bool false, .bool false, .int .i64 ((l.length : Nat) : Int), .slice A l.length c, .pointer (some ⟨b22, o23 + 0 * 1, none⟩), .int .u8 ((l.getD 0 0 : Nat) : Int), .int .i64 ((l.getD 0 0 : Nat) : Int), .int .i64 (bsz ((l.getD 0 0 : Nat) : Int)), .bool true, .bool true, undef, undef, undef, undef, undef, undef, undef, undef, undef, undef, undef, undef, undef, undef, undef, undef, undef, undef, undef, undef, undef, undef, undef, undef, undef, undef, undef, undef, undef, undef, undef, undef, undef, undef, undef, undef, undef, undef, undef, undef, undef, undef, undef, undef, undef, undef, undef, undef, undef, undef, undef, undef, undef, undef, undef, undef, undef, undef, undef, undef, undef, undef, undef, undef, undef, undef, undef, undef, undef, undef, undef, undef, undef, undef, undef, undef, undef, undef, undef, undef, undef, undef], []⟩) (by kernel_rfl) ?_
              refine wp_cond_true (by kernel_rfl) ?_
              refine wp_seq_k (fun K192 hK192 => ?_)
              refine wl_region ?_
              refine st_val ((Go.Value.slice none 0 0)) (by kernel_rfl) (by kernel_rfl) ?_
              refine st_val (.int .i64 3) (by kernel_rfl) (by kernel_rfl) ?_
              refine wl_nil ?_
              refine hK192 _ _ ?_
              try clear hK192 K192
              refine wp_ret ?_
              refine th_ret ?_
              have hte := tb_a (l := l) (fun h => by have h1 := h.1; have h2 := h.2.1; have h3 := h.2.2.1; have h4 := h.2.2.2; omega)
              exact done2 2 3 ((Go.Value.slice none 0 0)) (.int .i64 3) (by kernel_rfl) (by kernel_rfl) (by kernel_rfl) (by kernel_rfl) ⟨_, [], rfl, ⟨_, by rw [hte.1], by rw [hte.2]; exact OwnP.nil⟩, M26.sub (List.nil_sublist _)⟩
end Go.Proofs.Ytmimljaniliecaa
