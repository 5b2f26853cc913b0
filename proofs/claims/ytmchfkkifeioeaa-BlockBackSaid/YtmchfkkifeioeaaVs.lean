/- Codes are read, as the reference does it. -/
import Derived.Test.YtmchfkkifeioeaaVr
namespace Go.Proofs.Ytmchfkkifeioeaa
open Go.RowKit Bt
set_option maxHeartbeats 4000000 in
set_option maxRecDepth 100000 in
theorem qtk_walk (w : World) {g : Nat} {l : List Nat} {at_ : Nat} {T : List (Nat × Obj)} (hO : OwnQ g l at_ T) (hT : Mem (fun k => k ∈ T.map (·.1)) w w T) : UpdRow Try.prog 40 #[.pointer (some ⟨g, 0, none⟩)] w T (fun r T' => r = .tuple #[.int .i64 (tk (l.drop at_)).1, .int .i64 (tk (l.drop at_)).2.1] ∧ OwnQ g l (at_ + (tk (l.drop at_)).2.2) T') := by
  unfold UpdRow
  obtain ⟨v, TB, rfl, hOB, hbl, hll, hal⟩ := hO
  have hO : OwnQ g l at_ ((g, .cells #[v, .int .i64 (at_ : Nat)] 49 (0, 0)) :: TB) := ⟨v, TB, rfl, hOB, hbl, hll, hal⟩
  obtain ⟨A, c, rfl, hc⟩ := hOB.shape
  have M0 : Mem (fun k => k ∈ ((g, .cells #[.slice A l.length c, .int .i64 ((at_ : Nat) : Int)] 49 (0, 0)) :: TB).map (·.1)) w w ((g, .cells #[.slice A l.length c, .int .i64 ((at_ : Nat) : Int)] 49 (0, 0)) :: (TB ++ [])) := by rw [List.append_nil]; exact hT
  refine calls_of_wp Try.func40 rfl ?_
  refine wp_frame (a' := ⟨#[.pointer (some ⟨g, 0, none⟩), undef, undef, undef, undef, undef, undef, undef, undef, undef, undef, undef, undef, undef, undef, undef, undef, undef, undef, undef, undef, undef, undef, undef, undef, undef, undef, undef, undef, undef, undef, undef, undef, undef, undef, undef, undef, undef, undef, undef, undef, undef, undef, undef, undef, undef, undef], []⟩) (by kernel_rfl) ?_
  refine wp_seq_k (fun K1 hK1 => ?_)
  refine wl_region ?_
  refine st_val (.int .i64 0) (by kernel_rfl) (by kernel_rfl) ?_
  refine st_val (.int .i64 0) (by kernel_rfl) (by kernel_rfl) ?_
  refine wl_nil ?_
  refine hK1 _ _ ?_
  try clear hK1 K1
  refine wp_seq_k (fun K2 hK2 => ?_)
  refine wl_region ?_
  refine st_val (.int .i64 0) (by kernel_rfl) (by kernel_rfl) ?_
  refine wl_nil ?_
  refine hK2 _ _ ?_
  try clear hK2 K2
  refine wp_seq_k (fun K3 hK3 => ?_)
  refine wp_block ?_
  refine wp_loop_ghost (fun gn a' w' => ∃ (k : Nat) (u4 : Nat → Value), ((k < 16 ∧ at_ + k ≤ l.length ∧ ∀ i, i < k → l.getD (at_ + i) 0 = 0) ∧ Mem (fun k => k ∈ (((g, .cells #[.slice A l.length c, .int .i64 ((at_ : Nat) : Int)] 49 (0, 0)) :: TB)).map (·.1)) w w' ((g, .cells #[.slice A l.length c, .int .i64 ((at_ : Nat) : Int)] 49 (0, 0)) :: (TB ++ []))) ∧ gn = 17 - k ∧ a' = ⟨#[.pointer (some ⟨g, 0, none⟩), undef, (u4 2), (u4 3), .int .i64 ((k : Nat) : Int), undef, undef, (u4 7), (u4 8), (u4 9), (u4 10), (u4 11), (u4 12), (u4 13), (u4 14), (u4 15), (u4 16), (u4 17), (u4 18), (u4 19), (u4 20), (u4 21), (u4 22), (u4 23), (u4 24), (u4 25), (u4 26), (u4 27), (u4 28), (u4 29), undef, undef, undef, undef, undef, undef, undef, undef, undef, undef, undef, undef, undef, undef, undef, undef, undef], []⟩) _ ⟨0, (fun zz => Array.getD #[.pointer (some ⟨g, 0, none⟩), undef, .int .i64 0, .int .i64 0, .int .i64 0, undef, undef, undef, undef, undef, undef, undef, undef, undef, undef, undef, undef, undef, undef, undef, undef, undef, undef, undef, undef, undef, undef, undef, undef, undef, undef, undef, undef, undef, undef, undef, undef, undef, undef, undef, undef, undef, undef, undef, undef, undef, undef] zz undef), ⟨⟨by omega, by omega, fun i hi => by omega⟩, M0⟩, rfl, (by kernel_rfl)⟩ ?_
  rintro gn _ W5 ⟨k, u4, ⟨⟨rk, rk2, hz⟩, M6⟩, rfl, rfl⟩
  refine wp_seq_k (fun K7 hK7 => ?_)
  refine wp_seq_k (fun K8 hK8 => ?_)
  refine wl_seq 19 (fun w' => Mem (fun k => k ∈ (((g, .cells #[.slice A l.length c, .int .i64 ((at_ : Nat) : Int)] 49 (0, 0)) :: TB)).map (·.1)) w w' ((g, .cells #[.slice A l.length c, .int .i64 ((at_ : Nat) : Int)] 49 (0, 0)) :: (TB ++ []))) (by decide) (by kernel_rfl) (by kernel_rfl) M6.drew ?_
  refine seq_run (v := .int .i64 ((k : Nat) : Int)) (by decide) (by kernel_rfl) (fun w' M' => (by kernel_rfl)) ?_
  refine seq_run (v := .pointer (some ⟨g, 0, none⟩)) (by decide) (by kernel_rfl) (fun w' M' => (by kernel_rfl)) ?_
  refine seq_call (v := .int .i64 ((l.length - at_ : Nat) : Int)) (f := 48) (args := #[.pointer (some ⟨g, 0, none⟩)]) (by decide) (by kernel_rfl) (fun w' M' => (run_value_call 48 #[(Operand.tmp 8)] _ rfl Try.func48 (by kernel_rfl) (by kernel_rfl) _ (by kernel_rfl))) (fun w' M' => callB_mem M' (qLeftM w' hO (Mem.part (A := []) (T := ((g, .cells #[.slice A l.length c, .int .i64 ((at_ : Nat) : Int)] 49 (0, 0)) :: TB)) (B := []) M'))) ?_
  rcases Decidable.em ((((k : Nat) : Int) : Int) < ((l.length - at_ : Nat) : Int)) with c10 | c10
  ·
    refine seq_run (v := .bool true) (by decide) (by kernel_rfl) (fun w' M' => (bool_of (dec_t c10) (by kernel_rfl))) ?_
    refine seq_run (v := .bool true) (by decide) (by kernel_rfl) (fun w' M' => (by kernel_rfl)) ?_
    refine seq_run (v := .pointer (some ⟨g, 0, none⟩)) (by decide) (by kernel_rfl) (fun w' M' => (by kernel_rfl)) ?_
    refine seq_run (v := .pointer (some ⟨g, 0, none⟩)) (by decide) (by kernel_rfl) (fun w' M' => (by kernel_rfl)) ?_
    refine seq_run (v := .pointer (some ⟨g, 0, none⟩)) (by decide) (by kernel_rfl) (fun w' M' => (by kernel_rfl)) ?_
    refine seq_run (v := .slice A l.length c) (by decide) (by kernel_rfl) (fun w' M' => (run_load_cell 29 (.tmp 14) rfl ⟨g, 0, none⟩ (by kernel_rfl) _ (M'.cell 0 rfl 0 _ rfl) (by kernel_rfl))) ?_
    refine seq_run (v := .pointer (some ⟨g, 0, none⟩)) (by decide) (by kernel_rfl) (fun w' M' => (by kernel_rfl)) ?_
    refine seq_run (v := .pointer (some ⟨g, 0, none⟩)) (by decide) (by kernel_rfl) (fun w' M' => (by kernel_rfl)) ?_
    refine seq_run (v := .pointer (some ⟨g, 1, none⟩)) (by decide) (by kernel_rfl) (fun w' M' => (by kernel_rfl)) ?_
    refine seq_run (v := .int .i64 ((at_ : Nat) : Int)) (by decide) (by kernel_rfl) (fun w' M' => (run_load_cell 3 (.tmp 18) rfl ⟨g, 1, none⟩ (by kernel_rfl) _ (M'.cell 0 rfl 1 _ rfl) (by kernel_rfl))) ?_
    refine seq_run (v := .int .i64 ((k : Nat) : Int)) (by decide) (by kernel_rfl) (fun w' M' => (by kernel_rfl)) ?_
    refine seq_run (v := .int .i64 ((at_ + k : Nat) : Int)) (by decide) (by kernel_rfl) (fun w' M' => (int_of (show ((at_ : Nat) : Int) + ((k : Nat) : Int) = ((at_ + k : Nat) : Int) by omega) (i64_of (by omega) (by kernel_rfl)))) ?_
    obtain ⟨b9, o10, eA11⟩ := RdK.addr (hOB.rd (fun p hp => M6.at_ p (List.mem_cons_of_mem _ (List.mem_append_left _ hp)))) (j := (at_ + k) * 1) (by rw [u8s_length]; omega)
    refine seq_run (v := .pointer (some ⟨b9, o10 + (at_ + k) * 1, none⟩)) (by decide) (by kernel_rfl) (fun w' M' => (run_indexSliceA 29 (.tmp 15) (.tmp 21) rfl A ⟨b9, o10, none⟩ eA11 l.length c .i64 (at_ + k) (by kernel_rfl) (by kernel_rfl) Try.underlying29 1 (by kernel_rfl) (by omega) ⟨b9, o10 + (at_ + k) * 1, none⟩ (addr_atK _ _ _ _))) ?_
    refine seq_run (v := .int .u8 ((l.getD (at_ + k) 0 : Nat) : Int)) (by decide) (by kernel_rfl) (fun w' M' => (run_load_cell 5 (.tmp 22) rfl ⟨b9, o10 + (at_ + k) * 1, none⟩ (by kernel_rfl) _ ((hOB.rd (fun p hp => M'.at_ p (List.mem_cons_of_mem _ (List.mem_append_left _ hp)))).cellF eA11 (f := 0) (u8s_get l (at_ + k) (by omega))) (by kernel_rfl))) ?_
    rcases Decidable.em ((((l.getD (at_ + k) 0 : Nat) : Int) : Int) = 0) with c24 | c24
    ·
      refine seq_run (v := .bool true) (by decide) (by kernel_rfl) (fun w' M' => (bool_of (dec_t c24) (by kernel_rfl))) ?_
      refine seq_run (v := .bool true) (by decide) (by kernel_rfl) (fun w' M' => (by kernel_rfl)) ?_
      refine seq_end (by decide) ?_
      intro W12 M13
      refine wl_nil ?_
      refine hK8 _ _ ?_
      try clear hK8 K8
      refine wp_frame (a' := ⟨#[.pointer (some ⟨g, 0, none⟩), undef, (u4 2), (u4 3), .int .i64 ((k : Nat) : Int), undef, undef, .int .i64 ((k : Nat) : Int), .pointer (some ⟨g, 0, none⟩), .int .i64 ((l.length - at_ : Nat) : Int), .bool true, .bool true, .pointer (some ⟨g, 0, none⟩), .pointer (some ⟨g, 0, none⟩), .pointer (some ⟨g, 0, none⟩), .slice A l.length c, .pointer (some ⟨g, 0, none⟩), .pointer (some ⟨g, 0, none⟩), .pointer (some ⟨g, 1, none⟩), .int .i64 ((at_ : Nat) : Int), .int .i64 ((k : Nat) : Int), .int .i64 ((at_ + k : Nat) : Int), .pointer (some ⟨b9, o10 + (at_ + k) * 1, none⟩), .int .u8 ((l.getD (at_ + k) 0 : Nat) : Int), .bool true, .bool true, (u4 26), (u4 27), (u4 28), (u4 29), undef, undef, undef, undef, undef, undef, undef, undef, undef, undef, undef, undef, undef, undef, undef, undef, undef], []⟩) (by kernel_rfl) ?_
      refine wp_cond_true (by kernel_rfl) ?_
      refine wp_skip ?_
      refine hK7 _ _ ?_
      try clear hK7 K7
      refine wp_block ?_
      refine wp_seq_k (fun K14 hK14 => ?_)
      refine wl_region ?_
      refine st_val (.int .i64 ((k : Nat) : Int)) (by kernel_rfl) (by kernel_rfl) ?_
      refine st_val (.int .i64 (((k : Nat) : Int) + 1)) (by kernel_rfl) (i64_of (by omega) (by kernel_rfl)) ?_
      refine st_val (.int .i64 (((k : Nat) : Int) + 1)) (by kernel_rfl) (by kernel_rfl) ?_
      refine wl_nil ?_
      refine hK14 _ _ ?_
      try clear hK14 K14
      refine wp_seq_k (fun K15 hK15 => ?_)
      refine wl_region ?_
      refine st_val (.int .i64 (((k : Nat) : Int) + 1)) (by kernel_rfl) (by kernel_rfl) ?_
      rcases Decidable.em ((((k : Nat) : Int) + 1 : Int) = 16) with c29 | c29
      ·
        refine st_val (.bool true) (by kernel_rfl) (bool_of (dec_t c29) (by kernel_rfl)) ?_
        refine wl_nil ?_
        refine hK15 _ _ ?_
        try clear hK15 K15
        refine wp_cond_true (by kernel_rfl) ?_
        refine wp_seq_k (fun K16 hK16 => ?_)
        refine wl_region ?_
        refine st_val (.int .i64 0) (by kernel_rfl) (by kernel_rfl) ?_
        refine st_val (.int .i64 3) (by kernel_rfl) (by kernel_rfl) ?_
        refine wl_nil ?_
        refine hK16 _ _ ?_
        try clear hK16 K16
        refine wp_ret ?_
        refine blk_ret ?_
        refine th_ret ?_
        refine blk_ret ?_
        refine th_ret ?_
        have h := tkz_16 (l := l) (a := at_) (by omega) (fun i hi => by by_cases e : i = k; subst e; omega; exact hz i (by omega))
        exact done2 2 3 (.int .i64 0) (.int .i64 3) (by kernel_rfl) (by kernel_rfl) (by kernel_rfl) (by kernel_rfl) ⟨_, ((g, .cells #[.slice A l.length c, .int .i64 ((at_ : Nat) : Int)] 49 (0, 0)) :: TB), rfl, ⟨by rw [h], by rw [h]; exact hO⟩, (show Mem _ w _ (((g, .cells #[.slice A l.length c, .int .i64 ((at_ : Nat) : Int)] 49 (0, 0)) :: TB) ++ []) from M13).sub (List.sublist_append_left _ [])⟩
      ·
        refine st_val (.bool false) (by kernel_rfl) (bool_of (dec_f c29) (by kernel_rfl)) ?_
        refine wl_nil ?_
        refine hK15 _ _ ?_
        try clear hK15 K15
        refine wp_cond_false (by kernel_rfl) ?_
        refine wp_skip ?_
        refine blk_normal ?_
        refine th_normal ?_
        exact ⟨_, (by omega), (k + 1), (fun zz => Array.getD #[.pointer (some ⟨g, 0, none⟩), undef, (u4 2), (u4 3), .int .i64 (((k : Nat) : Int) + 1), undef, undef, .int .i64 ((k : Nat) : Int), .pointer (some ⟨g, 0, none⟩), .int .i64 ((l.length - at_ : Nat) : Int), .bool true, .bool true, .pointer (some ⟨g, 0, none⟩), .pointer (some ⟨g, 0, none⟩), .pointer (some ⟨g, 0, none⟩), .slice A l.length c, .pointer (some ⟨g, 0, none⟩), .pointer (some ⟨g, 0, none⟩), .pointer (some ⟨g, 1, none⟩), .int .i64 ((at_ : Nat) : Int), .int .i64 ((k : Nat) : Int), .int .i64 ((at_ + k : Nat) : Int), .pointer (some ⟨b9, o10 + (at_ + k) * 1, none⟩), .int .u8 ((l.getD (at_ + k) 0 : Nat) : Int), .bool true, .bool true, .int .i64 ((k : Nat) : Int), .int .i64 (((k : Nat) : Int) + 1), .int .i64 (((k : Nat) : Int) + 1), .bool false, undef, undef, undef, undef, undef, undef, undef, undef, undef, undef, undef, undef, undef, undef, undef, undef, undef] zz undef), ⟨⟨by omega, by omega, fun i hi => by by_cases e : i = k; subst e; omega; exact hz i (by omega)⟩, M13⟩, rfl, (by kernel_rfl)⟩
    ·
      refine seq_run (v := .bool false) (by decide) (by kernel_rfl) (fun w' M' => (bool_of (dec_f c24) (by kernel_rfl))) ?_
      refine seq_run (v := .bool false) (by decide) (by kernel_rfl) (fun w' M' => (by kernel_rfl)) ?_
      refine seq_end (by decide) ?_
      intro W17 M18
      refine wl_nil ?_
      refine hK8 _ _ ?_
      try clear hK8 K8
      refine wp_frame (a' := ⟨#[.pointer (some ⟨g, 0, none⟩), undef, (u4 2), (u4 3), .int .i64 ((k : Nat) : Int), undef, undef, .int .i64 ((k : Nat) : Int), .pointer (some ⟨g, 0, none⟩), .int .i64 ((l.length - at_ : Nat) : Int), .bool true, .bool true, .pointer (some ⟨g, 0, none⟩), .pointer (some ⟨g, 0, none⟩), .pointer (some ⟨g, 0, none⟩), .slice A l.length c, .pointer (some ⟨g, 0, none⟩), .pointer (some ⟨g, 0, none⟩), .pointer (some ⟨g, 1, none⟩), .int .i64 ((at_ : Nat) : Int), .int .i64 ((k : Nat) : Int), .int .i64 ((at_ + k : Nat) : Int), .pointer (some ⟨b9, o10 + (at_ + k) * 1, none⟩), .int .u8 ((l.getD (at_ + k) 0 : Nat) : Int), .bool false, .bool false, (u4 26), (u4 27), (u4 28), (u4 29), undef, undef, undef, undef, undef, undef, undef, undef, undef, undef, undef, undef, undef, undef, undef, undef, undef], []⟩) (by kernel_rfl) ?_
      refine wp_cond_false (by kernel_rfl) ?_
      refine wp_exit ?_
      refine th_exit ?_
      refine th_exit ?_
      refine blk_exit ?_
      refine hK3 _ _ ?_
      try clear hK3 K3
      refine wp_seq_k (fun K19 hK19 => ?_)
      refine wp_seq_k (fun K20 hK20 => ?_)
      refine wl_region ?_
      refine st_val (.int .i64 ((k : Nat) : Int)) (by kernel_rfl) (by kernel_rfl) ?_
      refine st_val (.int .i64 (2 * ((k : Nat) : Int))) (by kernel_rfl) (i64_of (by omega) (by kernel_rfl)) ?_
      refine st_val (.int .i64 ((2 * ((k : Nat) : Int)) + 1)) (by kernel_rfl) (i64_of (by omega) (by kernel_rfl)) ?_
      refine st_val (.pointer (some ⟨g, 0, none⟩)) (by kernel_rfl) (by kernel_rfl) ?_
      refine st_callB M18 (.int .i64 ((l.length - at_ : Nat) : Int)) (by kernel_rfl) (args := #[.pointer (some ⟨g, 0, none⟩)]) (run_value_call 48 #[(Operand.tmp 33)] _ rfl Try.func48 (by kernel_rfl) (by kernel_rfl) _ (by kernel_rfl)) (qLeftM W17 hO (Mem.part (A := []) (T := ((g, .cells #[.slice A l.length c, .int .i64 ((at_ : Nat) : Int)] 49 (0, 0)) :: TB)) (B := []) M18)) ?_
      intro W21 M22
      rcases Decidable.em (((2 * ((k : Nat) : Int)) + 1 : Int) > ((l.length - at_ : Nat) : Int)) with c35 | c35
      ·
        refine st_val (.bool true) (by kernel_rfl) (bool_of (dec_t c35) (by kernel_rfl)) ?_
        refine wl_nil ?_
        refine hK20 _ _ ?_
        try clear hK20 K20
        refine wp_cond_true (by kernel_rfl) ?_
        refine wp_seq_k (fun K23 hK23 => ?_)
        refine wl_region ?_
        refine st_val (.int .i64 0) (by kernel_rfl) (by kernel_rfl) ?_
        refine st_val (.int .i64 4) (by kernel_rfl) (by kernel_rfl) ?_
        refine wl_nil ?_
        refine hK23 _ _ ?_
        try clear hK23 K23
        refine wp_ret ?_
        refine th_ret ?_
        have h : tk (l.drop at_) = (0, 4, 0) := by first | exact tkz_end (by omega) (by omega) hz | exact tkz_short (tkz_mid (k := k) (by omega) hz (by omega)) (by omega) (by omega)
        exact done2 2 3 (.int .i64 0) (.int .i64 4) (by kernel_rfl) (by kernel_rfl) (by kernel_rfl) (by kernel_rfl) ⟨_, ((g, .cells #[.slice A l.length c, .int .i64 ((at_ : Nat) : Int)] 49 (0, 0)) :: TB), rfl, ⟨by rw [h], by rw [h]; exact hO⟩, (show Mem _ w _ (((g, .cells #[.slice A l.length c, .int .i64 ((at_ : Nat) : Int)] 49 (0, 0)) :: TB) ++ []) from M22).sub (List.sublist_append_left _ [])⟩
      ·
        refine st_val (.bool false) (by kernel_rfl) (bool_of (dec_f c35) (by kernel_rfl)) ?_
        refine wl_nil ?_
        refine hK20 _ _ ?_
        try clear hK20 K20
        refine wp_cond_false (by kernel_rfl) ?_
        refine wp_skip ?_
        refine hK19 _ _ ?_
        try clear hK19 K19
        refine wp_seq_k (fun K24 hK24 => ?_)
        have hmid := tkz_mid (l := l) (a := at_) (k := k) (by omega) hz (by omega)
        have hval := tkz_val hbl hmid (by omega)
        have h2k : (2 : Nat) ^ k ≤ 2 ^ 16 := Nat.pow_le_pow_right (by decide) (by omega)
        refine wl_region ?_
        refine st_val (.pointer (some ⟨g, 0, none⟩)) (by kernel_rfl) (by kernel_rfl) ?_
        refine st_val (.int .i64 ((k : Nat) : Int)) (by kernel_rfl) (by kernel_rfl) ?_
        refine st_val (.int .i64 (2 * ((k : Nat) : Int))) (by kernel_rfl) (i64_of (by omega) (by kernel_rfl)) ?_
        refine st_val (.int .i64 ((2 * k + 1 : Nat) : Int)) (by kernel_rfl) (int_of (show 2 * ((k : Nat) : Int) + 1 = ((2 * k + 1 : Nat) : Int) by omega) (i64_of (by omega) (by kernel_rfl))) ?_
        have M25 : Mem (fun k => k ∈ (((g, .cells #[.slice A l.length c, .int .i64 ((at_ : Nat) : Int)] 49 (0, 0)) :: TB)).map (·.1)) w W21 ((((g, .cells #[.slice A l.length c, .int .i64 ((at_ : Nat) : Int)] 49 (0, 0)) :: TB) ++ [])) := M22
        refine st_callU (A := []) (T := ((g, .cells #[.slice A l.length c, .int .i64 ((at_ : Nat) : Int)] 49 (0, 0)) :: TB)) (B := []) M25 (by kernel_rfl) (run_value_call 49 #[(Operand.tmp 37), (Operand.tmp 40)] _ rfl Try.func49 (by kernel_rfl) (by kernel_rfl) _ (by kernel_rfl)) (qTakeM W21 hO (Mem.part (A := []) (T := ((g, .cells #[.slice A l.length c, .int .i64 ((at_ : Nat) : Int)] 49 (0, 0)) :: TB)) (B := []) M25) (2 * k + 1) (by omega) (by omega)) ?_
        intro v26 T27 W28 O29 M30
        obtain ⟨rfl, O31⟩ := O29
        have M32 : Mem (fun k => k ∈ (((g, .cells #[.slice A l.length c, .int .i64 ((at_ : Nat) : Int)] 49 (0, 0)) :: TB)).map (·.1)) w W28 ((T27 ++ [])) := M30
        refine st_val (.tuple #[.int .u32 ((valueOf ((l.drop at_).take (2 * k + 1)) : Nat) : Int), .int .i64 0]) (by kernel_rfl) (by kernel_rfl) ?_
        refine st_val (.int .u32 ((valueOf ((l.drop at_).take (2 * k + 1)) : Nat) : Int)) (by kernel_rfl) (by kernel_rfl) ?_
        refine st_val (.int .i64 0) (by kernel_rfl) (by kernel_rfl) ?_
        refine st_val (.int .u32 ((valueOf ((l.drop at_).take (2 * k + 1)) : Nat) : Int)) (by kernel_rfl) (by kernel_rfl) ?_
        refine st_val (.int .i64 0) (by kernel_rfl) (by kernel_rfl) ?_
        refine wl_nil ?_
        refine hK24 _ _ ?_
        try clear hK24 K24
        refine wp_frame (a' := ⟨#[.pointer (some ⟨g, 0, none⟩), undef, (u4 2), (u4 3), .int .i64 ((k : Nat) : Int), .int .u32 ((valueOf ((l.drop at_).take (2 * k + 1)) : Nat) : Int), .int .i64 0, .int .i64 ((k : Nat) : Int), .pointer (some ⟨g, 0, none⟩), .int .i64 ((l.length - at_ : Nat) : Int), .bool true, .bool true, .pointer (some ⟨g, 0, none⟩), .pointer (some ⟨g, 0, none⟩), .pointer (some ⟨g, 0, none⟩), .slice A l.length c, .pointer (some ⟨g, 0, none⟩), .pointer (some ⟨g, 0, none⟩), .pointer (some ⟨g, 1, none⟩), .int .i64 ((at_ : Nat) : Int), .int .i64 ((k : Nat) : Int), .int .i64 ((at_ + k : Nat) : Int), .pointer (some ⟨b9, o10 + (at_ + k) * 1, none⟩), .int .u8 ((l.getD (at_ + k) 0 : Nat) : Int), .bool false, .bool false, (u4 26), (u4 27), (u4 28), (u4 29), .int .i64 ((k : Nat) : Int), .int .i64 (2 * ((k : Nat) : Int)), .int .i64 ((2 * ((k : Nat) : Int)) + 1), .pointer (some ⟨g, 0, none⟩), .int .i64 ((l.length - at_ : Nat) : Int), .bool false, .tuple #[.int .u32 ((valueOf ((l.drop at_).take (2 * k + 1)) : Nat) : Int), .int .i64 0], .pointer (some ⟨g, 0, none⟩), .int .i64 ((k : Nat) : Int), .int .i64 (2 * ((k : Nat) : Int)), .int .i64 ((2 * k + 1 : Nat) : Int), .tuple #[.int .u32 ((valueOf ((l.drop at_).take (2 * k + 1)) : Nat) : Int), .int .i64 0], .int .u32 ((valueOf ((l.drop at_).take (2 * k + 1)) : Nat) : Int), .int .i64 0, undef, undef, undef], []⟩) (by kernel_rfl) ?_
        refine wp_seq_k (fun K33 hK33 => ?_)
        refine wl_region ?_
        refine st_val (.int .u32 ((valueOf ((l.drop at_).take (2 * k + 1)) : Nat) : Int)) (by kernel_rfl) (by kernel_rfl) ?_
        refine st_val (.int .i64 ((valueOf ((l.drop at_).take (2 * k + 1)) : Nat) : Int)) (by kernel_rfl) (i64_of (by omega) (by kernel_rfl)) ?_
        refine st_val (.int .i64 (((valueOf ((l.drop at_).take (2 * k + 1)) : Nat) : Int) - 1)) (by kernel_rfl) (i64_of (by omega) (by kernel_rfl)) ?_
        refine st_val (.int .i64 (((valueOf ((l.drop at_).take (2 * k + 1)) : Nat) : Int) - 1)) (by kernel_rfl) (by kernel_rfl) ?_
        refine st_val (.int .i64 0) (by kernel_rfl) (by kernel_rfl) ?_
        refine wl_nil ?_
        refine hK33 _ _ ?_
        try clear hK33 K33
        refine wp_ret ?_
        have h := tkz_ok hmid (by omega) (by omega)
        exact done2 2 3 (.int .i64 (((valueOf ((l.drop at_).take (2 * k + 1)) : Nat) : Int) - 1)) (.int .i64 0) (by kernel_rfl) (by kernel_rfl) (by kernel_rfl) (by kernel_rfl) ⟨_, T27, rfl, ⟨by rw [h], by rw [h]; exact O31⟩, M32.sub (List.sublist_append_left T27 [])⟩
  ·
    refine seq_run (v := .bool false) (by decide) (by kernel_rfl) (fun w' M' => (bool_of (dec_f c10) (by kernel_rfl))) ?_
    refine seq_run (v := .bool false) (by decide) (by kernel_rfl) (fun w' M' => (by kernel_rfl)) ?_
    refine seq_skip (by decide) (by kernel_rfl) ?_
    refine seq_skip (by decide) (by kernel_rfl) ?_
    refine seq_skip (by decide) (by kernel_rfl) ?_
    refine seq_skip (by decide) (by kernel_rfl) ?_
    refine seq_skip (by decide) (by kernel_rfl) ?_
    refine seq_skip (by decide) (by kernel_rfl) ?_
    refine seq_skip (by decide) (by kernel_rfl) ?_
    refine seq_skip (by decide) (by kernel_rfl) ?_
    refine seq_skip (by decide) (by kernel_rfl) ?_
    refine seq_skip (by decide) (by kernel_rfl) ?_
    refine seq_skip (by decide) (by kernel_rfl) ?_
    refine seq_skip (by decide) (by kernel_rfl) ?_
    refine seq_skip (by decide) (by kernel_rfl) ?_
    refine seq_run (v := .bool false) (by decide) (by kernel_rfl) (fun w' M' => (by kernel_rfl)) ?_
    refine seq_end (by decide) ?_
    intro W34 M35
    refine wl_nil ?_
    refine hK8 _ _ ?_
    try clear hK8 K8
    refine wp_frame (a' := ⟨#[.pointer (some ⟨g, 0, none⟩), undef, (u4 2), (u4 3), .int .i64 ((k : Nat) : Int), undef, undef, .int .i64 ((k : Nat) : Int), .pointer (some ⟨g, 0, none⟩), .int .i64 ((l.length - at_ : Nat) : Int), .bool false, .bool false, undef, undef, undef, undef, undef, undef, undef, undef, undef, undef, undef, undef, undef, .bool false, (u4 26), (u4 27), (u4 28), (u4 29), undef, undef, undef, undef, undef, undef, undef, undef, undef, undef, undef, undef, undef, undef, undef, undef, undef], []⟩) (by kernel_rfl) ?_
    refine wp_cond_false (by kernel_rfl) ?_
    refine wp_exit ?_
    refine th_exit ?_
    refine th_exit ?_
    refine blk_exit ?_
    refine hK3 _ _ ?_
    try clear hK3 K3
    refine wp_seq_k (fun K36 hK36 => ?_)
    refine wp_seq_k (fun K37 hK37 => ?_)
    refine wl_region ?_
    refine st_val (.int .i64 ((k : Nat) : Int)) (by kernel_rfl) (by kernel_rfl) ?_
    refine st_val (.int .i64 (2 * ((k : Nat) : Int))) (by kernel_rfl) (i64_of (by omega) (by kernel_rfl)) ?_
    refine st_val (.int .i64 ((2 * ((k : Nat) : Int)) + 1)) (by kernel_rfl) (i64_of (by omega) (by kernel_rfl)) ?_
    refine st_val (.pointer (some ⟨g, 0, none⟩)) (by kernel_rfl) (by kernel_rfl) ?_
    refine st_callB M35 (.int .i64 ((l.length - at_ : Nat) : Int)) (by kernel_rfl) (args := #[.pointer (some ⟨g, 0, none⟩)]) (run_value_call 48 #[(Operand.tmp 33)] _ rfl Try.func48 (by kernel_rfl) (by kernel_rfl) _ (by kernel_rfl)) (qLeftM W34 hO (Mem.part (A := []) (T := ((g, .cells #[.slice A l.length c, .int .i64 ((at_ : Nat) : Int)] 49 (0, 0)) :: TB)) (B := []) M35)) ?_
    intro W38 M39
    rcases Decidable.em (((2 * ((k : Nat) : Int)) + 1 : Int) > ((l.length - at_ : Nat) : Int)) with c35 | c35
    ·
      refine st_val (.bool true) (by kernel_rfl) (bool_of (dec_t c35) (by kernel_rfl)) ?_
      refine wl_nil ?_
      refine hK37 _ _ ?_
      try clear hK37 K37
      refine wp_cond_true (by kernel_rfl) ?_
      refine wp_seq_k (fun K40 hK40 => ?_)
      refine wl_region ?_
      refine st_val (.int .i64 0) (by kernel_rfl) (by kernel_rfl) ?_
      refine st_val (.int .i64 4) (by kernel_rfl) (by kernel_rfl) ?_
      refine wl_nil ?_
      refine hK40 _ _ ?_
      try clear hK40 K40
      refine wp_ret ?_
      refine th_ret ?_
      have h : tk (l.drop at_) = (0, 4, 0) := by first | exact tkz_end (by omega) (by omega) hz | exact tkz_short (tkz_mid (k := k) (by omega) hz (by omega)) (by omega) (by omega)
      exact done2 2 3 (.int .i64 0) (.int .i64 4) (by kernel_rfl) (by kernel_rfl) (by kernel_rfl) (by kernel_rfl) ⟨_, ((g, .cells #[.slice A l.length c, .int .i64 ((at_ : Nat) : Int)] 49 (0, 0)) :: TB), rfl, ⟨by rw [h], by rw [h]; exact hO⟩, (show Mem _ w _ (((g, .cells #[.slice A l.length c, .int .i64 ((at_ : Nat) : Int)] 49 (0, 0)) :: TB) ++ []) from M39).sub (List.sublist_append_left _ [])⟩
    ·
      refine st_val (.bool false) (by kernel_rfl) (bool_of (dec_f c35) (by kernel_rfl)) ?_
      refine wl_nil ?_
      refine hK37 _ _ ?_
      try clear hK37 K37
      refine wp_cond_false (by kernel_rfl) ?_
      refine wp_skip ?_
      refine hK36 _ _ ?_
      try clear hK36 K36
      refine wp_seq_k (fun K41 hK41 => ?_)
      have hmid := tkz_mid (l := l) (a := at_) (k := k) (by omega) hz (by omega)
      have hval := tkz_val hbl hmid (by omega)
      have h2k : (2 : Nat) ^ k ≤ 2 ^ 16 := Nat.pow_le_pow_right (by decide) (by omega)
      refine wl_region ?_
      refine st_val (.pointer (some ⟨g, 0, none⟩)) (by kernel_rfl) (by kernel_rfl) ?_
      refine st_val (.int .i64 ((k : Nat) : Int)) (by kernel_rfl) (by kernel_rfl) ?_
      refine st_val (.int .i64 (2 * ((k : Nat) : Int))) (by kernel_rfl) (i64_of (by omega) (by kernel_rfl)) ?_
      refine st_val (.int .i64 ((2 * k + 1 : Nat) : Int)) (by kernel_rfl) (int_of (show 2 * ((k : Nat) : Int) + 1 = ((2 * k + 1 : Nat) : Int) by omega) (i64_of (by omega) (by kernel_rfl))) ?_
      have M42 : Mem (fun k => k ∈ (((g, .cells #[.slice A l.length c, .int .i64 ((at_ : Nat) : Int)] 49 (0, 0)) :: TB)).map (·.1)) w W38 ((((g, .cells #[.slice A l.length c, .int .i64 ((at_ : Nat) : Int)] 49 (0, 0)) :: TB) ++ [])) := M39
      refine st_callU (A := []) (T := ((g, .cells #[.slice A l.length c, .int .i64 ((at_ : Nat) : Int)] 49 (0, 0)) :: TB)) (B := []) M42 (by kernel_rfl) (run_value_call 49 #[(Operand.tmp 37), (Operand.tmp 40)] _ rfl Try.func49 (by kernel_rfl) (by kernel_rfl) _ (by kernel_rfl)) (qTakeM W38 hO (Mem.part (A := []) (T := ((g, .cells #[.slice A l.length c, .int .i64 ((at_ : Nat) : Int)] 49 (0, 0)) :: TB)) (B := []) M42) (2 * k + 1) (by omega) (by omega)) ?_
      intro v43 T44 W45 O46 M47
      obtain ⟨rfl, O48⟩ := O46
      have M49 : Mem (fun k => k ∈ (((g, .cells #[.slice A l.length c, .int .i64 ((at_ : Nat) : Int)] 49 (0, 0)) :: TB)).map (·.1)) w W45 ((T44 ++ [])) := M47
      refine st_val (.tuple #[.int .u32 ((valueOf ((l.drop at_).take (2 * k + 1)) : Nat) : Int), .int .i64 0]) (by kernel_rfl) (by kernel_rfl) ?_
      refine st_val (.int .u32 ((valueOf ((l.drop at_).take (2 * k + 1)) : Nat) : Int)) (by kernel_rfl) (by kernel_rfl) ?_
      refine st_val (.int .i64 0) (by kernel_rfl) (by kernel_rfl) ?_
      refine st_val (.int .u32 ((valueOf ((l.drop at_).take (2 * k + 1)) : Nat) : Int)) (by kernel_rfl) (by kernel_rfl) ?_
      refine st_val (.int .i64 0) (by kernel_rfl) (by kernel_rfl) ?_
      refine wl_nil ?_
      refine hK41 _ _ ?_
      try clear hK41 K41
      refine wp_frame (a' := ⟨#[.pointer (some ⟨g, 0, none⟩), undef, (u4 2), (u4 3), .int .i64 ((k : Nat) : Int), .int .u32 ((valueOf ((l.drop at_).take (2 * k + 1)) : Nat) : Int), .int .i64 0, .int .i64 ((k : Nat) : Int), .pointer (some ⟨g, 0, none⟩), .int .i64 ((l.length - at_ : Nat) : Int), .bool false, .bool false, undef, undef, undef, undef, undef, undef, undef, undef, undef, undef, undef, undef, undef, .bool false, (u4 26), (u4 27), (u4 28), (u4 29), .int .i64 ((k : Nat) : Int), .int .i64 (2 * ((k : Nat) : Int)), .int .i64 ((2 * ((k : Nat) : Int)) + 1), .pointer (some ⟨g, 0, none⟩), .int .i64 ((l.length - at_ : Nat) : Int), .bool false, .tuple #[.int .u32 ((valueOf ((l.drop at_).take (2 * k + 1)) : Nat) : Int), .int .i64 0], .pointer (some ⟨g, 0, none⟩), .int .i64 ((k : Nat) : Int), .int .i64 (2 * ((k : Nat) : Int)), .int .i64 ((2 * k + 1 : Nat) : Int), .tuple #[.int .u32 ((valueOf ((l.drop at_).take (2 * k + 1)) : Nat) : Int), .int .i64 0], .int .u32 ((valueOf ((l.drop at_).take (2 * k + 1)) : Nat) : Int), .int .i64 0, undef, undef, undef], []⟩) (by kernel_rfl) ?_
      refine wp_seq_k (fun K50 hK50 => ?_)
      refine wl_region ?_
      refine st_val (.int .u32 ((valueOf ((l.drop at_).take (2 * k + 1)) : Nat) : Int)) (by kernel_rfl) (by kernel_rfl) ?_
      refine st_val (.int .i64 ((valueOf ((l.drop at_).take (2 * k + 1)) : Nat) : Int)) (by kernel_rfl) (i64_of (by omega) (by kernel_rfl)) ?_
      refine st_val (.int .i64 (((valueOf ((l.drop at_).take (2 * k + 1)) : Nat) : Int) - 1)) (by kernel_rfl) (i64_of (by omega) (by kernel_rfl)) ?_
      refine st_val (.int .i64 (((valueOf ((l.drop at_).take (2 * k + 1)) : Nat) : Int) - 1)) (by kernel_rfl) (by kernel_rfl) ?_
      refine st_val (.int .i64 0) (by kernel_rfl) (by kernel_rfl) ?_
      refine wl_nil ?_
      refine hK50 _ _ ?_
      try clear hK50 K50
      refine wp_ret ?_
      have h := tkz_ok hmid (by omega) (by omega)
      exact done2 2 3 (.int .i64 (((valueOf ((l.drop at_).take (2 * k + 1)) : Nat) : Int) - 1)) (.int .i64 0) (by kernel_rfl) (by kernel_rfl) (by kernel_rfl) (by kernel_rfl) ⟨_, T44, rfl, ⟨by rw [h], by rw [h]; exact O48⟩, M49.sub (List.sublist_append_left T44 [])⟩
set_option maxHeartbeats 4000000 in
set_option maxRecDepth 100000 in
theorem qtks_walk (w : World) {g : Nat} {l : List Nat} {at_ : Nat} {T : List (Nat × Obj)} (hO : OwnQ g l at_ T) (hT : Mem (fun k => k ∈ T.map (·.1)) w w T) : UpdRow Try.prog 41 #[.pointer (some ⟨g, 0, none⟩)] w T (fun r T' => r = .tuple #[.int .i64 (tks (l.drop at_)), .int .i64 (tk (l.drop at_)).2.1] ∧ OwnQ g l (at_ + (tk (l.drop at_)).2.2) T') := by
  unfold UpdRow
  have M0 : Mem (fun k => k ∈ (T).map (·.1)) w w (T ++ []) := by rw [List.append_nil]; exact hT
  refine calls_of_wp Try.func41 rfl ?_
  refine wp_frame (a' := ⟨#[.pointer (some ⟨g, 0, none⟩), undef, undef, undef, undef, undef, undef, undef, undef, undef, undef, undef, undef, undef, undef, undef, undef, undef, undef, undef, undef, undef], []⟩) (by kernel_rfl) ?_
  refine wp_seq_k (fun K1 hK1 => ?_)
  refine wl_region ?_
  refine st_val (.int .i64 0) (by kernel_rfl) (by kernel_rfl) ?_
  refine st_val (.int .i64 0) (by kernel_rfl) (by kernel_rfl) ?_
  refine wl_nil ?_
  refine hK1 _ _ ?_
  try clear hK1 K1
  refine wp_seq_k (fun K2 hK2 => ?_)
  refine wl_region ?_
  refine st_val (.pointer (some ⟨g, 0, none⟩)) (by kernel_rfl) (by kernel_rfl) ?_
  refine st_callU (A := []) (T := T) (B := []) M0 (by kernel_rfl) (run_value_call 40 #[(Operand.tmp 7)] _ rfl Try.func40 (by kernel_rfl) (by kernel_rfl) _ (by kernel_rfl)) (qtk_walk w hO (Mem.part (A := []) (T := T) (B := []) M0)) ?_
  intro v3 T4 W5 O6 M7
  obtain ⟨rfl, O8⟩ := O6
  have M9 : Mem (fun k => k ∈ T.map (·.1)) w W5 ((T4 ++ [])) := M7
  refine st_val (.tuple #[.int .i64 ((tk (l.drop at_)).1), .int .i64 ((tk (l.drop at_)).2.1)]) (by kernel_rfl) (by kernel_rfl) ?_
  refine st_val (.int .i64 ((tk (l.drop at_)).1)) (by kernel_rfl) (by kernel_rfl) ?_
  refine st_val (.int .i64 ((tk (l.drop at_)).2.1)) (by kernel_rfl) (by kernel_rfl) ?_
  refine st_val (.int .i64 ((tk (l.drop at_)).1)) (by kernel_rfl) (by kernel_rfl) ?_
  refine st_val (.int .i64 ((tk (l.drop at_)).2.1)) (by kernel_rfl) (by kernel_rfl) ?_
  refine wl_nil ?_
  refine hK2 _ _ ?_
  try clear hK2 K2
  refine wp_seq_k (fun K10 hK10 => ?_)
  refine wp_seq_k (fun K11 hK11 => ?_)
  have htl := tk_drop_lt hO.le.2.2 at_
  refine wl_region ?_
  refine st_val (.int .i64 ((tk (l.drop at_)).1)) (by kernel_rfl) (by kernel_rfl) ?_
  refine st_val (.int .i64 (((tk (l.drop at_)).1) % 2)) (by kernel_rfl) (int_of (rem_of ((tk (l.drop at_)).1) 2 (by omega)) (by kernel_rfl)) ?_
  rcases Decidable.em ((((tk (l.drop at_)).1) % 2 : Int) = 1) with c13 | c13
  ·
    refine st_val (.bool true) (by kernel_rfl) (bool_of (dec_t c13) (by kernel_rfl)) ?_
    refine wl_nil ?_
    refine hK11 _ _ ?_
    try clear hK11 K11
    refine wp_cond_true (by kernel_rfl) ?_
    refine wp_seq_k (fun K12 hK12 => ?_)
    refine wl_region ?_
    refine st_val (.int .i64 ((tk (l.drop at_)).1)) (by kernel_rfl) (by kernel_rfl) ?_
    refine st_val (.int .i64 (((tk (l.drop at_)).1) + 1)) (by kernel_rfl) (i64_of (by omega) (by kernel_rfl)) ?_
    refine st_val (.int .i64 ((((tk (l.drop at_)).1) + 1) / 2)) (by kernel_rfl) (int_of (quo_of (((tk (l.drop at_)).1) + 1) 2 (by omega) (by omega) (by omega)) (by kernel_rfl)) ?_
    refine st_val (.int .i64 ((tk (l.drop at_)).2.1)) (by kernel_rfl) (by kernel_rfl) ?_
    refine st_val (.int .i64 ((((tk (l.drop at_)).1) + 1) / 2)) (by kernel_rfl) (by kernel_rfl) ?_
    refine st_val (.int .i64 ((tk (l.drop at_)).2.1)) (by kernel_rfl) (by kernel_rfl) ?_
    refine wl_nil ?_
    refine hK12 _ _ ?_
    try clear hK12 K12
    refine wp_frame (a' := ⟨#[.pointer (some ⟨g, 0, none⟩), undef, .int .i64 ((((tk (l.drop at_)).1) + 1) / 2), .int .i64 ((tk (l.drop at_)).2.1), .int .i64 ((tk (l.drop at_)).1), .int .i64 ((tk (l.drop at_)).2.1), .tuple #[.int .i64 ((tk (l.drop at_)).1), .int .i64 ((tk (l.drop at_)).2.1)], .pointer (some ⟨g, 0, none⟩), .tuple #[.int .i64 ((tk (l.drop at_)).1), .int .i64 ((tk (l.drop at_)).2.1)], .int .i64 ((tk (l.drop at_)).1), .int .i64 ((tk (l.drop at_)).2.1), .int .i64 ((tk (l.drop at_)).1), .int .i64 (((tk (l.drop at_)).1) % 2), .bool true, .int .i64 ((tk (l.drop at_)).1), .int .i64 (((tk (l.drop at_)).1) + 1), .int .i64 ((((tk (l.drop at_)).1) + 1) / 2), .int .i64 ((tk (l.drop at_)).2.1), undef, undef, undef, undef], []⟩) (by kernel_rfl) ?_
    refine wp_ret ?_
    refine th_ret ?_
    exact done2 2 3 (.int .i64 ((((tk (l.drop at_)).1) + 1) / 2)) (.int .i64 ((tk (l.drop at_)).2.1)) (by kernel_rfl) (by kernel_rfl) (by kernel_rfl) (by kernel_rfl) ⟨_, T4, rfl, ⟨by rw [tks_eq, sgn, if_pos c13], O8⟩, M9.sub (List.sublist_append_left T4 [])⟩
  ·
    refine st_val (.bool false) (by kernel_rfl) (bool_of (dec_f c13) (by kernel_rfl)) ?_
    refine wl_nil ?_
    refine hK11 _ _ ?_
    try clear hK11 K11
    refine wp_cond_false (by kernel_rfl) ?_
    refine wp_skip ?_
    refine hK10 _ _ ?_
    try clear hK10 K10
    refine wp_seq_k (fun K13 hK13 => ?_)
    refine wl_region ?_
    refine st_val (.int .i64 ((tk (l.drop at_)).1)) (by kernel_rfl) (by kernel_rfl) ?_
    refine st_val (.int .i64 (((tk (l.drop at_)).1) / 2)) (by kernel_rfl) (int_of (quo_of ((tk (l.drop at_)).1) 2 (by omega) (by omega) (by omega)) (by kernel_rfl)) ?_
    refine st_val (.int .i64 (-(((tk (l.drop at_)).1) / 2))) (by kernel_rfl) (int_of (show (0 : Int) - (((tk (l.drop at_)).1) / 2) = -(((tk (l.drop at_)).1) / 2) by omega) (i64_of (by omega) (by kernel_rfl))) ?_
    refine st_val (.int .i64 ((tk (l.drop at_)).2.1)) (by kernel_rfl) (by kernel_rfl) ?_
    refine st_val (.int .i64 (-(((tk (l.drop at_)).1) / 2))) (by kernel_rfl) (by kernel_rfl) ?_
    refine st_val (.int .i64 ((tk (l.drop at_)).2.1)) (by kernel_rfl) (by kernel_rfl) ?_
    refine wl_nil ?_
    refine hK13 _ _ ?_
    try clear hK13 K13
    refine wp_frame (a' := ⟨#[.pointer (some ⟨g, 0, none⟩), undef, .int .i64 (-(((tk (l.drop at_)).1) / 2)), .int .i64 ((tk (l.drop at_)).2.1), .int .i64 ((tk (l.drop at_)).1), .int .i64 ((tk (l.drop at_)).2.1), .tuple #[.int .i64 ((tk (l.drop at_)).1), .int .i64 ((tk (l.drop at_)).2.1)], .pointer (some ⟨g, 0, none⟩), .tuple #[.int .i64 ((tk (l.drop at_)).1), .int .i64 ((tk (l.drop at_)).2.1)], .int .i64 ((tk (l.drop at_)).1), .int .i64 ((tk (l.drop at_)).2.1), .int .i64 ((tk (l.drop at_)).1), .int .i64 (((tk (l.drop at_)).1) % 2), .bool false, undef, undef, undef, undef, .int .i64 ((tk (l.drop at_)).1), .int .i64 (((tk (l.drop at_)).1) / 2), .int .i64 (-(((tk (l.drop at_)).1) / 2)), .int .i64 ((tk (l.drop at_)).2.1)], []⟩) (by kernel_rfl) ?_
    refine wp_ret ?_
    exact done2 2 3 (.int .i64 (-(((tk (l.drop at_)).1) / 2))) (.int .i64 ((tk (l.drop at_)).2.1)) (by kernel_rfl) (by kernel_rfl) (by kernel_rfl) (by kernel_rfl) ⟨_, T4, rfl, ⟨by rw [tks_eq, sgn, if_neg c13], O8⟩, M9.sub (List.sublist_append_left T4 [])⟩
end Go.Proofs.Ytmchfkkifeioeaa
