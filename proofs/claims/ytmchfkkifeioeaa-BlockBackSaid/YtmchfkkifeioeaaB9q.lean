/- Blocks are read, as the reference does it. -/
import Derived.Test.YtmchfkkifeioeaaB9u
namespace Go.Proofs.Ytmchfkkifeioeaa
open Go.RowKit Bt

theorem btk_pos (L : List Nat) : ∀ n pos at_ x, pos ≤ L.length → (btk L n pos at_ x).2.2 ≤ L.length := by
  intro n
  induction n with
  | zero => intro pos at_ x h; exact h
  | succ n ih =>
    intro pos at_ x h
    have h0 := tk_drop_le h
    have h00 := tk_drop_le h0
    by_cases h1 : (tk (L.drop pos)).2.1 = 0
    case neg => rw [btk_err h1]; exact h0
    by_cases h2 : (tk (L.drop pos)).1 = 0
    · rw [btk_end h1 h2]; exact h0
    by_cases h3 : 64 ≤ at_ + (tk (L.drop pos)).1.toNat - 1
    case pos => rw [btk_far h1 h2 h3]; exact h0
    by_cases h4 : (tk (L.drop (pos + (tk (L.drop pos)).2.2))).2.1 = 0
    case neg => rw [btk_err2 h1 h2 h3 h4]; exact h00
    by_cases h5 : tks (L.drop (pos + (tk (L.drop pos)).2.2)) = 0 ∨ ¬ lev (tks (L.drop (pos + (tk (L.drop pos)).2.2)))
    case pos => rw [btk_bad h1 h2 h3 h4 h5]; exact h00
    rw [btk_next h1 h2 h3 h4 h5]
    exact ih _ _ _ h00
theorem btk_len (L : List Nat) : ∀ n pos at_ x, x.length = 64 → (btk L n pos at_ x).1.length = 64 := by
  intro n
  induction n with
  | zero => intro pos at_ x h; exact h
  | succ n ih =>
    intro pos at_ x h
    by_cases h1 : (tk (L.drop pos)).2.1 = 0
    case neg => rw [btk_err h1]; exact zeros_length
    by_cases h2 : (tk (L.drop pos)).1 = 0
    · rw [btk_end h1 h2]; exact h
    by_cases h3 : 64 ≤ at_ + (tk (L.drop pos)).1.toNat - 1
    case pos => rw [btk_far h1 h2 h3]; exact zeros_length
    by_cases h4 : (tk (L.drop (pos + (tk (L.drop pos)).2.2))).2.1 = 0
    case neg => rw [btk_err2 h1 h2 h3 h4]; exact zeros_length
    by_cases h5 : tks (L.drop (pos + (tk (L.drop pos)).2.2)) = 0 ∨ ¬ lev (tks (L.drop (pos + (tk (L.drop pos)).2.2)))
    case pos => rw [btk_bad h1 h2 h3 h4 h5]; exact zeros_length
    rw [btk_next h1 h2 h3 h4 h5]
    exact ih _ _ _ (by rw [List.length_set]; exact h)
set_option maxHeartbeats 4000000 in
set_option maxRecDepth 100000 in
theorem qbtk_arg (w : World) (g : Nat) (fr : Int) (hfr : ¬ (fr = 0 ∨ fr = 1)) : Calls Try.prog 19 #[.pointer (some ⟨g, 0, none⟩), .int .i64 fr] w fun e w' => e = .returned (.tuple #[.agg (iv zeros), .int .i64 1]) ∧ Below w.heap.size w w' := by
  refine calls_of_wp Try.func19 rfl ?_
  refine wp_frame (a' := ⟨#[.pointer (some ⟨g, 0, none⟩), .int .i64 fr, undef, undef, undef, undef, undef, undef, undef, undef, undef, undef, undef, undef, undef, undef, undef, undef, undef, undef, undef, undef, undef, undef, undef, undef, undef, undef, undef, undef, undef, undef, undef, undef, undef, undef, undef, undef, undef, undef, undef, undef, undef, undef, undef, undef, undef, undef, undef, undef, undef, undef, undef, undef, undef, undef, undef, undef, undef, undef], []⟩) (by kernel_rfl) ?_
  have M0 : Mem NoS w w [] := Mem.start _ _
  refine wp_seq_k (fun K1 hK1 => ?_)
  refine wl_region ?_
  refine st_alloc M0 (.cells (iv zeros) 23 (0, 0)) (by kernel_rfl) (by kernel_rfl) ?_
  intro g2 W3 M4
  refine st_val (.int .i64 0) (by kernel_rfl) (by kernel_rfl) ?_
  refine wl_nil ?_
  refine hK1 _ _ ?_
  try clear hK1 K1
  refine wp_seq_k (fun K5 hK5 => ?_)
  refine wl_region ?_
  refine st_alloc M4 (.cells (iv zeros) 23 (0, 0)) (by kernel_rfl) (by kernel_rfl) ?_
  intro g6 W7 M8
  refine wl_nil ?_
  refine hK5 _ _ ?_
  try clear hK5 K5
  refine wp_seq_k (fun K9 hK9 => ?_)
  refine wp_seq_k (fun K10 hK10 => ?_)
  refine wl_region ?_
  refine st_val (.int .i64 fr) (by kernel_rfl) (by kernel_rfl) ?_
  refine st_val (.bool true) (by kernel_rfl) (bool_of (neq_t (show ¬ ((fr : Int) = 0) by omega)) (by kernel_rfl)) ?_
  refine st_val (.bool true) (by kernel_rfl) (by kernel_rfl) ?_
  refine st_val (.int .i64 fr) (by kernel_rfl) (by kernel_rfl) ?_
  refine st_val (.bool true) (by kernel_rfl) (bool_of (neq_t (show ¬ ((fr : Int) = 1) by omega)) (by kernel_rfl)) ?_
  refine st_val (.bool true) (by kernel_rfl) (by kernel_rfl) ?_
  refine wl_nil ?_
  refine hK10 _ _ ?_
  try clear hK10 K10
  refine wp_cond_true (by kernel_rfl) ?_
  refine wp_seq_k (fun K11 hK11 => ?_)
  refine wl_region ?_
  refine st_val (.agg (iv zeros)) (by kernel_rfl) (run_load_row 23 (.tmp 6) rfl g6 (by kernel_rfl) 23 (iv zeros) (0, 0) _ (M8.get 0 rfl) Try.underlying23 rfl (info64 _ zeros_length)) ?_
  refine st_storeRow M8 1 rfl 23 (.tmp 4) (.tmp 17) (by rfl) (iv zeros) (by kernel_rfl) (by kernel_rfl) (info64 _ zeros_length) (iv_same zeros_length zeros_length) (iv_one _) (by kernel_rfl) [(g6, .cells (iv zeros) 23 (0, 0)), (g2, .cells (iv zeros) 23 (0, 0))] rfl ?_
  intro W12 M13
  refine st_val (.int .i64 1) (by kernel_rfl) (by kernel_rfl) ?_
  refine wl_nil ?_
  refine hK11 _ _ ?_
  try clear hK11 K11
  refine wp_ret ?_
  refine th_ret ?_
  exact doneRow2 4 23 5 (.int .i64 1) g2 23 (iv zeros) (0, 0) _ rfl (by kernel_rfl) (by kernel_rfl) (M13.get 1 rfl) Try.underlying23 rfl (info64 _ zeros_length) (by kernel_rfl) ⟨rfl, M13.toBelow⟩
set_option maxHeartbeats 4000000 in
set_option maxRecDepth 100000 in
theorem qbtk_walk (w : World) {g : Nat} {l : List Nat} {at_ : Nat} {T : List (Nat × Obj)} (hO : OwnQ g l at_ T) (hT : Mem (fun k => k ∈ T.map (·.1)) w w T) (f : Nat) (hf : f ≤ 1) : UpdRow Try.prog 19 #[.pointer (some ⟨g, 0, none⟩), .int .i64 (f : Int)] w T (fun r T' => r = .tuple #[.agg (iv (btk l 65 at_ f zeros).1), .int .i64 (btk l 65 at_ f zeros).2.1] ∧ OwnQ g l (btk l 65 at_ f zeros).2.2 T') := by
  unfold UpdRow
  have M0 : Mem (fun k => k ∈ (T).map (·.1)) w w (T ++ []) := by rw [List.append_nil]; exact hT
  refine calls_of_wp Try.func19 rfl ?_
  refine wp_frame (a' := ⟨#[.pointer (some ⟨g, 0, none⟩), .int .i64 ((f : Nat) : Int), undef, undef, undef, undef, undef, undef, undef, undef, undef, undef, undef, undef, undef, undef, undef, undef, undef, undef, undef, undef, undef, undef, undef, undef, undef, undef, undef, undef, undef, undef, undef, undef, undef, undef, undef, undef, undef, undef, undef, undef, undef, undef, undef, undef, undef, undef, undef, undef, undef, undef, undef, undef, undef, undef, undef, undef, undef, undef], []⟩) (by kernel_rfl) ?_
  refine wp_seq_k (fun K1 hK1 => ?_)
  refine wl_region ?_
  refine st_alloc M0 (.cells (iv zeros) 23 (0, 0)) (by kernel_rfl) (by kernel_rfl) ?_
  intro g2 W3 M4
  refine st_val (.int .i64 0) (by kernel_rfl) (by kernel_rfl) ?_
  refine wl_nil ?_
  refine hK1 _ _ ?_
  try clear hK1 K1
  refine wp_seq_k (fun K5 hK5 => ?_)
  refine wl_region ?_
  refine st_alloc M4 (.cells (iv zeros) 23 (0, 0)) (by kernel_rfl) (by kernel_rfl) ?_
  intro g6 W7 M8
  refine wl_nil ?_
  refine hK5 _ _ ?_
  try clear hK5 K5
  refine wp_seq_k (fun K9 hK9 => ?_)
  refine wp_seq_k (fun K10 hK10 => ?_)
  refine wl_region ?_
  refine st_val (.int .i64 ((f : Nat) : Int)) (by kernel_rfl) (by kernel_rfl) ?_
  rcases Decidable.em ((((f : Nat) : Int) : Int) = 0) with c12 | c12
  ·
    refine st_val (.bool false) (by kernel_rfl) (bool_of (neq_f c12) (by kernel_rfl)) ?_
    refine st_val (.bool false) (by kernel_rfl) (by kernel_rfl) ?_
    refine st_skip (by kernel_rfl) ?_
    refine st_skip (by kernel_rfl) ?_
    refine st_val (.bool false) (by kernel_rfl) (by kernel_rfl) ?_
    refine wl_nil ?_
    refine hK10 _ _ ?_
    try clear hK10 K10
    refine wp_cond_false (by kernel_rfl) ?_
    refine wp_skip ?_
    refine hK9 _ _ ?_
    try clear hK9 K9
    refine wp_seq_k (fun K11 hK11 => ?_)
    refine wl_region ?_
    refine st_val (.int .i64 ((f : Nat) : Int)) (by kernel_rfl) (by kernel_rfl) ?_
    refine st_val (.int .i64 ((f : Nat) : Int)) (by kernel_rfl) (by kernel_rfl) ?_
    refine wl_nil ?_
    refine hK11 _ _ ?_
    try clear hK11 K11
    refine wp_block ?_
    refine wp_loop_ghost (fun gn a' w' => ∃ (n : Nat) (q : Nat) (pos : Nat) (x : List Int) (T1 : List (Nat × Obj)) (u12 : Nat → Value), ((btk l (n + 1) pos q x = (btk l 65 at_ f zeros) ∧ q ≤ 64 ∧ 64 ≤ q + n ∧ x.length = 64 ∧ OwnQ g l pos T1) ∧ Mem (fun k => k ∈ T.map (·.1)) w w' ((g6, .cells (iv x) 23 (0, 0)) :: (g2, .cells (iv zeros) 23 (0, 0)) :: (T1 ++ []))) ∧ gn = n + 1 ∧ a' = ⟨#[.pointer (some ⟨g, 0, none⟩), .int .i64 ((f : Nat) : Int), undef, undef, .pointer (some ⟨g2, 0, none⟩), (u12 5), .pointer (some ⟨g6, 0, none⟩), .int .i64 ((q : Nat) : Int), (u12 8), (u12 9), (u12 10), .int .i64 ((f : Nat) : Int), .bool false, .bool false, undef, undef, .bool false, undef, .int .i64 ((f : Nat) : Int), (u12 19), (u12 20), (u12 21), (u12 22), (u12 23), (u12 24), (u12 25), (u12 26), (u12 27), (u12 28), (u12 29), (u12 30), (u12 31), (u12 32), (u12 33), (u12 34), (u12 35), (u12 36), (u12 37), (u12 38), (u12 39), (u12 40), (u12 41), (u12 42), (u12 43), (u12 44), (u12 45), (u12 46), (u12 47), (u12 48), (u12 49), (u12 50), (u12 51), (u12 52), (u12 53), (u12 54), (u12 55), (u12 56), (u12 57), (u12 58), (u12 59)], []⟩) _ ⟨64, f, at_, zeros, T, (fun zz => Array.getD #[.pointer (some ⟨g, 0, none⟩), .int .i64 ((f : Nat) : Int), undef, undef, .pointer (some ⟨g2, 0, none⟩), .int .i64 0, .pointer (some ⟨g6, 0, none⟩), .int .i64 ((f : Nat) : Int), undef, undef, undef, .int .i64 ((f : Nat) : Int), .bool false, .bool false, undef, undef, .bool false, undef, .int .i64 ((f : Nat) : Int), undef, undef, undef, undef, undef, undef, undef, undef, undef, undef, undef, undef, undef, undef, undef, undef, undef, undef, undef, undef, undef, undef, undef, undef, undef, undef, undef, undef, undef, undef, undef, undef, undef, undef, undef, undef, undef, undef, undef, undef, undef] zz undef), ⟨⟨rfl, by omega, by omega, zeros_length, hO⟩, M8⟩, rfl, (by kernel_rfl)⟩ ?_
    rintro gn _ W13 ⟨n, q, pos, x, T1, u12, ⟨⟨hB, rq, rn, hx, O1⟩, M14⟩, rfl, rfl⟩
    refine wp_block ?_
    refine wp_seq_k (fun K15 hK15 => ?_)
    refine wl_region ?_
    refine st_val (.pointer (some ⟨g, 0, none⟩)) (by kernel_rfl) (by kernel_rfl) ?_
    refine st_callU (A := [(g6, .cells (iv x) 23 (0, 0)), (g2, .cells (iv zeros) 23 (0, 0))]) (T := T1) (B := []) M14 (by kernel_rfl) (run_value_call 40 #[(Operand.tmp 20)] _ rfl Try.func40 (by kernel_rfl) (by kernel_rfl) _ (by kernel_rfl)) (qtk_walk W13 O1 (Mem.part (A := [(g6, .cells (iv x) 23 (0, 0)), (g2, .cells (iv zeros) 23 (0, 0))]) (T := T1) (B := []) M14)) ?_
    intro v16 T17 W18 O19 M20
    obtain ⟨rfl, O21⟩ := O19
    have M22 : Mem (fun k => k ∈ T.map (·.1)) w W18 ((g6, .cells (iv x) 23 (0, 0)) :: (g2, .cells (iv zeros) 23 (0, 0)) :: (T17 ++ [])) := M20
    refine st_val (.tuple #[.int .i64 ((tk (l.drop pos)).1), .int .i64 ((tk (l.drop pos)).2.1)]) (by kernel_rfl) (by kernel_rfl) ?_
    refine st_val (.int .i64 ((tk (l.drop pos)).1)) (by kernel_rfl) (by kernel_rfl) ?_
    refine st_val (.int .i64 ((tk (l.drop pos)).2.1)) (by kernel_rfl) (by kernel_rfl) ?_
    refine st_val (.int .i64 ((tk (l.drop pos)).1)) (by kernel_rfl) (by kernel_rfl) ?_
    refine st_val (.int .i64 ((tk (l.drop pos)).2.1)) (by kernel_rfl) (by kernel_rfl) ?_
    refine wl_nil ?_
    refine hK15 _ _ ?_
    try clear hK15 K15
    refine wp_seq_k (fun K23 hK23 => ?_)
    refine wp_seq_k (fun K24 hK24 => ?_)
    refine wl_region ?_
    refine st_val (.int .i64 ((tk (l.drop pos)).2.1)) (by kernel_rfl) (by kernel_rfl) ?_
    rcases Decidable.em (((tk (l.drop pos)).2.1 : Int) = 0) with c25 | c25
    ·
      refine st_val (.bool false) (by kernel_rfl) (bool_of (neq_f c25) (by kernel_rfl)) ?_
      refine wl_nil ?_
      refine hK24 _ _ ?_
      try clear hK24 K24
      refine wp_cond_false (by kernel_rfl) ?_
      refine wp_skip ?_
      refine hK23 _ _ ?_
      try clear hK23 K23
      refine wp_seq_k (fun K25 hK25 => ?_)
      refine wp_seq_k (fun K26 hK26 => ?_)
      refine wl_region ?_
      refine st_val (.int .i64 ((tk (l.drop pos)).1)) (by kernel_rfl) (by kernel_rfl) ?_
      rcases Decidable.em (((tk (l.drop pos)).1 : Int) = 0) with c29 | c29
      ·
        refine st_val (.bool true) (by kernel_rfl) (bool_of (dec_t c29) (by kernel_rfl)) ?_
        refine wl_nil ?_
        refine hK26 _ _ ?_
        try clear hK26 K26
        refine wp_cond_true (by kernel_rfl) ?_
        refine wp_seq_k (fun K27 hK27 => ?_)
        refine wl_region ?_
        refine st_val (.agg (iv x)) (by kernel_rfl) (run_load_row 23 (.tmp 6) rfl g6 (by kernel_rfl) 23 (iv x) (0, 0) _ (M22.get 0 rfl) Try.underlying23 rfl (info64 _ hx)) ?_
        refine st_storeRow M22 1 rfl 23 (.tmp 4) (.tmp 30) (by rfl) (iv x) (by kernel_rfl) (by kernel_rfl) (info64 _ hx) (iv_same hx zeros_length) (iv_one _) (by kernel_rfl) ((g6, .cells (iv x) 23 (0, 0)) :: (g2, .cells (iv x) 23 (0, 0)) :: (T17 ++ [])) rfl ?_
        intro W28 M29
        refine st_val (.int .i64 0) (by kernel_rfl) (by kernel_rfl) ?_
        refine wl_nil ?_
        refine hK27 _ _ ?_
        try clear hK27 K27
        refine wp_frame (a' := ⟨#[.pointer (some ⟨g, 0, none⟩), .int .i64 ((f : Nat) : Int), undef, undef, .pointer (some ⟨g2, 0, none⟩), .int .i64 0, .pointer (some ⟨g6, 0, none⟩), .int .i64 ((q : Nat) : Int), .int .i64 ((tk (l.drop pos)).1), .int .i64 ((tk (l.drop pos)).2.1), (u12 10), .int .i64 ((f : Nat) : Int), .bool false, .bool false, undef, undef, .bool false, undef, .int .i64 ((f : Nat) : Int), .tuple #[.int .i64 ((tk (l.drop pos)).1), .int .i64 ((tk (l.drop pos)).2.1)], .pointer (some ⟨g, 0, none⟩), .tuple #[.int .i64 ((tk (l.drop pos)).1), .int .i64 ((tk (l.drop pos)).2.1)], .int .i64 ((tk (l.drop pos)).1), .int .i64 ((tk (l.drop pos)).2.1), .int .i64 ((tk (l.drop pos)).2.1), .bool false, (u12 26), (u12 27), .int .i64 ((tk (l.drop pos)).1), .bool true, .agg (iv x), (u12 31), (u12 32), (u12 33), (u12 34), (u12 35), (u12 36), (u12 37), (u12 38), (u12 39), (u12 40), (u12 41), (u12 42), (u12 43), (u12 44), (u12 45), (u12 46), (u12 47), (u12 48), (u12 49), (u12 50), (u12 51), (u12 52), (u12 53), (u12 54), (u12 55), (u12 56), (u12 57), (u12 58), (u12 59)], []⟩) (by kernel_rfl) ?_
        refine wp_ret ?_
        refine th_ret ?_
        refine blk_ret ?_
        refine th_ret ?_
        refine blk_ret ?_
        rw [btk_end c25 c29] at hB
        exact doneRow2 4 23 5 (.int .i64 0) g2 23 (iv x) (0, 0) _ rfl (by kernel_rfl) (by kernel_rfl) (M29.get 1 rfl) Try.underlying23 rfl (info64 _ hx) (by kernel_rfl) ⟨_, T17, rfl, ⟨by rw [← hB], by rw [← hB]; exact O21⟩, M29.sub (((((List.sublist_append_left T17 [])).cons _)).cons _)⟩
      ·
        refine st_val (.bool false) (by kernel_rfl) (bool_of (dec_f c29) (by kernel_rfl)) ?_
        refine wl_nil ?_
        refine hK26 _ _ ?_
        try clear hK26 K26
        refine wp_cond_false (by kernel_rfl) ?_
        refine wp_skip ?_
        refine hK25 _ _ ?_
        try clear hK25 K25
        refine wp_seq_k (fun K30 hK30 => ?_)
        have htl := tk_drop_lt O1.le.2.2 pos
        refine wl_region ?_
        refine st_val (.int .i64 ((q : Nat) : Int)) (by kernel_rfl) (by kernel_rfl) ?_
        refine st_val (.int .i64 ((tk (l.drop pos)).1)) (by kernel_rfl) (by kernel_rfl) ?_
        refine st_val (.int .i64 (((q : Nat) : Int) + ((tk (l.drop pos)).1))) (by kernel_rfl) (i64_of (by omega) (by kernel_rfl)) ?_
        refine st_val (.int .i64 ((q + (tk (l.drop pos)).1.toNat - 1 : Nat) : Int)) (by kernel_rfl) (int_of (show ((q : Nat) : Int) + (tk (l.drop pos)).1 - 1 = ((q + (tk (l.drop pos)).1.toNat - 1 : Nat) : Int) by omega) (i64_of (by omega) (by kernel_rfl))) ?_
        refine st_val (.int .i64 ((q + (tk (l.drop pos)).1.toNat - 1 : Nat) : Int)) (by kernel_rfl) (by kernel_rfl) ?_
        refine wl_nil ?_
        refine hK30 _ _ ?_
        try clear hK30 K30
        refine wp_frame (a' := ⟨#[.pointer (some ⟨g, 0, none⟩), .int .i64 ((f : Nat) : Int), undef, undef, .pointer (some ⟨g2, 0, none⟩), (u12 5), .pointer (some ⟨g6, 0, none⟩), .int .i64 ((q + (tk (l.drop pos)).1.toNat - 1 : Nat) : Int), .int .i64 ((tk (l.drop pos)).1), .int .i64 ((tk (l.drop pos)).2.1), (u12 10), .int .i64 ((f : Nat) : Int), .bool false, .bool false, undef, undef, .bool false, undef, .int .i64 ((f : Nat) : Int), .tuple #[.int .i64 ((tk (l.drop pos)).1), .int .i64 ((tk (l.drop pos)).2.1)], .pointer (some ⟨g, 0, none⟩), .tuple #[.int .i64 ((tk (l.drop pos)).1), .int .i64 ((tk (l.drop pos)).2.1)], .int .i64 ((tk (l.drop pos)).1), .int .i64 ((tk (l.drop pos)).2.1), .int .i64 ((tk (l.drop pos)).2.1), .bool false, (u12 26), (u12 27), .int .i64 ((tk (l.drop pos)).1), .bool false, (u12 30), .int .i64 ((q : Nat) : Int), .int .i64 ((tk (l.drop pos)).1), .int .i64 (((q : Nat) : Int) + ((tk (l.drop pos)).1)), .int .i64 ((q + (tk (l.drop pos)).1.toNat - 1 : Nat) : Int), (u12 35), (u12 36), (u12 37), (u12 38), (u12 39), (u12 40), (u12 41), (u12 42), (u12 43), (u12 44), (u12 45), (u12 46), (u12 47), (u12 48), (u12 49), (u12 50), (u12 51), (u12 52), (u12 53), (u12 54), (u12 55), (u12 56), (u12 57), (u12 58), (u12 59)], []⟩) (by kernel_rfl) ?_
        refine wp_seq_k (fun K31 hK31 => ?_)
        refine wp_seq_k (fun K32 hK32 => ?_)
        refine wl_region ?_
        refine st_val (.int .i64 ((q + (tk (l.drop pos)).1.toNat - 1 : Nat) : Int)) (by kernel_rfl) (by kernel_rfl) ?_
        rcases Decidable.em ((((q + (tk (l.drop pos)).1.toNat - 1 : Nat) : Int) : Int) > 63) with c36 | c36
        ·
          refine st_val (.bool true) (by kernel_rfl) (bool_of (dec_t c36) (by kernel_rfl)) ?_
          refine wl_nil ?_
          refine hK32 _ _ ?_
          try clear hK32 K32
          refine wp_cond_true (by kernel_rfl) ?_
          refine wp_seq_k (fun K33 hK33 => ?_)
          refine wl_region ?_
          refine st_val (.agg (iv zeros)) (by kernel_rfl) (by kernel_rfl) ?_
          refine st_storeRow M22 1 rfl 23 (.tmp 4) (.tmp 37) (by rfl) (iv zeros) (by kernel_rfl) (by kernel_rfl) (info64 _ zeros_length) (iv_same zeros_length zeros_length) (iv_one _) (by kernel_rfl) ((g6, .cells (iv x) 23 (0, 0)) :: (g2, .cells (iv zeros) 23 (0, 0)) :: (T17 ++ [])) rfl ?_
          intro W34 M35
          refine st_val (.int .i64 3) (by kernel_rfl) (by kernel_rfl) ?_
          refine wl_nil ?_
          refine hK33 _ _ ?_
          try clear hK33 K33
          refine wp_ret ?_
          refine th_ret ?_
          refine blk_ret ?_
          refine th_ret ?_
          refine blk_ret ?_
          rw [btk_far c25 c29 (by omega)] at hB
          exact doneRow2 4 23 5 (.int .i64 3) g2 23 (iv zeros) (0, 0) _ rfl (by kernel_rfl) (by kernel_rfl) (M35.get 1 rfl) Try.underlying23 rfl (info64 _ zeros_length) (by kernel_rfl) ⟨_, T17, rfl, ⟨by rw [← hB], by rw [← hB]; exact O21⟩, M35.sub (((((List.sublist_append_left T17 [])).cons _)).cons _)⟩
        ·
          refine st_val (.bool false) (by kernel_rfl) (bool_of (dec_f c36) (by kernel_rfl)) ?_
          refine wl_nil ?_
          refine hK32 _ _ ?_
          try clear hK32 K32
          refine wp_cond_false (by kernel_rfl) ?_
          refine wp_skip ?_
          refine hK31 _ _ ?_
          try clear hK31 K31
          refine wp_seq_k (fun K36 hK36 => ?_)
          refine wl_region ?_
          refine st_val (.pointer (some ⟨g, 0, none⟩)) (by kernel_rfl) (by kernel_rfl) ?_
          refine st_callU (A := [(g6, .cells (iv x) 23 (0, 0)), (g2, .cells (iv zeros) 23 (0, 0))]) (T := T17) (B := []) M22 (by kernel_rfl) (run_value_call 41 #[(Operand.tmp 39)] _ rfl Try.func41 (by kernel_rfl) (by kernel_rfl) _ (by kernel_rfl)) (qtks_walk W18 O21 (Mem.part (A := [(g6, .cells (iv x) 23 (0, 0)), (g2, .cells (iv zeros) 23 (0, 0))]) (T := T17) (B := []) M22)) ?_
          intro v37 T38 W39 O40 M41
          obtain ⟨rfl, O42⟩ := O40
          have M43 : Mem (fun k => k ∈ T.map (·.1)) w W39 ((g6, .cells (iv x) 23 (0, 0)) :: (g2, .cells (iv zeros) 23 (0, 0)) :: (T38 ++ [])) := M41
          refine st_val (.tuple #[.int .i64 (tks (l.drop (pos + (tk (l.drop pos)).2.2))), .int .i64 ((tk (l.drop (pos + (tk (l.drop pos)).2.2))).2.1)]) (by kernel_rfl) (by kernel_rfl) ?_
          refine st_val (.int .i64 (tks (l.drop (pos + (tk (l.drop pos)).2.2)))) (by kernel_rfl) (by kernel_rfl) ?_
          refine st_val (.int .i64 ((tk (l.drop (pos + (tk (l.drop pos)).2.2))).2.1)) (by kernel_rfl) (by kernel_rfl) ?_
          refine st_val (.int .i64 (tks (l.drop (pos + (tk (l.drop pos)).2.2)))) (by kernel_rfl) (by kernel_rfl) ?_
          refine st_val (.int .i64 ((tk (l.drop (pos + (tk (l.drop pos)).2.2))).2.1)) (by kernel_rfl) (by kernel_rfl) ?_
          refine wl_nil ?_
          refine hK36 _ _ ?_
          try clear hK36 K36
          refine wp_seq_k (fun K44 hK44 => ?_)
          refine wp_seq_k (fun K45 hK45 => ?_)
          refine wl_region ?_
          refine st_val (.int .i64 ((tk (l.drop (pos + (tk (l.drop pos)).2.2))).2.1)) (by kernel_rfl) (by kernel_rfl) ?_
          rcases Decidable.em (((tk (l.drop (pos + (tk (l.drop pos)).2.2))).2.1 : Int) = 0) with c44 | c44
          ·
            refine st_val (.bool false) (by kernel_rfl) (bool_of (neq_f c44) (by kernel_rfl)) ?_
            refine wl_nil ?_
            refine hK45 _ _ ?_
            try clear hK45 K45
            refine wp_cond_false (by kernel_rfl) ?_
            refine wp_skip ?_
            refine hK44 _ _ ?_
            try clear hK44 K44
            refine wp_seq_k (fun K46 hK46 => ?_)
            refine wp_seq_k (fun K47 hK47 => ?_)
            refine wl_region ?_
            refine st_val (.int .i64 (tks (l.drop (pos + (tk (l.drop pos)).2.2)))) (by kernel_rfl) (by kernel_rfl) ?_
            rcases Decidable.em ((tks (l.drop (pos + (tk (l.drop pos)).2.2)) : Int) = 0) with c48 | c48
            ·
              refine st_val (.bool true) (by kernel_rfl) (bool_of (dec_t c48) (by kernel_rfl)) ?_
              refine st_val (.bool true) (by kernel_rfl) (by kernel_rfl) ?_
              refine st_skip (by kernel_rfl) ?_
              refine st_skip (by kernel_rfl) ?_
              refine st_skip (by kernel_rfl) ?_
              refine st_val (.bool true) (by kernel_rfl) (by kernel_rfl) ?_
              refine wl_nil ?_
              refine hK47 _ _ ?_
              try clear hK47 K47
              refine wp_frame (a' := ⟨#[.pointer (some ⟨g, 0, none⟩), .int .i64 ((f : Nat) : Int), undef, undef, .pointer (some ⟨g2, 0, none⟩), (u12 5), .pointer (some ⟨g6, 0, none⟩), .int .i64 ((q + (tk (l.drop pos)).1.toNat - 1 : Nat) : Int), .int .i64 ((tk (l.drop pos)).1), .int .i64 ((tk (l.drop (pos + (tk (l.drop pos)).2.2))).2.1), .int .i64 (tks (l.drop (pos + (tk (l.drop pos)).2.2))), .int .i64 ((f : Nat) : Int), .bool false, .bool false, undef, undef, .bool false, undef, .int .i64 ((f : Nat) : Int), .tuple #[.int .i64 ((tk (l.drop pos)).1), .int .i64 ((tk (l.drop pos)).2.1)], .pointer (some ⟨g, 0, none⟩), .tuple #[.int .i64 ((tk (l.drop pos)).1), .int .i64 ((tk (l.drop pos)).2.1)], .int .i64 ((tk (l.drop pos)).1), .int .i64 ((tk (l.drop pos)).2.1), .int .i64 ((tk (l.drop pos)).2.1), .bool false, (u12 26), (u12 27), .int .i64 ((tk (l.drop pos)).1), .bool false, (u12 30), .int .i64 ((q : Nat) : Int), .int .i64 ((tk (l.drop pos)).1), .int .i64 (((q : Nat) : Int) + ((tk (l.drop pos)).1)), .int .i64 ((q + (tk (l.drop pos)).1.toNat - 1 : Nat) : Int), .int .i64 ((q + (tk (l.drop pos)).1.toNat - 1 : Nat) : Int), .bool false, (u12 37), .tuple #[.int .i64 (tks (l.drop (pos + (tk (l.drop pos)).2.2))), .int .i64 ((tk (l.drop (pos + (tk (l.drop pos)).2.2))).2.1)], .pointer (some ⟨g, 0, none⟩), .tuple #[.int .i64 (tks (l.drop (pos + (tk (l.drop pos)).2.2))), .int .i64 ((tk (l.drop (pos + (tk (l.drop pos)).2.2))).2.1)], .int .i64 (tks (l.drop (pos + (tk (l.drop pos)).2.2))), .int .i64 ((tk (l.drop (pos + (tk (l.drop pos)).2.2))).2.1), .int .i64 ((tk (l.drop (pos + (tk (l.drop pos)).2.2))).2.1), .bool false, (u12 45), (u12 46), .int .i64 (tks (l.drop (pos + (tk (l.drop pos)).2.2))), .bool true, .bool true, undef, undef, undef, .bool true, (u12 54), (u12 55), (u12 56), (u12 57), (u12 58), (u12 59)], []⟩) (by kernel_rfl) ?_
              refine wp_cond_true (by kernel_rfl) ?_
              refine wp_seq_k (fun K48 hK48 => ?_)
              refine wl_region ?_
              refine st_val (.agg (iv zeros)) (by kernel_rfl) (by kernel_rfl) ?_
              refine st_storeRow M43 1 rfl 23 (.tmp 4) (.tmp 54) (by rfl) (iv zeros) (by kernel_rfl) (by kernel_rfl) (info64 _ zeros_length) (iv_same zeros_length zeros_length) (iv_one _) (by kernel_rfl) ((g6, .cells (iv x) 23 (0, 0)) :: (g2, .cells (iv zeros) 23 (0, 0)) :: (T38 ++ [])) rfl ?_
              intro W49 M50
              refine st_val (.int .i64 3) (by kernel_rfl) (by kernel_rfl) ?_
              refine wl_nil ?_
              refine hK48 _ _ ?_
              try clear hK48 K48
              refine wp_ret ?_
              refine th_ret ?_
              refine blk_ret ?_
              refine th_ret ?_
              refine blk_ret ?_
              rw [btk_bad c25 c29 (by omega) c44 (by first | exact .inl c48 | exact .inr hlv)] at hB
              exact doneRow2 4 23 5 (.int .i64 3) g2 23 (iv zeros) (0, 0) _ rfl (by kernel_rfl) (by kernel_rfl) (M50.get 1 rfl) Try.underlying23 rfl (info64 _ zeros_length) (by kernel_rfl) ⟨_, T38, rfl, ⟨by rw [← hB], by rw [← hB]; exact O42⟩, M50.sub (((((List.sublist_append_left T38 [])).cons _)).cons _)⟩
            ·
              refine st_val (.bool false) (by kernel_rfl) (bool_of (dec_f c48) (by kernel_rfl)) ?_
              refine st_val (.bool false) (by kernel_rfl) (by kernel_rfl) ?_
              refine st_val (.int .i64 (tks (l.drop (pos + (tk (l.drop pos)).2.2)))) (by kernel_rfl) (by kernel_rfl) ?_
              rcases Classical.em (lev (tks (l.drop (pos + (tk (l.drop pos)).2.2)))) with hlv | hlv
              ·
                refine st_callB M43 (.bool true) (by kernel_rfl) (args := #[.int .i64 (tks (l.drop (pos + (tk (l.drop pos)).2.2)))]) (run_value_call 28 #[(Operand.tmp 50)] _ rfl Try.func28 (by kernel_rfl) (by kernel_rfl) _ (by kernel_rfl)) ((by have := level_walk W39 (tks (l.drop (pos + (tk (l.drop pos)).2.2))); rw [decide_eq_true hlv] at this; exact this)) ?_
                intro W51 M52
                refine st_val (.bool false) (by kernel_rfl) (by kernel_rfl) ?_
                refine st_val (.bool false) (by kernel_rfl) (by kernel_rfl) ?_
                refine wl_nil ?_
                refine hK47 _ _ ?_
                try clear hK47 K47
                refine wp_frame (a' := ⟨#[.pointer (some ⟨g, 0, none⟩), .int .i64 ((f : Nat) : Int), undef, undef, .pointer (some ⟨g2, 0, none⟩), (u12 5), .pointer (some ⟨g6, 0, none⟩), .int .i64 ((q + (tk (l.drop pos)).1.toNat - 1 : Nat) : Int), .int .i64 ((tk (l.drop pos)).1), .int .i64 ((tk (l.drop (pos + (tk (l.drop pos)).2.2))).2.1), .int .i64 (tks (l.drop (pos + (tk (l.drop pos)).2.2))), .int .i64 ((f : Nat) : Int), .bool false, .bool false, undef, undef, .bool false, undef, .int .i64 ((f : Nat) : Int), .tuple #[.int .i64 ((tk (l.drop pos)).1), .int .i64 ((tk (l.drop pos)).2.1)], .pointer (some ⟨g, 0, none⟩), .tuple #[.int .i64 ((tk (l.drop pos)).1), .int .i64 ((tk (l.drop pos)).2.1)], .int .i64 ((tk (l.drop pos)).1), .int .i64 ((tk (l.drop pos)).2.1), .int .i64 ((tk (l.drop pos)).2.1), .bool false, (u12 26), (u12 27), .int .i64 ((tk (l.drop pos)).1), .bool false, (u12 30), .int .i64 ((q : Nat) : Int), .int .i64 ((tk (l.drop pos)).1), .int .i64 (((q : Nat) : Int) + ((tk (l.drop pos)).1)), .int .i64 ((q + (tk (l.drop pos)).1.toNat - 1 : Nat) : Int), .int .i64 ((q + (tk (l.drop pos)).1.toNat - 1 : Nat) : Int), .bool false, (u12 37), .tuple #[.int .i64 (tks (l.drop (pos + (tk (l.drop pos)).2.2))), .int .i64 ((tk (l.drop (pos + (tk (l.drop pos)).2.2))).2.1)], .pointer (some ⟨g, 0, none⟩), .tuple #[.int .i64 (tks (l.drop (pos + (tk (l.drop pos)).2.2))), .int .i64 ((tk (l.drop (pos + (tk (l.drop pos)).2.2))).2.1)], .int .i64 (tks (l.drop (pos + (tk (l.drop pos)).2.2))), .int .i64 ((tk (l.drop (pos + (tk (l.drop pos)).2.2))).2.1), .int .i64 ((tk (l.drop (pos + (tk (l.drop pos)).2.2))).2.1), .bool false, (u12 45), (u12 46), .int .i64 (tks (l.drop (pos + (tk (l.drop pos)).2.2))), .bool false, .bool false, .int .i64 (tks (l.drop (pos + (tk (l.drop pos)).2.2))), .bool true, .bool false, .bool false, (u12 54), (u12 55), (u12 56), (u12 57), (u12 58), (u12 59)], []⟩) (by kernel_rfl) ?_
                refine wp_cond_false (by kernel_rfl) ?_
                refine wp_skip ?_
                refine hK46 _ _ ?_
                try clear hK46 K46
                refine wp_seq_k (fun K53 hK53 => ?_)
                refine wl_region ?_
                refine st_val (.int .i64 ((q + (tk (l.drop pos)).1.toNat - 1 : Nat) : Int)) (by kernel_rfl) (by kernel_rfl) ?_
                refine st_val (.int .i64 (tks (l.drop (pos + (tk (l.drop pos)).2.2)))) (by kernel_rfl) (by kernel_rfl) ?_
                refine st_val (.pointer (some ⟨g6, q + (tk (l.drop pos)).1.toNat - 1, none⟩)) (by kernel_rfl) (run_indexAddr 23 (.tmp 6) (.tmp 55) rfl ⟨g6, 0, none⟩ .i64 (q + (tk (l.drop pos)).1.toNat - 1) (by kernel_rfl) (by kernel_rfl) Try.underlying23 1 (by kernel_rfl) (by omega) ⟨g6, q + (tk (l.drop pos)).1.toNat - 1, none⟩ (addr_at0 _ _)) ?_
                refine st_storeCell M52 0 rfl 3 (.tmp 57) (.tmp 56) (by rfl) (q + (tk (l.drop pos)).1.toNat - 1) (.int .i64 (tks (l.drop (pos + (tk (l.drop pos)).2.2)))) (iv (x.set (q + (tk (l.drop pos)).1.toNat - 1) (tks (l.drop (pos + (tk (l.drop pos)).2.2))))) (by kernel_rfl) (by kernel_rfl) (by rw [iv_size, hx]; omega) (by kernel_rfl) rfl (by kernel_rfl) (iv_set _ _ _) (by kernel_rfl) ((g6, .cells (iv (x.set (q + (tk (l.drop pos)).1.toNat - 1) (tks (l.drop (pos + (tk (l.drop pos)).2.2))))) 23 (0, 0)) :: (g2, .cells (iv zeros) 23 (0, 0)) :: (T38 ++ [])) rfl ?_
                intro W54 M55
                refine wl_nil ?_
                refine hK53 _ _ ?_
                try clear hK53 K53
                refine wl_region ?_
                refine st_val (.int .i64 ((q + (tk (l.drop pos)).1.toNat - 1 : Nat) : Int)) (by kernel_rfl) (by kernel_rfl) ?_
                refine st_val (.int .i64 ((q + (tk (l.drop pos)).1.toNat : Nat) : Int)) (by kernel_rfl) (int_of (show ((q + (tk (l.drop pos)).1.toNat - 1 : Nat) : Int) + 1 = ((q + (tk (l.drop pos)).1.toNat : Nat) : Int) by omega) (i64_of (by omega) (by kernel_rfl))) ?_
                refine st_val (.int .i64 ((q + (tk (l.drop pos)).1.toNat : Nat) : Int)) (by kernel_rfl) (by kernel_rfl) ?_
                refine wl_nil ?_
                refine blk_normal ?_
                refine th_normal ?_
                obtain ⟨n, rfl⟩ : ∃ k, n = k + 1 := ⟨n - 1, by omega⟩
                rw [btk_next c25 c29 (by omega) c44 (by first | (intro h; rcases h with h | h; exact c48 h; exact h hlv))] at hB
                exact ⟨_, (by omega), n, (q + (tk (l.drop pos)).1.toNat), (pos + (tk (l.drop pos)).2.2 + (tk (l.drop (pos + (tk (l.drop pos)).2.2))).2.2), (x.set (q + (tk (l.drop pos)).1.toNat - 1) (tks (l.drop (pos + (tk (l.drop pos)).2.2)))), T38, (fun zz => Array.getD #[.pointer (some ⟨g, 0, none⟩), .int .i64 ((f : Nat) : Int), undef, undef, .pointer (some ⟨g2, 0, none⟩), (u12 5), .pointer (some ⟨g6, 0, none⟩), .int .i64 ((q + (tk (l.drop pos)).1.toNat : Nat) : Int), .int .i64 ((tk (l.drop pos)).1), .int .i64 ((tk (l.drop (pos + (tk (l.drop pos)).2.2))).2.1), .int .i64 (tks (l.drop (pos + (tk (l.drop pos)).2.2))), .int .i64 ((f : Nat) : Int), .bool false, .bool false, undef, undef, .bool false, undef, .int .i64 ((f : Nat) : Int), .tuple #[.int .i64 ((tk (l.drop pos)).1), .int .i64 ((tk (l.drop pos)).2.1)], .pointer (some ⟨g, 0, none⟩), .tuple #[.int .i64 ((tk (l.drop pos)).1), .int .i64 ((tk (l.drop pos)).2.1)], .int .i64 ((tk (l.drop pos)).1), .int .i64 ((tk (l.drop pos)).2.1), .int .i64 ((tk (l.drop pos)).2.1), .bool false, (u12 26), (u12 27), .int .i64 ((tk (l.drop pos)).1), .bool false, (u12 30), .int .i64 ((q : Nat) : Int), .int .i64 ((tk (l.drop pos)).1), .int .i64 (((q : Nat) : Int) + ((tk (l.drop pos)).1)), .int .i64 ((q + (tk (l.drop pos)).1.toNat - 1 : Nat) : Int), .int .i64 ((q + (tk (l.drop pos)).1.toNat - 1 : Nat) : Int), .bool false, (u12 37), .tuple #[.int .i64 (tks (l.drop (pos + (tk (l.drop pos)).2.2))), .int .i64 ((tk (l.drop (pos + (tk (l.drop pos)).2.2))).2.1)], .pointer (some ⟨g, 0, none⟩), .tuple #[.int .i64 (tks (l.drop (pos + (tk (l.drop pos)).2.2))), .int .i64 ((tk (l.drop (pos + (tk (l.drop pos)).2.2))).2.1)], .int .i64 (tks (l.drop (pos + (tk (l.drop pos)).2.2))), .int .i64 ((tk (l.drop (pos + (tk (l.drop pos)).2.2))).2.1), .int .i64 ((tk (l.drop (pos + (tk (l.drop pos)).2.2))).2.1), .bool false, (u12 45), (u12 46), .int .i64 (tks (l.drop (pos + (tk (l.drop pos)).2.2))), .bool false, .bool false, .int .i64 (tks (l.drop (pos + (tk (l.drop pos)).2.2))), .bool true, .bool false, .bool false, (u12 54), .int .i64 ((q + (tk (l.drop pos)).1.toNat - 1 : Nat) : Int), .int .i64 (tks (l.drop (pos + (tk (l.drop pos)).2.2))), .pointer (some ⟨g6, q + (tk (l.drop pos)).1.toNat - 1, none⟩), .int .i64 ((q + (tk (l.drop pos)).1.toNat - 1 : Nat) : Int), .int .i64 ((q + (tk (l.drop pos)).1.toNat : Nat) : Int)] zz undef), ⟨⟨hB, by omega, by omega, by rw [List.length_set]; exact hx, O42⟩, M55⟩, rfl, (by kernel_rfl)⟩
              ·
                refine st_callB M43 (.bool false) (by kernel_rfl) (args := #[.int .i64 (tks (l.drop (pos + (tk (l.drop pos)).2.2)))]) (run_value_call 28 #[(Operand.tmp 50)] _ rfl Try.func28 (by kernel_rfl) (by kernel_rfl) _ (by kernel_rfl)) ((by have := level_walk W39 (tks (l.drop (pos + (tk (l.drop pos)).2.2))); rw [decide_eq_false hlv] at this; exact this)) ?_
                intro W56 M57
                refine st_val (.bool true) (by kernel_rfl) (by kernel_rfl) ?_
                refine st_val (.bool true) (by kernel_rfl) (by kernel_rfl) ?_
                refine wl_nil ?_
                refine hK47 _ _ ?_
                try clear hK47 K47
                refine wp_frame (a' := ⟨#[.pointer (some ⟨g, 0, none⟩), .int .i64 ((f : Nat) : Int), undef, undef, .pointer (some ⟨g2, 0, none⟩), (u12 5), .pointer (some ⟨g6, 0, none⟩), .int .i64 ((q + (tk (l.drop pos)).1.toNat - 1 : Nat) : Int), .int .i64 ((tk (l.drop pos)).1), .int .i64 ((tk (l.drop (pos + (tk (l.drop pos)).2.2))).2.1), .int .i64 (tks (l.drop (pos + (tk (l.drop pos)).2.2))), .int .i64 ((f : Nat) : Int), .bool false, .bool false, undef, undef, .bool false, undef, .int .i64 ((f : Nat) : Int), .tuple #[.int .i64 ((tk (l.drop pos)).1), .int .i64 ((tk (l.drop pos)).2.1)], .pointer (some ⟨g, 0, none⟩), .tuple #[.int .i64 ((tk (l.drop pos)).1), .int .i64 ((tk (l.drop pos)).2.1)], .int .i64 ((tk (l.drop pos)).1), .int .i64 ((tk (l.drop pos)).2.1), .int .i64 ((tk (l.drop pos)).2.1), .bool false, (u12 26), (u12 27), .int .i64 ((tk (l.drop pos)).1), .bool false, (u12 30), .int .i64 ((q : Nat) : Int), .int .i64 ((tk (l.drop pos)).1), .int .i64 (((q : Nat) : Int) + ((tk (l.drop pos)).1)), .int .i64 ((q + (tk (l.drop pos)).1.toNat - 1 : Nat) : Int), .int .i64 ((q + (tk (l.drop pos)).1.toNat - 1 : Nat) : Int), .bool false, (u12 37), .tuple #[.int .i64 (tks (l.drop (pos + (tk (l.drop pos)).2.2))), .int .i64 ((tk (l.drop (pos + (tk (l.drop pos)).2.2))).2.1)], .pointer (some ⟨g, 0, none⟩), .tuple #[.int .i64 (tks (l.drop (pos + (tk (l.drop pos)).2.2))), .int .i64 ((tk (l.drop (pos + (tk (l.drop pos)).2.2))).2.1)], .int .i64 (tks (l.drop (pos + (tk (l.drop pos)).2.2))), .int .i64 ((tk (l.drop (pos + (tk (l.drop pos)).2.2))).2.1), .int .i64 ((tk (l.drop (pos + (tk (l.drop pos)).2.2))).2.1), .bool false, (u12 45), (u12 46), .int .i64 (tks (l.drop (pos + (tk (l.drop pos)).2.2))), .bool false, .bool false, .int .i64 (tks (l.drop (pos + (tk (l.drop pos)).2.2))), .bool false, .bool true, .bool true, (u12 54), (u12 55), (u12 56), (u12 57), (u12 58), (u12 59)], []⟩) (by kernel_rfl) ?_
                refine wp_cond_true (by kernel_rfl) ?_
                refine wp_seq_k (fun K58 hK58 => ?_)
                refine wl_region ?_
                refine st_val (.agg (iv zeros)) (by kernel_rfl) (by kernel_rfl) ?_
                refine st_storeRow M57 1 rfl 23 (.tmp 4) (.tmp 54) (by rfl) (iv zeros) (by kernel_rfl) (by kernel_rfl) (info64 _ zeros_length) (iv_same zeros_length zeros_length) (iv_one _) (by kernel_rfl) ((g6, .cells (iv x) 23 (0, 0)) :: (g2, .cells (iv zeros) 23 (0, 0)) :: (T38 ++ [])) rfl ?_
                intro W59 M60
                refine st_val (.int .i64 3) (by kernel_rfl) (by kernel_rfl) ?_
                refine wl_nil ?_
                refine hK58 _ _ ?_
                try clear hK58 K58
                refine wp_ret ?_
                refine th_ret ?_
                refine blk_ret ?_
                refine th_ret ?_
                refine blk_ret ?_
                rw [btk_bad c25 c29 (by omega) c44 (by first | exact .inl c48 | exact .inr hlv)] at hB
                exact doneRow2 4 23 5 (.int .i64 3) g2 23 (iv zeros) (0, 0) _ rfl (by kernel_rfl) (by kernel_rfl) (M60.get 1 rfl) Try.underlying23 rfl (info64 _ zeros_length) (by kernel_rfl) ⟨_, T38, rfl, ⟨by rw [← hB], by rw [← hB]; exact O42⟩, M60.sub (((((List.sublist_append_left T38 [])).cons _)).cons _)⟩
          ·
            refine st_val (.bool true) (by kernel_rfl) (bool_of (neq_t c44) (by kernel_rfl)) ?_
            refine wl_nil ?_
            refine hK45 _ _ ?_
            try clear hK45 K45
            refine wp_cond_true (by kernel_rfl) ?_
            refine wp_seq_k (fun K61 hK61 => ?_)
            refine wl_region ?_
            refine st_val (.agg (iv zeros)) (by kernel_rfl) (by kernel_rfl) ?_
            refine st_val (.int .i64 ((tk (l.drop (pos + (tk (l.drop pos)).2.2))).2.1)) (by kernel_rfl) (by kernel_rfl) ?_
            refine st_storeRow M43 1 rfl 23 (.tmp 4) (.tmp 45) (by rfl) (iv zeros) (by kernel_rfl) (by kernel_rfl) (info64 _ zeros_length) (iv_same zeros_length zeros_length) (iv_one _) (by kernel_rfl) ((g6, .cells (iv x) 23 (0, 0)) :: (g2, .cells (iv zeros) 23 (0, 0)) :: (T38 ++ [])) rfl ?_
            intro W62 M63
            refine st_val (.int .i64 ((tk (l.drop (pos + (tk (l.drop pos)).2.2))).2.1)) (by kernel_rfl) (by kernel_rfl) ?_
            refine wl_nil ?_
            refine hK61 _ _ ?_
            try clear hK61 K61
            refine wp_frame (a' := ⟨#[.pointer (some ⟨g, 0, none⟩), .int .i64 ((f : Nat) : Int), undef, undef, .pointer (some ⟨g2, 0, none⟩), .int .i64 ((tk (l.drop (pos + (tk (l.drop pos)).2.2))).2.1), .pointer (some ⟨g6, 0, none⟩), .int .i64 ((q + (tk (l.drop pos)).1.toNat - 1 : Nat) : Int), .int .i64 ((tk (l.drop pos)).1), .int .i64 ((tk (l.drop (pos + (tk (l.drop pos)).2.2))).2.1), .int .i64 (tks (l.drop (pos + (tk (l.drop pos)).2.2))), .int .i64 ((f : Nat) : Int), .bool false, .bool false, undef, undef, .bool false, undef, .int .i64 ((f : Nat) : Int), .tuple #[.int .i64 ((tk (l.drop pos)).1), .int .i64 ((tk (l.drop pos)).2.1)], .pointer (some ⟨g, 0, none⟩), .tuple #[.int .i64 ((tk (l.drop pos)).1), .int .i64 ((tk (l.drop pos)).2.1)], .int .i64 ((tk (l.drop pos)).1), .int .i64 ((tk (l.drop pos)).2.1), .int .i64 ((tk (l.drop pos)).2.1), .bool false, (u12 26), (u12 27), .int .i64 ((tk (l.drop pos)).1), .bool false, (u12 30), .int .i64 ((q : Nat) : Int), .int .i64 ((tk (l.drop pos)).1), .int .i64 (((q : Nat) : Int) + ((tk (l.drop pos)).1)), .int .i64 ((q + (tk (l.drop pos)).1.toNat - 1 : Nat) : Int), .int .i64 ((q + (tk (l.drop pos)).1.toNat - 1 : Nat) : Int), .bool false, (u12 37), .tuple #[.int .i64 (tks (l.drop (pos + (tk (l.drop pos)).2.2))), .int .i64 ((tk (l.drop (pos + (tk (l.drop pos)).2.2))).2.1)], .pointer (some ⟨g, 0, none⟩), .tuple #[.int .i64 (tks (l.drop (pos + (tk (l.drop pos)).2.2))), .int .i64 ((tk (l.drop (pos + (tk (l.drop pos)).2.2))).2.1)], .int .i64 (tks (l.drop (pos + (tk (l.drop pos)).2.2))), .int .i64 ((tk (l.drop (pos + (tk (l.drop pos)).2.2))).2.1), .int .i64 ((tk (l.drop (pos + (tk (l.drop pos)).2.2))).2.1), .bool true, .agg (iv zeros), .int .i64 ((tk (l.drop (pos + (tk (l.drop pos)).2.2))).2.1), (u12 47), (u12 48), (u12 49), (u12 50), (u12 51), (u12 52), (u12 53), (u12 54), (u12 55), (u12 56), (u12 57), (u12 58), (u12 59)], []⟩) (by kernel_rfl) ?_
            refine wp_ret ?_
            refine th_ret ?_
            refine blk_ret ?_
            refine th_ret ?_
            refine blk_ret ?_
            rw [btk_err2 c25 c29 (by omega) c44] at hB
            exact doneRow2 4 23 5 (.int .i64 ((tk (l.drop (pos + (tk (l.drop pos)).2.2))).2.1)) g2 23 (iv zeros) (0, 0) _ rfl (by kernel_rfl) (by kernel_rfl) (M63.get 1 rfl) Try.underlying23 rfl (info64 _ zeros_length) (by kernel_rfl) ⟨_, T38, rfl, ⟨by rw [← hB], by rw [← hB]; exact O42⟩, M63.sub (((((List.sublist_append_left T38 [])).cons _)).cons _)⟩
    ·
      refine st_val (.bool true) (by kernel_rfl) (bool_of (neq_t c25) (by kernel_rfl)) ?_
      refine wl_nil ?_
      refine hK24 _ _ ?_
      try clear hK24 K24
      refine wp_cond_true (by kernel_rfl) ?_
      refine wp_seq_k (fun K64 hK64 => ?_)
      refine wl_region ?_
      refine st_val (.agg (iv zeros)) (by kernel_rfl) (by kernel_rfl) ?_
      refine st_val (.int .i64 ((tk (l.drop pos)).2.1)) (by kernel_rfl) (by kernel_rfl) ?_
      refine st_storeRow M22 1 rfl 23 (.tmp 4) (.tmp 26) (by rfl) (iv zeros) (by kernel_rfl) (by kernel_rfl) (info64 _ zeros_length) (iv_same zeros_length zeros_length) (iv_one _) (by kernel_rfl) ((g6, .cells (iv x) 23 (0, 0)) :: (g2, .cells (iv zeros) 23 (0, 0)) :: (T17 ++ [])) rfl ?_
      intro W65 M66
      refine st_val (.int .i64 ((tk (l.drop pos)).2.1)) (by kernel_rfl) (by kernel_rfl) ?_
      refine wl_nil ?_
      refine hK64 _ _ ?_
      try clear hK64 K64
      refine wp_ret ?_
      refine th_ret ?_
      refine blk_ret ?_
      refine th_ret ?_
      refine blk_ret ?_
      rw [btk_err c25] at hB
      exact doneRow2 4 23 5 (.int .i64 ((tk (l.drop pos)).2.1)) g2 23 (iv zeros) (0, 0) _ rfl (by kernel_rfl) (by kernel_rfl) (M66.get 1 rfl) Try.underlying23 rfl (info64 _ zeros_length) (by kernel_rfl) ⟨_, T17, rfl, ⟨by rw [← hB], by rw [← hB]; exact O21⟩, M66.sub (((((List.sublist_append_left T17 [])).cons _)).cons _)⟩
  ·
    refine st_val (.bool true) (by kernel_rfl) (bool_of (neq_t c12) (by kernel_rfl)) ?_
    refine st_val (.bool true) (by kernel_rfl) (by kernel_rfl) ?_
    refine st_val (.int .i64 ((f : Nat) : Int)) (by kernel_rfl) (by kernel_rfl) ?_
    refine st_val (.bool false) (by kernel_rfl) (bool_of (neq_f (show (((f : Nat) : Int) : Int) = 1 by omega)) (by kernel_rfl)) ?_
    refine st_val (.bool false) (by kernel_rfl) (by kernel_rfl) ?_
    refine wl_nil ?_
    refine hK10 _ _ ?_
    try clear hK10 K10
    refine wp_cond_false (by kernel_rfl) ?_
    refine wp_skip ?_
    refine hK9 _ _ ?_
    try clear hK9 K9
    refine wp_seq_k (fun K67 hK67 => ?_)
    refine wl_region ?_
    refine st_val (.int .i64 ((f : Nat) : Int)) (by kernel_rfl) (by kernel_rfl) ?_
    refine st_val (.int .i64 ((f : Nat) : Int)) (by kernel_rfl) (by kernel_rfl) ?_
    refine wl_nil ?_
    refine hK67 _ _ ?_
    try clear hK67 K67
    refine wp_block ?_
    refine wp_loop_ghost (fun gn a' w' => ∃ (n : Nat) (q : Nat) (pos : Nat) (x : List Int) (T1 : List (Nat × Obj)) (u68 : Nat → Value), ((btk l (n + 1) pos q x = (btk l 65 at_ f zeros) ∧ q ≤ 64 ∧ 64 ≤ q + n ∧ x.length = 64 ∧ OwnQ g l pos T1) ∧ Mem (fun k => k ∈ T.map (·.1)) w w' ((g6, .cells (iv x) 23 (0, 0)) :: (g2, .cells (iv zeros) 23 (0, 0)) :: (T1 ++ []))) ∧ gn = n + 1 ∧ a' = ⟨#[.pointer (some ⟨g, 0, none⟩), .int .i64 ((f : Nat) : Int), undef, undef, .pointer (some ⟨g2, 0, none⟩), (u68 5), .pointer (some ⟨g6, 0, none⟩), .int .i64 ((q : Nat) : Int), (u68 8), (u68 9), (u68 10), .int .i64 ((f : Nat) : Int), .bool true, .bool true, .int .i64 ((f : Nat) : Int), .bool false, .bool false, undef, .int .i64 ((f : Nat) : Int), (u68 19), (u68 20), (u68 21), (u68 22), (u68 23), (u68 24), (u68 25), (u68 26), (u68 27), (u68 28), (u68 29), (u68 30), (u68 31), (u68 32), (u68 33), (u68 34), (u68 35), (u68 36), (u68 37), (u68 38), (u68 39), (u68 40), (u68 41), (u68 42), (u68 43), (u68 44), (u68 45), (u68 46), (u68 47), (u68 48), (u68 49), (u68 50), (u68 51), (u68 52), (u68 53), (u68 54), (u68 55), (u68 56), (u68 57), (u68 58), (u68 59)], []⟩) _ ⟨64, f, at_, zeros, T, (fun zz => Array.getD #[.pointer (some ⟨g, 0, none⟩), .int .i64 ((f : Nat) : Int), undef, undef, .pointer (some ⟨g2, 0, none⟩), .int .i64 0, .pointer (some ⟨g6, 0, none⟩), .int .i64 ((f : Nat) : Int), undef, undef, undef, .int .i64 ((f : Nat) : Int), .bool true, .bool true, .int .i64 ((f : Nat) : Int), .bool false, .bool false, undef, .int .i64 ((f : Nat) : Int), undef, undef, undef, undef, undef, undef, undef, undef, undef, undef, undef, undef, undef, undef, undef, undef, undef, undef, undef, undef, undef, undef, undef, undef, undef, undef, undef, undef, undef, undef, undef, undef, undef, undef, undef, undef, undef, undef, undef, undef, undef] zz undef), ⟨⟨rfl, by omega, by omega, zeros_length, hO⟩, M8⟩, rfl, (by kernel_rfl)⟩ ?_
    rintro gn _ W69 ⟨n, q, pos, x, T1, u68, ⟨⟨hB, rq, rn, hx, O1⟩, M70⟩, rfl, rfl⟩
    refine wp_block ?_
    refine wp_seq_k (fun K71 hK71 => ?_)
    refine wl_region ?_
    refine st_val (.pointer (some ⟨g, 0, none⟩)) (by kernel_rfl) (by kernel_rfl) ?_
    refine st_callU (A := [(g6, .cells (iv x) 23 (0, 0)), (g2, .cells (iv zeros) 23 (0, 0))]) (T := T1) (B := []) M70 (by kernel_rfl) (run_value_call 40 #[(Operand.tmp 20)] _ rfl Try.func40 (by kernel_rfl) (by kernel_rfl) _ (by kernel_rfl)) (qtk_walk W69 O1 (Mem.part (A := [(g6, .cells (iv x) 23 (0, 0)), (g2, .cells (iv zeros) 23 (0, 0))]) (T := T1) (B := []) M70)) ?_
    intro v72 T73 W74 O75 M76
    obtain ⟨rfl, O77⟩ := O75
    have M78 : Mem (fun k => k ∈ T.map (·.1)) w W74 ((g6, .cells (iv x) 23 (0, 0)) :: (g2, .cells (iv zeros) 23 (0, 0)) :: (T73 ++ [])) := M76
    refine st_val (.tuple #[.int .i64 ((tk (l.drop pos)).1), .int .i64 ((tk (l.drop pos)).2.1)]) (by kernel_rfl) (by kernel_rfl) ?_
    refine st_val (.int .i64 ((tk (l.drop pos)).1)) (by kernel_rfl) (by kernel_rfl) ?_
    refine st_val (.int .i64 ((tk (l.drop pos)).2.1)) (by kernel_rfl) (by kernel_rfl) ?_
    refine st_val (.int .i64 ((tk (l.drop pos)).1)) (by kernel_rfl) (by kernel_rfl) ?_
    refine st_val (.int .i64 ((tk (l.drop pos)).2.1)) (by kernel_rfl) (by kernel_rfl) ?_
    refine wl_nil ?_
    refine hK71 _ _ ?_
    try clear hK71 K71
    refine wp_seq_k (fun K79 hK79 => ?_)
    refine wp_seq_k (fun K80 hK80 => ?_)
    refine wl_region ?_
    refine st_val (.int .i64 ((tk (l.drop pos)).2.1)) (by kernel_rfl) (by kernel_rfl) ?_
    rcases Decidable.em (((tk (l.drop pos)).2.1 : Int) = 0) with c25 | c25
    ·
      refine st_val (.bool false) (by kernel_rfl) (bool_of (neq_f c25) (by kernel_rfl)) ?_
      refine wl_nil ?_
      refine hK80 _ _ ?_
      try clear hK80 K80
      refine wp_cond_false (by kernel_rfl) ?_
      refine wp_skip ?_
      refine hK79 _ _ ?_
      try clear hK79 K79
      refine wp_seq_k (fun K81 hK81 => ?_)
      refine wp_seq_k (fun K82 hK82 => ?_)
      refine wl_region ?_
      refine st_val (.int .i64 ((tk (l.drop pos)).1)) (by kernel_rfl) (by kernel_rfl) ?_
      rcases Decidable.em (((tk (l.drop pos)).1 : Int) = 0) with c29 | c29
      ·
        refine st_val (.bool true) (by kernel_rfl) (bool_of (dec_t c29) (by kernel_rfl)) ?_
        refine wl_nil ?_
        refine hK82 _ _ ?_
        try clear hK82 K82
        refine wp_cond_true (by kernel_rfl) ?_
        refine wp_seq_k (fun K83 hK83 => ?_)
        refine wl_region ?_
        refine st_val (.agg (iv x)) (by kernel_rfl) (run_load_row 23 (.tmp 6) rfl g6 (by kernel_rfl) 23 (iv x) (0, 0) _ (M78.get 0 rfl) Try.underlying23 rfl (info64 _ hx)) ?_
        refine st_storeRow M78 1 rfl 23 (.tmp 4) (.tmp 30) (by rfl) (iv x) (by kernel_rfl) (by kernel_rfl) (info64 _ hx) (iv_same hx zeros_length) (iv_one _) (by kernel_rfl) ((g6, .cells (iv x) 23 (0, 0)) :: (g2, .cells (iv x) 23 (0, 0)) :: (T73 ++ [])) rfl ?_
        intro W84 M85
        refine st_val (.int .i64 0) (by kernel_rfl) (by kernel_rfl) ?_
        refine wl_nil ?_
        refine hK83 _ _ ?_
        try clear hK83 K83
        refine wp_frame (a' := ⟨#[.pointer (some ⟨g, 0, none⟩), .int .i64 ((f : Nat) : Int), undef, undef, .pointer (some ⟨g2, 0, none⟩), .int .i64 0, .pointer (some ⟨g6, 0, none⟩), .int .i64 ((q : Nat) : Int), .int .i64 ((tk (l.drop pos)).1), .int .i64 ((tk (l.drop pos)).2.1), (u68 10), .int .i64 ((f : Nat) : Int), .bool true, .bool true, .int .i64 ((f : Nat) : Int), .bool false, .bool false, undef, .int .i64 ((f : Nat) : Int), .tuple #[.int .i64 ((tk (l.drop pos)).1), .int .i64 ((tk (l.drop pos)).2.1)], .pointer (some ⟨g, 0, none⟩), .tuple #[.int .i64 ((tk (l.drop pos)).1), .int .i64 ((tk (l.drop pos)).2.1)], .int .i64 ((tk (l.drop pos)).1), .int .i64 ((tk (l.drop pos)).2.1), .int .i64 ((tk (l.drop pos)).2.1), .bool false, (u68 26), (u68 27), .int .i64 ((tk (l.drop pos)).1), .bool true, .agg (iv x), (u68 31), (u68 32), (u68 33), (u68 34), (u68 35), (u68 36), (u68 37), (u68 38), (u68 39), (u68 40), (u68 41), (u68 42), (u68 43), (u68 44), (u68 45), (u68 46), (u68 47), (u68 48), (u68 49), (u68 50), (u68 51), (u68 52), (u68 53), (u68 54), (u68 55), (u68 56), (u68 57), (u68 58), (u68 59)], []⟩) (by kernel_rfl) ?_
        refine wp_ret ?_
        refine th_ret ?_
        refine blk_ret ?_
        refine th_ret ?_
        refine blk_ret ?_
        rw [btk_end c25 c29] at hB
        exact doneRow2 4 23 5 (.int .i64 0) g2 23 (iv x) (0, 0) _ rfl (by kernel_rfl) (by kernel_rfl) (M85.get 1 rfl) Try.underlying23 rfl (info64 _ hx) (by kernel_rfl) ⟨_, T73, rfl, ⟨by rw [← hB], by rw [← hB]; exact O77⟩, M85.sub (((((List.sublist_append_left T73 [])).cons _)).cons _)⟩
      ·
        refine st_val (.bool false) (by kernel_rfl) (bool_of (dec_f c29) (by kernel_rfl)) ?_
        refine wl_nil ?_
        refine hK82 _ _ ?_
        try clear hK82 K82
        refine wp_cond_false (by kernel_rfl) ?_
        refine wp_skip ?_
        refine hK81 _ _ ?_
        try clear hK81 K81
        refine wp_seq_k (fun K86 hK86 => ?_)
        have htl := tk_drop_lt O1.le.2.2 pos
        refine wl_region ?_
        refine st_val (.int .i64 ((q : Nat) : Int)) (by kernel_rfl) (by kernel_rfl) ?_
        refine st_val (.int .i64 ((tk (l.drop pos)).1)) (by kernel_rfl) (by kernel_rfl) ?_
        refine st_val (.int .i64 (((q : Nat) : Int) + ((tk (l.drop pos)).1))) (by kernel_rfl) (i64_of (by omega) (by kernel_rfl)) ?_
        refine st_val (.int .i64 ((q + (tk (l.drop pos)).1.toNat - 1 : Nat) : Int)) (by kernel_rfl) (int_of (show ((q : Nat) : Int) + (tk (l.drop pos)).1 - 1 = ((q + (tk (l.drop pos)).1.toNat - 1 : Nat) : Int) by omega) (i64_of (by omega) (by kernel_rfl))) ?_
        refine st_val (.int .i64 ((q + (tk (l.drop pos)).1.toNat - 1 : Nat) : Int)) (by kernel_rfl) (by kernel_rfl) ?_
        refine wl_nil ?_
        refine hK86 _ _ ?_
        try clear hK86 K86
        refine wp_frame (a' := ⟨#[.pointer (some ⟨g, 0, none⟩), .int .i64 ((f : Nat) : Int), undef, undef, .pointer (some ⟨g2, 0, none⟩), (u68 5), .pointer (some ⟨g6, 0, none⟩), .int .i64 ((q + (tk (l.drop pos)).1.toNat - 1 : Nat) : Int), .int .i64 ((tk (l.drop pos)).1), .int .i64 ((tk (l.drop pos)).2.1), (u68 10), .int .i64 ((f : Nat) : Int), .bool true, .bool true, .int .i64 ((f : Nat) : Int), .bool false, .bool false, undef, .int .i64 ((f : Nat) : Int), .tuple #[.int .i64 ((tk (l.drop pos)).1), .int .i64 ((tk (l.drop pos)).2.1)], .pointer (some ⟨g, 0, none⟩), .tuple #[.int .i64 ((tk (l.drop pos)).1), .int .i64 ((tk (l.drop pos)).2.1)], .int .i64 ((tk (l.drop pos)).1), .int .i64 ((tk (l.drop pos)).2.1), .int .i64 ((tk (l.drop pos)).2.1), .bool false, (u68 26), (u68 27), .int .i64 ((tk (l.drop pos)).1), .bool false, (u68 30), .int .i64 ((q : Nat) : Int), .int .i64 ((tk (l.drop pos)).1), .int .i64 (((q : Nat) : Int) + ((tk (l.drop pos)).1)), .int .i64 ((q + (tk (l.drop pos)).1.toNat - 1 : Nat) : Int), (u68 35), (u68 36), (u68 37), (u68 38), (u68 39), (u68 40), (u68 41), (u68 42), (u68 43), (u68 44), (u68 45), (u68 46), (u68 47), (u68 48), (u68 49), (u68 50), (u68 51), (u68 52), (u68 53), (u68 54), (u68 55), (u68 56), (u68 57), (u68 58), (u68 59)], []⟩) (by kernel_rfl) ?_
        refine wp_seq_k (fun K87 hK87 => ?_)
        refine wp_seq_k (fun K88 hK88 => ?_)
        refine wl_region ?_
        refine st_val (.int .i64 ((q + (tk (l.drop pos)).1.toNat - 1 : Nat) : Int)) (by kernel_rfl) (by kernel_rfl) ?_
        rcases Decidable.em ((((q + (tk (l.drop pos)).1.toNat - 1 : Nat) : Int) : Int) > 63) with c36 | c36
        ·
          refine st_val (.bool true) (by kernel_rfl) (bool_of (dec_t c36) (by kernel_rfl)) ?_
          refine wl_nil ?_
          refine hK88 _ _ ?_
          try clear hK88 K88
          refine wp_cond_true (by kernel_rfl) ?_
          refine wp_seq_k (fun K89 hK89 => ?_)
          refine wl_region ?_
          refine st_val (.agg (iv zeros)) (by kernel_rfl) (by kernel_rfl) ?_
          refine st_storeRow M78 1 rfl 23 (.tmp 4) (.tmp 37) (by rfl) (iv zeros) (by kernel_rfl) (by kernel_rfl) (info64 _ zeros_length) (iv_same zeros_length zeros_length) (iv_one _) (by kernel_rfl) ((g6, .cells (iv x) 23 (0, 0)) :: (g2, .cells (iv zeros) 23 (0, 0)) :: (T73 ++ [])) rfl ?_
          intro W90 M91
          refine st_val (.int .i64 3) (by kernel_rfl) (by kernel_rfl) ?_
          refine wl_nil ?_
          refine hK89 _ _ ?_
          try clear hK89 K89
          refine wp_ret ?_
          refine th_ret ?_
          refine blk_ret ?_
          refine th_ret ?_
          refine blk_ret ?_
          rw [btk_far c25 c29 (by omega)] at hB
          exact doneRow2 4 23 5 (.int .i64 3) g2 23 (iv zeros) (0, 0) _ rfl (by kernel_rfl) (by kernel_rfl) (M91.get 1 rfl) Try.underlying23 rfl (info64 _ zeros_length) (by kernel_rfl) ⟨_, T73, rfl, ⟨by rw [← hB], by rw [← hB]; exact O77⟩, M91.sub (((((List.sublist_append_left T73 [])).cons _)).cons _)⟩
        ·
          refine st_val (.bool false) (by kernel_rfl) (bool_of (dec_f c36) (by kernel_rfl)) ?_
          refine wl_nil ?_
          refine hK88 _ _ ?_
          try clear hK88 K88
          refine wp_cond_false (by kernel_rfl) ?_
          refine wp_skip ?_
          refine hK87 _ _ ?_
          try clear hK87 K87
          refine wp_seq_k (fun K92 hK92 => ?_)
          refine wl_region ?_
          refine st_val (.pointer (some ⟨g, 0, none⟩)) (by kernel_rfl) (by kernel_rfl) ?_
          refine st_callU (A := [(g6, .cells (iv x) 23 (0, 0)), (g2, .cells (iv zeros) 23 (0, 0))]) (T := T73) (B := []) M78 (by kernel_rfl) (run_value_call 41 #[(Operand.tmp 39)] _ rfl Try.func41 (by kernel_rfl) (by kernel_rfl) _ (by kernel_rfl)) (qtks_walk W74 O77 (Mem.part (A := [(g6, .cells (iv x) 23 (0, 0)), (g2, .cells (iv zeros) 23 (0, 0))]) (T := T73) (B := []) M78)) ?_
          intro v93 T94 W95 O96 M97
          obtain ⟨rfl, O98⟩ := O96
          have M99 : Mem (fun k => k ∈ T.map (·.1)) w W95 ((g6, .cells (iv x) 23 (0, 0)) :: (g2, .cells (iv zeros) 23 (0, 0)) :: (T94 ++ [])) := M97
          refine st_val (.tuple #[.int .i64 (tks (l.drop (pos + (tk (l.drop pos)).2.2))), .int .i64 ((tk (l.drop (pos + (tk (l.drop pos)).2.2))).2.1)]) (by kernel_rfl) (by kernel_rfl) ?_
          refine st_val (.int .i64 (tks (l.drop (pos + (tk (l.drop pos)).2.2)))) (by kernel_rfl) (by kernel_rfl) ?_
          refine st_val (.int .i64 ((tk (l.drop (pos + (tk (l.drop pos)).2.2))).2.1)) (by kernel_rfl) (by kernel_rfl) ?_
          refine st_val (.int .i64 (tks (l.drop (pos + (tk (l.drop pos)).2.2)))) (by kernel_rfl) (by kernel_rfl) ?_
          refine st_val (.int .i64 ((tk (l.drop (pos + (tk (l.drop pos)).2.2))).2.1)) (by kernel_rfl) (by kernel_rfl) ?_
          refine wl_nil ?_
          refine hK92 _ _ ?_
          try clear hK92 K92
          refine wp_seq_k (fun K100 hK100 => ?_)
          refine wp_seq_k (fun K101 hK101 => ?_)
          refine wl_region ?_
          refine st_val (.int .i64 ((tk (l.drop (pos + (tk (l.drop pos)).2.2))).2.1)) (by kernel_rfl) (by kernel_rfl) ?_
          rcases Decidable.em (((tk (l.drop (pos + (tk (l.drop pos)).2.2))).2.1 : Int) = 0) with c44 | c44
          ·
            refine st_val (.bool false) (by kernel_rfl) (bool_of (neq_f c44) (by kernel_rfl)) ?_
            refine wl_nil ?_
            refine hK101 _ _ ?_
            try clear hK101 K101
            refine wp_cond_false (by kernel_rfl) ?_
            refine wp_skip ?_
            refine hK100 _ _ ?_
            try clear hK100 K100
            refine wp_seq_k (fun K102 hK102 => ?_)
            refine wp_seq_k (fun K103 hK103 => ?_)
            refine wl_region ?_
            refine st_val (.int .i64 (tks (l.drop (pos + (tk (l.drop pos)).2.2)))) (by kernel_rfl) (by kernel_rfl) ?_
            rcases Decidable.em ((tks (l.drop (pos + (tk (l.drop pos)).2.2)) : Int) = 0) with c48 | c48
            ·
              refine st_val (.bool true) (by kernel_rfl) (bool_of (dec_t c48) (by kernel_rfl)) ?_
              refine st_val (.bool true) (by kernel_rfl) (by kernel_rfl) ?_
              refine st_skip (by kernel_rfl) ?_
              refine st_skip (by kernel_rfl) ?_
              refine st_skip (by kernel_rfl) ?_
              refine st_val (.bool true) (by kernel_rfl) (by kernel_rfl) ?_
              refine wl_nil ?_
              refine hK103 _ _ ?_
              try clear hK103 K103
              refine wp_frame (a' := ⟨#[.pointer (some ⟨g, 0, none⟩), .int .i64 ((f : Nat) : Int), undef, undef, .pointer (some ⟨g2, 0, none⟩), (u68 5), .pointer (some ⟨g6, 0, none⟩), .int .i64 ((q + (tk (l.drop pos)).1.toNat - 1 : Nat) : Int), .int .i64 ((tk (l.drop pos)).1), .int .i64 ((tk (l.drop (pos + (tk (l.drop pos)).2.2))).2.1), .int .i64 (tks (l.drop (pos + (tk (l.drop pos)).2.2))), .int .i64 ((f : Nat) : Int), .bool true, .bool true, .int .i64 ((f : Nat) : Int), .bool false, .bool false, undef, .int .i64 ((f : Nat) : Int), .tuple #[.int .i64 ((tk (l.drop pos)).1), .int .i64 ((tk (l.drop pos)).2.1)], .pointer (some ⟨g, 0, none⟩), .tuple #[.int .i64 ((tk (l.drop pos)).1), .int .i64 ((tk (l.drop pos)).2.1)], .int .i64 ((tk (l.drop pos)).1), .int .i64 ((tk (l.drop pos)).2.1), .int .i64 ((tk (l.drop pos)).2.1), .bool false, (u68 26), (u68 27), .int .i64 ((tk (l.drop pos)).1), .bool false, (u68 30), .int .i64 ((q : Nat) : Int), .int .i64 ((tk (l.drop pos)).1), .int .i64 (((q : Nat) : Int) + ((tk (l.drop pos)).1)), .int .i64 ((q + (tk (l.drop pos)).1.toNat - 1 : Nat) : Int), .int .i64 ((q + (tk (l.drop pos)).1.toNat - 1 : Nat) : Int), .bool false, (u68 37), .tuple #[.int .i64 (tks (l.drop (pos + (tk (l.drop pos)).2.2))), .int .i64 ((tk (l.drop (pos + (tk (l.drop pos)).2.2))).2.1)], .pointer (some ⟨g, 0, none⟩), .tuple #[.int .i64 (tks (l.drop (pos + (tk (l.drop pos)).2.2))), .int .i64 ((tk (l.drop (pos + (tk (l.drop pos)).2.2))).2.1)], .int .i64 (tks (l.drop (pos + (tk (l.drop pos)).2.2))), .int .i64 ((tk (l.drop (pos + (tk (l.drop pos)).2.2))).2.1), .int .i64 ((tk (l.drop (pos + (tk (l.drop pos)).2.2))).2.1), .bool false, (u68 45), (u68 46), .int .i64 (tks (l.drop (pos + (tk (l.drop pos)).2.2))), .bool true, .bool true, undef, undef, undef, .bool true, (u68 54), (u68 55), (u68 56), (u68 57), (u68 58), (u68 59)], []⟩) (by kernel_rfl) ?_
              refine wp_cond_true (by kernel_rfl) ?_
              refine wp_seq_k (fun K104 hK104 => ?_)
              refine wl_region ?_
              refine st_val (.agg (iv zeros)) (by kernel_rfl) (by kernel_rfl) ?_
              refine st_storeRow M99 1 rfl 23 (.tmp 4) (.tmp 54) (by rfl) (iv zeros) (by kernel_rfl) (by kernel_rfl) (info64 _ zeros_length) (iv_same zeros_length zeros_length) (iv_one _) (by kernel_rfl) ((g6, .cells (iv x) 23 (0, 0)) :: (g2, .cells (iv zeros) 23 (0, 0)) :: (T94 ++ [])) rfl ?_
              intro W105 M106
              refine st_val (.int .i64 3) (by kernel_rfl) (by kernel_rfl) ?_
              refine wl_nil ?_
              refine hK104 _ _ ?_
              try clear hK104 K104
              refine wp_ret ?_
              refine th_ret ?_
              refine blk_ret ?_
              refine th_ret ?_
              refine blk_ret ?_
              rw [btk_bad c25 c29 (by omega) c44 (by first | exact .inl c48 | exact .inr hlv)] at hB
              exact doneRow2 4 23 5 (.int .i64 3) g2 23 (iv zeros) (0, 0) _ rfl (by kernel_rfl) (by kernel_rfl) (M106.get 1 rfl) Try.underlying23 rfl (info64 _ zeros_length) (by kernel_rfl) ⟨_, T94, rfl, ⟨by rw [← hB], by rw [← hB]; exact O98⟩, M106.sub (((((List.sublist_append_left T94 [])).cons _)).cons _)⟩
            ·
              refine st_val (.bool false) (by kernel_rfl) (bool_of (dec_f c48) (by kernel_rfl)) ?_
              refine st_val (.bool false) (by kernel_rfl) (by kernel_rfl) ?_
              refine st_val (.int .i64 (tks (l.drop (pos + (tk (l.drop pos)).2.2)))) (by kernel_rfl) (by kernel_rfl) ?_
              rcases Classical.em (lev (tks (l.drop (pos + (tk (l.drop pos)).2.2)))) with hlv | hlv
              ·
                refine st_callB M99 (.bool true) (by kernel_rfl) (args := #[.int .i64 (tks (l.drop (pos + (tk (l.drop pos)).2.2)))]) (run_value_call 28 #[(Operand.tmp 50)] _ rfl Try.func28 (by kernel_rfl) (by kernel_rfl) _ (by kernel_rfl)) ((by have := level_walk W95 (tks (l.drop (pos + (tk (l.drop pos)).2.2))); rw [decide_eq_true hlv] at this; exact this)) ?_
                intro W107 M108
                refine st_val (.bool false) (by kernel_rfl) (by kernel_rfl) ?_
                refine st_val (.bool false) (by kernel_rfl) (by kernel_rfl) ?_
                refine wl_nil ?_
                refine hK103 _ _ ?_
                try clear hK103 K103
                refine wp_frame (a' := ⟨#[.pointer (some ⟨g, 0, none⟩), .int .i64 ((f : Nat) : Int), undef, undef, .pointer (some ⟨g2, 0, none⟩), (u68 5), .pointer (some ⟨g6, 0, none⟩), .int .i64 ((q + (tk (l.drop pos)).1.toNat - 1 : Nat) : Int), .int .i64 ((tk (l.drop pos)).1), .int .i64 ((tk (l.drop (pos + (tk (l.drop pos)).2.2))).2.1), .int .i64 (tks (l.drop (pos + (tk (l.drop pos)).2.2))), .int .i64 ((f : Nat) : Int), .bool true, .bool true, .int .i64 ((f : Nat) : Int), .bool false, .bool false, undef, .int .i64 ((f : Nat) : Int), .tuple #[.int .i64 ((tk (l.drop pos)).1), .int .i64 ((tk (l.drop pos)).2.1)], .pointer (some ⟨g, 0, none⟩), .tuple #[.int .i64 ((tk (l.drop pos)).1), .int .i64 ((tk (l.drop pos)).2.1)], .int .i64 ((tk (l.drop pos)).1), .int .i64 ((tk (l.drop pos)).2.1), .int .i64 ((tk (l.drop pos)).2.1), .bool false, (u68 26), (u68 27), .int .i64 ((tk (l.drop pos)).1), .bool false, (u68 30), .int .i64 ((q : Nat) : Int), .int .i64 ((tk (l.drop pos)).1), .int .i64 (((q : Nat) : Int) + ((tk (l.drop pos)).1)), .int .i64 ((q + (tk (l.drop pos)).1.toNat - 1 : Nat) : Int), .int .i64 ((q + (tk (l.drop pos)).1.toNat - 1 : Nat) : Int), .bool false, (u68 37), .tuple #[.int .i64 (tks (l.drop (pos + (tk (l.drop pos)).2.2))), .int .i64 ((tk (l.drop (pos + (tk (l.drop pos)).2.2))).2.1)], .pointer (some ⟨g, 0, none⟩), .tuple #[.int .i64 (tks (l.drop (pos + (tk (l.drop pos)).2.2))), .int .i64 ((tk (l.drop (pos + (tk (l.drop pos)).2.2))).2.1)], .int .i64 (tks (l.drop (pos + (tk (l.drop pos)).2.2))), .int .i64 ((tk (l.drop (pos + (tk (l.drop pos)).2.2))).2.1), .int .i64 ((tk (l.drop (pos + (tk (l.drop pos)).2.2))).2.1), .bool false, (u68 45), (u68 46), .int .i64 (tks (l.drop (pos + (tk (l.drop pos)).2.2))), .bool false, .bool false, .int .i64 (tks (l.drop (pos + (tk (l.drop pos)).2.2))), .bool true, .bool false, .bool false, (u68 54), (u68 55), (u68 56), (u68 57), (u68 58), (u68 59)], []⟩) (by kernel_rfl) ?_
                refine wp_cond_false (by kernel_rfl) ?_
                refine wp_skip ?_
                refine hK102 _ _ ?_
                try clear hK102 K102
                refine wp_seq_k (fun K109 hK109 => ?_)
                refine wl_region ?_
                refine st_val (.int .i64 ((q + (tk (l.drop pos)).1.toNat - 1 : Nat) : Int)) (by kernel_rfl) (by kernel_rfl) ?_
                refine st_val (.int .i64 (tks (l.drop (pos + (tk (l.drop pos)).2.2)))) (by kernel_rfl) (by kernel_rfl) ?_
                refine st_val (.pointer (some ⟨g6, q + (tk (l.drop pos)).1.toNat - 1, none⟩)) (by kernel_rfl) (run_indexAddr 23 (.tmp 6) (.tmp 55) rfl ⟨g6, 0, none⟩ .i64 (q + (tk (l.drop pos)).1.toNat - 1) (by kernel_rfl) (by kernel_rfl) Try.underlying23 1 (by kernel_rfl) (by omega) ⟨g6, q + (tk (l.drop pos)).1.toNat - 1, none⟩ (addr_at0 _ _)) ?_
                refine st_storeCell M108 0 rfl 3 (.tmp 57) (.tmp 56) (by rfl) (q + (tk (l.drop pos)).1.toNat - 1) (.int .i64 (tks (l.drop (pos + (tk (l.drop pos)).2.2)))) (iv (x.set (q + (tk (l.drop pos)).1.toNat - 1) (tks (l.drop (pos + (tk (l.drop pos)).2.2))))) (by kernel_rfl) (by kernel_rfl) (by rw [iv_size, hx]; omega) (by kernel_rfl) rfl (by kernel_rfl) (iv_set _ _ _) (by kernel_rfl) ((g6, .cells (iv (x.set (q + (tk (l.drop pos)).1.toNat - 1) (tks (l.drop (pos + (tk (l.drop pos)).2.2))))) 23 (0, 0)) :: (g2, .cells (iv zeros) 23 (0, 0)) :: (T94 ++ [])) rfl ?_
                intro W110 M111
                refine wl_nil ?_
                refine hK109 _ _ ?_
                try clear hK109 K109
                refine wl_region ?_
                refine st_val (.int .i64 ((q + (tk (l.drop pos)).1.toNat - 1 : Nat) : Int)) (by kernel_rfl) (by kernel_rfl) ?_
                refine st_val (.int .i64 ((q + (tk (l.drop pos)).1.toNat : Nat) : Int)) (by kernel_rfl) (int_of (show ((q + (tk (l.drop pos)).1.toNat - 1 : Nat) : Int) + 1 = ((q + (tk (l.drop pos)).1.toNat : Nat) : Int) by omega) (i64_of (by omega) (by kernel_rfl))) ?_
                refine st_val (.int .i64 ((q + (tk (l.drop pos)).1.toNat : Nat) : Int)) (by kernel_rfl) (by kernel_rfl) ?_
                refine wl_nil ?_
                refine blk_normal ?_
                refine th_normal ?_
                obtain ⟨n, rfl⟩ : ∃ k, n = k + 1 := ⟨n - 1, by omega⟩
                rw [btk_next c25 c29 (by omega) c44 (by first | (intro h; rcases h with h | h; exact c48 h; exact h hlv))] at hB
                exact ⟨_, (by omega), n, (q + (tk (l.drop pos)).1.toNat), (pos + (tk (l.drop pos)).2.2 + (tk (l.drop (pos + (tk (l.drop pos)).2.2))).2.2), (x.set (q + (tk (l.drop pos)).1.toNat - 1) (tks (l.drop (pos + (tk (l.drop pos)).2.2)))), T94, (fun zz => Array.getD #[.pointer (some ⟨g, 0, none⟩), .int .i64 ((f : Nat) : Int), undef, undef, .pointer (some ⟨g2, 0, none⟩), (u68 5), .pointer (some ⟨g6, 0, none⟩), .int .i64 ((q + (tk (l.drop pos)).1.toNat : Nat) : Int), .int .i64 ((tk (l.drop pos)).1), .int .i64 ((tk (l.drop (pos + (tk (l.drop pos)).2.2))).2.1), .int .i64 (tks (l.drop (pos + (tk (l.drop pos)).2.2))), .int .i64 ((f : Nat) : Int), .bool true, .bool true, .int .i64 ((f : Nat) : Int), .bool false, .bool false, undef, .int .i64 ((f : Nat) : Int), .tuple #[.int .i64 ((tk (l.drop pos)).1), .int .i64 ((tk (l.drop pos)).2.1)], .pointer (some ⟨g, 0, none⟩), .tuple #[.int .i64 ((tk (l.drop pos)).1), .int .i64 ((tk (l.drop pos)).2.1)], .int .i64 ((tk (l.drop pos)).1), .int .i64 ((tk (l.drop pos)).2.1), .int .i64 ((tk (l.drop pos)).2.1), .bool false, (u68 26), (u68 27), .int .i64 ((tk (l.drop pos)).1), .bool false, (u68 30), .int .i64 ((q : Nat) : Int), .int .i64 ((tk (l.drop pos)).1), .int .i64 (((q : Nat) : Int) + ((tk (l.drop pos)).1)), .int .i64 ((q + (tk (l.drop pos)).1.toNat - 1 : Nat) : Int), .int .i64 ((q + (tk (l.drop pos)).1.toNat - 1 : Nat) : Int), .bool false, (u68 37), .tuple #[.int .i64 (tks (l.drop (pos + (tk (l.drop pos)).2.2))), .int .i64 ((tk (l.drop (pos + (tk (l.drop pos)).2.2))).2.1)], .pointer (some ⟨g, 0, none⟩), .tuple #[.int .i64 (tks (l.drop (pos + (tk (l.drop pos)).2.2))), .int .i64 ((tk (l.drop (pos + (tk (l.drop pos)).2.2))).2.1)], .int .i64 (tks (l.drop (pos + (tk (l.drop pos)).2.2))), .int .i64 ((tk (l.drop (pos + (tk (l.drop pos)).2.2))).2.1), .int .i64 ((tk (l.drop (pos + (tk (l.drop pos)).2.2))).2.1), .bool false, (u68 45), (u68 46), .int .i64 (tks (l.drop (pos + (tk (l.drop pos)).2.2))), .bool false, .bool false, .int .i64 (tks (l.drop (pos + (tk (l.drop pos)).2.2))), .bool true, .bool false, .bool false, (u68 54), .int .i64 ((q + (tk (l.drop pos)).1.toNat - 1 : Nat) : Int), .int .i64 (tks (l.drop (pos + (tk (l.drop pos)).2.2))), .pointer (some ⟨g6, q + (tk (l.drop pos)).1.toNat - 1, none⟩), .int .i64 ((q + (tk (l.drop pos)).1.toNat - 1 : Nat) : Int), .int .i64 ((q + (tk (l.drop pos)).1.toNat : Nat) : Int)] zz undef), ⟨⟨hB, by omega, by omega, by rw [List.length_set]; exact hx, O98⟩, M111⟩, rfl, (by kernel_rfl)⟩
              ·
                refine st_callB M99 (.bool false) (by kernel_rfl) (args := #[.int .i64 (tks (l.drop (pos + (tk (l.drop pos)).2.2)))]) (run_value_call 28 #[(Operand.tmp 50)] _ rfl Try.func28 (by kernel_rfl) (by kernel_rfl) _ (by kernel_rfl)) ((by have := level_walk W95 (tks (l.drop (pos + (tk (l.drop pos)).2.2))); rw [decide_eq_false hlv] at this; exact this)) ?_
                intro W112 M113
                refine st_val (.bool true) (by kernel_rfl) (by kernel_rfl) ?_
                refine st_val (.bool true) (by kernel_rfl) (by kernel_rfl) ?_
                refine wl_nil ?_
                refine hK103 _ _ ?_
                try clear hK103 K103
                refine wp_frame (a' := ⟨#[.pointer (some ⟨g, 0, none⟩), .int .i64 ((f : Nat) : Int), undef, undef, .pointer (some ⟨g2, 0, none⟩), (u68 5), .pointer (some ⟨g6, 0, none⟩), .int .i64 ((q + (tk (l.drop pos)).1.toNat - 1 : Nat) : Int), .int .i64 ((tk (l.drop pos)).1), .int .i64 ((tk (l.drop (pos + (tk (l.drop pos)).2.2))).2.1), .int .i64 (tks (l.drop (pos + (tk (l.drop pos)).2.2))), .int .i64 ((f : Nat) : Int), .bool true, .bool true, .int .i64 ((f : Nat) : Int), .bool false, .bool false, undef, .int .i64 ((f : Nat) : Int), .tuple #[.int .i64 ((tk (l.drop pos)).1), .int .i64 ((tk (l.drop pos)).2.1)], .pointer (some ⟨g, 0, none⟩), .tuple #[.int .i64 ((tk (l.drop pos)).1), .int .i64 ((tk (l.drop pos)).2.1)], .int .i64 ((tk (l.drop pos)).1), .int .i64 ((tk (l.drop pos)).2.1), .int .i64 ((tk (l.drop pos)).2.1), .bool false, (u68 26), (u68 27), .int .i64 ((tk (l.drop pos)).1), .bool false, (u68 30), .int .i64 ((q : Nat) : Int), .int .i64 ((tk (l.drop pos)).1), .int .i64 (((q : Nat) : Int) + ((tk (l.drop pos)).1)), .int .i64 ((q + (tk (l.drop pos)).1.toNat - 1 : Nat) : Int), .int .i64 ((q + (tk (l.drop pos)).1.toNat - 1 : Nat) : Int), .bool false, (u68 37), .tuple #[.int .i64 (tks (l.drop (pos + (tk (l.drop pos)).2.2))), .int .i64 ((tk (l.drop (pos + (tk (l.drop pos)).2.2))).2.1)], .pointer (some ⟨g, 0, none⟩), .tuple #[.int .i64 (tks (l.drop (pos + (tk (l.drop pos)).2.2))), .int .i64 ((tk (l.drop (pos + (tk (l.drop pos)).2.2))).2.1)], .int .i64 (tks (l.drop (pos + (tk (l.drop pos)).2.2))), .int .i64 ((tk (l.drop (pos + (tk (l.drop pos)).2.2))).2.1), .int .i64 ((tk (l.drop (pos + (tk (l.drop pos)).2.2))).2.1), .bool false, (u68 45), (u68 46), .int .i64 (tks (l.drop (pos + (tk (l.drop pos)).2.2))), .bool false, .bool false, .int .i64 (tks (l.drop (pos + (tk (l.drop pos)).2.2))), .bool false, .bool true, .bool true, (u68 54), (u68 55), (u68 56), (u68 57), (u68 58), (u68 59)], []⟩) (by kernel_rfl) ?_
                refine wp_cond_true (by kernel_rfl) ?_
                refine wp_seq_k (fun K114 hK114 => ?_)
                refine wl_region ?_
                refine st_val (.agg (iv zeros)) (by kernel_rfl) (by kernel_rfl) ?_
                refine st_storeRow M113 1 rfl 23 (.tmp 4) (.tmp 54) (by rfl) (iv zeros) (by kernel_rfl) (by kernel_rfl) (info64 _ zeros_length) (iv_same zeros_length zeros_length) (iv_one _) (by kernel_rfl) ((g6, .cells (iv x) 23 (0, 0)) :: (g2, .cells (iv zeros) 23 (0, 0)) :: (T94 ++ [])) rfl ?_
                intro W115 M116
                refine st_val (.int .i64 3) (by kernel_rfl) (by kernel_rfl) ?_
                refine wl_nil ?_
                refine hK114 _ _ ?_
                try clear hK114 K114
                refine wp_ret ?_
                refine th_ret ?_
                refine blk_ret ?_
                refine th_ret ?_
                refine blk_ret ?_
                rw [btk_bad c25 c29 (by omega) c44 (by first | exact .inl c48 | exact .inr hlv)] at hB
                exact doneRow2 4 23 5 (.int .i64 3) g2 23 (iv zeros) (0, 0) _ rfl (by kernel_rfl) (by kernel_rfl) (M116.get 1 rfl) Try.underlying23 rfl (info64 _ zeros_length) (by kernel_rfl) ⟨_, T94, rfl, ⟨by rw [← hB], by rw [← hB]; exact O98⟩, M116.sub (((((List.sublist_append_left T94 [])).cons _)).cons _)⟩
          ·
            refine st_val (.bool true) (by kernel_rfl) (bool_of (neq_t c44) (by kernel_rfl)) ?_
            refine wl_nil ?_
            refine hK101 _ _ ?_
            try clear hK101 K101
            refine wp_cond_true (by kernel_rfl) ?_
            refine wp_seq_k (fun K117 hK117 => ?_)
            refine wl_region ?_
            refine st_val (.agg (iv zeros)) (by kernel_rfl) (by kernel_rfl) ?_
            refine st_val (.int .i64 ((tk (l.drop (pos + (tk (l.drop pos)).2.2))).2.1)) (by kernel_rfl) (by kernel_rfl) ?_
            refine st_storeRow M99 1 rfl 23 (.tmp 4) (.tmp 45) (by rfl) (iv zeros) (by kernel_rfl) (by kernel_rfl) (info64 _ zeros_length) (iv_same zeros_length zeros_length) (iv_one _) (by kernel_rfl) ((g6, .cells (iv x) 23 (0, 0)) :: (g2, .cells (iv zeros) 23 (0, 0)) :: (T94 ++ [])) rfl ?_
            intro W118 M119
            refine st_val (.int .i64 ((tk (l.drop (pos + (tk (l.drop pos)).2.2))).2.1)) (by kernel_rfl) (by kernel_rfl) ?_
            refine wl_nil ?_
            refine hK117 _ _ ?_
            try clear hK117 K117
            refine wp_frame (a' := ⟨#[.pointer (some ⟨g, 0, none⟩), .int .i64 ((f : Nat) : Int), undef, undef, .pointer (some ⟨g2, 0, none⟩), .int .i64 ((tk (l.drop (pos + (tk (l.drop pos)).2.2))).2.1), .pointer (some ⟨g6, 0, none⟩), .int .i64 ((q + (tk (l.drop pos)).1.toNat - 1 : Nat) : Int), .int .i64 ((tk (l.drop pos)).1), .int .i64 ((tk (l.drop (pos + (tk (l.drop pos)).2.2))).2.1), .int .i64 (tks (l.drop (pos + (tk (l.drop pos)).2.2))), .int .i64 ((f : Nat) : Int), .bool true, .bool true, .int .i64 ((f : Nat) : Int), .bool false, .bool false, undef, .int .i64 ((f : Nat) : Int), .tuple #[.int .i64 ((tk (l.drop pos)).1), .int .i64 ((tk (l.drop pos)).2.1)], .pointer (some ⟨g, 0, none⟩), .tuple #[.int .i64 ((tk (l.drop pos)).1), .int .i64 ((tk (l.drop pos)).2.1)], .int .i64 ((tk (l.drop pos)).1), .int .i64 ((tk (l.drop pos)).2.1), .int .i64 ((tk (l.drop pos)).2.1), .bool false, (u68 26), (u68 27), .int .i64 ((tk (l.drop pos)).1), .bool false, (u68 30), .int .i64 ((q : Nat) : Int), .int .i64 ((tk (l.drop pos)).1), .int .i64 (((q : Nat) : Int) + ((tk (l.drop pos)).1)), .int .i64 ((q + (tk (l.drop pos)).1.toNat - 1 : Nat) : Int), .int .i64 ((q + (tk (l.drop pos)).1.toNat - 1 : Nat) : Int), .bool false, (u68 37), .tuple #[.int .i64 (tks (l.drop (pos + (tk (l.drop pos)).2.2))), .int .i64 ((tk (l.drop (pos + (tk (l.drop pos)).2.2))).2.1)], .pointer (some ⟨g, 0, none⟩), .tuple #[.int .i64 (tks (l.drop (pos + (tk (l.drop pos)).2.2))), .int .i64 ((tk (l.drop (pos + (tk (l.drop pos)).2.2))).2.1)], .int .i64 (tks (l.drop (pos + (tk (l.drop pos)).2.2))), .int .i64 ((tk (l.drop (pos + (tk (l.drop pos)).2.2))).2.1), .int .i64 ((tk (l.drop (pos + (tk (l.drop pos)).2.2))).2.1), .bool true, .agg (iv zeros), .int .i64 ((tk (l.drop (pos + (tk (l.drop pos)).2.2))).2.1), (u68 47), (u68 48), (u68 49), (u68 50), (u68 51), (u68 52), (u68 53), (u68 54), (u68 55), (u68 56), (u68 57), (u68 58), (u68 59)], []⟩) (by kernel_rfl) ?_
            refine wp_ret ?_
            refine th_ret ?_
            refine blk_ret ?_
            refine th_ret ?_
            refine blk_ret ?_
            rw [btk_err2 c25 c29 (by omega) c44] at hB
            exact doneRow2 4 23 5 (.int .i64 ((tk (l.drop (pos + (tk (l.drop pos)).2.2))).2.1)) g2 23 (iv zeros) (0, 0) _ rfl (by kernel_rfl) (by kernel_rfl) (M119.get 1 rfl) Try.underlying23 rfl (info64 _ zeros_length) (by kernel_rfl) ⟨_, T94, rfl, ⟨by rw [← hB], by rw [← hB]; exact O98⟩, M119.sub (((((List.sublist_append_left T94 [])).cons _)).cons _)⟩
    ·
      refine st_val (.bool true) (by kernel_rfl) (bool_of (neq_t c25) (by kernel_rfl)) ?_
      refine wl_nil ?_
      refine hK80 _ _ ?_
      try clear hK80 K80
      refine wp_cond_true (by kernel_rfl) ?_
      refine wp_seq_k (fun K120 hK120 => ?_)
      refine wl_region ?_
      refine st_val (.agg (iv zeros)) (by kernel_rfl) (by kernel_rfl) ?_
      refine st_val (.int .i64 ((tk (l.drop pos)).2.1)) (by kernel_rfl) (by kernel_rfl) ?_
      refine st_storeRow M78 1 rfl 23 (.tmp 4) (.tmp 26) (by rfl) (iv zeros) (by kernel_rfl) (by kernel_rfl) (info64 _ zeros_length) (iv_same zeros_length zeros_length) (iv_one _) (by kernel_rfl) ((g6, .cells (iv x) 23 (0, 0)) :: (g2, .cells (iv zeros) 23 (0, 0)) :: (T73 ++ [])) rfl ?_
      intro W121 M122
      refine st_val (.int .i64 ((tk (l.drop pos)).2.1)) (by kernel_rfl) (by kernel_rfl) ?_
      refine wl_nil ?_
      refine hK120 _ _ ?_
      try clear hK120 K120
      refine wp_ret ?_
      refine th_ret ?_
      refine blk_ret ?_
      refine th_ret ?_
      refine blk_ret ?_
      rw [btk_err c25] at hB
      exact doneRow2 4 23 5 (.int .i64 ((tk (l.drop pos)).2.1)) g2 23 (iv zeros) (0, 0) _ rfl (by kernel_rfl) (by kernel_rfl) (M122.get 1 rfl) Try.underlying23 rfl (info64 _ zeros_length) (by kernel_rfl) ⟨_, T73, rfl, ⟨by rw [← hB], by rw [← hB]; exact O77⟩, M122.sub (((((List.sublist_append_left T73 [])).cons _)).cons _)⟩
end Go.Proofs.Ytmchfkkifeioeaa
