/- The code of a block, as the reference has it. -/
import Derived.Test.YtmchfkkifeioeaaB9p
namespace Go.Proofs.Ytmchfkkifeioeaa
open Go.RowKit Bt

theorem codeS_l {v : Int} (h : lev v) : codeS v = codeN (unsg v).toNat := if_pos (lev_mayS h)
theorem unsg_le {v : Int} (h : lev v) : (unsg v).toNat ≤ 65534 := by have := (unsg_may (lev_mayS h)).2; omega
set_option maxHeartbeats 4000000 in
set_option maxRecDepth 100000 in
theorem rcode_arg (w : World) (x : List Int) (hx : x.length = 64) (fr : Int) (hfr : ¬ (fr = 0 ∨ fr = 1)) : MakesRow Try.prog 10 #[.agg (iv x), .int .i64 fr] w (fun v T => ∃ v1 m, v = .tuple #[v1, .int .i64 (bE x fr)] ∧ m = (bC x fr).length ∧ Own 5 1 v1 m (u8s (bC x fr)) T) := by
  unfold MakesRow
  refine calls_of_wp Try.func10 rfl ?_
  refine wp_frame (a' := ⟨#[.agg (iv x), .int .i64 fr, undef, undef, undef, undef, undef, undef, undef, undef, undef, undef, undef, undef, undef, undef, undef, undef, undef, undef, undef, undef, undef, undef, undef, undef, undef, undef, undef, undef, undef, undef, undef, undef, undef, undef, undef, undef, undef, undef, undef, undef, undef, undef, undef, undef, undef], []⟩) (by kernel_rfl) ?_
  have M0 : Mem NoS w w [] := Mem.start _ _
  refine wp_seq_k (fun K1 hK1 => ?_)
  refine wl_region ?_
  refine st_alloc M0 (.cells (iv x) 23 (0, 0)) (by kernel_rfl) (by kernel_rfl) ?_
  intro g2 W3 M4
  refine st_val ((Go.Value.slice none 0 0)) (by kernel_rfl) (by kernel_rfl) ?_
  refine st_val (.int .i64 0) (by kernel_rfl) (by kernel_rfl) ?_
  refine wl_nil ?_
  refine hK1 _ _ ?_
  try clear hK1 K1
  refine wp_seq_k (fun K5 hK5 => ?_)
  refine wp_seq_k (fun K6 hK6 => ?_)
  refine wl_region ?_
  refine st_val (.int .i64 fr) (by kernel_rfl) (by kernel_rfl) ?_
  refine st_val (.bool true) (by kernel_rfl) (bool_of (neq_t (show ¬ ((fr : Int) = 0) by omega)) (by kernel_rfl)) ?_
  refine st_val (.bool true) (by kernel_rfl) (by kernel_rfl) ?_
  refine st_val (.int .i64 fr) (by kernel_rfl) (by kernel_rfl) ?_
  refine st_val (.bool true) (by kernel_rfl) (bool_of (neq_t (show ¬ ((fr : Int) = 1) by omega)) (by kernel_rfl)) ?_
  refine st_val (.bool true) (by kernel_rfl) (by kernel_rfl) ?_
  refine wl_nil ?_
  refine hK6 _ _ ?_
  try clear hK6 K6
  refine wp_cond_true (by kernel_rfl) ?_
  refine wp_seq_k (fun K7 hK7 => ?_)
  refine wl_region ?_
  refine st_val ((Go.Value.slice none 0 0)) (by kernel_rfl) (by kernel_rfl) ?_
  refine st_val (.int .i64 1) (by kernel_rfl) (by kernel_rfl) ?_
  refine wl_nil ?_
  refine hK7 _ _ ?_
  try clear hK7 K7
  refine wp_ret ?_
  refine th_ret ?_
  exact done2 4 5 ((Go.Value.slice none 0 0)) (.int .i64 1) (by kernel_rfl) (by kernel_rfl) (by kernel_rfl) (by kernel_rfl) ⟨_, [], rfl, ⟨_, 0, by rw [(bE_arg hfr).1], by rw [(bE_arg hfr).2]; rfl, by rw [(bE_arg hfr).2]; exact Own.nil _ _⟩, M4.sub (List.nil_sublist _)⟩
set_option maxHeartbeats 4000000 in
set_option maxRecDepth 100000 in
theorem rcode_ok (w : World) (x : List Int) (hx : x.length = 64) (f : Nat) (hf : f ≤ 1) : MakesRow Try.prog 10 #[.agg (iv x), .int .i64 (f : Int)] w (fun v T => ∃ v1 m, v = .tuple #[v1, .int .i64 (bE x f)] ∧ m = (bC x f).length ∧ Own 5 1 v1 m (u8s (bC x f)) T) := by
  unfold MakesRow
  refine calls_of_wp Try.func10 rfl ?_
  refine wp_frame (a' := ⟨#[.agg (iv x), .int .i64 ((f : Nat) : Int), undef, undef, undef, undef, undef, undef, undef, undef, undef, undef, undef, undef, undef, undef, undef, undef, undef, undef, undef, undef, undef, undef, undef, undef, undef, undef, undef, undef, undef, undef, undef, undef, undef, undef, undef, undef, undef, undef, undef, undef, undef, undef, undef, undef, undef], []⟩) (by kernel_rfl) ?_
  have M0 : Mem NoS w w [] := Mem.start _ _
  refine wp_seq_k (fun K1 hK1 => ?_)
  refine wl_region ?_
  refine st_alloc M0 (.cells (iv x) 23 (0, 0)) (by kernel_rfl) (by kernel_rfl) ?_
  intro g2 W3 M4
  refine st_val ((Go.Value.slice none 0 0)) (by kernel_rfl) (by kernel_rfl) ?_
  refine st_val (.int .i64 0) (by kernel_rfl) (by kernel_rfl) ?_
  refine wl_nil ?_
  refine hK1 _ _ ?_
  try clear hK1 K1
  refine wp_seq_k (fun K5 hK5 => ?_)
  refine wp_seq_k (fun K6 hK6 => ?_)
  refine wl_region ?_
  refine st_val (.int .i64 ((f : Nat) : Int)) (by kernel_rfl) (by kernel_rfl) ?_
  rcases Decidable.em ((((f : Nat) : Int) : Int) = 0) with c10 | c10
  ·
    refine st_val (.bool false) (by kernel_rfl) (bool_of (neq_f c10) (by kernel_rfl)) ?_
    refine st_val (.bool false) (by kernel_rfl) (by kernel_rfl) ?_
    refine st_skip (by kernel_rfl) ?_
    refine st_skip (by kernel_rfl) ?_
    refine st_val (.bool false) (by kernel_rfl) (by kernel_rfl) ?_
    refine wl_nil ?_
    refine hK6 _ _ ?_
    try clear hK6 K6
    refine wp_cond_false (by kernel_rfl) ?_
    refine wp_skip ?_
    refine hK5 _ _ ?_
    try clear hK5 K5
    refine wp_seq_k (fun K7 hK7 => ?_)
    refine wl_region ?_
    refine st_val ((Go.Value.slice none 0 0)) (by kernel_rfl) (by kernel_rfl) ?_
    refine wl_nil ?_
    refine hK7 _ _ ?_
    try clear hK7 K7
    refine wp_seq_k (fun K8 hK8 => ?_)
    refine wl_region ?_
    refine st_val (.int .i64 ((f : Nat) : Int)) (by kernel_rfl) (by kernel_rfl) ?_
    refine st_val (.int .i64 ((f : Nat) : Int)) (by kernel_rfl) (by kernel_rfl) ?_
    refine wl_nil ?_
    refine hK8 _ _ ?_
    try clear hK8 K8
    refine wp_seq_k (fun K9 hK9 => ?_)
    refine wp_seq_k (fun K10 hK10 => ?_)
    refine wl_region ?_
    refine st_val (.int .i64 ((f : Nat) : Int)) (by kernel_rfl) (by kernel_rfl) ?_
    refine st_val (.int .i64 ((f : Nat) : Int)) (by kernel_rfl) (by kernel_rfl) ?_
    refine wl_nil ?_
    refine hK10 _ _ ?_
    try clear hK10 K10
    refine wp_frame (a' := ⟨#[.agg (iv x), .int .i64 ((f : Nat) : Int), .pointer (some ⟨g2, 0, none⟩), undef, (Go.Value.slice none 0 0), .int .i64 0, (Go.Value.slice none 0 0), .int .i64 ((f : Nat) : Int), .int .i64 ((f : Nat) : Int), .int .i64 ((f : Nat) : Int), .bool false, .bool false, undef, undef, .bool false, .int .i64 ((f : Nat) : Int), .int .i64 ((f : Nat) : Int), undef, undef, undef, undef, undef, undef, undef, undef, undef, undef, undef, undef, undef, undef, undef, undef, undef, undef, undef, undef, undef, undef, undef, undef, undef, undef, undef, undef, undef, undef], []⟩) (by kernel_rfl) ?_
    refine wp_block ?_
    refine wp_loop_ghost (fun gn a' w' => ∃ (p : Nat) (at_ : Nat) (B : List Nat) (n : Nat) (A1 : Option Addr) (c1 : Nat) (T1 : List (Nat × Obj)) (u11 : Nat → Value), ((p ≤ 64 ∧ f ≤ at_ ∧ at_ ≤ p ∧ n = B.length ∧ Own 5 1 (.slice A1 n c1) n (u8s B) T1 ∧ B ++ bcode x (64 - p) at_ p = bcode x (64 - f) f f ∧ ∀ j, f ≤ j → j < p → lev (x.getD j 0)) ∧ Mem NoS w w' ((g2, .cells (iv x) 23 (0, 0)) :: (T1 ++ []))) ∧ gn = 64 - p ∧ a' = ⟨#[.agg (iv x), .int .i64 ((f : Nat) : Int), .pointer (some ⟨g2, 0, none⟩), undef, (u11 4), (u11 5), .slice A1 n c1, .int .i64 ((at_ : Nat) : Int), .int .i64 ((p : Nat) : Int), .int .i64 ((f : Nat) : Int), .bool false, .bool false, undef, undef, .bool false, .int .i64 ((f : Nat) : Int), .int .i64 ((f : Nat) : Int), (u11 17), (u11 18), (u11 19), (u11 20), (u11 21), (u11 22), (u11 23), (u11 24), (u11 25), (u11 26), (u11 27), (u11 28), (u11 29), (u11 30), (u11 31), (u11 32), (u11 33), (u11 34), (u11 35), (u11 36), (u11 37), (u11 38), (u11 39), (u11 40), (u11 41), (u11 42), (u11 43), undef, undef, undef], []⟩) _ ⟨f, f, ([]), 0, none, 0, ([]), (fun zz => Array.getD #[.agg (iv x), .int .i64 ((f : Nat) : Int), .pointer (some ⟨g2, 0, none⟩), undef, (Go.Value.slice none 0 0), .int .i64 0, (Go.Value.slice none 0 0), .int .i64 ((f : Nat) : Int), .int .i64 ((f : Nat) : Int), .int .i64 ((f : Nat) : Int), .bool false, .bool false, undef, undef, .bool false, .int .i64 ((f : Nat) : Int), .int .i64 ((f : Nat) : Int), undef, undef, undef, undef, undef, undef, undef, undef, undef, undef, undef, undef, undef, undef, undef, undef, undef, undef, undef, undef, undef, undef, undef, undef, undef, undef, undef, undef, undef, undef] zz undef), ⟨⟨by omega, by omega, by omega, rfl, Own.nil _ _, rfl, fun j h1 h2 => by omega⟩, M4⟩, rfl, (by kernel_rfl)⟩ ?_
    rintro gn _ W12 ⟨p, at_, B, n, A1, c1, T1, u11, ⟨⟨rp, ra, rb, hn, O1, hC, hv⟩, M13⟩, rfl, rfl⟩
    have hCl := bcode_le x (64 - f) f f (by omega)
    have hBl := congrArg List.length hC
    simp only [List.length_append] at hBl
    refine wp_seq_k (fun K14 hK14 => ?_)
    refine wp_seq_k (fun K15 hK15 => ?_)
    refine wl_region ?_
    refine st_val (.int .i64 ((p : Nat) : Int)) (by kernel_rfl) (by kernel_rfl) ?_
    rcases Decidable.em ((((p : Nat) : Int) : Int) < 64) with c18 | c18
    ·
      refine st_val (.bool true) (by kernel_rfl) (bool_of (dec_t c18) (by kernel_rfl)) ?_
      refine wl_nil ?_
      refine hK15 _ _ ?_
      try clear hK15 K15
      refine wp_cond_true (by kernel_rfl) ?_
      refine wp_skip ?_
      refine hK14 _ _ ?_
      try clear hK14 K14
      refine wp_seq_k (fun K16 hK16 => ?_)
      refine wp_block ?_
      refine wp_seq_k (fun K17 hK17 => ?_)
      refine wp_seq_k (fun K18 hK18 => ?_)
      refine wl_region ?_
      refine st_val (.int .i64 ((p : Nat) : Int)) (by kernel_rfl) (by kernel_rfl) ?_
      refine st_val (.pointer (some ⟨g2, p, none⟩)) (by kernel_rfl) (run_indexAddr 23 (.tmp 2) (.tmp 21) rfl ⟨g2, 0, none⟩ .i64 p (by kernel_rfl) (by kernel_rfl) Try.underlying23 1 (by kernel_rfl) (by omega) ⟨g2, p, none⟩ (addr_at0 _ _)) ?_
      refine st_val (.int .i64 (x.getD p 0)) (by kernel_rfl) (run_load_cell 3 (.tmp 22) rfl ⟨g2, p, none⟩ (by kernel_rfl) _ (M13.cell 0 rfl p _ (iv_get x p (by rw [hx]; omega))) (by kernel_rfl)) ?_
      rcases Classical.em (lev (x.getD p 0)) with hlv | hlv
      ·
        refine st_callB M13 (.bool true) (by kernel_rfl) (args := #[.int .i64 (x.getD p 0)]) (run_value_call 28 #[(Operand.tmp 23)] _ rfl Try.func28 (by kernel_rfl) (by kernel_rfl) _ (by kernel_rfl)) ((by have := level_walk W12 (x.getD p 0); rw [decide_eq_true hlv] at this; exact this)) ?_
        intro W19 M20
        refine st_val (.bool false) (by kernel_rfl) (by kernel_rfl) ?_
        refine wl_nil ?_
        refine hK18 _ _ ?_
        try clear hK18 K18
        refine wp_cond_false (by kernel_rfl) ?_
        refine wp_skip ?_
        refine hK17 _ _ ?_
        try clear hK17 K17
        refine wp_seq_k (fun K21 hK21 => ?_)
        refine wl_region ?_
        refine st_val (.int .i64 ((p : Nat) : Int)) (by kernel_rfl) (by kernel_rfl) ?_
        refine st_val (.pointer (some ⟨g2, p, none⟩)) (by kernel_rfl) (run_indexAddr 23 (.tmp 2) (.tmp 26) rfl ⟨g2, 0, none⟩ .i64 p (by kernel_rfl) (by kernel_rfl) Try.underlying23 1 (by kernel_rfl) (by omega) ⟨g2, p, none⟩ (addr_at0 _ _)) ?_
        refine st_val (.int .i64 (x.getD p 0)) (by kernel_rfl) (run_load_cell 3 (.tmp 27) rfl ⟨g2, p, none⟩ (by kernel_rfl) _ (M20.cell 0 rfl p _ (iv_get x p (by rw [hx]; omega))) (by kernel_rfl)) ?_
        rcases Decidable.em ((x.getD p 0 : Int) = 0) with c29 | c29
        ·
          refine st_val (.bool false) (by kernel_rfl) (bool_of (neq_f c29) (by kernel_rfl)) ?_
          refine wl_nil ?_
          refine hK21 _ _ ?_
          try clear hK21 K21
          refine wp_cond_false (by kernel_rfl) ?_
          refine wp_skip ?_
          refine blk_normal ?_
          refine hK16 _ _ ?_
          try clear hK16 K16
          refine wl_region ?_
          refine st_val (.int .i64 ((p : Nat) : Int)) (by kernel_rfl) (by kernel_rfl) ?_
          refine st_val (.int .i64 (((p : Nat) : Int) + 1)) (by kernel_rfl) (i64_of (by omega) (by kernel_rfl)) ?_
          refine st_val (.int .i64 (((p : Nat) : Int) + 1)) (by kernel_rfl) (by kernel_rfl) ?_
          refine wl_nil ?_
          refine th_normal ?_
          exact ⟨_, (by omega), (p + 1), at_, B, n, A1, c1, T1, (fun zz => Array.getD #[.agg (iv x), .int .i64 ((f : Nat) : Int), .pointer (some ⟨g2, 0, none⟩), undef, (u11 4), (u11 5), .slice A1 n c1, .int .i64 ((at_ : Nat) : Int), .int .i64 (((p : Nat) : Int) + 1), .int .i64 ((f : Nat) : Int), .bool false, .bool false, undef, undef, .bool false, .int .i64 ((f : Nat) : Int), .int .i64 ((f : Nat) : Int), .int .i64 ((p : Nat) : Int), .bool true, .int .i64 ((p : Nat) : Int), .int .i64 (((p : Nat) : Int) + 1), .int .i64 ((p : Nat) : Int), .pointer (some ⟨g2, p, none⟩), .int .i64 (x.getD p 0), .bool true, .bool false, .int .i64 ((p : Nat) : Int), .pointer (some ⟨g2, p, none⟩), .int .i64 (x.getD p 0), .bool false, (u11 30), (u11 31), (u11 32), (u11 33), (u11 34), (u11 35), (u11 36), (u11 37), (u11 38), (u11 39), (u11 40), (u11 41), (u11 42), (u11 43), undef, undef, undef] zz undef), ⟨⟨by omega, by omega, by omega, hn, O1, bcode_step0 (by omega) (by omega) hC, fun j h1 h2 => by by_cases e : j = p; subst e; exact hlv; exact hv j h1 (by omega)⟩, M20⟩, rfl, (by kernel_rfl)⟩
        ·
          refine st_val (.bool true) (by kernel_rfl) (bool_of (neq_t c29) (by kernel_rfl)) ?_
          refine wl_nil ?_
          refine hK21 _ _ ?_
          try clear hK21 K21
          refine wp_cond_true (by kernel_rfl) ?_
          refine wp_seq_k (fun K22 hK22 => ?_)
          have hq1 := codeN_length (p - at_ + 1)
          have hq2 := codeN_length (unsg (x.getD p 0)).toNat
          have hq3 := codeN_le (v := p - at_ + 1) (by omega)
          have hq4 := codeN_le (unsg_le hlv)
          refine wh_region (fun w' => Mem NoS w w' [(g2, .cells (iv x) 23 (0, 0))]) (by kernel_rfl) (by kernel_rfl) (fun d _ _ _ _ h => by cases d <;> exact h) 13 rfl #[false, false, false, false, false, false, false, false, false, false, false, false, false] rfl ?_
          intro R23
          have M25 := M20.drew
          have hS26 : Mem NoS w W19.drew [(g2, .cells (iv x) 23 (0, 0))] := M25.sub (((List.Sublist.refl []).trans (List.sublist_append_right T1 _)).cons_cons _)
          refine wh_take R23 0 (.slice A1 n c1) rfl (by kernel_rfl) (by kernel_rfl) (by kernel_rfl) (fun w' M' => (by kernel_rfl)) hS26 #[true, false, false, false, false, false, false, false, false, false, false, false, false] rfl ?_
          refine wh_take R23 1 (.int .i64 ((p : Nat) : Int)) rfl (by kernel_rfl) (by kernel_rfl) (by kernel_rfl) (fun w' M' => (by kernel_rfl)) hS26 #[true, true, false, false, false, false, false, false, false, false, false, false, false] rfl ?_
          refine wh_take R23 2 (.int .i64 ((at_ : Nat) : Int)) rfl (by kernel_rfl) (by kernel_rfl) (by kernel_rfl) (fun w' M' => (by kernel_rfl)) hS26 #[true, true, true, false, false, false, false, false, false, false, false, false, false] rfl ?_
          refine wh_take R23 3 (.int .i64 (((p : Nat) : Int) - ((at_ : Nat) : Int))) rfl (by kernel_rfl) (by kernel_rfl) (by kernel_rfl) (fun w' M' => (i64_of (by omega) (by kernel_rfl))) hS26 #[true, true, true, true, false, false, false, false, false, false, false, false, false] rfl ?_
          refine wh_take R23 4 (.int .i64 ((p - at_ + 1 : Nat) : Int)) rfl (by kernel_rfl) (by kernel_rfl) (by kernel_rfl) (fun w' M' => (int_of (show ((p : Nat) : Int) - ((at_ : Nat) : Int) + 1 = ((p - at_ + 1 : Nat) : Int) by omega) (i64_of (by omega) (by kernel_rfl)))) hS26 #[true, true, true, true, true, false, false, false, false, false, false, false, false] rfl ?_
          refine wh_take R23 7 (.int .i64 ((p : Nat) : Int)) rfl (by kernel_rfl) (by kernel_rfl) (by kernel_rfl) (fun w' M' => (by kernel_rfl)) hS26 #[true, true, true, true, true, false, false, true, false, false, false, false, false] rfl ?_
          refine wh_take R23 8 (.pointer (some ⟨g2, p, none⟩)) rfl (by kernel_rfl) (by kernel_rfl) (by kernel_rfl) (fun w' M' => (run_indexAddr 23 (.tmp 2) (.tmp 37) rfl ⟨g2, 0, none⟩ .i64 p (by kernel_rfl) (by kernel_rfl) Try.underlying23 1 (by kernel_rfl) (by omega) ⟨g2, p, none⟩ (addr_at0 _ _))) hS26 #[true, true, true, true, true, false, false, true, true, false, false, false, false] rfl ?_
          refine wh_take R23 9 (.int .i64 (x.getD p 0)) rfl (by kernel_rfl) (by kernel_rfl) (by kernel_rfl) (fun w' M' => (run_load_cell 3 (.tmp 38) rfl ⟨g2, p, none⟩ (by kernel_rfl) _ (M'.cell 0 rfl p _ (iv_get x p (by rw [hx]; omega))) (by kernel_rfl))) hS26 #[true, true, true, true, true, false, false, true, true, true, false, false, false] rfl ?_
          refine wh_callR (A := [(g2, .cells (iv x) 23 (0, 0))]) (B := (T1 ++ [])) M25 5 rfl (by kernel_rfl) (by kernel_rfl) (run_value_call 29 #[(Operand.tmp 34)] _ rfl Try.func29 (by kernel_rfl) (by kernel_rfl) _ (by kernel_rfl)) #[true, true, true, true, true, true, false, true, true, true, false, false, false] rfl (code_walk W19.drew (p - at_ + 1) (by omega)) ?_
          intro v27 T28 W29 O30 M31
          have M31 : Mem NoS w W29 ((g2, .cells (iv x) 23 (0, 0)) :: (T28 ++ (T1 ++ []))) := M31
          obtain ⟨A32, cq33, rfl, hc34⟩ := O30.shape
          have hS35 : Mem NoS w W29 [(g2, .cells (iv x) 23 (0, 0))] := M31.sub ((((List.Sublist.refl []).trans (List.sublist_append_right T1 _)).trans (List.sublist_append_right T28 _)).cons_cons _)
          refine ⟨hS35, ?_⟩
          have M45 : Mem NoS w W29 ((g2, .cells (iv x) 23 (0, 0)) :: (T1 ++ (T28 ++ []))) := M31.swap (A := [(g2, .cells (iv x) 23 (0, 0))]) (T := T28) (U := T1) (B := [])
          obtain ⟨v36, T37, W38, hr39, O40, M41⟩ := append_u8 (A := [(g2, .cells (iv x) 23 (0, 0))]) (T := T1) (B := (T28 ++ [])) M45 29 _ _ _ O1 _ (kOf (p - at_ + 1) + (kOf (p - at_ + 1) + 1)) (u8s (codeN (p - at_ + 1))) (O30.rd (fun p hp => M45.at_ p (List.mem_cons_of_mem _ (List.mem_append_right _ (List.mem_append_left _ hp))))) (by rw [u8s_length, codeN_length]; omega) (u8s_one _) (by omega)
          have M41 : Mem NoS w W38 ((g2, .cells (iv x) 23 (0, 0)) :: (T37 ++ (T28 ++ []))) := M41
          obtain ⟨A42, cq43, rfl, hc44⟩ := O40.shape
          have hS46 : Mem NoS w W38 [(g2, .cells (iv x) 23 (0, 0))] := M41.sub ((((List.Sublist.refl []).trans (List.sublist_append_right T28 _)).trans (List.sublist_append_right T37 _)).cons_cons _)
          refine wh_world 6 (.slice A42 (n + (kOf (p - at_ + 1) + (kOf (p - at_ + 1) + 1))) cq43) W38 rfl (by kernel_rfl) (by kernel_rfl) (run_append_op (.tmp 30) (.tmp 35) _ rfl (.slice A1 n c1) (.slice A32 (kOf (p - at_ + 1) + (kOf (p - at_ + 1) + 1)) cq33) _ (by kernel_rfl) (by kernel_rfl) hr39) #[true, true, true, true, true, true, true, true, true, true, false, false, false] rfl hS46 ?_
          refine wh_callR (A := [(g2, .cells (iv x) 23 (0, 0))]) (B := (T37 ++ (T28 ++ []))) M41 10 rfl (by kernel_rfl) (by kernel_rfl) (run_value_call 30 #[(Operand.tmp 39)] _ rfl Try.func30 (by kernel_rfl) (by kernel_rfl) _ (by kernel_rfl)) #[true, true, true, true, true, true, true, true, true, true, true, false, false] rfl (scode_walk W38 (x.getD p 0) (lev_mayS hlv)) ?_
          intro v47 T48 W49 O50 M51
          have M51 : Mem NoS w W49 ((g2, .cells (iv x) 23 (0, 0)) :: (T48 ++ (T37 ++ (T28 ++ [])))) := M51
          obtain ⟨A52, cq53, rfl, hc54⟩ := O50.shape
          have hS55 : Mem NoS w W49 [(g2, .cells (iv x) 23 (0, 0))] := M51.sub (((((List.Sublist.refl []).trans (List.sublist_append_right T28 _)).trans (List.sublist_append_right T37 _)).trans (List.sublist_append_right T48 _)).cons_cons _)
          refine ⟨hS55, ?_⟩
          have M65 : Mem NoS w W49 ((g2, .cells (iv x) 23 (0, 0)) :: (T37 ++ (T48 ++ (T28 ++ [])))) := M51.swap (A := [(g2, .cells (iv x) 23 (0, 0))]) (T := T48) (U := T37) (B := (T28 ++ []))
          obtain ⟨v56, T57, W58, hr59, O60, M61⟩ := append_u8 (A := [(g2, .cells (iv x) 23 (0, 0))]) (T := T37) (B := (T48 ++ (T28 ++ []))) M65 29 _ _ _ O40 _ (kOf ((unsg (x.getD p 0)).toNat) + (kOf ((unsg (x.getD p 0)).toNat) + 1)) (u8s (codeN ((unsg (x.getD p 0)).toNat))) (O50.rd (fun p hp => M65.at_ p (List.mem_cons_of_mem _ (List.mem_append_right _ (List.mem_append_left _ hp))))) (by rw [u8s_length, codeN_length]; omega) (u8s_one _) (by omega)
          have M61 : Mem NoS w W58 ((g2, .cells (iv x) 23 (0, 0)) :: (T57 ++ (T48 ++ (T28 ++ [])))) := M61
          obtain ⟨A62, cq63, rfl, hc64⟩ := O60.shape
          have hS66 : Mem NoS w W58 [(g2, .cells (iv x) 23 (0, 0))] := M61.sub (((((List.Sublist.refl []).trans (List.sublist_append_right T28 _)).trans (List.sublist_append_right T48 _)).trans (List.sublist_append_right T57 _)).cons_cons _)
          refine wh_world 11 (.slice A62 (n + (kOf (p - at_ + 1) + (kOf (p - at_ + 1) + 1)) + (kOf ((unsg (x.getD p 0)).toNat) + (kOf ((unsg (x.getD p 0)).toNat) + 1))) cq63) W58 rfl (by kernel_rfl) (by kernel_rfl) (run_append_op (.tmp 36) (.tmp 40) _ rfl (.slice A42 (n + (kOf (p - at_ + 1) + (kOf (p - at_ + 1) + 1))) cq43) (.slice A52 (kOf ((unsg (x.getD p 0)).toNat) + (kOf ((unsg (x.getD p 0)).toNat) + 1)) cq53) _ (by kernel_rfl) (by kernel_rfl) hr59) #[true, true, true, true, true, true, true, true, true, true, true, true, false] rfl hS66 ?_
          refine wh_take R23 12 (.slice A62 (n + (kOf (p - at_ + 1) + (kOf (p - at_ + 1) + 1)) + (kOf ((unsg (x.getD p 0)).toNat) + (kOf ((unsg (x.getD p 0)).toNat) + 1))) cq63) rfl (by kernel_rfl) (by kernel_rfl) (by kernel_rfl) (fun w' M' => (by kernel_rfl)) hS66 #[true, true, true, true, true, true, true, true, true, true, true, true, true] rfl ?_
          refine wh_done (by kernel_rfl) ?_
          refine hK22 _ _ ?_
          try clear hK22 K22
          refine wp_frame (a' := ⟨#[.agg (iv x), .int .i64 ((f : Nat) : Int), .pointer (some ⟨g2, 0, none⟩), undef, (u11 4), (u11 5), .slice A62 (n + (kOf (p - at_ + 1) + (kOf (p - at_ + 1) + 1)) + (kOf ((unsg (x.getD p 0)).toNat) + (kOf ((unsg (x.getD p 0)).toNat) + 1))) cq63, .int .i64 ((at_ : Nat) : Int), .int .i64 ((p : Nat) : Int), .int .i64 ((f : Nat) : Int), .bool false, .bool false, undef, undef, .bool false, .int .i64 ((f : Nat) : Int), .int .i64 ((f : Nat) : Int), .int .i64 ((p : Nat) : Int), .bool true, (u11 19), (u11 20), .int .i64 ((p : Nat) : Int), .pointer (some ⟨g2, p, none⟩), .int .i64 (x.getD p 0), .bool true, .bool false, .int .i64 ((p : Nat) : Int), .pointer (some ⟨g2, p, none⟩), .int .i64 (x.getD p 0), .bool true, .slice A1 n c1, .int .i64 ((p : Nat) : Int), .int .i64 ((at_ : Nat) : Int), .int .i64 (((p : Nat) : Int) - ((at_ : Nat) : Int)), .int .i64 ((p - at_ + 1 : Nat) : Int), .slice A32 (kOf (p - at_ + 1) + (kOf (p - at_ + 1) + 1)) cq33, .slice A42 (n + (kOf (p - at_ + 1) + (kOf (p - at_ + 1) + 1))) cq43, .int .i64 ((p : Nat) : Int), .pointer (some ⟨g2, p, none⟩), .int .i64 (x.getD p 0), .slice A52 (kOf ((unsg (x.getD p 0)).toNat) + (kOf ((unsg (x.getD p 0)).toNat) + 1)) cq53, .slice A62 (n + (kOf (p - at_ + 1) + (kOf (p - at_ + 1) + 1)) + (kOf ((unsg (x.getD p 0)).toNat) + (kOf ((unsg (x.getD p 0)).toNat) + 1))) cq63, (u11 42), (u11 43), undef, undef, undef], []⟩) (by kernel_rfl) ?_
          refine wl_region ?_
          refine st_val (.int .i64 ((p : Nat) : Int)) (by kernel_rfl) (by kernel_rfl) ?_
          refine st_val (.int .i64 ((p + 1 : Nat) : Int)) (by kernel_rfl) (i64_of (by omega) (by kernel_rfl)) ?_
          refine st_val (.int .i64 ((p + 1 : Nat) : Int)) (by kernel_rfl) (by kernel_rfl) ?_
          refine wl_nil ?_
          refine blk_normal ?_
          refine hK16 _ _ ?_
          try clear hK16 K16
          refine wl_region ?_
          refine st_val (.int .i64 ((p : Nat) : Int)) (by kernel_rfl) (by kernel_rfl) ?_
          refine st_val (.int .i64 (((p : Nat) : Int) + 1)) (by kernel_rfl) (i64_of (by omega) (by kernel_rfl)) ?_
          refine st_val (.int .i64 (((p : Nat) : Int) + 1)) (by kernel_rfl) (by kernel_rfl) ?_
          refine wl_nil ?_
          refine th_normal ?_
          have M67 : Mem NoS w W58 ((g2, .cells (iv x) 23 (0, 0)) :: (T57 ++ [])) := M61.sub (((((List.Sublist.refl []).trans (List.sublist_append_right T28 _)).trans (List.sublist_append_right T48 _)).append_left T57).cons_cons _)
          have hO4 := O60
          rw [← u8s_append, ← u8s_append, ← codeS_l hlv] at hO4
          exact ⟨_, (by omega), (p + 1), (p + 1), ((B ++ codeN (p - at_ + 1)) ++ codeS (x.getD p 0)), (n + (kOf (p - at_ + 1) + (kOf (p - at_ + 1) + 1)) + (kOf ((unsg (x.getD p 0)).toNat) + (kOf ((unsg (x.getD p 0)).toNat) + 1))), A62, cq63, T57, (fun zz => Array.getD #[.agg (iv x), .int .i64 ((f : Nat) : Int), .pointer (some ⟨g2, 0, none⟩), undef, (u11 4), (u11 5), .slice A62 (n + (kOf (p - at_ + 1) + (kOf (p - at_ + 1) + 1)) + (kOf ((unsg (x.getD p 0)).toNat) + (kOf ((unsg (x.getD p 0)).toNat) + 1))) cq63, .int .i64 ((p + 1 : Nat) : Int), .int .i64 (((p : Nat) : Int) + 1), .int .i64 ((f : Nat) : Int), .bool false, .bool false, undef, undef, .bool false, .int .i64 ((f : Nat) : Int), .int .i64 ((f : Nat) : Int), .int .i64 ((p : Nat) : Int), .bool true, .int .i64 ((p : Nat) : Int), .int .i64 (((p : Nat) : Int) + 1), .int .i64 ((p : Nat) : Int), .pointer (some ⟨g2, p, none⟩), .int .i64 (x.getD p 0), .bool true, .bool false, .int .i64 ((p : Nat) : Int), .pointer (some ⟨g2, p, none⟩), .int .i64 (x.getD p 0), .bool true, .slice A1 n c1, .int .i64 ((p : Nat) : Int), .int .i64 ((at_ : Nat) : Int), .int .i64 (((p : Nat) : Int) - ((at_ : Nat) : Int)), .int .i64 ((p - at_ + 1 : Nat) : Int), .slice A32 (kOf (p - at_ + 1) + (kOf (p - at_ + 1) + 1)) cq33, .slice A42 (n + (kOf (p - at_ + 1) + (kOf (p - at_ + 1) + 1))) cq43, .int .i64 ((p : Nat) : Int), .pointer (some ⟨g2, p, none⟩), .int .i64 (x.getD p 0), .slice A52 (kOf ((unsg (x.getD p 0)).toNat) + (kOf ((unsg (x.getD p 0)).toNat) + 1)) cq53, .slice A62 (n + (kOf (p - at_ + 1) + (kOf (p - at_ + 1) + 1)) + (kOf ((unsg (x.getD p 0)).toNat) + (kOf ((unsg (x.getD p 0)).toNat) + 1))) cq63, .int .i64 ((p : Nat) : Int), .int .i64 ((p + 1 : Nat) : Int), undef, undef, undef] zz undef), ⟨⟨by omega, by omega, by omega, by simp only [List.length_append, codeS_l hlv]; omega, hO4, bcode_step1 (by omega) c29 hC, fun j h1 h2 => by by_cases e : j = p; subst e; exact hlv; exact hv j h1 (by omega)⟩, M67⟩, rfl, (by kernel_rfl)⟩
      ·
        refine st_callB M13 (.bool false) (by kernel_rfl) (args := #[.int .i64 (x.getD p 0)]) (run_value_call 28 #[(Operand.tmp 23)] _ rfl Try.func28 (by kernel_rfl) (by kernel_rfl) _ (by kernel_rfl)) ((by have := level_walk W12 (x.getD p 0); rw [decide_eq_false hlv] at this; exact this)) ?_
        intro W68 M69
        refine st_val (.bool true) (by kernel_rfl) (by kernel_rfl) ?_
        refine wl_nil ?_
        refine hK18 _ _ ?_
        try clear hK18 K18
        refine wp_cond_true (by kernel_rfl) ?_
        refine wp_seq_k (fun K70 hK70 => ?_)
        refine wl_region ?_
        refine st_val ((Go.Value.slice none 0 0)) (by kernel_rfl) (by kernel_rfl) ?_
        refine st_val (.int .i64 2) (by kernel_rfl) (by kernel_rfl) ?_
        refine wl_nil ?_
        refine hK70 _ _ ?_
        try clear hK70 K70
        refine wp_ret ?_
        refine th_ret ?_
        refine blk_ret ?_
        refine th_ret ?_
        refine th_ret ?_
        refine blk_ret ?_
        refine th_ret ?_
        exact done2 4 5 ((Go.Value.slice none 0 0)) (.int .i64 2) (by kernel_rfl) (by kernel_rfl) (by kernel_rfl) (by kernel_rfl) ⟨_, [], rfl, ⟨_, 0, by rw [(bE_rng hf (okB_f (by omega) (by omega) hlv)).1], by rw [(bE_rng hf (okB_f (by omega) (by omega) hlv)).2]; rfl, by rw [(bE_rng hf (okB_f (by omega) (by omega) hlv)).2]; exact Own.nil _ _⟩, M69.sub (List.nil_sublist _)⟩
    ·
      refine st_val (.bool false) (by kernel_rfl) (bool_of (dec_f c18) (by kernel_rfl)) ?_
      refine wl_nil ?_
      refine hK15 _ _ ?_
      try clear hK15 K15
      refine wp_cond_false (by kernel_rfl) ?_
      refine wp_exit ?_
      refine th_exit ?_
      refine th_exit ?_
      refine blk_exit ?_
      refine hK9 _ _ ?_
      try clear hK9 K9
      refine wp_seq_k (fun K71 hK71 => ?_)
      have hq1 := codeN_length 0
      have hq3 := codeN_le (v := 0) (by omega)
      have hok := okB_t (f := f) (fun i h1 h2 => hv i h2 (by omega))
      refine wl_region ?_
      refine st_val (.slice A1 n c1) (by kernel_rfl) (by kernel_rfl) ?_
      refine st_callR (A := [(g2, .cells (iv x) 23 (0, 0))]) (B := (T1 ++ [])) M13 (by kernel_rfl) (run_value_call 29 #[(Operand.const (Value.int IntKind.i64 0))] _ rfl Try.func29 (by kernel_rfl) (by kernel_rfl) _ (by kernel_rfl)) (code_walk W12 0 (by omega)) ?_
      intro v72 T73 W74 O75 M76
      have M76 : Mem NoS w W74 ((g2, .cells (iv x) 23 (0, 0)) :: (T73 ++ (T1 ++ []))) := M76
      obtain ⟨A77, cq78, rfl, hc79⟩ := O75.shape
      have M89 : Mem NoS w W74 ((g2, .cells (iv x) 23 (0, 0)) :: (T1 ++ (T73 ++ []))) := M76.swap (A := [(g2, .cells (iv x) 23 (0, 0))]) (T := T73) (U := T1) (B := [])
      obtain ⟨v80, T81, W82, hr83, O84, M85⟩ := append_u8 (A := [(g2, .cells (iv x) 23 (0, 0))]) (T := T1) (B := (T73 ++ [])) M89 29 _ _ _ O1 _ (kOf 0 + (kOf 0 + 1)) (u8s (codeN 0)) (O75.rd (fun p hp => M89.at_ p (List.mem_cons_of_mem _ (List.mem_append_right _ (List.mem_append_left _ hp))))) (by rw [u8s_length, codeN_length]; omega) (u8s_one _) (by omega)
      have M85 : Mem NoS w W82 ((g2, .cells (iv x) 23 (0, 0)) :: (T81 ++ (T73 ++ []))) := M85
      obtain ⟨A86, cq87, rfl, hc88⟩ := O84.shape
      refine st_world (.slice A86 (n + (kOf 0 + (kOf 0 + 1))) cq87) W82 (by kernel_rfl) (run_append_op (.tmp 44) (.tmp 45) _ rfl (.slice A1 n c1) (.slice A77 (kOf 0 + (kOf 0 + 1)) cq78) _ (by kernel_rfl) (by kernel_rfl) hr83) ?_
      refine st_val (.slice A86 (n + (kOf 0 + (kOf 0 + 1))) cq87) (by kernel_rfl) (by kernel_rfl) ?_
      refine st_val (.int .i64 0) (by kernel_rfl) (by kernel_rfl) ?_
      refine wl_nil ?_
      refine hK71 _ _ ?_
      try clear hK71 K71
      refine wp_ret ?_
      have hO4 := O84
      rw [← u8s_append] at hO4
      have hfin : bC x f = B ++ codeN 0 := by rw [(bE_ok hf hok).2, ← hC, show 64 - p = 0 by omega]; rfl
      exact done2 4 5 (.slice A86 (n + (kOf 0 + (kOf 0 + 1))) cq87) (.int .i64 0) (by kernel_rfl) (by kernel_rfl) (by kernel_rfl) (by kernel_rfl) ⟨_, T81, rfl, ⟨_, n + (kOf 0 + (kOf 0 + 1)), by rw [(bE_ok hf hok).1], by rw [hfin, List.length_append]; omega, by rw [hfin]; exact hO4⟩, M85.sub (((List.sublist_append_left T81 (T73 ++ []))).cons _)⟩
  ·
    refine st_val (.bool true) (by kernel_rfl) (bool_of (neq_t c10) (by kernel_rfl)) ?_
    refine st_val (.bool true) (by kernel_rfl) (by kernel_rfl) ?_
    refine st_val (.int .i64 ((f : Nat) : Int)) (by kernel_rfl) (by kernel_rfl) ?_
    refine st_val (.bool false) (by kernel_rfl) (bool_of (neq_f (show (((f : Nat) : Int) : Int) = 1 by omega)) (by kernel_rfl)) ?_
    refine st_val (.bool false) (by kernel_rfl) (by kernel_rfl) ?_
    refine wl_nil ?_
    refine hK6 _ _ ?_
    try clear hK6 K6
    refine wp_cond_false (by kernel_rfl) ?_
    refine wp_skip ?_
    refine hK5 _ _ ?_
    try clear hK5 K5
    refine wp_seq_k (fun K90 hK90 => ?_)
    refine wl_region ?_
    refine st_val ((Go.Value.slice none 0 0)) (by kernel_rfl) (by kernel_rfl) ?_
    refine wl_nil ?_
    refine hK90 _ _ ?_
    try clear hK90 K90
    refine wp_seq_k (fun K91 hK91 => ?_)
    refine wl_region ?_
    refine st_val (.int .i64 ((f : Nat) : Int)) (by kernel_rfl) (by kernel_rfl) ?_
    refine st_val (.int .i64 ((f : Nat) : Int)) (by kernel_rfl) (by kernel_rfl) ?_
    refine wl_nil ?_
    refine hK91 _ _ ?_
    try clear hK91 K91
    refine wp_seq_k (fun K92 hK92 => ?_)
    refine wp_seq_k (fun K93 hK93 => ?_)
    refine wl_region ?_
    refine st_val (.int .i64 ((f : Nat) : Int)) (by kernel_rfl) (by kernel_rfl) ?_
    refine st_val (.int .i64 ((f : Nat) : Int)) (by kernel_rfl) (by kernel_rfl) ?_
    refine wl_nil ?_
    refine hK93 _ _ ?_
    try clear hK93 K93
    refine wp_frame (a' := ⟨#[.agg (iv x), .int .i64 ((f : Nat) : Int), .pointer (some ⟨g2, 0, none⟩), undef, (Go.Value.slice none 0 0), .int .i64 0, (Go.Value.slice none 0 0), .int .i64 ((f : Nat) : Int), .int .i64 ((f : Nat) : Int), .int .i64 ((f : Nat) : Int), .bool true, .bool true, .int .i64 ((f : Nat) : Int), .bool false, .bool false, .int .i64 ((f : Nat) : Int), .int .i64 ((f : Nat) : Int), undef, undef, undef, undef, undef, undef, undef, undef, undef, undef, undef, undef, undef, undef, undef, undef, undef, undef, undef, undef, undef, undef, undef, undef, undef, undef, undef, undef, undef, undef], []⟩) (by kernel_rfl) ?_
    refine wp_block ?_
    refine wp_loop_ghost (fun gn a' w' => ∃ (p : Nat) (at_ : Nat) (B : List Nat) (n : Nat) (A1 : Option Addr) (c1 : Nat) (T1 : List (Nat × Obj)) (u94 : Nat → Value), ((p ≤ 64 ∧ f ≤ at_ ∧ at_ ≤ p ∧ n = B.length ∧ Own 5 1 (.slice A1 n c1) n (u8s B) T1 ∧ B ++ bcode x (64 - p) at_ p = bcode x (64 - f) f f ∧ ∀ j, f ≤ j → j < p → lev (x.getD j 0)) ∧ Mem NoS w w' ((g2, .cells (iv x) 23 (0, 0)) :: (T1 ++ []))) ∧ gn = 64 - p ∧ a' = ⟨#[.agg (iv x), .int .i64 ((f : Nat) : Int), .pointer (some ⟨g2, 0, none⟩), undef, (u94 4), (u94 5), .slice A1 n c1, .int .i64 ((at_ : Nat) : Int), .int .i64 ((p : Nat) : Int), .int .i64 ((f : Nat) : Int), .bool true, .bool true, .int .i64 ((f : Nat) : Int), .bool false, .bool false, .int .i64 ((f : Nat) : Int), .int .i64 ((f : Nat) : Int), (u94 17), (u94 18), (u94 19), (u94 20), (u94 21), (u94 22), (u94 23), (u94 24), (u94 25), (u94 26), (u94 27), (u94 28), (u94 29), (u94 30), (u94 31), (u94 32), (u94 33), (u94 34), (u94 35), (u94 36), (u94 37), (u94 38), (u94 39), (u94 40), (u94 41), (u94 42), (u94 43), undef, undef, undef], []⟩) _ ⟨f, f, ([]), 0, none, 0, ([]), (fun zz => Array.getD #[.agg (iv x), .int .i64 ((f : Nat) : Int), .pointer (some ⟨g2, 0, none⟩), undef, (Go.Value.slice none 0 0), .int .i64 0, (Go.Value.slice none 0 0), .int .i64 ((f : Nat) : Int), .int .i64 ((f : Nat) : Int), .int .i64 ((f : Nat) : Int), .bool true, .bool true, .int .i64 ((f : Nat) : Int), .bool false, .bool false, .int .i64 ((f : Nat) : Int), .int .i64 ((f : Nat) : Int), undef, undef, undef, undef, undef, undef, undef, undef, undef, undef, undef, undef, undef, undef, undef, undef, undef, undef, undef, undef, undef, undef, undef, undef, undef, undef, undef, undef, undef, undef] zz undef), ⟨⟨by omega, by omega, by omega, rfl, Own.nil _ _, rfl, fun j h1 h2 => by omega⟩, M4⟩, rfl, (by kernel_rfl)⟩ ?_
    rintro gn _ W95 ⟨p, at_, B, n, A1, c1, T1, u94, ⟨⟨rp, ra, rb, hn, O1, hC, hv⟩, M96⟩, rfl, rfl⟩
    have hCl := bcode_le x (64 - f) f f (by omega)
    have hBl := congrArg List.length hC
    simp only [List.length_append] at hBl
    refine wp_seq_k (fun K97 hK97 => ?_)
    refine wp_seq_k (fun K98 hK98 => ?_)
    refine wl_region ?_
    refine st_val (.int .i64 ((p : Nat) : Int)) (by kernel_rfl) (by kernel_rfl) ?_
    rcases Decidable.em ((((p : Nat) : Int) : Int) < 64) with c18 | c18
    ·
      refine st_val (.bool true) (by kernel_rfl) (bool_of (dec_t c18) (by kernel_rfl)) ?_
      refine wl_nil ?_
      refine hK98 _ _ ?_
      try clear hK98 K98
      refine wp_cond_true (by kernel_rfl) ?_
      refine wp_skip ?_
      refine hK97 _ _ ?_
      try clear hK97 K97
      refine wp_seq_k (fun K99 hK99 => ?_)
      refine wp_block ?_
      refine wp_seq_k (fun K100 hK100 => ?_)
      refine wp_seq_k (fun K101 hK101 => ?_)
      refine wl_region ?_
      refine st_val (.int .i64 ((p : Nat) : Int)) (by kernel_rfl) (by kernel_rfl) ?_
      refine st_val (.pointer (some ⟨g2, p, none⟩)) (by kernel_rfl) (run_indexAddr 23 (.tmp 2) (.tmp 21) rfl ⟨g2, 0, none⟩ .i64 p (by kernel_rfl) (by kernel_rfl) Try.underlying23 1 (by kernel_rfl) (by omega) ⟨g2, p, none⟩ (addr_at0 _ _)) ?_
      refine st_val (.int .i64 (x.getD p 0)) (by kernel_rfl) (run_load_cell 3 (.tmp 22) rfl ⟨g2, p, none⟩ (by kernel_rfl) _ (M96.cell 0 rfl p _ (iv_get x p (by rw [hx]; omega))) (by kernel_rfl)) ?_
      rcases Classical.em (lev (x.getD p 0)) with hlv | hlv
      ·
        refine st_callB M96 (.bool true) (by kernel_rfl) (args := #[.int .i64 (x.getD p 0)]) (run_value_call 28 #[(Operand.tmp 23)] _ rfl Try.func28 (by kernel_rfl) (by kernel_rfl) _ (by kernel_rfl)) ((by have := level_walk W95 (x.getD p 0); rw [decide_eq_true hlv] at this; exact this)) ?_
        intro W102 M103
        refine st_val (.bool false) (by kernel_rfl) (by kernel_rfl) ?_
        refine wl_nil ?_
        refine hK101 _ _ ?_
        try clear hK101 K101
        refine wp_cond_false (by kernel_rfl) ?_
        refine wp_skip ?_
        refine hK100 _ _ ?_
        try clear hK100 K100
        refine wp_seq_k (fun K104 hK104 => ?_)
        refine wl_region ?_
        refine st_val (.int .i64 ((p : Nat) : Int)) (by kernel_rfl) (by kernel_rfl) ?_
        refine st_val (.pointer (some ⟨g2, p, none⟩)) (by kernel_rfl) (run_indexAddr 23 (.tmp 2) (.tmp 26) rfl ⟨g2, 0, none⟩ .i64 p (by kernel_rfl) (by kernel_rfl) Try.underlying23 1 (by kernel_rfl) (by omega) ⟨g2, p, none⟩ (addr_at0 _ _)) ?_
        refine st_val (.int .i64 (x.getD p 0)) (by kernel_rfl) (run_load_cell 3 (.tmp 27) rfl ⟨g2, p, none⟩ (by kernel_rfl) _ (M103.cell 0 rfl p _ (iv_get x p (by rw [hx]; omega))) (by kernel_rfl)) ?_
        rcases Decidable.em ((x.getD p 0 : Int) = 0) with c29 | c29
        ·
          refine st_val (.bool false) (by kernel_rfl) (bool_of (neq_f c29) (by kernel_rfl)) ?_
          refine wl_nil ?_
          refine hK104 _ _ ?_
          try clear hK104 K104
          refine wp_cond_false (by kernel_rfl) ?_
          refine wp_skip ?_
          refine blk_normal ?_
          refine hK99 _ _ ?_
          try clear hK99 K99
          refine wl_region ?_
          refine st_val (.int .i64 ((p : Nat) : Int)) (by kernel_rfl) (by kernel_rfl) ?_
          refine st_val (.int .i64 (((p : Nat) : Int) + 1)) (by kernel_rfl) (i64_of (by omega) (by kernel_rfl)) ?_
          refine st_val (.int .i64 (((p : Nat) : Int) + 1)) (by kernel_rfl) (by kernel_rfl) ?_
          refine wl_nil ?_
          refine th_normal ?_
          exact ⟨_, (by omega), (p + 1), at_, B, n, A1, c1, T1, (fun zz => Array.getD #[.agg (iv x), .int .i64 ((f : Nat) : Int), .pointer (some ⟨g2, 0, none⟩), undef, (u94 4), (u94 5), .slice A1 n c1, .int .i64 ((at_ : Nat) : Int), .int .i64 (((p : Nat) : Int) + 1), .int .i64 ((f : Nat) : Int), .bool true, .bool true, .int .i64 ((f : Nat) : Int), .bool false, .bool false, .int .i64 ((f : Nat) : Int), .int .i64 ((f : Nat) : Int), .int .i64 ((p : Nat) : Int), .bool true, .int .i64 ((p : Nat) : Int), .int .i64 (((p : Nat) : Int) + 1), .int .i64 ((p : Nat) : Int), .pointer (some ⟨g2, p, none⟩), .int .i64 (x.getD p 0), .bool true, .bool false, .int .i64 ((p : Nat) : Int), .pointer (some ⟨g2, p, none⟩), .int .i64 (x.getD p 0), .bool false, (u94 30), (u94 31), (u94 32), (u94 33), (u94 34), (u94 35), (u94 36), (u94 37), (u94 38), (u94 39), (u94 40), (u94 41), (u94 42), (u94 43), undef, undef, undef] zz undef), ⟨⟨by omega, by omega, by omega, hn, O1, bcode_step0 (by omega) (by omega) hC, fun j h1 h2 => by by_cases e : j = p; subst e; exact hlv; exact hv j h1 (by omega)⟩, M103⟩, rfl, (by kernel_rfl)⟩
        ·
          refine st_val (.bool true) (by kernel_rfl) (bool_of (neq_t c29) (by kernel_rfl)) ?_
          refine wl_nil ?_
          refine hK104 _ _ ?_
          try clear hK104 K104
          refine wp_cond_true (by kernel_rfl) ?_
          refine wp_seq_k (fun K105 hK105 => ?_)
          have hq1 := codeN_length (p - at_ + 1)
          have hq2 := codeN_length (unsg (x.getD p 0)).toNat
          have hq3 := codeN_le (v := p - at_ + 1) (by omega)
          have hq4 := codeN_le (unsg_le hlv)
          refine wh_region (fun w' => Mem NoS w w' [(g2, .cells (iv x) 23 (0, 0))]) (by kernel_rfl) (by kernel_rfl) (fun d _ _ _ _ h => by cases d <;> exact h) 13 rfl #[false, false, false, false, false, false, false, false, false, false, false, false, false] rfl ?_
          intro R106
          have M108 := M103.drew
          have hS109 : Mem NoS w W102.drew [(g2, .cells (iv x) 23 (0, 0))] := M108.sub (((List.Sublist.refl []).trans (List.sublist_append_right T1 _)).cons_cons _)
          refine wh_take R106 0 (.slice A1 n c1) rfl (by kernel_rfl) (by kernel_rfl) (by kernel_rfl) (fun w' M' => (by kernel_rfl)) hS109 #[true, false, false, false, false, false, false, false, false, false, false, false, false] rfl ?_
          refine wh_take R106 1 (.int .i64 ((p : Nat) : Int)) rfl (by kernel_rfl) (by kernel_rfl) (by kernel_rfl) (fun w' M' => (by kernel_rfl)) hS109 #[true, true, false, false, false, false, false, false, false, false, false, false, false] rfl ?_
          refine wh_take R106 2 (.int .i64 ((at_ : Nat) : Int)) rfl (by kernel_rfl) (by kernel_rfl) (by kernel_rfl) (fun w' M' => (by kernel_rfl)) hS109 #[true, true, true, false, false, false, false, false, false, false, false, false, false] rfl ?_
          refine wh_take R106 3 (.int .i64 (((p : Nat) : Int) - ((at_ : Nat) : Int))) rfl (by kernel_rfl) (by kernel_rfl) (by kernel_rfl) (fun w' M' => (i64_of (by omega) (by kernel_rfl))) hS109 #[true, true, true, true, false, false, false, false, false, false, false, false, false] rfl ?_
          refine wh_take R106 4 (.int .i64 ((p - at_ + 1 : Nat) : Int)) rfl (by kernel_rfl) (by kernel_rfl) (by kernel_rfl) (fun w' M' => (int_of (show ((p : Nat) : Int) - ((at_ : Nat) : Int) + 1 = ((p - at_ + 1 : Nat) : Int) by omega) (i64_of (by omega) (by kernel_rfl)))) hS109 #[true, true, true, true, true, false, false, false, false, false, false, false, false] rfl ?_
          refine wh_take R106 7 (.int .i64 ((p : Nat) : Int)) rfl (by kernel_rfl) (by kernel_rfl) (by kernel_rfl) (fun w' M' => (by kernel_rfl)) hS109 #[true, true, true, true, true, false, false, true, false, false, false, false, false] rfl ?_
          refine wh_take R106 8 (.pointer (some ⟨g2, p, none⟩)) rfl (by kernel_rfl) (by kernel_rfl) (by kernel_rfl) (fun w' M' => (run_indexAddr 23 (.tmp 2) (.tmp 37) rfl ⟨g2, 0, none⟩ .i64 p (by kernel_rfl) (by kernel_rfl) Try.underlying23 1 (by kernel_rfl) (by omega) ⟨g2, p, none⟩ (addr_at0 _ _))) hS109 #[true, true, true, true, true, false, false, true, true, false, false, false, false] rfl ?_
          refine wh_take R106 9 (.int .i64 (x.getD p 0)) rfl (by kernel_rfl) (by kernel_rfl) (by kernel_rfl) (fun w' M' => (run_load_cell 3 (.tmp 38) rfl ⟨g2, p, none⟩ (by kernel_rfl) _ (M'.cell 0 rfl p _ (iv_get x p (by rw [hx]; omega))) (by kernel_rfl))) hS109 #[true, true, true, true, true, false, false, true, true, true, false, false, false] rfl ?_
          refine wh_callR (A := [(g2, .cells (iv x) 23 (0, 0))]) (B := (T1 ++ [])) M108 5 rfl (by kernel_rfl) (by kernel_rfl) (run_value_call 29 #[(Operand.tmp 34)] _ rfl Try.func29 (by kernel_rfl) (by kernel_rfl) _ (by kernel_rfl)) #[true, true, true, true, true, true, false, true, true, true, false, false, false] rfl (code_walk W102.drew (p - at_ + 1) (by omega)) ?_
          intro v110 T111 W112 O113 M114
          have M114 : Mem NoS w W112 ((g2, .cells (iv x) 23 (0, 0)) :: (T111 ++ (T1 ++ []))) := M114
          obtain ⟨A115, cq116, rfl, hc117⟩ := O113.shape
          have hS118 : Mem NoS w W112 [(g2, .cells (iv x) 23 (0, 0))] := M114.sub ((((List.Sublist.refl []).trans (List.sublist_append_right T1 _)).trans (List.sublist_append_right T111 _)).cons_cons _)
          refine ⟨hS118, ?_⟩
          have M128 : Mem NoS w W112 ((g2, .cells (iv x) 23 (0, 0)) :: (T1 ++ (T111 ++ []))) := M114.swap (A := [(g2, .cells (iv x) 23 (0, 0))]) (T := T111) (U := T1) (B := [])
          obtain ⟨v119, T120, W121, hr122, O123, M124⟩ := append_u8 (A := [(g2, .cells (iv x) 23 (0, 0))]) (T := T1) (B := (T111 ++ [])) M128 29 _ _ _ O1 _ (kOf (p - at_ + 1) + (kOf (p - at_ + 1) + 1)) (u8s (codeN (p - at_ + 1))) (O113.rd (fun p hp => M128.at_ p (List.mem_cons_of_mem _ (List.mem_append_right _ (List.mem_append_left _ hp))))) (by rw [u8s_length, codeN_length]; omega) (u8s_one _) (by omega)
          have M124 : Mem NoS w W121 ((g2, .cells (iv x) 23 (0, 0)) :: (T120 ++ (T111 ++ []))) := M124
          obtain ⟨A125, cq126, rfl, hc127⟩ := O123.shape
          have hS129 : Mem NoS w W121 [(g2, .cells (iv x) 23 (0, 0))] := M124.sub ((((List.Sublist.refl []).trans (List.sublist_append_right T111 _)).trans (List.sublist_append_right T120 _)).cons_cons _)
          refine wh_world 6 (.slice A125 (n + (kOf (p - at_ + 1) + (kOf (p - at_ + 1) + 1))) cq126) W121 rfl (by kernel_rfl) (by kernel_rfl) (run_append_op (.tmp 30) (.tmp 35) _ rfl (.slice A1 n c1) (.slice A115 (kOf (p - at_ + 1) + (kOf (p - at_ + 1) + 1)) cq116) _ (by kernel_rfl) (by kernel_rfl) hr122) #[true, true, true, true, true, true, true, true, true, true, false, false, false] rfl hS129 ?_
          refine wh_callR (A := [(g2, .cells (iv x) 23 (0, 0))]) (B := (T120 ++ (T111 ++ []))) M124 10 rfl (by kernel_rfl) (by kernel_rfl) (run_value_call 30 #[(Operand.tmp 39)] _ rfl Try.func30 (by kernel_rfl) (by kernel_rfl) _ (by kernel_rfl)) #[true, true, true, true, true, true, true, true, true, true, true, false, false] rfl (scode_walk W121 (x.getD p 0) (lev_mayS hlv)) ?_
          intro v130 T131 W132 O133 M134
          have M134 : Mem NoS w W132 ((g2, .cells (iv x) 23 (0, 0)) :: (T131 ++ (T120 ++ (T111 ++ [])))) := M134
          obtain ⟨A135, cq136, rfl, hc137⟩ := O133.shape
          have hS138 : Mem NoS w W132 [(g2, .cells (iv x) 23 (0, 0))] := M134.sub (((((List.Sublist.refl []).trans (List.sublist_append_right T111 _)).trans (List.sublist_append_right T120 _)).trans (List.sublist_append_right T131 _)).cons_cons _)
          refine ⟨hS138, ?_⟩
          have M148 : Mem NoS w W132 ((g2, .cells (iv x) 23 (0, 0)) :: (T120 ++ (T131 ++ (T111 ++ [])))) := M134.swap (A := [(g2, .cells (iv x) 23 (0, 0))]) (T := T131) (U := T120) (B := (T111 ++ []))
          obtain ⟨v139, T140, W141, hr142, O143, M144⟩ := append_u8 (A := [(g2, .cells (iv x) 23 (0, 0))]) (T := T120) (B := (T131 ++ (T111 ++ []))) M148 29 _ _ _ O123 _ (kOf ((unsg (x.getD p 0)).toNat) + (kOf ((unsg (x.getD p 0)).toNat) + 1)) (u8s (codeN ((unsg (x.getD p 0)).toNat))) (O133.rd (fun p hp => M148.at_ p (List.mem_cons_of_mem _ (List.mem_append_right _ (List.mem_append_left _ hp))))) (by rw [u8s_length, codeN_length]; omega) (u8s_one _) (by omega)
          have M144 : Mem NoS w W141 ((g2, .cells (iv x) 23 (0, 0)) :: (T140 ++ (T131 ++ (T111 ++ [])))) := M144
          obtain ⟨A145, cq146, rfl, hc147⟩ := O143.shape
          have hS149 : Mem NoS w W141 [(g2, .cells (iv x) 23 (0, 0))] := M144.sub (((((List.Sublist.refl []).trans (List.sublist_append_right T111 _)).trans (List.sublist_append_right T131 _)).trans (List.sublist_append_right T140 _)).cons_cons _)
          refine wh_world 11 (.slice A145 (n + (kOf (p - at_ + 1) + (kOf (p - at_ + 1) + 1)) + (kOf ((unsg (x.getD p 0)).toNat) + (kOf ((unsg (x.getD p 0)).toNat) + 1))) cq146) W141 rfl (by kernel_rfl) (by kernel_rfl) (run_append_op (.tmp 36) (.tmp 40) _ rfl (.slice A125 (n + (kOf (p - at_ + 1) + (kOf (p - at_ + 1) + 1))) cq126) (.slice A135 (kOf ((unsg (x.getD p 0)).toNat) + (kOf ((unsg (x.getD p 0)).toNat) + 1)) cq136) _ (by kernel_rfl) (by kernel_rfl) hr142) #[true, true, true, true, true, true, true, true, true, true, true, true, false] rfl hS149 ?_
          refine wh_take R106 12 (.slice A145 (n + (kOf (p - at_ + 1) + (kOf (p - at_ + 1) + 1)) + (kOf ((unsg (x.getD p 0)).toNat) + (kOf ((unsg (x.getD p 0)).toNat) + 1))) cq146) rfl (by kernel_rfl) (by kernel_rfl) (by kernel_rfl) (fun w' M' => (by kernel_rfl)) hS149 #[true, true, true, true, true, true, true, true, true, true, true, true, true] rfl ?_
          refine wh_done (by kernel_rfl) ?_
          refine hK105 _ _ ?_
          try clear hK105 K105
          refine wp_frame (a' := ⟨#[.agg (iv x), .int .i64 ((f : Nat) : Int), .pointer (some ⟨g2, 0, none⟩), undef, (u94 4), (u94 5), .slice A145 (n + (kOf (p - at_ + 1) + (kOf (p - at_ + 1) + 1)) + (kOf ((unsg (x.getD p 0)).toNat) + (kOf ((unsg (x.getD p 0)).toNat) + 1))) cq146, .int .i64 ((at_ : Nat) : Int), .int .i64 ((p : Nat) : Int), .int .i64 ((f : Nat) : Int), .bool true, .bool true, .int .i64 ((f : Nat) : Int), .bool false, .bool false, .int .i64 ((f : Nat) : Int), .int .i64 ((f : Nat) : Int), .int .i64 ((p : Nat) : Int), .bool true, (u94 19), (u94 20), .int .i64 ((p : Nat) : Int), .pointer (some ⟨g2, p, none⟩), .int .i64 (x.getD p 0), .bool true, .bool false, .int .i64 ((p : Nat) : Int), .pointer (some ⟨g2, p, none⟩), .int .i64 (x.getD p 0), .bool true, .slice A1 n c1, .int .i64 ((p : Nat) : Int), .int .i64 ((at_ : Nat) : Int), .int .i64 (((p : Nat) : Int) - ((at_ : Nat) : Int)), .int .i64 ((p - at_ + 1 : Nat) : Int), .slice A115 (kOf (p - at_ + 1) + (kOf (p - at_ + 1) + 1)) cq116, .slice A125 (n + (kOf (p - at_ + 1) + (kOf (p - at_ + 1) + 1))) cq126, .int .i64 ((p : Nat) : Int), .pointer (some ⟨g2, p, none⟩), .int .i64 (x.getD p 0), .slice A135 (kOf ((unsg (x.getD p 0)).toNat) + (kOf ((unsg (x.getD p 0)).toNat) + 1)) cq136, .slice A145 (n + (kOf (p - at_ + 1) + (kOf (p - at_ + 1) + 1)) + (kOf ((unsg (x.getD p 0)).toNat) + (kOf ((unsg (x.getD p 0)).toNat) + 1))) cq146, (u94 42), (u94 43), undef, undef, undef], []⟩) (by kernel_rfl) ?_
          refine wl_region ?_
          refine st_val (.int .i64 ((p : Nat) : Int)) (by kernel_rfl) (by kernel_rfl) ?_
          refine st_val (.int .i64 ((p + 1 : Nat) : Int)) (by kernel_rfl) (i64_of (by omega) (by kernel_rfl)) ?_
          refine st_val (.int .i64 ((p + 1 : Nat) : Int)) (by kernel_rfl) (by kernel_rfl) ?_
          refine wl_nil ?_
          refine blk_normal ?_
          refine hK99 _ _ ?_
          try clear hK99 K99
          refine wl_region ?_
          refine st_val (.int .i64 ((p : Nat) : Int)) (by kernel_rfl) (by kernel_rfl) ?_
          refine st_val (.int .i64 (((p : Nat) : Int) + 1)) (by kernel_rfl) (i64_of (by omega) (by kernel_rfl)) ?_
          refine st_val (.int .i64 (((p : Nat) : Int) + 1)) (by kernel_rfl) (by kernel_rfl) ?_
          refine wl_nil ?_
          refine th_normal ?_
          have M150 : Mem NoS w W141 ((g2, .cells (iv x) 23 (0, 0)) :: (T140 ++ [])) := M144.sub (((((List.Sublist.refl []).trans (List.sublist_append_right T111 _)).trans (List.sublist_append_right T131 _)).append_left T140).cons_cons _)
          have hO4 := O143
          rw [← u8s_append, ← u8s_append, ← codeS_l hlv] at hO4
          exact ⟨_, (by omega), (p + 1), (p + 1), ((B ++ codeN (p - at_ + 1)) ++ codeS (x.getD p 0)), (n + (kOf (p - at_ + 1) + (kOf (p - at_ + 1) + 1)) + (kOf ((unsg (x.getD p 0)).toNat) + (kOf ((unsg (x.getD p 0)).toNat) + 1))), A145, cq146, T140, (fun zz => Array.getD #[.agg (iv x), .int .i64 ((f : Nat) : Int), .pointer (some ⟨g2, 0, none⟩), undef, (u94 4), (u94 5), .slice A145 (n + (kOf (p - at_ + 1) + (kOf (p - at_ + 1) + 1)) + (kOf ((unsg (x.getD p 0)).toNat) + (kOf ((unsg (x.getD p 0)).toNat) + 1))) cq146, .int .i64 ((p + 1 : Nat) : Int), .int .i64 (((p : Nat) : Int) + 1), .int .i64 ((f : Nat) : Int), .bool true, .bool true, .int .i64 ((f : Nat) : Int), .bool false, .bool false, .int .i64 ((f : Nat) : Int), .int .i64 ((f : Nat) : Int), .int .i64 ((p : Nat) : Int), .bool true, .int .i64 ((p : Nat) : Int), .int .i64 (((p : Nat) : Int) + 1), .int .i64 ((p : Nat) : Int), .pointer (some ⟨g2, p, none⟩), .int .i64 (x.getD p 0), .bool true, .bool false, .int .i64 ((p : Nat) : Int), .pointer (some ⟨g2, p, none⟩), .int .i64 (x.getD p 0), .bool true, .slice A1 n c1, .int .i64 ((p : Nat) : Int), .int .i64 ((at_ : Nat) : Int), .int .i64 (((p : Nat) : Int) - ((at_ : Nat) : Int)), .int .i64 ((p - at_ + 1 : Nat) : Int), .slice A115 (kOf (p - at_ + 1) + (kOf (p - at_ + 1) + 1)) cq116, .slice A125 (n + (kOf (p - at_ + 1) + (kOf (p - at_ + 1) + 1))) cq126, .int .i64 ((p : Nat) : Int), .pointer (some ⟨g2, p, none⟩), .int .i64 (x.getD p 0), .slice A135 (kOf ((unsg (x.getD p 0)).toNat) + (kOf ((unsg (x.getD p 0)).toNat) + 1)) cq136, .slice A145 (n + (kOf (p - at_ + 1) + (kOf (p - at_ + 1) + 1)) + (kOf ((unsg (x.getD p 0)).toNat) + (kOf ((unsg (x.getD p 0)).toNat) + 1))) cq146, .int .i64 ((p : Nat) : Int), .int .i64 ((p + 1 : Nat) : Int), undef, undef, undef] zz undef), ⟨⟨by omega, by omega, by omega, by simp only [List.length_append, codeS_l hlv]; omega, hO4, bcode_step1 (by omega) c29 hC, fun j h1 h2 => by by_cases e : j = p; subst e; exact hlv; exact hv j h1 (by omega)⟩, M150⟩, rfl, (by kernel_rfl)⟩
      ·
        refine st_callB M96 (.bool false) (by kernel_rfl) (args := #[.int .i64 (x.getD p 0)]) (run_value_call 28 #[(Operand.tmp 23)] _ rfl Try.func28 (by kernel_rfl) (by kernel_rfl) _ (by kernel_rfl)) ((by have := level_walk W95 (x.getD p 0); rw [decide_eq_false hlv] at this; exact this)) ?_
        intro W151 M152
        refine st_val (.bool true) (by kernel_rfl) (by kernel_rfl) ?_
        refine wl_nil ?_
        refine hK101 _ _ ?_
        try clear hK101 K101
        refine wp_cond_true (by kernel_rfl) ?_
        refine wp_seq_k (fun K153 hK153 => ?_)
        refine wl_region ?_
        refine st_val ((Go.Value.slice none 0 0)) (by kernel_rfl) (by kernel_rfl) ?_
        refine st_val (.int .i64 2) (by kernel_rfl) (by kernel_rfl) ?_
        refine wl_nil ?_
        refine hK153 _ _ ?_
        try clear hK153 K153
        refine wp_ret ?_
        refine th_ret ?_
        refine blk_ret ?_
        refine th_ret ?_
        refine th_ret ?_
        refine blk_ret ?_
        refine th_ret ?_
        exact done2 4 5 ((Go.Value.slice none 0 0)) (.int .i64 2) (by kernel_rfl) (by kernel_rfl) (by kernel_rfl) (by kernel_rfl) ⟨_, [], rfl, ⟨_, 0, by rw [(bE_rng hf (okB_f (by omega) (by omega) hlv)).1], by rw [(bE_rng hf (okB_f (by omega) (by omega) hlv)).2]; rfl, by rw [(bE_rng hf (okB_f (by omega) (by omega) hlv)).2]; exact Own.nil _ _⟩, M152.sub (List.nil_sublist _)⟩
    ·
      refine st_val (.bool false) (by kernel_rfl) (bool_of (dec_f c18) (by kernel_rfl)) ?_
      refine wl_nil ?_
      refine hK98 _ _ ?_
      try clear hK98 K98
      refine wp_cond_false (by kernel_rfl) ?_
      refine wp_exit ?_
      refine th_exit ?_
      refine th_exit ?_
      refine blk_exit ?_
      refine hK92 _ _ ?_
      try clear hK92 K92
      refine wp_seq_k (fun K154 hK154 => ?_)
      have hq1 := codeN_length 0
      have hq3 := codeN_le (v := 0) (by omega)
      have hok := okB_t (f := f) (fun i h1 h2 => hv i h2 (by omega))
      refine wl_region ?_
      refine st_val (.slice A1 n c1) (by kernel_rfl) (by kernel_rfl) ?_
      refine st_callR (A := [(g2, .cells (iv x) 23 (0, 0))]) (B := (T1 ++ [])) M96 (by kernel_rfl) (run_value_call 29 #[(Operand.const (Value.int IntKind.i64 0))] _ rfl Try.func29 (by kernel_rfl) (by kernel_rfl) _ (by kernel_rfl)) (code_walk W95 0 (by omega)) ?_
      intro v155 T156 W157 O158 M159
      have M159 : Mem NoS w W157 ((g2, .cells (iv x) 23 (0, 0)) :: (T156 ++ (T1 ++ []))) := M159
      obtain ⟨A160, cq161, rfl, hc162⟩ := O158.shape
      have M172 : Mem NoS w W157 ((g2, .cells (iv x) 23 (0, 0)) :: (T1 ++ (T156 ++ []))) := M159.swap (A := [(g2, .cells (iv x) 23 (0, 0))]) (T := T156) (U := T1) (B := [])
      obtain ⟨v163, T164, W165, hr166, O167, M168⟩ := append_u8 (A := [(g2, .cells (iv x) 23 (0, 0))]) (T := T1) (B := (T156 ++ [])) M172 29 _ _ _ O1 _ (kOf 0 + (kOf 0 + 1)) (u8s (codeN 0)) (O158.rd (fun p hp => M172.at_ p (List.mem_cons_of_mem _ (List.mem_append_right _ (List.mem_append_left _ hp))))) (by rw [u8s_length, codeN_length]; omega) (u8s_one _) (by omega)
      have M168 : Mem NoS w W165 ((g2, .cells (iv x) 23 (0, 0)) :: (T164 ++ (T156 ++ []))) := M168
      obtain ⟨A169, cq170, rfl, hc171⟩ := O167.shape
      refine st_world (.slice A169 (n + (kOf 0 + (kOf 0 + 1))) cq170) W165 (by kernel_rfl) (run_append_op (.tmp 44) (.tmp 45) _ rfl (.slice A1 n c1) (.slice A160 (kOf 0 + (kOf 0 + 1)) cq161) _ (by kernel_rfl) (by kernel_rfl) hr166) ?_
      refine st_val (.slice A169 (n + (kOf 0 + (kOf 0 + 1))) cq170) (by kernel_rfl) (by kernel_rfl) ?_
      refine st_val (.int .i64 0) (by kernel_rfl) (by kernel_rfl) ?_
      refine wl_nil ?_
      refine hK154 _ _ ?_
      try clear hK154 K154
      refine wp_ret ?_
      have hO4 := O167
      rw [← u8s_append] at hO4
      have hfin : bC x f = B ++ codeN 0 := by rw [(bE_ok hf hok).2, ← hC, show 64 - p = 0 by omega]; rfl
      exact done2 4 5 (.slice A169 (n + (kOf 0 + (kOf 0 + 1))) cq170) (.int .i64 0) (by kernel_rfl) (by kernel_rfl) (by kernel_rfl) (by kernel_rfl) ⟨_, T164, rfl, ⟨_, n + (kOf 0 + (kOf 0 + 1)), by rw [(bE_ok hf hok).1], by rw [hfin, List.length_append]; omega, by rw [hfin]; exact hO4⟩, M168.sub (((List.sublist_append_left T164 (T156 ++ []))).cons _)⟩
set_option maxHeartbeats 4000000 in
set_option maxRecDepth 100000 in
theorem rcode_any (w : World) (x : List Int) (hx : x.length = 64) (fr : Int) : MakesRow Try.prog 10 #[.agg (iv x), .int .i64 fr] w (fun v T => ∃ v1 m, v = .tuple #[v1, .int .i64 (bE x fr)] ∧ m = (bC x fr).length ∧ Own 5 1 v1 m (u8s (bC x fr)) T) := by
  rcases bE_cases x fr with ⟨h, _, _⟩ | ⟨f, rfl, hf, _⟩
  · exact rcode_arg w x hx fr h
  · exact rcode_ok w x hx f hf
end Go.Proofs.Ytmchfkkifeioeaa
