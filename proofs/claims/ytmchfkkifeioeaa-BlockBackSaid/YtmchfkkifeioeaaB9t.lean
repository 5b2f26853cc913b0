/- Blocks are read. -/
import Derived.Test.YtmchfkkifeioeaaBk2
namespace Go.Proofs.Ytmchfkkifeioeaa
open Go.RowKit Bt
set_option maxHeartbeats 4000000 in
set_option maxRecDepth 100000 in
theorem btake_walk (w : World) {g : Nat} {v : Value} {p : List Nat} {en at_ : Nat} {TB : List (Nat × Obj)} (F : RF v p en TB) (ha : at_ ≤ en) (hT : Mem (fun k => k ∈ (rT g v en at_ TB).map (·.1)) w w (rT g v en at_ TB)) (f : Nat) (hf : f ≤ 1) : UpdRow Try.prog 18 #[.pointer (some ⟨g, 0, none⟩), .int .i64 (f : Int)] w (rT g v en at_ TB) (fun r T' => r = .tuple #[.agg (iv (btk ((unpack p).take en) 65 at_ f zeros).1), .int .i64 (btk ((unpack p).take en) 65 at_ f zeros).2.1] ∧ T' = rT g v en (btk ((unpack p).take en) 65 at_ f zeros).2.2 TB) := by
  unfold UpdRow
  have M0 : Mem (fun k => k ∈ (rT g v en at_ TB).map (·.1)) w w (rT g v en at_ TB ++ []) := by rw [List.append_nil]; exact hT
  refine calls_of_wp_defers Try.func18 rfl ?_
  refine wp_frame (a' := ⟨#[.pointer (some ⟨g, 0, none⟩), .int .i64 ((f : Nat) : Int), undef, undef, undef, undef, undef, undef, undef, undef, undef, undef, undef, undef, undef, undef, undef, undef, undef, undef, undef, undef, undef, undef, undef, undef, undef, undef, undef, undef, undef, undef, undef, undef, undef, undef, undef, undef, undef, undef, undef, undef, undef, undef, undef, undef, undef, undef, undef, undef, undef, undef, undef, undef, undef, undef, undef, undef], []⟩) (by kernel_rfl) ?_
  refine wp_seq_k (fun K1 hK1 => ?_)
  refine wl_region ?_
  refine st_alloc M0 (.cells (iv zeros) 23 (0, 0)) (by kernel_rfl) (by kernel_rfl) ?_
  intro g2 W3 M4
  refine st_alloc M4 (.cells #[.int .i64 0] 27 (0, 0)) (by kernel_rfl) (by kernel_rfl) ?_
  intro g5 W6 M7
  refine wl_nil ?_
  refine hK1 _ _ ?_
  try clear hK1 K1
  refine wp_seq_k (fun K8 hK8 => ?_)
  refine wp_seq_k (fun K9 hK9 => ?_)
  refine wl_region ?_
  refine st_val (.pointer (some ⟨g, 0, none⟩)) (by kernel_rfl) (by kernel_rfl) ?_
  refine st_val (.bool false) (by kernel_rfl) (by kernel_rfl) ?_
  refine st_val (.bool false) (by kernel_rfl) (by kernel_rfl) ?_
  refine st_val (.int .i64 ((f : Nat) : Int)) (by kernel_rfl) (by kernel_rfl) ?_
  refine st_callB M7 (.bool true) (by kernel_rfl) (args := #[.int .i64 ((f : Nat) : Int)]) (run_value_call 24 #[(Operand.tmp 13)] _ rfl Try.func24 (by kernel_rfl) (by kernel_rfl) _ (by kernel_rfl)) ((by have := start_walk W6 ((f : Nat) : Int); rw [decide_eq_true (by omega)] at this; exact this)) ?_
  intro W10 M11
  refine st_val (.bool false) (by kernel_rfl) (by kernel_rfl) ?_
  refine st_val (.bool false) (by kernel_rfl) (by kernel_rfl) ?_
  refine wl_nil ?_
  refine hK9 _ _ ?_
  try clear hK9 K9
  refine wp_cond_false (by kernel_rfl) ?_
  refine wp_skip ?_
  refine hK8 _ _ ?_
  try clear hK8 K8
  refine wp_seq_k (fun K12 hK12 => ?_)
  refine wl_region ?_
  refine st_val (.func (.func 35) #[] #[.pointer (some ⟨g2, 0, none⟩), .pointer (some ⟨g5, 0, none⟩)]) (by kernel_rfl) (by kernel_rfl) ?_
  refine st_defer ({ target := .fn (.func 35) #[.pointer (some ⟨g2, 0, none⟩), .pointer (some ⟨g5, 0, none⟩)], args := #[] }) (by kernel_rfl) (by kernel_rfl) ?_
  refine wl_nil ?_
  refine hK12 _ _ ?_
  try clear hK12 K12
  refine wp_seq_k (fun K13 hK13 => ?_)
  refine wl_region ?_
  refine st_val (.int .i64 ((f : Nat) : Int)) (by kernel_rfl) (by kernel_rfl) ?_
  refine st_val (.int .i64 (((f : Nat) : Int) - 1)) (by kernel_rfl) (i64_of (by omega) (by kernel_rfl)) ?_
  refine st_val (.int .i64 (((f : Nat) : Int) - 1)) (by kernel_rfl) (by kernel_rfl) ?_
  refine wl_nil ?_
  refine hK13 _ _ ?_
  try clear hK13 K13
  refine wp_frame (a' := ⟨#[.pointer (some ⟨g, 0, none⟩), .int .i64 ((f : Nat) : Int), undef, undef, .pointer (some ⟨g2, 0, none⟩), .pointer (some ⟨g5, 0, none⟩), .int .i64 (((f : Nat) : Int) - 1), undef, undef, undef, .pointer (some ⟨g, 0, none⟩), .bool false, .bool false, .int .i64 ((f : Nat) : Int), .bool true, .bool false, .bool false, undef, .func (.func 35) #[] #[.pointer (some ⟨g2, 0, none⟩), .pointer (some ⟨g5, 0, none⟩)], .int .i64 ((f : Nat) : Int), .int .i64 (((f : Nat) : Int) - 1), undef, undef, undef, undef, undef, undef, undef, undef, undef, undef, undef, undef, undef, undef, undef, undef, undef, undef, undef, undef, undef, undef, undef, undef, undef, undef, undef, undef, undef, undef, undef, undef, undef, undef, undef, undef, undef], [{ target := .fn (.func 35) #[.pointer (some ⟨g2, 0, none⟩), .pointer (some ⟨g5, 0, none⟩)], args := #[] }]⟩) (by kernel_rfl) ?_
  refine wp_block ?_
  refine wp_loop_ghost (fun gn a' w' => ∃ (n : Nat) (q : Nat) (qv : Int) (pos : Nat) (x : List Int) (u14 : Nat → Value), ((btk ((unpack p).take en) (n + 1) pos q x = (btk ((unpack p).take en) 65 at_ f zeros) ∧ qv = (q : Int) - 1 ∧ q ≤ 64 ∧ 64 ≤ q + n ∧ pos ≤ en ∧ x.length = 64) ∧ Mem (fun k => k ∈ (rT g v en at_ TB).map (·.1)) w w' ((g5, .cells #[.int .i64 0] 27 (0, 0)) :: (g2, .cells (iv x) 23 (0, 0)) :: ((rT g v en pos TB) ++ []))) ∧ gn = n + 1 ∧ a' = ⟨#[.pointer (some ⟨g, 0, none⟩), .int .i64 ((f : Nat) : Int), undef, undef, .pointer (some ⟨g2, 0, none⟩), .pointer (some ⟨g5, 0, none⟩), .int .i64 qv, (u14 7), (u14 8), (u14 9), .pointer (some ⟨g, 0, none⟩), .bool false, .bool false, .int .i64 ((f : Nat) : Int), .bool true, .bool false, .bool false, undef, .func (.func 35) #[] #[.pointer (some ⟨g2, 0, none⟩), .pointer (some ⟨g5, 0, none⟩)], .int .i64 ((f : Nat) : Int), .int .i64 (((f : Nat) : Int) - 1), (u14 21), (u14 22), (u14 23), (u14 24), (u14 25), (u14 26), (u14 27), (u14 28), (u14 29), (u14 30), (u14 31), (u14 32), (u14 33), (u14 34), (u14 35), (u14 36), (u14 37), (u14 38), (u14 39), (u14 40), (u14 41), (u14 42), (u14 43), (u14 44), (u14 45), (u14 46), (u14 47), (u14 48), (u14 49), (u14 50), (u14 51), (u14 52), (u14 53), (u14 54), (u14 55), (u14 56), (u14 57)], [{ target := .fn (.func 35) #[.pointer (some ⟨g2, 0, none⟩), .pointer (some ⟨g5, 0, none⟩)], args := #[] }]⟩) _ ⟨64, f, (((f : Nat) : Int) - 1), at_, zeros, (fun zz => Array.getD #[.pointer (some ⟨g, 0, none⟩), .int .i64 ((f : Nat) : Int), undef, undef, .pointer (some ⟨g2, 0, none⟩), .pointer (some ⟨g5, 0, none⟩), .int .i64 (((f : Nat) : Int) - 1), undef, undef, undef, .pointer (some ⟨g, 0, none⟩), .bool false, .bool false, .int .i64 ((f : Nat) : Int), .bool true, .bool false, .bool false, undef, .func (.func 35) #[] #[.pointer (some ⟨g2, 0, none⟩), .pointer (some ⟨g5, 0, none⟩)], .int .i64 ((f : Nat) : Int), .int .i64 (((f : Nat) : Int) - 1), undef, undef, undef, undef, undef, undef, undef, undef, undef, undef, undef, undef, undef, undef, undef, undef, undef, undef, undef, undef, undef, undef, undef, undef, undef, undef, undef, undef, undef, undef, undef, undef, undef, undef, undef, undef, undef] zz undef), ⟨⟨rfl, rfl, by omega, by omega, ha, zeros_length⟩, M11⟩, rfl, (by kernel_rfl)⟩ ?_
  rintro gn _ W15 ⟨n, q, qv, pos, x, u14, ⟨⟨hB, hq, rq, rn, rp, hx⟩, M16⟩, rfl, rfl⟩
  refine wp_block ?_
  refine wp_seq_k (fun K17 hK17 => ?_)
  refine wl_region ?_
  refine st_val (.pointer (some ⟨g, 0, none⟩)) (by kernel_rfl) (by kernel_rfl) ?_
  refine st_callU (A := [(g5, .cells #[.int .i64 0] 27 (0, 0)), (g2, .cells (iv x) 23 (0, 0))]) (T := (rT g v en pos TB)) (B := []) M16 (by kernel_rfl) (run_value_call 36 #[(Operand.tmp 22)] _ rfl Try.func36 (by kernel_rfl) (by kernel_rfl) _ (by kernel_rfl)) (takeU_walk W15 F (by first | omega | (have := tk_drop_le (l := ((unpack p).take en)) (a := pos) (by rw [F.llen]; omega); rw [F.llen] at this; exact this)) (Mem.part (A := [(g5, .cells #[.int .i64 0] 27 (0, 0)), (g2, .cells (iv x) 23 (0, 0))]) (T := (rT g v en pos TB)) (B := []) M16)) ?_
  intro v18 T19 W20 O21 M22
  obtain ⟨rfl, rfl⟩ := O21
  have M23 : Mem (fun k => k ∈ (rT g v en at_ TB).map (·.1)) w W20 ((g5, .cells #[.int .i64 0] 27 (0, 0)) :: (g2, .cells (iv x) 23 (0, 0)) :: ((rT g v en (pos + (tk (((unpack p).take en).drop pos)).2.2) TB) ++ [])) := M22
  refine st_val (.tuple #[.int .i64 ((tk (((unpack p).take en).drop pos)).1), .int .i64 ((tk (((unpack p).take en).drop pos)).2.1)]) (by kernel_rfl) (by kernel_rfl) ?_
  refine st_val (.int .i64 ((tk (((unpack p).take en).drop pos)).1)) (by kernel_rfl) (by kernel_rfl) ?_
  refine st_val (.int .i64 ((tk (((unpack p).take en).drop pos)).2.1)) (by kernel_rfl) (by kernel_rfl) ?_
  refine st_val (.int .i64 ((tk (((unpack p).take en).drop pos)).1)) (by kernel_rfl) (by kernel_rfl) ?_
  refine st_val (.int .i64 ((tk (((unpack p).take en).drop pos)).2.1)) (by kernel_rfl) (by kernel_rfl) ?_
  refine wl_nil ?_
  refine hK17 _ _ ?_
  try clear hK17 K17
  refine wp_seq_k (fun K24 hK24 => ?_)
  refine wl_region ?_
  refine st_val (.int .i64 ((tk (((unpack p).take en).drop pos)).2.1)) (by kernel_rfl) (by kernel_rfl) ?_
  rcases Decidable.em (((tk (((unpack p).take en).drop pos)).2.1 : Int) = 0) with c27 | c27
  ·
    refine st_val (.bool true) (by kernel_rfl) (bool_of (dec_t c27) (by kernel_rfl)) ?_
    refine st_val (.int .i64 ((tk (((unpack p).take en).drop pos)).2.1)) (by kernel_rfl) (by kernel_rfl) ?_
    refine st_callB M23 (.tuple #[]) (by kernel_rfl) (args := #[.bool true, .int .i64 ((tk (((unpack p).take en).drop pos)).2.1)]) (run_value_call 37 #[(Operand.tmp 27), (Operand.tmp 28)] _ rfl Try.func37 (by kernel_rfl) (by kernel_rfl) _ (by kernel_rfl)) (check_ok W20 ((tk (((unpack p).take en).drop pos)).2.1)) ?_
    intro W25 M26
    refine wl_nil ?_
    refine hK24 _ _ ?_
    try clear hK24 K24
    refine wp_seq_k (fun K27 hK27 => ?_)
    refine wp_seq_k (fun K28 hK28 => ?_)
    refine wl_region ?_
    refine st_val (.int .i64 ((tk (((unpack p).take en).drop pos)).1)) (by kernel_rfl) (by kernel_rfl) ?_
    rcases Decidable.em (((tk (((unpack p).take en).drop pos)).1 : Int) = 0) with c31 | c31
    ·
      refine st_val (.bool true) (by kernel_rfl) (bool_of (dec_t c31) (by kernel_rfl)) ?_
      refine wl_nil ?_
      refine hK28 _ _ ?_
      try clear hK28 K28
      refine wp_frame (a' := ⟨#[.pointer (some ⟨g, 0, none⟩), .int .i64 ((f : Nat) : Int), undef, undef, .pointer (some ⟨g2, 0, none⟩), .pointer (some ⟨g5, 0, none⟩), .int .i64 qv, .int .i64 ((tk (((unpack p).take en).drop pos)).1), .int .i64 ((tk (((unpack p).take en).drop pos)).2.1), (u14 9), .pointer (some ⟨g, 0, none⟩), .bool false, .bool false, .int .i64 ((f : Nat) : Int), .bool true, .bool false, .bool false, undef, .func (.func 35) #[] #[.pointer (some ⟨g2, 0, none⟩), .pointer (some ⟨g5, 0, none⟩)], .int .i64 ((f : Nat) : Int), .int .i64 (((f : Nat) : Int) - 1), .tuple #[.int .i64 ((tk (((unpack p).take en).drop pos)).1), .int .i64 ((tk (((unpack p).take en).drop pos)).2.1)], .pointer (some ⟨g, 0, none⟩), .tuple #[.int .i64 ((tk (((unpack p).take en).drop pos)).1), .int .i64 ((tk (((unpack p).take en).drop pos)).2.1)], .int .i64 ((tk (((unpack p).take en).drop pos)).1), .int .i64 ((tk (((unpack p).take en).drop pos)).2.1), .int .i64 ((tk (((unpack p).take en).drop pos)).2.1), .bool true, .int .i64 ((tk (((unpack p).take en).drop pos)).2.1), .tuple #[], .int .i64 ((tk (((unpack p).take en).drop pos)).1), .bool true, (u14 32), (u14 33), (u14 34), (u14 35), (u14 36), (u14 37), (u14 38), (u14 39), (u14 40), (u14 41), (u14 42), (u14 43), (u14 44), (u14 45), (u14 46), (u14 47), (u14 48), (u14 49), (u14 50), (u14 51), (u14 52), (u14 53), (u14 54), (u14 55), (u14 56), (u14 57)], [{ target := .fn (.func 35) #[.pointer (some ⟨g2, 0, none⟩), .pointer (some ⟨g5, 0, none⟩)], args := #[] }]⟩) (by kernel_rfl) ?_
      refine wp_cond_true (by kernel_rfl) ?_
      refine wp_seq_k (fun K29 hK29 => ?_)
      refine wl_region ?_
      refine st_val (.agg (iv x)) (by kernel_rfl) (run_load_row 23 (.tmp 4) rfl g2 (by kernel_rfl) 23 (iv x) (0, 0) _ (M26.get 1 rfl) Try.underlying23 rfl (info64 _ hx)) ?_
      refine st_storeRow M26 1 rfl 23 (.tmp 4) (.tmp 32) (by rfl) (iv x) (by kernel_rfl) (by kernel_rfl) (info64 _ hx) (iv_same hx hx) (iv_one _) (by kernel_rfl) ((g5, .cells #[.int .i64 0] 27 (0, 0)) :: (g2, .cells (iv x) 23 (0, 0)) :: ((rT g v en (pos + (tk (((unpack p).take en).drop pos)).2.2) TB) ++ [])) rfl ?_
      intro W30 M31
      refine st_storeCell M31 0 rfl 27 (.tmp 5) _ (by rfl) 0 (.int .i64 0) #[.int .i64 0] (by kernel_rfl) (by kernel_rfl) (show 0 < 1 by decide) (by kernel_rfl) rfl (by kernel_rfl) rfl (by kernel_rfl) ((g5, .cells #[.int .i64 0] 27 (0, 0)) :: (g2, .cells (iv x) 23 (0, 0)) :: ((rT g v en (pos + (tk (((unpack p).take en).drop pos)).2.2) TB) ++ [])) rfl ?_
      intro W32 M33
      refine wl_nil ?_
      refine hK29 _ _ ?_
      try clear hK29 K29
      refine wp_ret ?_
      refine th_ret ?_
      refine blk_ret ?_
      refine th_ret ?_
      refine blk_ret ?_
      refine leaves_cons (f := 35) (args := #[.pointer (some ⟨g2, 0, none⟩), .pointer (some ⟨g5, 0, none⟩)]) (by simp) (by kernel_rfl) ?_
      refine (clo_idle _ g2 g5).mono ?_
      rintro e u' w'' ⟨rfl, rfl, rfl⟩
      show Leaves _ _ _ _ [] .returning _
      rw [btk_end c27 c31] at hB
      exact ⟨_, results_row_cell rfl _ _ g2 23 (iv x) (0, 0) _ (by kernel_rfl) (M33.get 1 rfl) Try.underlying23 rfl (info64 _ hx) ⟨g5, 0, none⟩ (.int .i64 0) (by kernel_rfl) (M33.cell 0 rfl 0 _ rfl) (by kernel_rfl), ⟨_, (rT g v en (pos + (tk (((unpack p).take en).drop pos)).2.2) TB), rfl, ⟨by rw [← hB], by rw [← hB]⟩, M33.sub (((List.sublist_append_left (rT g v en (pos + (tk (((unpack p).take en).drop pos)).2.2) TB) []).cons _).cons _)⟩⟩
    ·
      refine st_val (.bool false) (by kernel_rfl) (bool_of (dec_f c31) (by kernel_rfl)) ?_
      refine wl_nil ?_
      refine hK28 _ _ ?_
      try clear hK28 K28
      refine wp_frame (a' := ⟨#[.pointer (some ⟨g, 0, none⟩), .int .i64 ((f : Nat) : Int), undef, undef, .pointer (some ⟨g2, 0, none⟩), .pointer (some ⟨g5, 0, none⟩), .int .i64 qv, .int .i64 ((tk (((unpack p).take en).drop pos)).1), .int .i64 ((tk (((unpack p).take en).drop pos)).2.1), (u14 9), .pointer (some ⟨g, 0, none⟩), .bool false, .bool false, .int .i64 ((f : Nat) : Int), .bool true, .bool false, .bool false, undef, .func (.func 35) #[] #[.pointer (some ⟨g2, 0, none⟩), .pointer (some ⟨g5, 0, none⟩)], .int .i64 ((f : Nat) : Int), .int .i64 (((f : Nat) : Int) - 1), .tuple #[.int .i64 ((tk (((unpack p).take en).drop pos)).1), .int .i64 ((tk (((unpack p).take en).drop pos)).2.1)], .pointer (some ⟨g, 0, none⟩), .tuple #[.int .i64 ((tk (((unpack p).take en).drop pos)).1), .int .i64 ((tk (((unpack p).take en).drop pos)).2.1)], .int .i64 ((tk (((unpack p).take en).drop pos)).1), .int .i64 ((tk (((unpack p).take en).drop pos)).2.1), .int .i64 ((tk (((unpack p).take en).drop pos)).2.1), .bool true, .int .i64 ((tk (((unpack p).take en).drop pos)).2.1), .tuple #[], .int .i64 ((tk (((unpack p).take en).drop pos)).1), .bool false, (u14 32), (u14 33), (u14 34), (u14 35), (u14 36), (u14 37), (u14 38), (u14 39), (u14 40), (u14 41), (u14 42), (u14 43), (u14 44), (u14 45), (u14 46), (u14 47), (u14 48), (u14 49), (u14 50), (u14 51), (u14 52), (u14 53), (u14 54), (u14 55), (u14 56), (u14 57)], [{ target := .fn (.func 35) #[.pointer (some ⟨g2, 0, none⟩), .pointer (some ⟨g5, 0, none⟩)], args := #[] }]⟩) (by kernel_rfl) ?_
      refine wp_cond_false (by kernel_rfl) ?_
      refine wp_skip ?_
      refine hK27 _ _ ?_
      try clear hK27 K27
      refine wp_seq_k (fun K34 hK34 => ?_)
      have htl := tk_drop_lt F.bin pos
      refine wl_region ?_
      refine st_val (.int .i64 qv) (by kernel_rfl) (by kernel_rfl) ?_
      refine st_val (.int .i64 ((tk (((unpack p).take en).drop pos)).1)) (by kernel_rfl) (by kernel_rfl) ?_
      refine st_val (.int .i64 ((q + (tk (((unpack p).take en).drop pos)).1.toNat - 1 : Nat) : Int)) (by kernel_rfl) (int_of (show qv + (tk (((unpack p).take en).drop pos)).1 = ((q + (tk (((unpack p).take en).drop pos)).1.toNat - 1 : Nat) : Int) by omega) (i64_of (by omega) (by kernel_rfl))) ?_
      refine st_val (.int .i64 ((q + (tk (((unpack p).take en).drop pos)).1.toNat - 1 : Nat) : Int)) (by kernel_rfl) (by kernel_rfl) ?_
      refine wl_nil ?_
      refine hK34 _ _ ?_
      try clear hK34 K34
      refine wp_seq_k (fun K35 hK35 => ?_)
      refine wl_region ?_
      refine st_val (.int .i64 ((q + (tk (((unpack p).take en).drop pos)).1.toNat - 1 : Nat) : Int)) (by kernel_rfl) (by kernel_rfl) ?_
      rcases Decidable.em ((((q + (tk (((unpack p).take en).drop pos)).1.toNat - 1 : Nat) : Int) : Int) < 64) with c37 | c37
      ·
        refine st_val (.bool true) (by kernel_rfl) (bool_of (dec_t c37) (by kernel_rfl)) ?_
        refine st_callB M26 (.tuple #[]) (by kernel_rfl) (args := #[.bool true, .int .i64 3]) (run_value_call 37 #[(Operand.tmp 37), (Operand.const (Value.int IntKind.i64 3))] _ rfl Try.func37 (by kernel_rfl) (by kernel_rfl) _ (by kernel_rfl)) (check_ok W25 3) ?_
        intro W36 M37
        refine wl_nil ?_
        refine hK35 _ _ ?_
        try clear hK35 K35
        refine wp_seq_k (fun K38 hK38 => ?_)
        refine wl_region ?_
        refine st_val (.pointer (some ⟨g, 0, none⟩)) (by kernel_rfl) (by kernel_rfl) ?_
        refine st_callU (A := [(g5, .cells #[.int .i64 0] 27 (0, 0)), (g2, .cells (iv x) 23 (0, 0))]) (T := (rT g v en (pos + (tk (((unpack p).take en).drop pos)).2.2) TB)) (B := []) M37 (by kernel_rfl) (run_value_call 38 #[(Operand.tmp 40)] _ rfl Try.func38 (by kernel_rfl) (by kernel_rfl) _ (by kernel_rfl)) (takeS_walk W36 F (by first | omega | (have := tk_drop_le (l := ((unpack p).take en)) (a := pos) (by rw [F.llen]; omega); rw [F.llen] at this; exact this)) (Mem.part (A := [(g5, .cells #[.int .i64 0] 27 (0, 0)), (g2, .cells (iv x) 23 (0, 0))]) (T := (rT g v en (pos + (tk (((unpack p).take en).drop pos)).2.2) TB)) (B := []) M37)) ?_
        intro v39 T40 W41 O42 M43
        obtain ⟨rfl, rfl⟩ := O42
        have M44 : Mem (fun k => k ∈ (rT g v en at_ TB).map (·.1)) w W41 ((g5, .cells #[.int .i64 0] 27 (0, 0)) :: (g2, .cells (iv x) 23 (0, 0)) :: ((rT g v en (pos + (tk (((unpack p).take en).drop pos)).2.2 + (tk (((unpack p).take en).drop (pos + (tk (((unpack p).take en).drop pos)).2.2))).2.2) TB) ++ [])) := M43
        refine st_val (.tuple #[.int .i64 (tks (((unpack p).take en).drop (pos + (tk (((unpack p).take en).drop pos)).2.2))), .int .i64 ((tk (((unpack p).take en).drop (pos + (tk (((unpack p).take en).drop pos)).2.2))).2.1)]) (by kernel_rfl) (by kernel_rfl) ?_
        refine st_val (.int .i64 (tks (((unpack p).take en).drop (pos + (tk (((unpack p).take en).drop pos)).2.2)))) (by kernel_rfl) (by kernel_rfl) ?_
        refine st_val (.int .i64 ((tk (((unpack p).take en).drop (pos + (tk (((unpack p).take en).drop pos)).2.2))).2.1)) (by kernel_rfl) (by kernel_rfl) ?_
        refine st_val (.int .i64 (tks (((unpack p).take en).drop (pos + (tk (((unpack p).take en).drop pos)).2.2)))) (by kernel_rfl) (by kernel_rfl) ?_
        refine st_val (.int .i64 ((tk (((unpack p).take en).drop (pos + (tk (((unpack p).take en).drop pos)).2.2))).2.1)) (by kernel_rfl) (by kernel_rfl) ?_
        refine wl_nil ?_
        refine hK38 _ _ ?_
        try clear hK38 K38
        refine wp_frame (a' := ⟨#[.pointer (some ⟨g, 0, none⟩), .int .i64 ((f : Nat) : Int), undef, undef, .pointer (some ⟨g2, 0, none⟩), .pointer (some ⟨g5, 0, none⟩), .int .i64 ((q + (tk (((unpack p).take en).drop pos)).1.toNat - 1 : Nat) : Int), .int .i64 ((tk (((unpack p).take en).drop pos)).1), .int .i64 ((tk (((unpack p).take en).drop (pos + (tk (((unpack p).take en).drop pos)).2.2))).2.1), .int .i64 (tks (((unpack p).take en).drop (pos + (tk (((unpack p).take en).drop pos)).2.2))), .pointer (some ⟨g, 0, none⟩), .bool false, .bool false, .int .i64 ((f : Nat) : Int), .bool true, .bool false, .bool false, undef, .func (.func 35) #[] #[.pointer (some ⟨g2, 0, none⟩), .pointer (some ⟨g5, 0, none⟩)], .int .i64 ((f : Nat) : Int), .int .i64 (((f : Nat) : Int) - 1), .tuple #[.int .i64 ((tk (((unpack p).take en).drop pos)).1), .int .i64 ((tk (((unpack p).take en).drop pos)).2.1)], .pointer (some ⟨g, 0, none⟩), .tuple #[.int .i64 ((tk (((unpack p).take en).drop pos)).1), .int .i64 ((tk (((unpack p).take en).drop pos)).2.1)], .int .i64 ((tk (((unpack p).take en).drop pos)).1), .int .i64 ((tk (((unpack p).take en).drop pos)).2.1), .int .i64 ((tk (((unpack p).take en).drop pos)).2.1), .bool true, .int .i64 ((tk (((unpack p).take en).drop pos)).2.1), .tuple #[], .int .i64 ((tk (((unpack p).take en).drop pos)).1), .bool false, (u14 32), .int .i64 qv, .int .i64 ((tk (((unpack p).take en).drop pos)).1), .int .i64 ((q + (tk (((unpack p).take en).drop pos)).1.toNat - 1 : Nat) : Int), .int .i64 ((q + (tk (((unpack p).take en).drop pos)).1.toNat - 1 : Nat) : Int), .bool true, .tuple #[], .tuple #[.int .i64 (tks (((unpack p).take en).drop (pos + (tk (((unpack p).take en).drop pos)).2.2))), .int .i64 ((tk (((unpack p).take en).drop (pos + (tk (((unpack p).take en).drop pos)).2.2))).2.1)], .pointer (some ⟨g, 0, none⟩), .tuple #[.int .i64 (tks (((unpack p).take en).drop (pos + (tk (((unpack p).take en).drop pos)).2.2))), .int .i64 ((tk (((unpack p).take en).drop (pos + (tk (((unpack p).take en).drop pos)).2.2))).2.1)], .int .i64 (tks (((unpack p).take en).drop (pos + (tk (((unpack p).take en).drop pos)).2.2))), .int .i64 ((tk (((unpack p).take en).drop (pos + (tk (((unpack p).take en).drop pos)).2.2))).2.1), (u14 44), (u14 45), (u14 46), (u14 47), (u14 48), (u14 49), (u14 50), (u14 51), (u14 52), (u14 53), (u14 54), (u14 55), (u14 56), (u14 57)], [{ target := .fn (.func 35) #[.pointer (some ⟨g2, 0, none⟩), .pointer (some ⟨g5, 0, none⟩)], args := #[] }]⟩) (by kernel_rfl) ?_
        refine wp_seq_k (fun K45 hK45 => ?_)
        refine wl_region ?_
        refine st_val (.int .i64 ((tk (((unpack p).take en).drop (pos + (tk (((unpack p).take en).drop pos)).2.2))).2.1)) (by kernel_rfl) (by kernel_rfl) ?_
        rcases Decidable.em (((tk (((unpack p).take en).drop (pos + (tk (((unpack p).take en).drop pos)).2.2))).2.1 : Int) = 0) with c45 | c45
        ·
          refine st_val (.bool true) (by kernel_rfl) (bool_of (dec_t c45) (by kernel_rfl)) ?_
          refine st_val (.int .i64 ((tk (((unpack p).take en).drop (pos + (tk (((unpack p).take en).drop pos)).2.2))).2.1)) (by kernel_rfl) (by kernel_rfl) ?_
          refine st_callB M44 (.tuple #[]) (by kernel_rfl) (args := #[.bool true, .int .i64 ((tk (((unpack p).take en).drop (pos + (tk (((unpack p).take en).drop pos)).2.2))).2.1)]) (run_value_call 37 #[(Operand.tmp 45), (Operand.tmp 46)] _ rfl Try.func37 (by kernel_rfl) (by kernel_rfl) _ (by kernel_rfl)) (check_ok W41 ((tk (((unpack p).take en).drop (pos + (tk (((unpack p).take en).drop pos)).2.2))).2.1)) ?_
          intro W46 M47
          refine wl_nil ?_
          refine hK45 _ _ ?_
          try clear hK45 K45
          refine wp_seq_k (fun K48 hK48 => ?_)
          refine wl_region ?_
          refine st_val (.int .i64 (tks (((unpack p).take en).drop (pos + (tk (((unpack p).take en).drop pos)).2.2)))) (by kernel_rfl) (by kernel_rfl) ?_
          rcases Decidable.em ((tks (((unpack p).take en).drop (pos + (tk (((unpack p).take en).drop pos)).2.2)) : Int) = 0) with c49 | c49
          ·
            refine st_val (.bool false) (by kernel_rfl) (bool_of (neq_f c49) (by kernel_rfl)) ?_
            refine st_val (.bool false) (by kernel_rfl) (by kernel_rfl) ?_
            refine st_skip (by kernel_rfl) ?_
            refine st_skip (by kernel_rfl) ?_
            refine st_val (.bool false) (by kernel_rfl) (by kernel_rfl) ?_
            refine st_callP M47 ([{ v := .iface 68 (.agg #[.int .i64 3]), recovered := false }]) (by kernel_rfl) (args := #[.bool false, .int .i64 3]) (run_value_call 37 #[(Operand.tmp 53), (Operand.const (Value.int IntKind.i64 3))] _ rfl Try.func37 (by kernel_rfl) (by kernel_rfl) _ (by kernel_rfl)) (check_bad W46 3) ?_
            intro W49 M50
            refine leaves_cons (f := 35) (args := #[.pointer (some ⟨g2, 0, none⟩), .pointer (some ⟨g5, 0, none⟩)]) (by simp) (by kernel_rfl) ?_
            refine (clo_panic _ g2 g5 3 0 (x) hx M50).mono ?_
            rintro e u' w'' ⟨rfl, rfl, MF⟩
            show Leaves _ _ _ _ [] .returning _
            rw [btk_bad c27 c31 (by omega) c45 (by first | exact .inl (Classical.byContradiction c49) | exact .inl (by omega) | exact .inr hlv)] at hB
            exact ⟨_, results_row_cell rfl _ _ g2 23 (iv zeros) (0, 0) _ (by kernel_rfl) (MF.get 1 rfl) Try.underlying23 rfl (info64 _ zeros_length) ⟨g5, 0, none⟩ (.int .i64 3) (by kernel_rfl) (MF.cell 0 rfl 0 _ rfl) (by kernel_rfl), ⟨_, (rT g v en (pos + (tk (((unpack p).take en).drop pos)).2.2 + (tk (((unpack p).take en).drop (pos + (tk (((unpack p).take en).drop pos)).2.2))).2.2) TB), rfl, ⟨by rw [← hB], by rw [← hB]⟩, MF.sub (((List.sublist_append_left (rT g v en (pos + (tk (((unpack p).take en).drop pos)).2.2 + (tk (((unpack p).take en).drop (pos + (tk (((unpack p).take en).drop pos)).2.2))).2.2) TB) []).cons _).cons _)⟩⟩
          ·
            refine st_val (.bool true) (by kernel_rfl) (bool_of (neq_t c49) (by kernel_rfl)) ?_
            refine st_val (.bool true) (by kernel_rfl) (by kernel_rfl) ?_
            refine st_val (.int .i64 (tks (((unpack p).take en).drop (pos + (tk (((unpack p).take en).drop pos)).2.2)))) (by kernel_rfl) (by kernel_rfl) ?_
            rcases Classical.em (lev (tks (((unpack p).take en).drop (pos + (tk (((unpack p).take en).drop pos)).2.2)))) with hlv | hlv
            ·
              refine st_callB M47 (.bool true) (by kernel_rfl) (args := #[.int .i64 (tks (((unpack p).take en).drop (pos + (tk (((unpack p).take en).drop pos)).2.2)))]) (run_value_call 39 #[(Operand.tmp 51)] _ rfl Try.func39 (by kernel_rfl) (by kernel_rfl) _ (by kernel_rfl)) ((by have := may_walk W46 (tks (((unpack p).take en).drop (pos + (tk (((unpack p).take en).drop pos)).2.2))); rw [decide_eq_true hlv] at this; exact this)) ?_
              intro W51 M52
              refine st_val (.bool true) (by kernel_rfl) (by kernel_rfl) ?_
              refine st_callB M52 (.tuple #[]) (by kernel_rfl) (args := #[.bool true, .int .i64 3]) (run_value_call 37 #[(Operand.tmp 53), (Operand.const (Value.int IntKind.i64 3))] _ rfl Try.func37 (by kernel_rfl) (by kernel_rfl) _ (by kernel_rfl)) (check_ok W51 3) ?_
              intro W53 M54
              refine wl_nil ?_
              refine hK48 _ _ ?_
              try clear hK48 K48
              refine wl_region ?_
              refine st_val (.int .i64 ((q + (tk (((unpack p).take en).drop pos)).1.toNat - 1 : Nat) : Int)) (by kernel_rfl) (by kernel_rfl) ?_
              refine st_val (.int .i64 (tks (((unpack p).take en).drop (pos + (tk (((unpack p).take en).drop pos)).2.2)))) (by kernel_rfl) (by kernel_rfl) ?_
              refine st_val (.pointer (some ⟨g2, q + (tk (((unpack p).take en).drop pos)).1.toNat - 1, none⟩)) (by kernel_rfl) (run_indexAddr 23 (.tmp 4) (.tmp 55) rfl ⟨g2, 0, none⟩ .i64 (q + (tk (((unpack p).take en).drop pos)).1.toNat - 1) (by kernel_rfl) (by kernel_rfl) Try.underlying23 1 (by kernel_rfl) (by omega) ⟨g2, q + (tk (((unpack p).take en).drop pos)).1.toNat - 1, none⟩ (addr_at0 _ _)) ?_
              refine st_storeCell M54 1 rfl 3 (.tmp 57) (.tmp 56) (by rfl) (q + (tk (((unpack p).take en).drop pos)).1.toNat - 1) (.int .i64 (tks (((unpack p).take en).drop (pos + (tk (((unpack p).take en).drop pos)).2.2)))) (iv (x.set (q + (tk (((unpack p).take en).drop pos)).1.toNat - 1) (tks (((unpack p).take en).drop (pos + (tk (((unpack p).take en).drop pos)).2.2))))) (by kernel_rfl) (by kernel_rfl) (by rw [iv_size, hx]; omega) (by kernel_rfl) rfl (by kernel_rfl) (iv_set _ _ _) (by kernel_rfl) ((g5, .cells #[.int .i64 0] 27 (0, 0)) :: (g2, .cells (iv (x.set (q + (tk (((unpack p).take en).drop pos)).1.toNat - 1) (tks (((unpack p).take en).drop (pos + (tk (((unpack p).take en).drop pos)).2.2))))) 23 (0, 0)) :: ((rT g v en (pos + (tk (((unpack p).take en).drop pos)).2.2 + (tk (((unpack p).take en).drop (pos + (tk (((unpack p).take en).drop pos)).2.2))).2.2) TB) ++ [])) rfl ?_
              intro W55 M56
              refine wl_nil ?_
              refine blk_normal ?_
              refine th_normal ?_
              obtain ⟨n, rfl⟩ : ∃ k, n = k + 1 := ⟨n - 1, by omega⟩
              rw [btk_next c27 c31 (by omega) c45 (by first | (intro h; rcases h with h | h; exact c49 h; exact h hlv))] at hB
              exact ⟨_, (by omega), n, (q + (tk (((unpack p).take en).drop pos)).1.toNat), ((q + (tk (((unpack p).take en).drop pos)).1.toNat - 1 : Nat) : Int), (pos + (tk (((unpack p).take en).drop pos)).2.2 + (tk (((unpack p).take en).drop (pos + (tk (((unpack p).take en).drop pos)).2.2))).2.2), (x.set (q + (tk (((unpack p).take en).drop pos)).1.toNat - 1) (tks (((unpack p).take en).drop (pos + (tk (((unpack p).take en).drop pos)).2.2)))), (fun zz => Array.getD #[.pointer (some ⟨g, 0, none⟩), .int .i64 ((f : Nat) : Int), undef, undef, .pointer (some ⟨g2, 0, none⟩), .pointer (some ⟨g5, 0, none⟩), .int .i64 ((q + (tk (((unpack p).take en).drop pos)).1.toNat - 1 : Nat) : Int), .int .i64 ((tk (((unpack p).take en).drop pos)).1), .int .i64 ((tk (((unpack p).take en).drop (pos + (tk (((unpack p).take en).drop pos)).2.2))).2.1), .int .i64 (tks (((unpack p).take en).drop (pos + (tk (((unpack p).take en).drop pos)).2.2))), .pointer (some ⟨g, 0, none⟩), .bool false, .bool false, .int .i64 ((f : Nat) : Int), .bool true, .bool false, .bool false, undef, .func (.func 35) #[] #[.pointer (some ⟨g2, 0, none⟩), .pointer (some ⟨g5, 0, none⟩)], .int .i64 ((f : Nat) : Int), .int .i64 (((f : Nat) : Int) - 1), .tuple #[.int .i64 ((tk (((unpack p).take en).drop pos)).1), .int .i64 ((tk (((unpack p).take en).drop pos)).2.1)], .pointer (some ⟨g, 0, none⟩), .tuple #[.int .i64 ((tk (((unpack p).take en).drop pos)).1), .int .i64 ((tk (((unpack p).take en).drop pos)).2.1)], .int .i64 ((tk (((unpack p).take en).drop pos)).1), .int .i64 ((tk (((unpack p).take en).drop pos)).2.1), .int .i64 ((tk (((unpack p).take en).drop pos)).2.1), .bool true, .int .i64 ((tk (((unpack p).take en).drop pos)).2.1), .tuple #[], .int .i64 ((tk (((unpack p).take en).drop pos)).1), .bool false, (u14 32), .int .i64 qv, .int .i64 ((tk (((unpack p).take en).drop pos)).1), .int .i64 ((q + (tk (((unpack p).take en).drop pos)).1.toNat - 1 : Nat) : Int), .int .i64 ((q + (tk (((unpack p).take en).drop pos)).1.toNat - 1 : Nat) : Int), .bool true, .tuple #[], .tuple #[.int .i64 (tks (((unpack p).take en).drop (pos + (tk (((unpack p).take en).drop pos)).2.2))), .int .i64 ((tk (((unpack p).take en).drop (pos + (tk (((unpack p).take en).drop pos)).2.2))).2.1)], .pointer (some ⟨g, 0, none⟩), .tuple #[.int .i64 (tks (((unpack p).take en).drop (pos + (tk (((unpack p).take en).drop pos)).2.2))), .int .i64 ((tk (((unpack p).take en).drop (pos + (tk (((unpack p).take en).drop pos)).2.2))).2.1)], .int .i64 (tks (((unpack p).take en).drop (pos + (tk (((unpack p).take en).drop pos)).2.2))), .int .i64 ((tk (((unpack p).take en).drop (pos + (tk (((unpack p).take en).drop pos)).2.2))).2.1), .int .i64 ((tk (((unpack p).take en).drop (pos + (tk (((unpack p).take en).drop pos)).2.2))).2.1), .bool true, .int .i64 ((tk (((unpack p).take en).drop (pos + (tk (((unpack p).take en).drop pos)).2.2))).2.1), .tuple #[], .int .i64 (tks (((unpack p).take en).drop (pos + (tk (((unpack p).take en).drop pos)).2.2))), .bool true, .bool true, .int .i64 (tks (((unpack p).take en).drop (pos + (tk (((unpack p).take en).drop pos)).2.2))), .bool true, .bool true, .tuple #[], .int .i64 ((q + (tk (((unpack p).take en).drop pos)).1.toNat - 1 : Nat) : Int), .int .i64 (tks (((unpack p).take en).drop (pos + (tk (((unpack p).take en).drop pos)).2.2))), .pointer (some ⟨g2, q + (tk (((unpack p).take en).drop pos)).1.toNat - 1, none⟩)] zz undef), ⟨⟨hB, by omega, by omega, by omega, by have := tk_drop_le (l := ((unpack p).take en)) (a := (pos + (tk (((unpack p).take en).drop pos)).2.2)) (by rw [F.llen]; have := tk_drop_le (l := ((unpack p).take en)) (a := pos) (by rw [F.llen]; omega); rw [F.llen] at this; omega); rw [F.llen] at this; exact this, by rw [List.length_set]; exact hx⟩, M56⟩, rfl, (by kernel_rfl)⟩
            ·
              refine st_callB M47 (.bool false) (by kernel_rfl) (args := #[.int .i64 (tks (((unpack p).take en).drop (pos + (tk (((unpack p).take en).drop pos)).2.2)))]) (run_value_call 39 #[(Operand.tmp 51)] _ rfl Try.func39 (by kernel_rfl) (by kernel_rfl) _ (by kernel_rfl)) ((by have := may_walk W46 (tks (((unpack p).take en).drop (pos + (tk (((unpack p).take en).drop pos)).2.2))); rw [decide_eq_false hlv] at this; exact this)) ?_
              intro W57 M58
              refine st_val (.bool false) (by kernel_rfl) (by kernel_rfl) ?_
              refine st_callP M58 ([{ v := .iface 68 (.agg #[.int .i64 3]), recovered := false }]) (by kernel_rfl) (args := #[.bool false, .int .i64 3]) (run_value_call 37 #[(Operand.tmp 53), (Operand.const (Value.int IntKind.i64 3))] _ rfl Try.func37 (by kernel_rfl) (by kernel_rfl) _ (by kernel_rfl)) (check_bad W57 3) ?_
              intro W59 M60
              refine leaves_cons (f := 35) (args := #[.pointer (some ⟨g2, 0, none⟩), .pointer (some ⟨g5, 0, none⟩)]) (by simp) (by kernel_rfl) ?_
              refine (clo_panic _ g2 g5 3 0 (x) hx M60).mono ?_
              rintro e u' w'' ⟨rfl, rfl, MF⟩
              show Leaves _ _ _ _ [] .returning _
              rw [btk_bad c27 c31 (by omega) c45 (by first | exact .inl (Classical.byContradiction c49) | exact .inl (by omega) | exact .inr hlv)] at hB
              exact ⟨_, results_row_cell rfl _ _ g2 23 (iv zeros) (0, 0) _ (by kernel_rfl) (MF.get 1 rfl) Try.underlying23 rfl (info64 _ zeros_length) ⟨g5, 0, none⟩ (.int .i64 3) (by kernel_rfl) (MF.cell 0 rfl 0 _ rfl) (by kernel_rfl), ⟨_, (rT g v en (pos + (tk (((unpack p).take en).drop pos)).2.2 + (tk (((unpack p).take en).drop (pos + (tk (((unpack p).take en).drop pos)).2.2))).2.2) TB), rfl, ⟨by rw [← hB], by rw [← hB]⟩, MF.sub (((List.sublist_append_left (rT g v en (pos + (tk (((unpack p).take en).drop pos)).2.2 + (tk (((unpack p).take en).drop (pos + (tk (((unpack p).take en).drop pos)).2.2))).2.2) TB) []).cons _).cons _)⟩⟩
        ·
          refine st_val (.bool false) (by kernel_rfl) (bool_of (dec_f c45) (by kernel_rfl)) ?_
          refine st_val (.int .i64 ((tk (((unpack p).take en).drop (pos + (tk (((unpack p).take en).drop pos)).2.2))).2.1)) (by kernel_rfl) (by kernel_rfl) ?_
          refine st_callP M44 ([{ v := .iface 68 (.agg #[.int .i64 ((tk (((unpack p).take en).drop (pos + (tk (((unpack p).take en).drop pos)).2.2))).2.1)]), recovered := false }]) (by kernel_rfl) (args := #[.bool false, .int .i64 ((tk (((unpack p).take en).drop (pos + (tk (((unpack p).take en).drop pos)).2.2))).2.1)]) (run_value_call 37 #[(Operand.tmp 45), (Operand.tmp 46)] _ rfl Try.func37 (by kernel_rfl) (by kernel_rfl) _ (by kernel_rfl)) (check_bad W41 ((tk (((unpack p).take en).drop (pos + (tk (((unpack p).take en).drop pos)).2.2))).2.1)) ?_
          intro W61 M62
          refine leaves_cons (f := 35) (args := #[.pointer (some ⟨g2, 0, none⟩), .pointer (some ⟨g5, 0, none⟩)]) (by simp) (by kernel_rfl) ?_
          refine (clo_panic _ g2 g5 ((tk (((unpack p).take en).drop (pos + (tk (((unpack p).take en).drop pos)).2.2))).2.1) 0 (x) hx M62).mono ?_
          rintro e u' w'' ⟨rfl, rfl, MF⟩
          show Leaves _ _ _ _ [] .returning _
          rw [btk_err2 c27 c31 (by omega) c45] at hB
          exact ⟨_, results_row_cell rfl _ _ g2 23 (iv zeros) (0, 0) _ (by kernel_rfl) (MF.get 1 rfl) Try.underlying23 rfl (info64 _ zeros_length) ⟨g5, 0, none⟩ (.int .i64 ((tk (((unpack p).take en).drop (pos + (tk (((unpack p).take en).drop pos)).2.2))).2.1)) (by kernel_rfl) (MF.cell 0 rfl 0 _ rfl) (by kernel_rfl), ⟨_, (rT g v en (pos + (tk (((unpack p).take en).drop pos)).2.2 + (tk (((unpack p).take en).drop (pos + (tk (((unpack p).take en).drop pos)).2.2))).2.2) TB), rfl, ⟨by rw [← hB], by rw [← hB]⟩, MF.sub (((List.sublist_append_left (rT g v en (pos + (tk (((unpack p).take en).drop pos)).2.2 + (tk (((unpack p).take en).drop (pos + (tk (((unpack p).take en).drop pos)).2.2))).2.2) TB) []).cons _).cons _)⟩⟩
      ·
        refine st_val (.bool false) (by kernel_rfl) (bool_of (dec_f c37) (by kernel_rfl)) ?_
        refine st_callP M26 ([{ v := .iface 68 (.agg #[.int .i64 3]), recovered := false }]) (by kernel_rfl) (args := #[.bool false, .int .i64 3]) (run_value_call 37 #[(Operand.tmp 37), (Operand.const (Value.int IntKind.i64 3))] _ rfl Try.func37 (by kernel_rfl) (by kernel_rfl) _ (by kernel_rfl)) (check_bad W25 3) ?_
        intro W63 M64
        refine leaves_cons (f := 35) (args := #[.pointer (some ⟨g2, 0, none⟩), .pointer (some ⟨g5, 0, none⟩)]) (by simp) (by kernel_rfl) ?_
        refine (clo_panic _ g2 g5 3 0 (x) hx M64).mono ?_
        rintro e u' w'' ⟨rfl, rfl, MF⟩
        show Leaves _ _ _ _ [] .returning _
        rw [btk_far c27 c31 (by omega)] at hB
        exact ⟨_, results_row_cell rfl _ _ g2 23 (iv zeros) (0, 0) _ (by kernel_rfl) (MF.get 1 rfl) Try.underlying23 rfl (info64 _ zeros_length) ⟨g5, 0, none⟩ (.int .i64 3) (by kernel_rfl) (MF.cell 0 rfl 0 _ rfl) (by kernel_rfl), ⟨_, (rT g v en (pos + (tk (((unpack p).take en).drop pos)).2.2) TB), rfl, ⟨by rw [← hB], by rw [← hB]⟩, MF.sub (((List.sublist_append_left (rT g v en (pos + (tk (((unpack p).take en).drop pos)).2.2) TB) []).cons _).cons _)⟩⟩
  ·
    refine st_val (.bool false) (by kernel_rfl) (bool_of (dec_f c27) (by kernel_rfl)) ?_
    refine st_val (.int .i64 ((tk (((unpack p).take en).drop pos)).2.1)) (by kernel_rfl) (by kernel_rfl) ?_
    refine st_callP M23 ([{ v := .iface 68 (.agg #[.int .i64 ((tk (((unpack p).take en).drop pos)).2.1)]), recovered := false }]) (by kernel_rfl) (args := #[.bool false, .int .i64 ((tk (((unpack p).take en).drop pos)).2.1)]) (run_value_call 37 #[(Operand.tmp 27), (Operand.tmp 28)] _ rfl Try.func37 (by kernel_rfl) (by kernel_rfl) _ (by kernel_rfl)) (check_bad W20 ((tk (((unpack p).take en).drop pos)).2.1)) ?_
    intro W65 M66
    refine leaves_cons (f := 35) (args := #[.pointer (some ⟨g2, 0, none⟩), .pointer (some ⟨g5, 0, none⟩)]) (by simp) (by kernel_rfl) ?_
    refine (clo_panic _ g2 g5 ((tk (((unpack p).take en).drop pos)).2.1) 0 (x) hx M66).mono ?_
    rintro e u' w'' ⟨rfl, rfl, MF⟩
    show Leaves _ _ _ _ [] .returning _
    rw [btk_err c27] at hB
    exact ⟨_, results_row_cell rfl _ _ g2 23 (iv zeros) (0, 0) _ (by kernel_rfl) (MF.get 1 rfl) Try.underlying23 rfl (info64 _ zeros_length) ⟨g5, 0, none⟩ (.int .i64 ((tk (((unpack p).take en).drop pos)).2.1)) (by kernel_rfl) (MF.cell 0 rfl 0 _ rfl) (by kernel_rfl), ⟨_, (rT g v en (pos + (tk (((unpack p).take en).drop pos)).2.2) TB), rfl, ⟨by rw [← hB], by rw [← hB]⟩, MF.sub (((List.sublist_append_left (rT g v en (pos + (tk (((unpack p).take en).drop pos)).2.2) TB) []).cons _).cons _)⟩⟩
end Go.Proofs.Ytmchfkkifeioeaa
