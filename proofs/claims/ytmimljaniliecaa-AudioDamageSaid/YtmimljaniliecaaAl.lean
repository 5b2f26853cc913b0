/- A channel is decoded. -/
import Derived.Test.YtmimljaniliecaaAk
namespace Go.Proofs.Ytmimljaniliecaa
open Go.RowKit Bt

theorem Mem.split2 {S : Nat → Prop} {w0 w : World} {A B C : List (Nat × Obj)} (M : Mem S w0 w ((A ++ B) ++ C)) : Mem S w0 w (A ++ (B ++ C)) := by rw [← List.append_assoc]; exact M
theorem i16s_append (l m : List Int) : i16s (l ++ m) = i16s l ++ i16s m := by simp [i16s]
set_option maxHeartbeats 4000000 in
set_option maxRecDepth 100000 in
theorem takeCh_walk (w : World) {g : Nat} {v : Value} {p : List Nat} {en at_ : Nat} {TB : List (Nat × Obj)} (F : RF v p en TB) (ha : at_ ≤ en) (hT : Mem (fun k => k ∈ (rT g v en at_ TB).map (·.1)) w w (rT g v en at_ TB)) (n : Nat) (hn : n ≤ 32) (hen : at_ + 292 ≤ en) : UpdRow Try.prog 36 #[.pointer (some ⟨g, 0, none⟩), .int .i64 (n : Int)] w (rT g v en at_ TB) (fun r T' => ∃ v1 T1, r = .tuple #[v1, .bool (chB' (unpack p) at_ n 32)] ∧ T' = rT g v en (at_ + 292) TB ++ T1 ∧ Own 45 1 v1 n (i16s (chL (unpack p) at_ n)) T1) := by
  unfold UpdRow
  have M0 : Mem (fun k => k ∈ (rT g v en at_ TB).map (·.1)) w w (rT g v en at_ TB ++ []) := by rw [List.append_nil]; exact hT
  refine calls_of_wp Try.func36 rfl ?_
  refine wp_frame (a' := ⟨#[.pointer (some ⟨g, 0, none⟩), .int .i64 ((n : Nat) : Int), undef, undef, undef, undef, undef, undef, undef, undef, undef, undef, undef, undef, undef, undef, undef, undef, undef, undef, undef, undef, undef, undef, undef, undef, undef, undef, undef, undef, undef, undef, undef, undef, undef, undef, undef, undef, undef, undef, undef, undef, undef, undef, undef, undef, undef, undef, undef, undef, undef, undef, undef, undef, undef, undef, undef, undef, undef, undef, undef, undef, undef], []⟩) (by kernel_rfl) ?_
  refine wp_seq_k (fun K1 hK1 => ?_)
  refine wl_region ?_
  refine st_val ((Go.Value.slice none 0 0)) (by kernel_rfl) (by kernel_rfl) ?_
  refine st_val (.bool false) (by kernel_rfl) (by kernel_rfl) ?_
  refine wl_nil ?_
  refine hK1 _ _ ?_
  try clear hK1 K1
  refine wp_seq_k (fun K2 hK2 => ?_)
  refine wl_region ?_
  refine st_val (.pointer (some ⟨g, 0, none⟩)) (by kernel_rfl) (by kernel_rfl) ?_
  refine st_callU (A := []) (T := (rT g v en at_ TB)) (B := []) M0 (by kernel_rfl) (run_value_call 58 #[(Operand.tmp 16), (Operand.const (Value.int IntKind.i64 4))] _ rfl Try.func58 (by kernel_rfl) (by kernel_rfl) _ (by kernel_rfl)) (rTakeM w F (Mem.part (A := []) (T := (rT g v en at_ TB)) (B := []) M0) 4 (by omega) (by omega)) ?_
  intro v3 T4 W5 O6 M7
  obtain ⟨rfl, rfl⟩ := O6
  have M8 : Mem (fun k => k ∈ ((rT g v en at_ TB)).map (·.1)) w W5 (((rT g v en (at_ + 4) TB) ++ [])) := M7
  refine st_val (.tuple #[.int .u32 ((valueOf (((unpack p).drop at_).take 4) : Nat) : Int), .int .i64 0]) (by kernel_rfl) (by kernel_rfl) ?_
  refine st_val (.int .u32 ((chE (unpack p) at_ : Nat) : Int)) (by kernel_rfl) (by kernel_rfl) ?_
  refine st_val (.int .i64 0) (by kernel_rfl) (by kernel_rfl) ?_
  refine st_val (.int .u32 ((chE (unpack p) at_ : Nat) : Int)) (by kernel_rfl) (by kernel_rfl) ?_
  refine st_val (.int .i64 0) (by kernel_rfl) (by kernel_rfl) ?_
  refine wl_nil ?_
  refine hK2 _ _ ?_
  try clear hK2 K2
  refine wp_seq_k (fun K9 hK9 => ?_)
  have hEl := chE_lt (unpack_bin p) at_
  refine wl_region ?_
  refine st_val (.int .u32 ((chE (unpack p) at_ : Nat) : Int)) (by kernel_rfl) (by kernel_rfl) ?_
  refine st_val (.int .i64 ((chE (unpack p) at_ : Nat) : Int)) (by kernel_rfl) (i64_of (by omega) (by kernel_rfl)) ?_
  refine st_val (.int .u32 ((chE (unpack p) at_ : Nat) : Int)) (by kernel_rfl) (by kernel_rfl) ?_
  refine st_val (.bool (decide ((((chE (unpack p) at_ : Nat) : Int) : Int) ≤ 7))) (by kernel_rfl) (by kernel_rfl) ?_
  refine st_val (.int .i64 ((chE (unpack p) at_ : Nat) : Int)) (by kernel_rfl) (by kernel_rfl) ?_
  refine st_val (.bool (decide ((((chE (unpack p) at_ : Nat) : Int) : Int) ≤ 7))) (by kernel_rfl) (by kernel_rfl) ?_
  refine wl_nil ?_
  refine hK9 _ _ ?_
  try clear hK9 K9
  refine wp_frame (a' := ⟨#[.pointer (some ⟨g, 0, none⟩), .int .i64 ((n : Nat) : Int), undef, undef, (Go.Value.slice none 0 0), .bool false, .int .u32 ((chE (unpack p) at_ : Nat) : Int), .int .i64 0, .int .i64 ((chE (unpack p) at_ : Nat) : Int), .bool (decide ((((chE (unpack p) at_ : Nat) : Int) : Int) ≤ 7)), undef, undef, undef, undef, undef, .tuple #[.int .u32 ((valueOf (((unpack p).drop at_).take 4) : Nat) : Int), .int .i64 0], .pointer (some ⟨g, 0, none⟩), .tuple #[.int .u32 ((valueOf (((unpack p).drop at_).take 4) : Nat) : Int), .int .i64 0], .int .u32 ((chE (unpack p) at_ : Nat) : Int), .int .i64 0, .int .u32 ((chE (unpack p) at_ : Nat) : Int), .int .i64 ((chE (unpack p) at_ : Nat) : Int), .int .u32 ((chE (unpack p) at_ : Nat) : Int), .bool (decide ((((chE (unpack p) at_ : Nat) : Int) : Int) ≤ 7)), undef, undef, undef, undef, undef, undef, undef, undef, undef, undef, undef, undef, undef, undef, undef, undef, undef, undef, undef, undef, undef, undef, undef, undef, undef, undef, undef, undef, undef, undef, undef, undef, undef, undef, undef, undef, undef, undef, undef], []⟩) (by kernel_rfl) ?_
  refine wp_seq_k (fun K10 hK10 => ?_)
  refine wl_region ?_
  refine st_val (.int .i64 ((n : Nat) : Int)) (by kernel_rfl) (by kernel_rfl) ?_
  refine st_new M8 (.cells (madeCells #[.int .i16 0] n) 45 (0, 0)) (fun g => .slice (some ⟨g, 0, none⟩) 0 n) (by kernel_rfl) (run_make0_i16 _ (.tmp 24) rfl .i64 .i64 n (by kernel_rfl) (by kernel_rfl) (by omega)) ?_
  intro g11 W12 M13
  obtain ⟨T14, e17⟩ : ∃ T, T = [(g11, Obj.cells (madeCells #[.int .i16 0] n) 45 (0, 0))] := ⟨_, rfl⟩
  have O15 : Own 45 1 (.slice (some ⟨g11, 0, none⟩) 0 n) 0 [] T14 := e17 ▸ own_made0 45 g11 _ n (by simp only [maxLen]; omega)
  have M13 : Mem (fun k => k ∈ ((rT g v en at_ TB)).map (·.1)) w W12 ((T14 ++ ((rT g v en (at_ + 4) TB) ++ []))) := by rw [e17]; exact M13
  obtain ⟨A16, hA16⟩ : ∃ A, A = some (⟨g11, 0, none⟩ : Addr) := ⟨_, rfl⟩
  rw [← hA16] at O15
  rw [← hA16]
  refine st_val (.slice A16 0 n) (by kernel_rfl) (by kernel_rfl) ?_
  refine wl_nil ?_
  refine hK10 _ _ ?_
  try clear hK10 K10
  refine wp_seq_k (fun K18 hK18 => ?_)
  refine wp_seq_k (fun K19 hK19 => ?_)
  refine wl_region ?_
  refine st_val (.int .i64 0) (by kernel_rfl) (by kernel_rfl) ?_
  refine wl_nil ?_
  refine hK19 _ _ ?_
  try clear hK19 K19
  refine wp_block ?_
  refine wp_loop_ghost (fun gn a' w' => ∃ (k : Nat) (b : Bool) (m : Nat) (q : Nat) (A1 : Option Addr) (c1 : Nat) (T1 : List (Nat × Obj)) (u20 : Nat → Value), ((k ≤ 32 ∧ m = min k n ∧ q = at_ + 4 + 9 * k ∧ b = chB' (unpack p) at_ n k ∧ Own 45 1 (.slice A1 m c1) m (i16s (chL (unpack p) at_ m)) T1) ∧ Mem (fun k => k ∈ ((rT g v en at_ TB)).map (·.1)) w w' ((T1 ++ ((rT g v en q TB) ++ [])))) ∧ gn = 32 - k ∧ a' = ⟨#[.pointer (some ⟨g, 0, none⟩), .int .i64 ((n : Nat) : Int), undef, undef, (Go.Value.slice none 0 0), .bool false, .int .u32 ((chE (unpack p) at_ : Nat) : Int), .int .i64 0, .int .i64 ((chE (unpack p) at_ : Nat) : Int), .bool b, .slice A1 m c1, (u20 11), (u20 12), (u20 13), (u20 14), .tuple #[.int .u32 ((valueOf (((unpack p).drop at_).take 4) : Nat) : Int), .int .i64 0], .pointer (some ⟨g, 0, none⟩), .tuple #[.int .u32 ((valueOf (((unpack p).drop at_).take 4) : Nat) : Int), .int .i64 0], .int .u32 ((chE (unpack p) at_ : Nat) : Int), .int .i64 0, .int .u32 ((chE (unpack p) at_ : Nat) : Int), .int .i64 ((chE (unpack p) at_ : Nat) : Int), .int .u32 ((chE (unpack p) at_ : Nat) : Int), .bool (decide ((((chE (unpack p) at_ : Nat) : Int) : Int) ≤ 7)), .int .i64 ((n : Nat) : Int), .slice A16 0 n, .int .i64 ((k : Nat) : Int), (u20 27), (u20 28), (u20 29), (u20 30), (u20 31), (u20 32), (u20 33), (u20 34), (u20 35), (u20 36), (u20 37), (u20 38), (u20 39), (u20 40), (u20 41), (u20 42), (u20 43), (u20 44), (u20 45), (u20 46), (u20 47), (u20 48), (u20 49), (u20 50), (u20 51), (u20 52), (u20 53), (u20 54), (u20 55), (u20 56), (u20 57), (u20 58), (u20 59), (u20 60), undef, undef], []⟩) _ ⟨0, (decide (((chE (unpack p) at_ : Nat) : Int) ≤ 7)), 0, (at_ + 4), A16, n, T14, (fun zz => Array.getD #[.pointer (some ⟨g, 0, none⟩), .int .i64 ((n : Nat) : Int), undef, undef, (Go.Value.slice none 0 0), .bool false, .int .u32 ((chE (unpack p) at_ : Nat) : Int), .int .i64 0, .int .i64 ((chE (unpack p) at_ : Nat) : Int), .bool (decide ((((chE (unpack p) at_ : Nat) : Int) : Int) ≤ 7)), .slice A16 0 n, undef, undef, undef, undef, .tuple #[.int .u32 ((valueOf (((unpack p).drop at_).take 4) : Nat) : Int), .int .i64 0], .pointer (some ⟨g, 0, none⟩), .tuple #[.int .u32 ((valueOf (((unpack p).drop at_).take 4) : Nat) : Int), .int .i64 0], .int .u32 ((chE (unpack p) at_ : Nat) : Int), .int .i64 0, .int .u32 ((chE (unpack p) at_ : Nat) : Int), .int .i64 ((chE (unpack p) at_ : Nat) : Int), .int .u32 ((chE (unpack p) at_ : Nat) : Int), .bool (decide ((((chE (unpack p) at_ : Nat) : Int) : Int) ≤ 7)), .int .i64 ((n : Nat) : Int), .slice A16 0 n, .int .i64 0, undef, undef, undef, undef, undef, undef, undef, undef, undef, undef, undef, undef, undef, undef, undef, undef, undef, undef, undef, undef, undef, undef, undef, undef, undef, undef, undef, undef, undef, undef, undef, undef, undef, undef, undef, undef] zz undef), ⟨⟨by omega, by omega, by omega, by show _ = decide _; exact decide_eq_decide.2 (by omega), O15⟩, M13⟩, rfl, (by kernel_rfl)⟩ ?_
  rintro gn _ W21 ⟨k, b, m, q, A1, c1, T1, u20, ⟨⟨rk, hm, hq, hb, O1⟩, M22⟩, rfl, rfl⟩
  refine wp_seq_k (fun K23 hK23 => ?_)
  refine wl_region ?_
  rcases Decidable.em ((((k : Nat) : Int) : Int) < 32) with c27 | c27
  ·
    refine st_val (.bool true) (by kernel_rfl) (bool_of (dec_t c27) (by kernel_rfl)) ?_
    refine wl_nil ?_
    refine hK23 _ _ ?_
    try clear hK23 K23
    refine wp_seq_k (fun K24 hK24 => ?_)
    refine wp_cond_true (by kernel_rfl) ?_
    refine wp_skip ?_
    refine hK24 _ _ ?_
    try clear hK24 K24
    refine wp_seq_k (fun K25 hK25 => ?_)
    refine wp_block ?_
    refine wp_seq_k (fun K26 hK26 => ?_)
    refine wl_region ?_
    refine st_val (.int .i64 ((k : Nat) : Int)) (by kernel_rfl) (by kernel_rfl) ?_
    refine st_val (.int .i64 ((k : Nat) : Int)) (by kernel_rfl) (by kernel_rfl) ?_
    refine wl_nil ?_
    refine hK26 _ _ ?_
    try clear hK26 K26
    refine wp_seq_k (fun K27 hK27 => ?_)
    refine wl_region ?_
    refine st_val (.pointer (some ⟨g, 0, none⟩)) (by kernel_rfl) (by kernel_rfl) ?_
    have M28 : Mem (fun k => k ∈ ((rT g v en at_ TB)).map (·.1)) w W21 (((rT g v en q TB) ++ (T1 ++ []))) := M22.swap (A := []) (T := T1) (U := (rT g v en q TB)) (B := [])
    refine st_callU (A := []) (T := (rT g v en q TB)) (B := (T1 ++ [])) M28 (by kernel_rfl) (run_value_call 58 #[(Operand.tmp 30), (Operand.const (Value.int IntKind.i64 9))] _ rfl Try.func58 (by kernel_rfl) (by kernel_rfl) _ (by kernel_rfl)) (rTakeM W21 F (Mem.part (A := []) (T := (rT g v en q TB)) (B := (T1 ++ [])) M28) 9 (by omega) (by omega)) ?_
    intro v29 T30 W31 O32 M33
    obtain ⟨rfl, rfl⟩ := O32
    have M34 : Mem (fun k => k ∈ ((rT g v en at_ TB)).map (·.1)) w W31 (((rT g v en (q + 9) TB) ++ (T1 ++ []))) := M33
    refine st_val (.tuple #[.int .u32 ((valueOf (((unpack p).drop q).take 9) : Nat) : Int), .int .i64 0]) (by kernel_rfl) (by kernel_rfl) ?_
    refine st_val (.int .u32 ((chM (unpack p) at_ k : Nat) : Int)) (by kernel_rfl) (int_of (show ((valueOf (((unpack p).drop q).take 9) : Nat) : Int) = ((chM (unpack p) at_ k : Nat) : Int) by rw [hq]; rfl) (by kernel_rfl)) ?_
    refine st_val (.int .i64 0) (by kernel_rfl) (by kernel_rfl) ?_
    refine st_val (.int .u32 ((chM (unpack p) at_ k : Nat) : Int)) (by kernel_rfl) (by kernel_rfl) ?_
    refine st_val (.int .i64 0) (by kernel_rfl) (by kernel_rfl) ?_
    refine wl_nil ?_
    refine hK27 _ _ ?_
    try clear hK27 K27
    refine wp_seq_k (fun K35 hK35 => ?_)
    refine wp_seq_k (fun K36 hK36 => ?_)
    have hMl := chM_lt (unpack_bin p) at_ k
    refine wl_region ?_
    refine st_val (.int .i64 ((k : Nat) : Int)) (by kernel_rfl) (by kernel_rfl) ?_
    refine st_val (.int .i64 ((n : Nat) : Int)) (by kernel_rfl) (by kernel_rfl) ?_
    rcases Decidable.em ((((k : Nat) : Int) : Int) ≥ ((n : Nat) : Int)) with c36 | c36
    ·
      refine st_val (.bool true) (by kernel_rfl) (bool_of (dec_t c36) (by kernel_rfl)) ?_
      refine wl_nil ?_
      refine hK36 _ _ ?_
      try clear hK36 K36
      refine wp_frame (a' := ⟨#[.pointer (some ⟨g, 0, none⟩), .int .i64 ((n : Nat) : Int), undef, undef, (Go.Value.slice none 0 0), .bool false, .int .u32 ((chE (unpack p) at_ : Nat) : Int), .int .i64 0, .int .i64 ((chE (unpack p) at_ : Nat) : Int), .bool b, .slice A1 m c1, .int .i64 ((k : Nat) : Int), .int .u32 ((chM (unpack p) at_ k : Nat) : Int), .int .i64 0, (u20 14), .tuple #[.int .u32 ((valueOf (((unpack p).drop at_).take 4) : Nat) : Int), .int .i64 0], .pointer (some ⟨g, 0, none⟩), .tuple #[.int .u32 ((valueOf (((unpack p).drop at_).take 4) : Nat) : Int), .int .i64 0], .int .u32 ((chE (unpack p) at_ : Nat) : Int), .int .i64 0, .int .u32 ((chE (unpack p) at_ : Nat) : Int), .int .i64 ((chE (unpack p) at_ : Nat) : Int), .int .u32 ((chE (unpack p) at_ : Nat) : Int), .bool (decide ((((chE (unpack p) at_ : Nat) : Int) : Int) ≤ 7)), .int .i64 ((n : Nat) : Int), .slice A16 0 n, .int .i64 ((k : Nat) : Int), .bool true, .int .i64 ((k : Nat) : Int), .tuple #[.int .u32 ((valueOf (((unpack p).drop q).take 9) : Nat) : Int), .int .i64 0], .pointer (some ⟨g, 0, none⟩), .tuple #[.int .u32 ((valueOf (((unpack p).drop q).take 9) : Nat) : Int), .int .i64 0], .int .u32 ((chM (unpack p) at_ k : Nat) : Int), .int .i64 0, .int .i64 ((k : Nat) : Int), .int .i64 ((n : Nat) : Int), .bool true, (u20 37), (u20 38), (u20 39), (u20 40), (u20 41), (u20 42), (u20 43), (u20 44), (u20 45), (u20 46), (u20 47), (u20 48), (u20 49), (u20 50), (u20 51), (u20 52), (u20 53), (u20 54), (u20 55), (u20 56), (u20 57), (u20 58), (u20 59), (u20 60), undef, undef], []⟩) (by kernel_rfl) ?_
      refine wp_cond_true (by kernel_rfl) ?_
      refine wp_seq_k (fun K37 hK37 => ?_)
      refine wl_region ?_
      rcases Bool.eq_false_or_eq_true b with hbs | hbs
      ·
        subst hbs
        refine st_val (.bool true) (by kernel_rfl) (by kernel_rfl) ?_
        refine st_val (.bool true) (by kernel_rfl) (by kernel_rfl) ?_
        refine st_val (.int .u32 ((chM (unpack p) at_ k : Nat) : Int)) (by kernel_rfl) (by kernel_rfl) ?_
        rcases Decidable.em ((((chM (unpack p) at_ k : Nat) : Int) : Int) = 0) with c40 | c40
        ·
          refine st_val (.bool true) (by kernel_rfl) (bool_of (dec_t c40) (by kernel_rfl)) ?_
          refine st_val (.bool true) (by kernel_rfl) (by kernel_rfl) ?_
          refine st_val (.bool true) (by kernel_rfl) (by kernel_rfl) ?_
          refine wl_nil ?_
          refine hK37 _ _ ?_
          try clear hK37 K37
          refine wp_exit ?_
          refine th_exit ?_
          refine blk_exit ?_
          refine hK25 _ _ ?_
          try clear hK25 K25
          refine wl_region ?_
          refine st_val (.int .i64 (((k : Nat) : Int) + 1)) (by kernel_rfl) (i64_of (by omega) (by kernel_rfl)) ?_
          refine st_val (.int .i64 (((k : Nat) : Int) + 1)) (by kernel_rfl) (by kernel_rfl) ?_
          refine wl_nil ?_
          refine th_normal ?_
          have M38 : Mem (fun k => k ∈ ((rT g v en at_ TB)).map (·.1)) w W31 ((T1 ++ ((rT g v en (q + 9) TB) ++ []))) := M34.swap (A := []) (T := (rT g v en (q + 9) TB)) (U := T1) (B := [])
          exact ⟨_, by omega, (k + 1), true, m, (q + 9), A1, c1, T1, (fun zz => Array.getD #[.pointer (some ⟨g, 0, none⟩), .int .i64 ((n : Nat) : Int), undef, undef, (Go.Value.slice none 0 0), .bool false, .int .u32 ((chE (unpack p) at_ : Nat) : Int), .int .i64 0, .int .i64 ((chE (unpack p) at_ : Nat) : Int), .bool true, .slice A1 m c1, .int .i64 ((k : Nat) : Int), .int .u32 ((chM (unpack p) at_ k : Nat) : Int), .int .i64 0, (u20 14), .tuple #[.int .u32 ((valueOf (((unpack p).drop at_).take 4) : Nat) : Int), .int .i64 0], .pointer (some ⟨g, 0, none⟩), .tuple #[.int .u32 ((valueOf (((unpack p).drop at_).take 4) : Nat) : Int), .int .i64 0], .int .u32 ((chE (unpack p) at_ : Nat) : Int), .int .i64 0, .int .u32 ((chE (unpack p) at_ : Nat) : Int), .int .i64 ((chE (unpack p) at_ : Nat) : Int), .int .u32 ((chE (unpack p) at_ : Nat) : Int), .bool (decide ((((chE (unpack p) at_ : Nat) : Int) : Int) ≤ 7)), .int .i64 ((n : Nat) : Int), .slice A16 0 n, .int .i64 (((k : Nat) : Int) + 1), .bool true, .int .i64 ((k : Nat) : Int), .tuple #[.int .u32 ((valueOf (((unpack p).drop q).take 9) : Nat) : Int), .int .i64 0], .pointer (some ⟨g, 0, none⟩), .tuple #[.int .u32 ((valueOf (((unpack p).drop q).take 9) : Nat) : Int), .int .i64 0], .int .u32 ((chM (unpack p) at_ k : Nat) : Int), .int .i64 0, .int .i64 ((k : Nat) : Int), .int .i64 ((n : Nat) : Int), .bool true, .bool true, .bool true, .int .u32 ((chM (unpack p) at_ k : Nat) : Int), .bool true, .bool true, (u20 42), (u20 43), (u20 44), (u20 45), (u20 46), (u20 47), (u20 48), (u20 49), (u20 50), (u20 51), (u20 52), (u20 53), (u20 54), (u20 55), (u20 56), (u20 57), (u20 58), (u20 59), .int .i64 (((k : Nat) : Int) + 1), undef, undef] zz undef), ⟨⟨by omega, by omega, by omega, (by rw [chB_ge (by omega), ← hb, decide_eq_true (by omega)]; rfl), O1⟩, M38⟩, rfl, (by kernel_rfl)⟩
        ·
          refine st_val (.bool false) (by kernel_rfl) (bool_of (dec_f c40) (by kernel_rfl)) ?_
          refine st_val (.bool false) (by kernel_rfl) (by kernel_rfl) ?_
          refine st_val (.bool false) (by kernel_rfl) (by kernel_rfl) ?_
          refine wl_nil ?_
          refine hK37 _ _ ?_
          try clear hK37 K37
          refine wp_exit ?_
          refine th_exit ?_
          refine blk_exit ?_
          refine hK25 _ _ ?_
          try clear hK25 K25
          refine wl_region ?_
          refine st_val (.int .i64 (((k : Nat) : Int) + 1)) (by kernel_rfl) (i64_of (by omega) (by kernel_rfl)) ?_
          refine st_val (.int .i64 (((k : Nat) : Int) + 1)) (by kernel_rfl) (by kernel_rfl) ?_
          refine wl_nil ?_
          refine th_normal ?_
          have M39 : Mem (fun k => k ∈ ((rT g v en at_ TB)).map (·.1)) w W31 ((T1 ++ ((rT g v en (q + 9) TB) ++ []))) := M34.swap (A := []) (T := (rT g v en (q + 9) TB)) (U := T1) (B := [])
          exact ⟨_, by omega, (k + 1), false, m, (q + 9), A1, c1, T1, (fun zz => Array.getD #[.pointer (some ⟨g, 0, none⟩), .int .i64 ((n : Nat) : Int), undef, undef, (Go.Value.slice none 0 0), .bool false, .int .u32 ((chE (unpack p) at_ : Nat) : Int), .int .i64 0, .int .i64 ((chE (unpack p) at_ : Nat) : Int), .bool false, .slice A1 m c1, .int .i64 ((k : Nat) : Int), .int .u32 ((chM (unpack p) at_ k : Nat) : Int), .int .i64 0, (u20 14), .tuple #[.int .u32 ((valueOf (((unpack p).drop at_).take 4) : Nat) : Int), .int .i64 0], .pointer (some ⟨g, 0, none⟩), .tuple #[.int .u32 ((valueOf (((unpack p).drop at_).take 4) : Nat) : Int), .int .i64 0], .int .u32 ((chE (unpack p) at_ : Nat) : Int), .int .i64 0, .int .u32 ((chE (unpack p) at_ : Nat) : Int), .int .i64 ((chE (unpack p) at_ : Nat) : Int), .int .u32 ((chE (unpack p) at_ : Nat) : Int), .bool (decide ((((chE (unpack p) at_ : Nat) : Int) : Int) ≤ 7)), .int .i64 ((n : Nat) : Int), .slice A16 0 n, .int .i64 (((k : Nat) : Int) + 1), .bool true, .int .i64 ((k : Nat) : Int), .tuple #[.int .u32 ((valueOf (((unpack p).drop q).take 9) : Nat) : Int), .int .i64 0], .pointer (some ⟨g, 0, none⟩), .tuple #[.int .u32 ((valueOf (((unpack p).drop q).take 9) : Nat) : Int), .int .i64 0], .int .u32 ((chM (unpack p) at_ k : Nat) : Int), .int .i64 0, .int .i64 ((k : Nat) : Int), .int .i64 ((n : Nat) : Int), .bool true, .bool true, .bool true, .int .u32 ((chM (unpack p) at_ k : Nat) : Int), .bool false, .bool false, (u20 42), (u20 43), (u20 44), (u20 45), (u20 46), (u20 47), (u20 48), (u20 49), (u20 50), (u20 51), (u20 52), (u20 53), (u20 54), (u20 55), (u20 56), (u20 57), (u20 58), (u20 59), .int .i64 (((k : Nat) : Int) + 1), undef, undef] zz undef), ⟨⟨by omega, by omega, by omega, (by rw [chB_ge (by omega), ← hb]; first | rfl | (rw [decide_eq_false (by omega)]; rfl)), O1⟩, M39⟩, rfl, (by kernel_rfl)⟩
      ·
        subst hbs
        refine st_val (.bool false) (by kernel_rfl) (by kernel_rfl) ?_
        refine st_val (.bool false) (by kernel_rfl) (by kernel_rfl) ?_
        refine st_skip (by kernel_rfl) ?_
        refine st_skip (by kernel_rfl) ?_
        refine st_val (.bool false) (by kernel_rfl) (by kernel_rfl) ?_
        refine st_val (.bool false) (by kernel_rfl) (by kernel_rfl) ?_
        refine wl_nil ?_
        refine hK37 _ _ ?_
        try clear hK37 K37
        refine wp_exit ?_
        refine th_exit ?_
        refine blk_exit ?_
        refine hK25 _ _ ?_
        try clear hK25 K25
        refine wl_region ?_
        refine st_val (.int .i64 (((k : Nat) : Int) + 1)) (by kernel_rfl) (i64_of (by omega) (by kernel_rfl)) ?_
        refine st_val (.int .i64 (((k : Nat) : Int) + 1)) (by kernel_rfl) (by kernel_rfl) ?_
        refine wl_nil ?_
        refine th_normal ?_
        have M40 : Mem (fun k => k ∈ ((rT g v en at_ TB)).map (·.1)) w W31 ((T1 ++ ((rT g v en (q + 9) TB) ++ []))) := M34.swap (A := []) (T := (rT g v en (q + 9) TB)) (U := T1) (B := [])
        exact ⟨_, by omega, (k + 1), false, m, (q + 9), A1, c1, T1, (fun zz => Array.getD #[.pointer (some ⟨g, 0, none⟩), .int .i64 ((n : Nat) : Int), undef, undef, (Go.Value.slice none 0 0), .bool false, .int .u32 ((chE (unpack p) at_ : Nat) : Int), .int .i64 0, .int .i64 ((chE (unpack p) at_ : Nat) : Int), .bool false, .slice A1 m c1, .int .i64 ((k : Nat) : Int), .int .u32 ((chM (unpack p) at_ k : Nat) : Int), .int .i64 0, (u20 14), .tuple #[.int .u32 ((valueOf (((unpack p).drop at_).take 4) : Nat) : Int), .int .i64 0], .pointer (some ⟨g, 0, none⟩), .tuple #[.int .u32 ((valueOf (((unpack p).drop at_).take 4) : Nat) : Int), .int .i64 0], .int .u32 ((chE (unpack p) at_ : Nat) : Int), .int .i64 0, .int .u32 ((chE (unpack p) at_ : Nat) : Int), .int .i64 ((chE (unpack p) at_ : Nat) : Int), .int .u32 ((chE (unpack p) at_ : Nat) : Int), .bool (decide ((((chE (unpack p) at_ : Nat) : Int) : Int) ≤ 7)), .int .i64 ((n : Nat) : Int), .slice A16 0 n, .int .i64 (((k : Nat) : Int) + 1), .bool true, .int .i64 ((k : Nat) : Int), .tuple #[.int .u32 ((valueOf (((unpack p).drop q).take 9) : Nat) : Int), .int .i64 0], .pointer (some ⟨g, 0, none⟩), .tuple #[.int .u32 ((valueOf (((unpack p).drop q).take 9) : Nat) : Int), .int .i64 0], .int .u32 ((chM (unpack p) at_ k : Nat) : Int), .int .i64 0, .int .i64 ((k : Nat) : Int), .int .i64 ((n : Nat) : Int), .bool true, .bool false, .bool false, undef, undef, .bool false, (u20 42), (u20 43), (u20 44), (u20 45), (u20 46), (u20 47), (u20 48), (u20 49), (u20 50), (u20 51), (u20 52), (u20 53), (u20 54), (u20 55), (u20 56), (u20 57), (u20 58), (u20 59), .int .i64 (((k : Nat) : Int) + 1), undef, undef] zz undef), ⟨⟨by omega, by omega, by omega, (by rw [chB_ge (by omega), ← hb]; first | rfl | (rw [decide_eq_false (by omega)]; rfl)), O1⟩, M40⟩, rfl, (by kernel_rfl)⟩
    ·
      refine st_val (.bool false) (by kernel_rfl) (bool_of (dec_f c36) (by kernel_rfl)) ?_
      refine wl_nil ?_
      refine hK36 _ _ ?_
      try clear hK36 K36
      refine wp_frame (a' := ⟨#[.pointer (some ⟨g, 0, none⟩), .int .i64 ((n : Nat) : Int), undef, undef, (Go.Value.slice none 0 0), .bool false, .int .u32 ((chE (unpack p) at_ : Nat) : Int), .int .i64 0, .int .i64 ((chE (unpack p) at_ : Nat) : Int), .bool b, .slice A1 m c1, .int .i64 ((k : Nat) : Int), .int .u32 ((chM (unpack p) at_ k : Nat) : Int), .int .i64 0, (u20 14), .tuple #[.int .u32 ((valueOf (((unpack p).drop at_).take 4) : Nat) : Int), .int .i64 0], .pointer (some ⟨g, 0, none⟩), .tuple #[.int .u32 ((valueOf (((unpack p).drop at_).take 4) : Nat) : Int), .int .i64 0], .int .u32 ((chE (unpack p) at_ : Nat) : Int), .int .i64 0, .int .u32 ((chE (unpack p) at_ : Nat) : Int), .int .i64 ((chE (unpack p) at_ : Nat) : Int), .int .u32 ((chE (unpack p) at_ : Nat) : Int), .bool (decide ((((chE (unpack p) at_ : Nat) : Int) : Int) ≤ 7)), .int .i64 ((n : Nat) : Int), .slice A16 0 n, .int .i64 ((k : Nat) : Int), .bool true, .int .i64 ((k : Nat) : Int), .tuple #[.int .u32 ((valueOf (((unpack p).drop q).take 9) : Nat) : Int), .int .i64 0], .pointer (some ⟨g, 0, none⟩), .tuple #[.int .u32 ((valueOf (((unpack p).drop q).take 9) : Nat) : Int), .int .i64 0], .int .u32 ((chM (unpack p) at_ k : Nat) : Int), .int .i64 0, .int .i64 ((k : Nat) : Int), .int .i64 ((n : Nat) : Int), .bool false, (u20 37), (u20 38), (u20 39), (u20 40), (u20 41), (u20 42), (u20 43), (u20 44), (u20 45), (u20 46), (u20 47), (u20 48), (u20 49), (u20 50), (u20 51), (u20 52), (u20 53), (u20 54), (u20 55), (u20 56), (u20 57), (u20 58), (u20 59), (u20 60), undef, undef], []⟩) (by kernel_rfl) ?_
      refine wp_cond_false (by kernel_rfl) ?_
      refine wp_skip ?_
      refine hK35 _ _ ?_
      try clear hK35 K35
      refine wp_seq_k (fun K41 hK41 => ?_)
      refine wl_region ?_
      refine st_val (.int .u32 ((chM (unpack p) at_ k : Nat) : Int)) (by kernel_rfl) (by kernel_rfl) ?_
      refine st_val (.int .i64 ((chM (unpack p) at_ k : Nat) : Int)) (by kernel_rfl) (i64_of (by omega) (by kernel_rfl)) ?_
      refine st_val (.int .i64 ((chM (unpack p) at_ k : Nat) : Int)) (by kernel_rfl) (by kernel_rfl) ?_
      refine wl_nil ?_
      refine hK41 _ _ ?_
      try clear hK41 K41
      refine wp_seq_k (fun K42 hK42 => ?_)
      refine wp_seq_k (fun K43 hK43 => ?_)
      refine wl_region ?_
      refine st_val (.int .i64 ((chM (unpack p) at_ k : Nat) : Int)) (by kernel_rfl) (by kernel_rfl) ?_
      rcases Decidable.em ((((chM (unpack p) at_ k : Nat) : Int) : Int) > 255) with c45 | c45
      ·
        refine st_val (.bool true) (by kernel_rfl) (bool_of (dec_t c45) (by kernel_rfl)) ?_
        refine wl_nil ?_
        refine hK43 _ _ ?_
        try clear hK43 K43
        refine wp_cond_true (by kernel_rfl) ?_
        refine wl_region ?_
        refine st_val (.int .i64 ((chM (unpack p) at_ k : Nat) : Int)) (by kernel_rfl) (by kernel_rfl) ?_
        refine st_val (.int .i64 (((chM (unpack p) at_ k : Nat) : Int) - 512)) (by kernel_rfl) (i64_of (by omega) (by kernel_rfl)) ?_
        refine st_val (.int .i64 (((chM (unpack p) at_ k : Nat) : Int) - 512)) (by kernel_rfl) (by kernel_rfl) ?_
        refine wl_nil ?_
        refine hK42 _ _ ?_
        try clear hK42 K42
        have hxr := sxp_rng (e := min (chE (unpack p) at_) 7) (m := chM (unpack p) at_ k) (by omega) hMl
        have hhr := half_le (e := min (chE (unpack p) at_) 7) (by omega)
        have hdr := dcS_rng (e := min (chE (unpack p) at_) 7) (m := chM (unpack p) at_ k) (by omega) hMl
        refine wh_region (fun w' => Mem (fun k => k ∈ ((rT g v en at_ TB)).map (·.1)) w w' (((rT g v en (q + 9) TB) ++ []))) (by kernel_rfl) (by kernel_rfl) (fun d _ _ _ _ h => by cases d <;> exact h) 13 rfl #[false, false, false, false, false, false, false, false, false, false, false, false, false] rfl ?_
        intro R44
        have M46 := M34.drew
        have hS47 : Mem (fun k => k ∈ ((rT g v en at_ TB)).map (·.1)) w W31.drew (((rT g v en (q + 9) TB) ++ [])) := M46.sub (((List.Sublist.refl []).trans (List.sublist_append_right T1 _)).append_left (rT g v en (q + 9) TB))
        refine wh_take R44 0 (.slice A1 m c1) rfl (by kernel_rfl) (by kernel_rfl) (by kernel_rfl) (fun w' M' => (by kernel_rfl)) hS47 #[true, false, false, false, false, false, false, false, false, false, false, false, false] rfl ?_
        refine wh_take R44 1 (.int .i64 (((chM (unpack p) at_ k : Nat) : Int) - 512)) rfl (by kernel_rfl) (by kernel_rfl) (by kernel_rfl) (fun w' M' => (by kernel_rfl)) hS47 #[true, true, false, false, false, false, false, false, false, false, false, false, false] rfl ?_
        refine wh_take R44 2 (.int .i64 ((chE (unpack p) at_ : Nat) : Int)) rfl (by kernel_rfl) (by kernel_rfl) (by kernel_rfl) (fun w' M' => (by kernel_rfl)) hS47 #[true, true, true, false, false, false, false, false, false, false, false, false, false] rfl ?_
        refine wh_take R44 3 (.int .i64 ((min (chE (unpack p) at_) 7 : Nat) : Int)) rfl (by kernel_rfl) (by kernel_rfl) (by kernel_rfl) (fun w' M' => (int_of (show (if (7 : Int) < ((chE (unpack p) at_ : Nat) : Int) then (7 : Int) else ((chE (unpack p) at_ : Nat) : Int)) = ((min (chE (unpack p) at_) 7 : Nat) : Int) by omega) (by kernel_rfl))) hS47 #[true, true, true, true, false, false, false, false, false, false, false, false, false] rfl ?_
        refine wh_take R44 4 (.int .i64 (sx (chM (unpack p) at_ k) * ((2 ^ (min (chE (unpack p) at_) 7) : Nat) : Int))) rfl (by kernel_rfl) (by kernel_rfl) (by kernel_rfl) (fun w' M' => (run_value_bin .shl 3 3 (.tmp 49) (.tmp 51) rfl (.int .i64 (((chM (unpack p) at_ k : Nat) : Int) - 512)) (.int .i64 ((min (chE (unpack p) at_) 7 : Nat) : Int)) _ (by kernel_rfl) (by kernel_rfl) (by kernel_rfl) (bin_shl (n := min (chE (unpack p) at_) 7) (by show _ ≤ 64; omega) (sx_shl (by omega) hMl (by unfold sx; rw [if_pos (by omega)]))))) hS47 #[true, true, true, true, true, false, false, false, false, false, false, false, false] rfl ?_
        refine wh_take R44 5 (.int .i64 ((chE (unpack p) at_ : Nat) : Int)) rfl (by kernel_rfl) (by kernel_rfl) (by kernel_rfl) (fun w' M' => (by kernel_rfl)) hS47 #[true, true, true, true, true, true, false, false, false, false, false, false, false] rfl ?_
        refine wh_take R44 6 (.int .i64 ((min (chE (unpack p) at_) 7 : Nat) : Int)) rfl (by kernel_rfl) (by kernel_rfl) (by kernel_rfl) (fun w' M' => (int_of (show (if (7 : Int) < ((chE (unpack p) at_ : Nat) : Int) then (7 : Int) else ((chE (unpack p) at_ : Nat) : Int)) = ((min (chE (unpack p) at_) 7 : Nat) : Int) by omega) (by kernel_rfl))) hS47 #[true, true, true, true, true, true, true, false, false, false, false, false, false] rfl ?_
        refine wh_callB M46 7 (.int .i64 ((half (min (chE (unpack p) at_) 7) : Nat) : Int)) rfl (by kernel_rfl) (by kernel_rfl) (run_value_call 52 #[(Operand.tmp 54)] _ rfl Try.func52 (by kernel_rfl) (by kernel_rfl) _ (by kernel_rfl)) #[true, true, true, true, true, true, true, true, false, false, false, false, false] rfl (half_walk W31.drew (min (chE (unpack p) at_) 7) (by omega)) ?_
        intro W48 M49
        have hS50 : Mem (fun k => k ∈ ((rT g v en at_ TB)).map (·.1)) w W48 (((rT g v en (q + 9) TB) ++ [])) := M49.sub (((List.Sublist.refl []).trans (List.sublist_append_right T1 _)).append_left (rT g v en (q + 9) TB))
        refine ⟨hS50, ?_⟩
        refine wh_take R44 8 (.int .i64 ((sx (chM (unpack p) at_ k) * ((2 ^ (min (chE (unpack p) at_) 7) : Nat) : Int)) + ((half (min (chE (unpack p) at_) 7) : Nat) : Int))) rfl (by kernel_rfl) (by kernel_rfl) (by kernel_rfl) (fun w' M' => (i64_of (by omega) (by kernel_rfl))) hS50 #[true, true, true, true, true, true, true, true, true, false, false, false, false] rfl ?_
        refine wh_take R44 9 (.int .i16 (dcS (min (chE (unpack p) at_) 7) (chM (unpack p) at_ k))) rfl (by kernel_rfl) (by kernel_rfl) (by kernel_rfl) (fun w' M' => (int_of (wrap_i16 hdr) (by kernel_rfl))) hS50 #[true, true, true, true, true, true, true, true, true, true, false, false, false] rfl ?_
        refine wh_new M49 10 (.cells #[.int .i16 (dcS (min (chE (unpack p) at_) 7) (chM (unpack p) at_ k))] 45 (0, 0)) (fun g => .slice (some ⟨g, 0, none⟩) 1 1) rfl (by kernel_rfl) (by kernel_rfl) (by kernel_rfl) #[true, true, true, true, true, true, true, true, true, true, true, false, false] rfl ?_
        intro g51 W52 M53
        have hS54 : Mem (fun k => k ∈ ((rT g v en at_ TB)).map (·.1)) w W52 (((rT g v en (q + 9) TB) ++ [])) := M53.sub ((((List.Sublist.refl []).trans (List.sublist_append_right T1 _)).append_left (rT g v en (q + 9) TB)).cons _)
        refine ⟨hS54, ?_⟩
        have M64 : Mem (fun k => k ∈ ((rT g v en at_ TB)).map (·.1)) w W52 ((g51, .cells #[.int .i16 (dcS (min (chE (unpack p) at_) 7) (chM (unpack p) at_ k))] 45 (0, 0)) :: (T1 ++ ((rT g v en (q + 9) TB) ++ []))) := M53.swap (A := [(g51, .cells #[.int .i16 (dcS (min (chE (unpack p) at_) 7) (chM (unpack p) at_ k))] 45 (0, 0))]) (T := (rT g v en (q + 9) TB)) (U := T1) (B := [])
        obtain ⟨v55, T56, W57, hr58, O59, M60⟩ := append_i16 (A := [(g51, .cells #[.int .i16 (dcS (min (chE (unpack p) at_) 7) (chM (unpack p) at_ k))] 45 (0, 0))]) (T := T1) (B := ((rT g v en (q + 9) TB) ++ [])) M64 39 _ _ _ O1 _ 1 (i16s ([dcS (min (chE (unpack p) at_) 7) (chM (unpack p) at_ k)])) (rdk_lit (xs := i16s [dcS (min (chE (unpack p) at_) 7) (chM (unpack p) at_ k)]) (M64.get 0 rfl) rfl) rfl (i16s_one _) (by omega)
        have M60 : Mem (fun k => k ∈ ((rT g v en at_ TB)).map (·.1)) w W57 ((g51, .cells #[.int .i16 (dcS (min (chE (unpack p) at_) 7) (chM (unpack p) at_ k))] 45 (0, 0)) :: (T56 ++ ((rT g v en (q + 9) TB) ++ []))) := M60
        obtain ⟨A61, cq62, rfl, hc63⟩ := O59.shape
        have hS65 : Mem (fun k => k ∈ ((rT g v en at_ TB)).map (·.1)) w W57 (((rT g v en (q + 9) TB) ++ [])) := M60.sub ((((List.Sublist.refl []).append_left (rT g v en (q + 9) TB)).trans (List.sublist_append_right T56 _)).cons _)
        refine wh_world 11 (.slice A61 (m + 1) cq62) W57 rfl (by kernel_rfl) (by kernel_rfl) (run_append_op (.tmp 48) (.tmp 58) _ rfl (.slice A1 m c1) (.slice (some ⟨g51, 0, none⟩) 1 1) _ (by kernel_rfl) (by kernel_rfl) hr58) #[true, true, true, true, true, true, true, true, true, true, true, true, false] rfl hS65 ?_
        refine wh_take R44 12 (.slice A61 (m + 1) cq62) rfl (by kernel_rfl) (by kernel_rfl) (by kernel_rfl) (fun w' M' => (by kernel_rfl)) hS65 #[true, true, true, true, true, true, true, true, true, true, true, true, true] rfl ?_
        refine wh_done (by kernel_rfl) ?_
        refine blk_normal ?_
        refine hK25 _ _ ?_
        try clear hK25 K25
        refine wp_frame (a' := ⟨#[.pointer (some ⟨g, 0, none⟩), .int .i64 ((n : Nat) : Int), undef, undef, (Go.Value.slice none 0 0), .bool false, .int .u32 ((chE (unpack p) at_ : Nat) : Int), .int .i64 0, .int .i64 ((chE (unpack p) at_ : Nat) : Int), .bool b, .slice A61 (m + 1) cq62, .int .i64 ((k : Nat) : Int), .int .u32 ((chM (unpack p) at_ k : Nat) : Int), .int .i64 0, .int .i64 (((chM (unpack p) at_ k : Nat) : Int) - 512), .tuple #[.int .u32 ((valueOf (((unpack p).drop at_).take 4) : Nat) : Int), .int .i64 0], .pointer (some ⟨g, 0, none⟩), .tuple #[.int .u32 ((valueOf (((unpack p).drop at_).take 4) : Nat) : Int), .int .i64 0], .int .u32 ((chE (unpack p) at_ : Nat) : Int), .int .i64 0, .int .u32 ((chE (unpack p) at_ : Nat) : Int), .int .i64 ((chE (unpack p) at_ : Nat) : Int), .int .u32 ((chE (unpack p) at_ : Nat) : Int), .bool (decide ((((chE (unpack p) at_ : Nat) : Int) : Int) ≤ 7)), .int .i64 ((n : Nat) : Int), .slice A16 0 n, .int .i64 ((k : Nat) : Int), .bool true, .int .i64 ((k : Nat) : Int), .tuple #[.int .u32 ((valueOf (((unpack p).drop q).take 9) : Nat) : Int), .int .i64 0], .pointer (some ⟨g, 0, none⟩), .tuple #[.int .u32 ((valueOf (((unpack p).drop q).take 9) : Nat) : Int), .int .i64 0], .int .u32 ((chM (unpack p) at_ k : Nat) : Int), .int .i64 0, .int .i64 ((k : Nat) : Int), .int .i64 ((n : Nat) : Int), .bool false, (u20 37), (u20 38), (u20 39), (u20 40), (u20 41), .int .u32 ((chM (unpack p) at_ k : Nat) : Int), .int .i64 ((chM (unpack p) at_ k : Nat) : Int), .int .i64 ((chM (unpack p) at_ k : Nat) : Int), .bool true, .int .i64 ((chM (unpack p) at_ k : Nat) : Int), .int .i64 (((chM (unpack p) at_ k : Nat) : Int) - 512), .slice A1 m c1, .int .i64 (((chM (unpack p) at_ k : Nat) : Int) - 512), .int .i64 ((chE (unpack p) at_ : Nat) : Int), .int .i64 ((min (chE (unpack p) at_) 7 : Nat) : Int), .int .i64 (sx (chM (unpack p) at_ k) * ((2 ^ (min (chE (unpack p) at_) 7) : Nat) : Int)), .int .i64 ((chE (unpack p) at_ : Nat) : Int), .int .i64 ((min (chE (unpack p) at_) 7 : Nat) : Int), .int .i64 ((half (min (chE (unpack p) at_) 7) : Nat) : Int), .int .i64 ((sx (chM (unpack p) at_ k) * ((2 ^ (min (chE (unpack p) at_) 7) : Nat) : Int)) + ((half (min (chE (unpack p) at_) 7) : Nat) : Int)), .int .i16 (dcS (min (chE (unpack p) at_) 7) (chM (unpack p) at_ k)), .slice (some ⟨g51, 0, none⟩) 1 1, .slice A61 (m + 1) cq62, (u20 60), undef, undef], []⟩) (by kernel_rfl) ?_
        refine wl_region ?_
        refine st_val (.int .i64 (((k : Nat) : Int) + 1)) (by kernel_rfl) (i64_of (by omega) (by kernel_rfl)) ?_
        refine st_val (.int .i64 (((k : Nat) : Int) + 1)) (by kernel_rfl) (by kernel_rfl) ?_
        refine wl_nil ?_
        refine th_normal ?_
        have M66 : Mem (fun k => k ∈ ((rT g v en at_ TB)).map (·.1)) w W57 ((T56 ++ ((rT g v en (q + 9) TB) ++ []))) := M60.sub ((((List.Sublist.refl []).append_left (rT g v en (q + 9) TB)).append_left T56).cons _)
        have hmk : m = k := (by omega)
        have hO4 := O59
        rw [hmk] at hO4
        have hO5 : Own 45 1 _ (k + 1) (i16s (chL (unpack p) at_ (k + 1))) _ := (by show Own _ _ _ _ (i16s (chL (unpack p) at_ k ++ [dcS (min (chE (unpack p) at_) 7) (chM (unpack p) at_ k)])) _; rw [i16s_append]; exact hO4)
        rw [← hmk] at hO5
        exact ⟨_, by omega, (k + 1), b, (m + 1), (q + 9), A61, cq62, T56, (fun zz => Array.getD #[.pointer (some ⟨g, 0, none⟩), .int .i64 ((n : Nat) : Int), undef, undef, (Go.Value.slice none 0 0), .bool false, .int .u32 ((chE (unpack p) at_ : Nat) : Int), .int .i64 0, .int .i64 ((chE (unpack p) at_ : Nat) : Int), .bool b, .slice A61 (m + 1) cq62, .int .i64 ((k : Nat) : Int), .int .u32 ((chM (unpack p) at_ k : Nat) : Int), .int .i64 0, .int .i64 (((chM (unpack p) at_ k : Nat) : Int) - 512), .tuple #[.int .u32 ((valueOf (((unpack p).drop at_).take 4) : Nat) : Int), .int .i64 0], .pointer (some ⟨g, 0, none⟩), .tuple #[.int .u32 ((valueOf (((unpack p).drop at_).take 4) : Nat) : Int), .int .i64 0], .int .u32 ((chE (unpack p) at_ : Nat) : Int), .int .i64 0, .int .u32 ((chE (unpack p) at_ : Nat) : Int), .int .i64 ((chE (unpack p) at_ : Nat) : Int), .int .u32 ((chE (unpack p) at_ : Nat) : Int), .bool (decide ((((chE (unpack p) at_ : Nat) : Int) : Int) ≤ 7)), .int .i64 ((n : Nat) : Int), .slice A16 0 n, .int .i64 (((k : Nat) : Int) + 1), .bool true, .int .i64 ((k : Nat) : Int), .tuple #[.int .u32 ((valueOf (((unpack p).drop q).take 9) : Nat) : Int), .int .i64 0], .pointer (some ⟨g, 0, none⟩), .tuple #[.int .u32 ((valueOf (((unpack p).drop q).take 9) : Nat) : Int), .int .i64 0], .int .u32 ((chM (unpack p) at_ k : Nat) : Int), .int .i64 0, .int .i64 ((k : Nat) : Int), .int .i64 ((n : Nat) : Int), .bool false, (u20 37), (u20 38), (u20 39), (u20 40), (u20 41), .int .u32 ((chM (unpack p) at_ k : Nat) : Int), .int .i64 ((chM (unpack p) at_ k : Nat) : Int), .int .i64 ((chM (unpack p) at_ k : Nat) : Int), .bool true, .int .i64 ((chM (unpack p) at_ k : Nat) : Int), .int .i64 (((chM (unpack p) at_ k : Nat) : Int) - 512), .slice A1 m c1, .int .i64 (((chM (unpack p) at_ k : Nat) : Int) - 512), .int .i64 ((chE (unpack p) at_ : Nat) : Int), .int .i64 ((min (chE (unpack p) at_) 7 : Nat) : Int), .int .i64 (sx (chM (unpack p) at_ k) * ((2 ^ (min (chE (unpack p) at_) 7) : Nat) : Int)), .int .i64 ((chE (unpack p) at_ : Nat) : Int), .int .i64 ((min (chE (unpack p) at_) 7 : Nat) : Int), .int .i64 ((half (min (chE (unpack p) at_) 7) : Nat) : Int), .int .i64 ((sx (chM (unpack p) at_ k) * ((2 ^ (min (chE (unpack p) at_) 7) : Nat) : Int)) + ((half (min (chE (unpack p) at_) 7) : Nat) : Int)), .int .i16 (dcS (min (chE (unpack p) at_) 7) (chM (unpack p) at_ k)), .slice (some ⟨g51, 0, none⟩) 1 1, .slice A61 (m + 1) cq62, .int .i64 (((k : Nat) : Int) + 1), undef, undef] zz undef), ⟨⟨by omega, by omega, by omega, by rw [chB_lt (by omega)]; exact hb, hO5⟩, M66⟩, rfl, (by kernel_rfl)⟩
      ·
        refine st_val (.bool false) (by kernel_rfl) (bool_of (dec_f c45) (by kernel_rfl)) ?_
        refine wl_nil ?_
        refine hK43 _ _ ?_
        try clear hK43 K43
        refine wp_cond_false (by kernel_rfl) ?_
        refine wp_skip ?_
        refine hK42 _ _ ?_
        try clear hK42 K42
        have hxr := sxp_rng (e := min (chE (unpack p) at_) 7) (m := chM (unpack p) at_ k) (by omega) hMl
        have hhr := half_le (e := min (chE (unpack p) at_) 7) (by omega)
        have hdr := dcS_rng (e := min (chE (unpack p) at_) 7) (m := chM (unpack p) at_ k) (by omega) hMl
        refine wh_region (fun w' => Mem (fun k => k ∈ ((rT g v en at_ TB)).map (·.1)) w w' (((rT g v en (q + 9) TB) ++ []))) (by kernel_rfl) (by kernel_rfl) (fun d _ _ _ _ h => by cases d <;> exact h) 13 rfl #[false, false, false, false, false, false, false, false, false, false, false, false, false] rfl ?_
        intro R67
        have M69 := M34.drew
        have hS70 : Mem (fun k => k ∈ ((rT g v en at_ TB)).map (·.1)) w W31.drew (((rT g v en (q + 9) TB) ++ [])) := M69.sub (((List.Sublist.refl []).trans (List.sublist_append_right T1 _)).append_left (rT g v en (q + 9) TB))
        refine wh_take R67 0 (.slice A1 m c1) rfl (by kernel_rfl) (by kernel_rfl) (by kernel_rfl) (fun w' M' => (by kernel_rfl)) hS70 #[true, false, false, false, false, false, false, false, false, false, false, false, false] rfl ?_
        refine wh_take R67 1 (.int .i64 ((chM (unpack p) at_ k : Nat) : Int)) rfl (by kernel_rfl) (by kernel_rfl) (by kernel_rfl) (fun w' M' => (by kernel_rfl)) hS70 #[true, true, false, false, false, false, false, false, false, false, false, false, false] rfl ?_
        refine wh_take R67 2 (.int .i64 ((chE (unpack p) at_ : Nat) : Int)) rfl (by kernel_rfl) (by kernel_rfl) (by kernel_rfl) (fun w' M' => (by kernel_rfl)) hS70 #[true, true, true, false, false, false, false, false, false, false, false, false, false] rfl ?_
        refine wh_take R67 3 (.int .i64 ((min (chE (unpack p) at_) 7 : Nat) : Int)) rfl (by kernel_rfl) (by kernel_rfl) (by kernel_rfl) (fun w' M' => (int_of (show (if (7 : Int) < ((chE (unpack p) at_ : Nat) : Int) then (7 : Int) else ((chE (unpack p) at_ : Nat) : Int)) = ((min (chE (unpack p) at_) 7 : Nat) : Int) by omega) (by kernel_rfl))) hS70 #[true, true, true, true, false, false, false, false, false, false, false, false, false] rfl ?_
        refine wh_take R67 4 (.int .i64 (sx (chM (unpack p) at_ k) * ((2 ^ (min (chE (unpack p) at_) 7) : Nat) : Int))) rfl (by kernel_rfl) (by kernel_rfl) (by kernel_rfl) (fun w' M' => (run_value_bin .shl 3 3 (.tmp 49) (.tmp 51) rfl (.int .i64 ((chM (unpack p) at_ k : Nat) : Int)) (.int .i64 ((min (chE (unpack p) at_) 7 : Nat) : Int)) _ (by kernel_rfl) (by kernel_rfl) (by kernel_rfl) (bin_shl (n := min (chE (unpack p) at_) 7) (by show _ ≤ 64; omega) (sx_shl (by omega) hMl (by unfold sx; rw [if_neg (by omega)]))))) hS70 #[true, true, true, true, true, false, false, false, false, false, false, false, false] rfl ?_
        refine wh_take R67 5 (.int .i64 ((chE (unpack p) at_ : Nat) : Int)) rfl (by kernel_rfl) (by kernel_rfl) (by kernel_rfl) (fun w' M' => (by kernel_rfl)) hS70 #[true, true, true, true, true, true, false, false, false, false, false, false, false] rfl ?_
        refine wh_take R67 6 (.int .i64 ((min (chE (unpack p) at_) 7 : Nat) : Int)) rfl (by kernel_rfl) (by kernel_rfl) (by kernel_rfl) (fun w' M' => (int_of (show (if (7 : Int) < ((chE (unpack p) at_ : Nat) : Int) then (7 : Int) else ((chE (unpack p) at_ : Nat) : Int)) = ((min (chE (unpack p) at_) 7 : Nat) : Int) by omega) (by kernel_rfl))) hS70 #[true, true, true, true, true, true, true, false, false, false, false, false, false] rfl ?_
        refine wh_callB M69 7 (.int .i64 ((half (min (chE (unpack p) at_) 7) : Nat) : Int)) rfl (by kernel_rfl) (by kernel_rfl) (run_value_call 52 #[(Operand.tmp 54)] _ rfl Try.func52 (by kernel_rfl) (by kernel_rfl) _ (by kernel_rfl)) #[true, true, true, true, true, true, true, true, false, false, false, false, false] rfl (half_walk W31.drew (min (chE (unpack p) at_) 7) (by omega)) ?_
        intro W71 M72
        have hS73 : Mem (fun k => k ∈ ((rT g v en at_ TB)).map (·.1)) w W71 (((rT g v en (q + 9) TB) ++ [])) := M72.sub (((List.Sublist.refl []).trans (List.sublist_append_right T1 _)).append_left (rT g v en (q + 9) TB))
        refine ⟨hS73, ?_⟩
        refine wh_take R67 8 (.int .i64 ((sx (chM (unpack p) at_ k) * ((2 ^ (min (chE (unpack p) at_) 7) : Nat) : Int)) + ((half (min (chE (unpack p) at_) 7) : Nat) : Int))) rfl (by kernel_rfl) (by kernel_rfl) (by kernel_rfl) (fun w' M' => (i64_of (by omega) (by kernel_rfl))) hS73 #[true, true, true, true, true, true, true, true, true, false, false, false, false] rfl ?_
        refine wh_take R67 9 (.int .i16 (dcS (min (chE (unpack p) at_) 7) (chM (unpack p) at_ k))) rfl (by kernel_rfl) (by kernel_rfl) (by kernel_rfl) (fun w' M' => (int_of (wrap_i16 hdr) (by kernel_rfl))) hS73 #[true, true, true, true, true, true, true, true, true, true, false, false, false] rfl ?_
        refine wh_new M72 10 (.cells #[.int .i16 (dcS (min (chE (unpack p) at_) 7) (chM (unpack p) at_ k))] 45 (0, 0)) (fun g => .slice (some ⟨g, 0, none⟩) 1 1) rfl (by kernel_rfl) (by kernel_rfl) (by kernel_rfl) #[true, true, true, true, true, true, true, true, true, true, true, false, false] rfl ?_
        intro g74 W75 M76
        have hS77 : Mem (fun k => k ∈ ((rT g v en at_ TB)).map (·.1)) w W75 (((rT g v en (q + 9) TB) ++ [])) := M76.sub ((((List.Sublist.refl []).trans (List.sublist_append_right T1 _)).append_left (rT g v en (q + 9) TB)).cons _)
        refine ⟨hS77, ?_⟩
        have M87 : Mem (fun k => k ∈ ((rT g v en at_ TB)).map (·.1)) w W75 ((g74, .cells #[.int .i16 (dcS (min (chE (unpack p) at_) 7) (chM (unpack p) at_ k))] 45 (0, 0)) :: (T1 ++ ((rT g v en (q + 9) TB) ++ []))) := M76.swap (A := [(g74, .cells #[.int .i16 (dcS (min (chE (unpack p) at_) 7) (chM (unpack p) at_ k))] 45 (0, 0))]) (T := (rT g v en (q + 9) TB)) (U := T1) (B := [])
        obtain ⟨v78, T79, W80, hr81, O82, M83⟩ := append_i16 (A := [(g74, .cells #[.int .i16 (dcS (min (chE (unpack p) at_) 7) (chM (unpack p) at_ k))] 45 (0, 0))]) (T := T1) (B := ((rT g v en (q + 9) TB) ++ [])) M87 39 _ _ _ O1 _ 1 (i16s ([dcS (min (chE (unpack p) at_) 7) (chM (unpack p) at_ k)])) (rdk_lit (xs := i16s [dcS (min (chE (unpack p) at_) 7) (chM (unpack p) at_ k)]) (M87.get 0 rfl) rfl) rfl (i16s_one _) (by omega)
        have M83 : Mem (fun k => k ∈ ((rT g v en at_ TB)).map (·.1)) w W80 ((g74, .cells #[.int .i16 (dcS (min (chE (unpack p) at_) 7) (chM (unpack p) at_ k))] 45 (0, 0)) :: (T79 ++ ((rT g v en (q + 9) TB) ++ []))) := M83
        obtain ⟨A84, cq85, rfl, hc86⟩ := O82.shape
        have hS88 : Mem (fun k => k ∈ ((rT g v en at_ TB)).map (·.1)) w W80 (((rT g v en (q + 9) TB) ++ [])) := M83.sub ((((List.Sublist.refl []).append_left (rT g v en (q + 9) TB)).trans (List.sublist_append_right T79 _)).cons _)
        refine wh_world 11 (.slice A84 (m + 1) cq85) W80 rfl (by kernel_rfl) (by kernel_rfl) (run_append_op (.tmp 48) (.tmp 58) _ rfl (.slice A1 m c1) (.slice (some ⟨g74, 0, none⟩) 1 1) _ (by kernel_rfl) (by kernel_rfl) hr81) #[true, true, true, true, true, true, true, true, true, true, true, true, false] rfl hS88 ?_
        refine wh_take R67 12 (.slice A84 (m + 1) cq85) rfl (by kernel_rfl) (by kernel_rfl) (by kernel_rfl) (fun w' M' => (by kernel_rfl)) hS88 #[true, true, true, true, true, true, true, true, true, true, true, true, true] rfl ?_
        refine wh_done (by kernel_rfl) ?_
        refine blk_normal ?_
        refine hK25 _ _ ?_
        try clear hK25 K25
        refine wp_frame (a' := ⟨#[.pointer (some ⟨g, 0, none⟩), .int .i64 ((n : Nat) : Int), undef, undef, (Go.Value.slice none 0 0), .bool false, .int .u32 ((chE (unpack p) at_ : Nat) : Int), .int .i64 0, .int .i64 ((chE (unpack p) at_ : Nat) : Int), .bool b, .slice A84 (m + 1) cq85, .int .i64 ((k : Nat) : Int), .int .u32 ((chM (unpack p) at_ k : Nat) : Int), .int .i64 0, .int .i64 ((chM (unpack p) at_ k : Nat) : Int), .tuple #[.int .u32 ((valueOf (((unpack p).drop at_).take 4) : Nat) : Int), .int .i64 0], .pointer (some ⟨g, 0, none⟩), .tuple #[.int .u32 ((valueOf (((unpack p).drop at_).take 4) : Nat) : Int), .int .i64 0], .int .u32 ((chE (unpack p) at_ : Nat) : Int), .int .i64 0, .int .u32 ((chE (unpack p) at_ : Nat) : Int), .int .i64 ((chE (unpack p) at_ : Nat) : Int), .int .u32 ((chE (unpack p) at_ : Nat) : Int), .bool (decide ((((chE (unpack p) at_ : Nat) : Int) : Int) ≤ 7)), .int .i64 ((n : Nat) : Int), .slice A16 0 n, .int .i64 ((k : Nat) : Int), .bool true, .int .i64 ((k : Nat) : Int), .tuple #[.int .u32 ((valueOf (((unpack p).drop q).take 9) : Nat) : Int), .int .i64 0], .pointer (some ⟨g, 0, none⟩), .tuple #[.int .u32 ((valueOf (((unpack p).drop q).take 9) : Nat) : Int), .int .i64 0], .int .u32 ((chM (unpack p) at_ k : Nat) : Int), .int .i64 0, .int .i64 ((k : Nat) : Int), .int .i64 ((n : Nat) : Int), .bool false, (u20 37), (u20 38), (u20 39), (u20 40), (u20 41), .int .u32 ((chM (unpack p) at_ k : Nat) : Int), .int .i64 ((chM (unpack p) at_ k : Nat) : Int), .int .i64 ((chM (unpack p) at_ k : Nat) : Int), .bool false, (u20 46), (u20 47), .slice A1 m c1, .int .i64 ((chM (unpack p) at_ k : Nat) : Int), .int .i64 ((chE (unpack p) at_ : Nat) : Int), .int .i64 ((min (chE (unpack p) at_) 7 : Nat) : Int), .int .i64 (sx (chM (unpack p) at_ k) * ((2 ^ (min (chE (unpack p) at_) 7) : Nat) : Int)), .int .i64 ((chE (unpack p) at_ : Nat) : Int), .int .i64 ((min (chE (unpack p) at_) 7 : Nat) : Int), .int .i64 ((half (min (chE (unpack p) at_) 7) : Nat) : Int), .int .i64 ((sx (chM (unpack p) at_ k) * ((2 ^ (min (chE (unpack p) at_) 7) : Nat) : Int)) + ((half (min (chE (unpack p) at_) 7) : Nat) : Int)), .int .i16 (dcS (min (chE (unpack p) at_) 7) (chM (unpack p) at_ k)), .slice (some ⟨g74, 0, none⟩) 1 1, .slice A84 (m + 1) cq85, (u20 60), undef, undef], []⟩) (by kernel_rfl) ?_
        refine wl_region ?_
        refine st_val (.int .i64 (((k : Nat) : Int) + 1)) (by kernel_rfl) (i64_of (by omega) (by kernel_rfl)) ?_
        refine st_val (.int .i64 (((k : Nat) : Int) + 1)) (by kernel_rfl) (by kernel_rfl) ?_
        refine wl_nil ?_
        refine th_normal ?_
        have M89 : Mem (fun k => k ∈ ((rT g v en at_ TB)).map (·.1)) w W80 ((T79 ++ ((rT g v en (q + 9) TB) ++ []))) := M83.sub ((((List.Sublist.refl []).append_left (rT g v en (q + 9) TB)).append_left T79).cons _)
        have hmk : m = k := (by omega)
        have hO4 := O82
        rw [hmk] at hO4
        have hO5 : Own 45 1 _ (k + 1) (i16s (chL (unpack p) at_ (k + 1))) _ := (by show Own _ _ _ _ (i16s (chL (unpack p) at_ k ++ [dcS (min (chE (unpack p) at_) 7) (chM (unpack p) at_ k)])) _; rw [i16s_append]; exact hO4)
        rw [← hmk] at hO5
        exact ⟨_, by omega, (k + 1), b, (m + 1), (q + 9), A84, cq85, T79, (fun zz => Array.getD #[.pointer (some ⟨g, 0, none⟩), .int .i64 ((n : Nat) : Int), undef, undef, (Go.Value.slice none 0 0), .bool false, .int .u32 ((chE (unpack p) at_ : Nat) : Int), .int .i64 0, .int .i64 ((chE (unpack p) at_ : Nat) : Int), .bool b, .slice A84 (m + 1) cq85, .int .i64 ((k : Nat) : Int), .int .u32 ((chM (unpack p) at_ k : Nat) : Int), .int .i64 0, .int .i64 ((chM (unpack p) at_ k : Nat) : Int), .tuple #[.int .u32 ((valueOf (((unpack p).drop at_).take 4) : Nat) : Int), .int .i64 0], .pointer (some ⟨g, 0, none⟩), .tuple #[.int .u32 ((valueOf (((unpack p).drop at_).take 4) : Nat) : Int), .int .i64 0], .int .u32 ((chE (unpack p) at_ : Nat) : Int), .int .i64 0, .int .u32 ((chE (unpack p) at_ : Nat) : Int), .int .i64 ((chE (unpack p) at_ : Nat) : Int), .int .u32 ((chE (unpack p) at_ : Nat) : Int), .bool (decide ((((chE (unpack p) at_ : Nat) : Int) : Int) ≤ 7)), .int .i64 ((n : Nat) : Int), .slice A16 0 n, .int .i64 (((k : Nat) : Int) + 1), .bool true, .int .i64 ((k : Nat) : Int), .tuple #[.int .u32 ((valueOf (((unpack p).drop q).take 9) : Nat) : Int), .int .i64 0], .pointer (some ⟨g, 0, none⟩), .tuple #[.int .u32 ((valueOf (((unpack p).drop q).take 9) : Nat) : Int), .int .i64 0], .int .u32 ((chM (unpack p) at_ k : Nat) : Int), .int .i64 0, .int .i64 ((k : Nat) : Int), .int .i64 ((n : Nat) : Int), .bool false, (u20 37), (u20 38), (u20 39), (u20 40), (u20 41), .int .u32 ((chM (unpack p) at_ k : Nat) : Int), .int .i64 ((chM (unpack p) at_ k : Nat) : Int), .int .i64 ((chM (unpack p) at_ k : Nat) : Int), .bool false, (u20 46), (u20 47), .slice A1 m c1, .int .i64 ((chM (unpack p) at_ k : Nat) : Int), .int .i64 ((chE (unpack p) at_ : Nat) : Int), .int .i64 ((min (chE (unpack p) at_) 7 : Nat) : Int), .int .i64 (sx (chM (unpack p) at_ k) * ((2 ^ (min (chE (unpack p) at_) 7) : Nat) : Int)), .int .i64 ((chE (unpack p) at_ : Nat) : Int), .int .i64 ((min (chE (unpack p) at_) 7 : Nat) : Int), .int .i64 ((half (min (chE (unpack p) at_) 7) : Nat) : Int), .int .i64 ((sx (chM (unpack p) at_ k) * ((2 ^ (min (chE (unpack p) at_) 7) : Nat) : Int)) + ((half (min (chE (unpack p) at_) 7) : Nat) : Int)), .int .i16 (dcS (min (chE (unpack p) at_) 7) (chM (unpack p) at_ k)), .slice (some ⟨g74, 0, none⟩) 1 1, .slice A84 (m + 1) cq85, .int .i64 (((k : Nat) : Int) + 1), undef, undef] zz undef), ⟨⟨by omega, by omega, by omega, by rw [chB_lt (by omega)]; exact hb, hO5⟩, M89⟩, rfl, (by kernel_rfl)⟩
  ·
    refine st_val (.bool false) (by kernel_rfl) (bool_of (dec_f c27) (by kernel_rfl)) ?_
    refine wl_nil ?_
    refine hK23 _ _ ?_
    try clear hK23 K23
    refine wp_seq_k (fun K90 hK90 => ?_)
    refine wp_cond_false (by kernel_rfl) ?_
    refine wp_exit ?_
    refine th_exit ?_
    refine th_exit ?_
    refine blk_exit ?_
    refine hK18 _ _ ?_
    try clear hK18 K18
    refine wp_seq_k (fun K91 hK91 => ?_)
    refine wl_region ?_
    refine st_val (.slice A1 m c1) (by kernel_rfl) (by kernel_rfl) ?_
    refine st_val (.bool b) (by kernel_rfl) (by kernel_rfl) ?_
    refine st_val (.slice A1 m c1) (by kernel_rfl) (by kernel_rfl) ?_
    refine st_val (.bool b) (by kernel_rfl) (by kernel_rfl) ?_
    refine wl_nil ?_
    refine hK91 _ _ ?_
    try clear hK91 K91
    refine wp_ret ?_
    have M92 : Mem (fun k => k ∈ ((rT g v en at_ TB)).map (·.1)) w W21 (((rT g v en q TB) ++ (T1 ++ []))) := M22.swap (A := []) (T := T1) (U := (rT g v en q TB)) (B := [])
    have hk32 : k = 32 := (by omega)
    have hmn : m = n := (by omega)
    have hq32 : q = at_ + 292 := (by omega)
    have hMf := M92
    rw [List.append_nil] at hMf
    have hO4 := O1
    rw [hmn] at hO4
    exact done2 4 5 (.slice A1 m c1) (.bool b) (by kernel_rfl) (by kernel_rfl) (by kernel_rfl) (by kernel_rfl) ⟨_, _, rfl, ⟨_, T1, by rw [hb, hk32], by rw [← hq32], by rw [hmn]; exact hO4⟩, hMf⟩
end Go.Proofs.Ytmimljaniliecaa
