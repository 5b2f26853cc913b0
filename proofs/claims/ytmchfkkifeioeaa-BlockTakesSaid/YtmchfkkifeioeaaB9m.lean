/- The walk of BlockTakes. -/
import Derived.Test.YtmchfkkifeioeaaB9l
namespace Go.Proofs.Ytmchfkkifeioeaa
open Go.RowKit Bt
set_option maxHeartbeats 4000000 in
set_option maxRecDepth 100000 in
theorem BlockTakes_walk (w : World) (v : Value) (l : List Nat) (hr : RdK w v l.length (u8s l)) (hb : ∀ x ∈ l, x < 256) (vf : Value) (lf : List Int) (hrf : RdK w vf lf.length (i64s lf)) (hbf : ∀ x ∈ lf, -9223372036854775808 ≤ x ∧ x ≤ 9223372036854775807) : Calls Try.prog 4 #[v, vf] w fun e w' => e = .returned (.bool true) ∧ Below w.heap.size w w' := by
  obtain ⟨A, c, rfl, hc⟩ := hr.shape
  obtain ⟨Af, cf, rfl, hcf⟩ := hrf.shape
  refine calls_of_wp Try.func4 rfl ?_
  refine wp_frame (a' := ⟨#[.slice A l.length c, .slice Af lf.length cf, undef, undef, undef, undef, undef, undef, undef, undef, undef, undef, undef, undef, undef, undef, undef, undef, undef, undef, undef, undef, undef, undef, undef, undef, undef, undef, undef, undef, undef, undef, undef, undef, undef, undef, undef, undef, undef, undef, undef, undef, undef, undef, undef, undef, undef, undef, undef, undef, undef, undef, undef, undef, undef, undef, undef, undef, undef, undef, undef, undef, undef, undef, undef, undef, undef, undef, undef, undef, undef, undef, undef, undef, undef, undef, undef, undef, undef, undef, undef, undef, undef, undef, undef, undef, undef, undef, undef, undef, undef, undef, undef, undef, undef, undef, undef, undef, undef, undef, undef, undef], []⟩) (by kernel_rfl) ?_
  have M0 : Mem NoS w w [] := Mem.start _ _
  refine wp_seq_k (fun K1 hK1 => ?_)
  refine wl_region ?_
  refine st_val (.bool false) (by kernel_rfl) (by kernel_rfl) ?_
  refine wl_nil ?_
  refine hK1 _ _ ?_
  try clear hK1 K1
  refine wp_seq_k (fun K2 hK2 => ?_)
  refine wp_seq_k (fun K3 hK3 => ?_)
  refine wl_region ?_
  refine st_val (.slice A l.length c) (by kernel_rfl) (by kernel_rfl) ?_
  refine st_val (.int .i64 ((l.length : Nat) : Int)) (by kernel_rfl) (by kernel_rfl) ?_
  rcases Decidable.em ((((l.length : Nat) : Int) : Int) > 500) with c18 | c18
  ·
    refine st_val (.bool true) (by kernel_rfl) (bool_of (dec_t c18) (by kernel_rfl)) ?_
    refine st_val (.bool true) (by kernel_rfl) (by kernel_rfl) ?_
    refine st_skip (by kernel_rfl) ?_
    refine st_skip (by kernel_rfl) ?_
    refine st_skip (by kernel_rfl) ?_
    refine st_val (.bool true) (by kernel_rfl) (by kernel_rfl) ?_
    refine wl_nil ?_
    refine hK3 _ _ ?_
    try clear hK3 K3
    refine wp_cond_true (by kernel_rfl) ?_
    refine wp_seq_k (fun K4 hK4 => ?_)
    refine wl_region ?_
    refine st_val (.bool true) (by kernel_rfl) (by kernel_rfl) ?_
    refine wl_nil ?_
    refine hK4 _ _ ?_
    try clear hK4 K4
    refine wp_ret ?_
    refine th_ret ?_
    exact done1 4 (.bool true) (by kernel_rfl) (by kernel_rfl) (by kernel_rfl) ⟨rfl, M0.toBelow⟩
  ·
    refine st_val (.bool false) (by kernel_rfl) (bool_of (dec_f c18) (by kernel_rfl)) ?_
    refine st_val (.bool false) (by kernel_rfl) (by kernel_rfl) ?_
    refine st_val (.slice Af lf.length cf) (by kernel_rfl) (by kernel_rfl) ?_
    refine st_val (.int .i64 ((lf.length : Nat) : Int)) (by kernel_rfl) (by kernel_rfl) ?_
    rcases Decidable.em ((((lf.length : Nat) : Int) : Int) > 50) with c22 | c22
    ·
      refine st_val (.bool true) (by kernel_rfl) (bool_of (dec_t c22) (by kernel_rfl)) ?_
      refine st_val (.bool true) (by kernel_rfl) (by kernel_rfl) ?_
      refine wl_nil ?_
      refine hK3 _ _ ?_
      try clear hK3 K3
      refine wp_cond_true (by kernel_rfl) ?_
      refine wp_seq_k (fun K5 hK5 => ?_)
      refine wl_region ?_
      refine st_val (.bool true) (by kernel_rfl) (by kernel_rfl) ?_
      refine wl_nil ?_
      refine hK5 _ _ ?_
      try clear hK5 K5
      refine wp_ret ?_
      refine th_ret ?_
      exact done1 4 (.bool true) (by kernel_rfl) (by kernel_rfl) (by kernel_rfl) ⟨rfl, M0.toBelow⟩
    ·
      refine st_val (.bool false) (by kernel_rfl) (bool_of (dec_f c22) (by kernel_rfl)) ?_
      refine st_val (.bool false) (by kernel_rfl) (by kernel_rfl) ?_
      refine wl_nil ?_
      refine hK3 _ _ ?_
      try clear hK3 K3
      refine wp_cond_false (by kernel_rfl) ?_
      refine wp_skip ?_
      refine hK2 _ _ ?_
      try clear hK2 K2
      refine wp_seq_k (fun K6 hK6 => ?_)
      refine wl_region ?_
      refine st_val (.slice A l.length c) (by kernel_rfl) (by kernel_rfl) ?_
      rcases Classical.em (l = [] ∨ l.getD (l.length - 1) 0 = 0) with hpb | hpb
      ·
        refine st_callB M0 (.tuple #[.pointer none, .int .i64 3]) (by kernel_rfl) (args := #[.slice A l.length c]) (run_value_call 16 #[(Operand.tmp 25)] _ rfl Try.func16 (by kernel_rfl) (by kernel_rfl) _ (by kernel_rfl)) (newReaderBadM w (.slice A l.length c) l (hr.keep M0.keep (fun _ _ h => h)) (by omega) hpb) ?_
        intro W7 M8
        refine st_val (.tuple #[.pointer none, .int .i64 3]) (by kernel_rfl) (by kernel_rfl) ?_
        refine st_val (.pointer none) (by kernel_rfl) (by kernel_rfl) ?_
        refine st_val (.int .i64 3) (by kernel_rfl) (by kernel_rfl) ?_
        refine st_val (.pointer none) (by kernel_rfl) (by kernel_rfl) ?_
        refine st_val (.int .i64 3) (by kernel_rfl) (by kernel_rfl) ?_
        refine wl_nil ?_
        refine hK6 _ _ ?_
        try clear hK6 K6
        refine wp_frame (a' := ⟨#[.slice A l.length c, .slice Af lf.length cf, undef, undef, .bool false, .pointer none, .int .i64 3, undef, undef, undef, undef, undef, undef, undef, undef, undef, .slice A l.length c, .int .i64 ((l.length : Nat) : Int), .bool false, .bool false, .slice Af lf.length cf, .int .i64 ((lf.length : Nat) : Int), .bool false, .bool false, .tuple #[.pointer none, .int .i64 3], .slice A l.length c, .tuple #[.pointer none, .int .i64 3], .pointer none, .int .i64 3, undef, undef, undef, undef, undef, undef, undef, undef, undef, undef, undef, undef, undef, undef, undef, undef, undef, undef, undef, undef, undef, undef, undef, undef, undef, undef, undef, undef, undef, undef, undef, undef, undef, undef, undef, undef, undef, undef, undef, undef, undef, undef, undef, undef, undef, undef, undef, undef, undef, undef, undef, undef, undef, undef, undef, undef, undef, undef, undef, undef, undef, undef, undef, undef, undef, undef, undef, undef, undef, undef, undef, undef, undef], []⟩) (by kernel_rfl) ?_
        refine wp_seq_k (fun K9 hK9 => ?_)
        refine wl_region ?_
        refine st_val (.slice A l.length c) (by kernel_rfl) (by kernel_rfl) ?_
        refine st_callB M8 (.tuple #[.pointer none, .int .i64 3]) (by kernel_rfl) (args := #[.slice A l.length c]) (run_value_call 17 #[(Operand.tmp 30)] _ rfl Try.func17 (by kernel_rfl) (by kernel_rfl) _ (by kernel_rfl)) (openBadM W7 (.slice A l.length c) l (hr.keep M8.keep (fun _ _ h => h)) (by omega) hpb) ?_
        intro W10 M11
        refine st_val (.tuple #[.pointer none, .int .i64 3]) (by kernel_rfl) (by kernel_rfl) ?_
        refine st_val (.pointer none) (by kernel_rfl) (by kernel_rfl) ?_
        refine st_val (.int .i64 3) (by kernel_rfl) (by kernel_rfl) ?_
        refine st_val (.pointer none) (by kernel_rfl) (by kernel_rfl) ?_
        refine st_val (.int .i64 3) (by kernel_rfl) (by kernel_rfl) ?_
        refine wl_nil ?_
        refine hK9 _ _ ?_
        try clear hK9 K9
        refine wp_seq_k (fun K12 hK12 => ?_)
        refine wp_seq_k (fun K13 hK13 => ?_)
        refine wl_region ?_
        refine st_val (.int .i64 3) (by kernel_rfl) (by kernel_rfl) ?_
        refine st_val (.int .i64 3) (by kernel_rfl) (by kernel_rfl) ?_
        refine st_val (.bool false) (by kernel_rfl) (by kernel_rfl) ?_
        refine st_val (.bool false) (by kernel_rfl) (by kernel_rfl) ?_
        refine st_val (.int .i64 3) (by kernel_rfl) (by kernel_rfl) ?_
        refine st_val (.bool true) (by kernel_rfl) (by kernel_rfl) ?_
        refine st_val (.bool true) (by kernel_rfl) (by kernel_rfl) ?_
        refine wl_nil ?_
        refine hK13 _ _ ?_
        try clear hK13 K13
        refine wp_frame (a' := ⟨#[.slice A l.length c, .slice Af lf.length cf, undef, undef, .bool false, .pointer none, .int .i64 3, .pointer none, .int .i64 3, undef, undef, undef, undef, undef, undef, undef, .slice A l.length c, .int .i64 ((l.length : Nat) : Int), .bool false, .bool false, .slice Af lf.length cf, .int .i64 ((lf.length : Nat) : Int), .bool false, .bool false, .tuple #[.pointer none, .int .i64 3], .slice A l.length c, .tuple #[.pointer none, .int .i64 3], .pointer none, .int .i64 3, .tuple #[.pointer none, .int .i64 3], .slice A l.length c, .tuple #[.pointer none, .int .i64 3], .pointer none, .int .i64 3, .int .i64 3, .int .i64 3, .bool false, .bool false, .int .i64 3, .bool true, .bool true, undef, undef, undef, undef, undef, undef, undef, undef, undef, undef, undef, undef, undef, undef, undef, undef, undef, undef, undef, undef, undef, undef, undef, undef, undef, undef, undef, undef, undef, undef, undef, undef, undef, undef, undef, undef, undef, undef, undef, undef, undef, undef, undef, undef, undef, undef, undef, undef, undef, undef, undef, undef, undef, undef, undef, undef, undef, undef, undef, undef, undef], []⟩) (by kernel_rfl) ?_
        refine wp_cond_true (by kernel_rfl) ?_
        refine wp_seq_k (fun K14 hK14 => ?_)
        refine wl_region ?_
        refine st_callB M11 (.bool true) (by kernel_rfl) (args := #[]) (run_value_call 12 #[] _ rfl Try.func12 (by kernel_rfl) (by kernel_rfl) _ (by kernel_rfl)) (awake_walk W10) ?_
        intro W15 M16
        refine st_val (.bool true) (by kernel_rfl) (by kernel_rfl) ?_
        refine st_val (.int .i64 3) (by kernel_rfl) (by kernel_rfl) ?_
        refine st_val (.int .i64 3) (by kernel_rfl) (by kernel_rfl) ?_
        refine st_val (.bool true) (by kernel_rfl) (by kernel_rfl) ?_
        refine st_val (.bool true) (by kernel_rfl) (by kernel_rfl) ?_
        refine st_val (.bool true) (by kernel_rfl) (by kernel_rfl) ?_
        refine wl_nil ?_
        refine hK14 _ _ ?_
        try clear hK14 K14
        refine wp_ret ?_
        refine th_ret ?_
        exact done1 4 (.bool true) (by kernel_rfl) (by kernel_rfl) (by kernel_rfl) ⟨rfl, M16.toBelow⟩
      ·
        have hne := fun h => hpb (.inl h)
        have hla := fun h => hpb (.inr h)
        refine st_callR (A := []) (B := []) M0 (by kernel_rfl) (run_value_call 16 #[(Operand.tmp 25)] _ rfl Try.func16 (by kernel_rfl) (by kernel_rfl) _ (by kernel_rfl)) (newReaderM w (.slice A l.length c) l (hr.keep M0.keep (fun _ _ h => h)) hb (by omega) hne hla) ?_
        intro v17 T18 W19 O20 M21
        have M21 : Mem NoS w W19 ((T18 ++ [])) := M21
        obtain ⟨g22, v23, TB24, rfl, rfl, F25⟩ := O20
        have M26 : Mem NoS w W19 (((rT g22 v23 (endOf l) 0 TB24) ++ [])) := M21
        refine st_val (.tuple #[.pointer (some ⟨g22, 0, none⟩), .int .i64 0]) (by kernel_rfl) (by kernel_rfl) ?_
        refine st_val (.pointer (some ⟨g22, 0, none⟩)) (by kernel_rfl) (by kernel_rfl) ?_
        refine st_val (.int .i64 0) (by kernel_rfl) (by kernel_rfl) ?_
        refine st_val (.pointer (some ⟨g22, 0, none⟩)) (by kernel_rfl) (by kernel_rfl) ?_
        refine st_val (.int .i64 0) (by kernel_rfl) (by kernel_rfl) ?_
        refine wl_nil ?_
        refine hK6 _ _ ?_
        try clear hK6 K6
        refine wp_frame (a' := ⟨#[.slice A l.length c, .slice Af lf.length cf, undef, undef, .bool false, .pointer (some ⟨g22, 0, none⟩), .int .i64 0, undef, undef, undef, undef, undef, undef, undef, undef, undef, .slice A l.length c, .int .i64 ((l.length : Nat) : Int), .bool false, .bool false, .slice Af lf.length cf, .int .i64 ((lf.length : Nat) : Int), .bool false, .bool false, .tuple #[.pointer (some ⟨g22, 0, none⟩), .int .i64 0], .slice A l.length c, .tuple #[.pointer (some ⟨g22, 0, none⟩), .int .i64 0], .pointer (some ⟨g22, 0, none⟩), .int .i64 0, undef, undef, undef, undef, undef, undef, undef, undef, undef, undef, undef, undef, undef, undef, undef, undef, undef, undef, undef, undef, undef, undef, undef, undef, undef, undef, undef, undef, undef, undef, undef, undef, undef, undef, undef, undef, undef, undef, undef, undef, undef, undef, undef, undef, undef, undef, undef, undef, undef, undef, undef, undef, undef, undef, undef, undef, undef, undef, undef, undef, undef, undef, undef, undef, undef, undef, undef, undef, undef, undef, undef, undef, undef], []⟩) (by kernel_rfl) ?_
        refine wp_seq_k (fun K27 hK27 => ?_)
        refine wl_region ?_
        refine st_val (.slice A l.length c) (by kernel_rfl) (by kernel_rfl) ?_
        refine st_callR (A := []) (B := ((rT g22 v23 (endOf l) 0 TB24) ++ [])) M26 (by kernel_rfl) (run_value_call 17 #[(Operand.tmp 30)] _ rfl Try.func17 (by kernel_rfl) (by kernel_rfl) _ (by kernel_rfl)) (openM W19 (.slice A l.length c) l (hr.keep M26.keep (fun _ _ h => h)) hb (by omega) hne hla) ?_
        intro v28 T29 W30 O31 M32
        have M32 : Mem NoS w W30 ((T29 ++ ((rT g22 v23 (endOf l) 0 TB24) ++ []))) := M32
        obtain ⟨g33, rfl, O34⟩ := O31
        refine st_val (.tuple #[.pointer (some ⟨g33, 0, none⟩), .int .i64 0]) (by kernel_rfl) (by kernel_rfl) ?_
        refine st_val (.pointer (some ⟨g33, 0, none⟩)) (by kernel_rfl) (by kernel_rfl) ?_
        refine st_val (.int .i64 0) (by kernel_rfl) (by kernel_rfl) ?_
        refine st_val (.pointer (some ⟨g33, 0, none⟩)) (by kernel_rfl) (by kernel_rfl) ?_
        refine st_val (.int .i64 0) (by kernel_rfl) (by kernel_rfl) ?_
        refine wl_nil ?_
        refine hK27 _ _ ?_
        try clear hK27 K27
        refine wp_seq_k (fun K35 hK35 => ?_)
        refine wp_seq_k (fun K36 hK36 => ?_)
        refine wl_region ?_
        refine st_val (.int .i64 0) (by kernel_rfl) (by kernel_rfl) ?_
        refine st_val (.int .i64 0) (by kernel_rfl) (by kernel_rfl) ?_
        refine st_val (.bool false) (by kernel_rfl) (by kernel_rfl) ?_
        refine st_val (.bool false) (by kernel_rfl) (by kernel_rfl) ?_
        refine st_val (.int .i64 0) (by kernel_rfl) (by kernel_rfl) ?_
        refine st_val (.bool false) (by kernel_rfl) (by kernel_rfl) ?_
        refine st_val (.bool false) (by kernel_rfl) (by kernel_rfl) ?_
        refine wl_nil ?_
        refine hK36 _ _ ?_
        try clear hK36 K36
        refine wp_frame (a' := ⟨#[.slice A l.length c, .slice Af lf.length cf, undef, undef, .bool false, .pointer (some ⟨g22, 0, none⟩), .int .i64 0, .pointer (some ⟨g33, 0, none⟩), .int .i64 0, undef, undef, undef, undef, undef, undef, undef, .slice A l.length c, .int .i64 ((l.length : Nat) : Int), .bool false, .bool false, .slice Af lf.length cf, .int .i64 ((lf.length : Nat) : Int), .bool false, .bool false, .tuple #[.pointer (some ⟨g22, 0, none⟩), .int .i64 0], .slice A l.length c, .tuple #[.pointer (some ⟨g22, 0, none⟩), .int .i64 0], .pointer (some ⟨g22, 0, none⟩), .int .i64 0, .tuple #[.pointer (some ⟨g33, 0, none⟩), .int .i64 0], .slice A l.length c, .tuple #[.pointer (some ⟨g33, 0, none⟩), .int .i64 0], .pointer (some ⟨g33, 0, none⟩), .int .i64 0, .int .i64 0, .int .i64 0, .bool false, .bool false, .int .i64 0, .bool false, .bool false, undef, undef, undef, undef, undef, undef, undef, undef, undef, undef, undef, undef, undef, undef, undef, undef, undef, undef, undef, undef, undef, undef, undef, undef, undef, undef, undef, undef, undef, undef, undef, undef, undef, undef, undef, undef, undef, undef, undef, undef, undef, undef, undef, undef, undef, undef, undef, undef, undef, undef, undef, undef, undef, undef, undef, undef, undef, undef, undef, undef, undef], []⟩) (by kernel_rfl) ?_
        refine wp_cond_false (by kernel_rfl) ?_
        refine wp_skip ?_
        refine hK35 _ _ ?_
        try clear hK35 K35
        refine wp_seq_k (fun K37 hK37 => ?_)
        refine wp_seq_k (fun K38 hK38 => ?_)
        refine wl_region ?_
        refine st_val (.int .i64 0) (by kernel_rfl) (by kernel_rfl) ?_
        refine wl_nil ?_
        refine hK38 _ _ ?_
        try clear hK38 K38
        refine wp_block ?_
        refine wp_loop_ghost (fun gn a' w' => ∃ (i : Nat) (a : Nat) (T1 : List (Nat × Obj)) (u39 : Nat → Value), ((i ≤ lf.length ∧ a ≤ endOf l ∧ OwnQ g33 ((unpack l).take (endOf l)) a T1) ∧ Mem NoS w w' ((T1 ++ ((rT g22 v23 (endOf l) a TB24) ++ [])))) ∧ gn = lf.length - i ∧ a' = ⟨#[.slice A l.length c, .slice Af lf.length cf, undef, undef, (u39 4), .pointer (some ⟨g22, 0, none⟩), .int .i64 0, .pointer (some ⟨g33, 0, none⟩), .int .i64 0, .int .i64 ((i : Nat) : Int), (u39 10), (u39 11), (u39 12), (u39 13), undef, undef, .slice A l.length c, .int .i64 ((l.length : Nat) : Int), .bool false, .bool false, .slice Af lf.length cf, .int .i64 ((lf.length : Nat) : Int), .bool false, .bool false, .tuple #[.pointer (some ⟨g22, 0, none⟩), .int .i64 0], .slice A l.length c, .tuple #[.pointer (some ⟨g22, 0, none⟩), .int .i64 0], .pointer (some ⟨g22, 0, none⟩), .int .i64 0, .tuple #[.pointer (some ⟨g33, 0, none⟩), .int .i64 0], .slice A l.length c, .tuple #[.pointer (some ⟨g33, 0, none⟩), .int .i64 0], .pointer (some ⟨g33, 0, none⟩), .int .i64 0, .int .i64 0, .int .i64 0, .bool false, .bool false, .int .i64 0, .bool false, .bool false, undef, undef, undef, undef, undef, undef, (u39 47), (u39 48), (u39 49), (u39 50), (u39 51), (u39 52), (u39 53), (u39 54), (u39 55), (u39 56), (u39 57), (u39 58), (u39 59), (u39 60), (u39 61), (u39 62), (u39 63), (u39 64), (u39 65), (u39 66), (u39 67), (u39 68), (u39 69), (u39 70), (u39 71), (u39 72), (u39 73), (u39 74), (u39 75), (u39 76), (u39 77), (u39 78), (u39 79), (u39 80), (u39 81), (u39 82), (u39 83), (u39 84), (u39 85), (u39 86), (u39 87), undef, undef, undef, undef, undef, undef, undef, undef, undef, undef, undef, undef, undef, undef], []⟩) _ ⟨0, 0, T29, (fun zz => Array.getD #[.slice A l.length c, .slice Af lf.length cf, undef, undef, .bool false, .pointer (some ⟨g22, 0, none⟩), .int .i64 0, .pointer (some ⟨g33, 0, none⟩), .int .i64 0, .int .i64 0, undef, undef, undef, undef, undef, undef, .slice A l.length c, .int .i64 ((l.length : Nat) : Int), .bool false, .bool false, .slice Af lf.length cf, .int .i64 ((lf.length : Nat) : Int), .bool false, .bool false, .tuple #[.pointer (some ⟨g22, 0, none⟩), .int .i64 0], .slice A l.length c, .tuple #[.pointer (some ⟨g22, 0, none⟩), .int .i64 0], .pointer (some ⟨g22, 0, none⟩), .int .i64 0, .tuple #[.pointer (some ⟨g33, 0, none⟩), .int .i64 0], .slice A l.length c, .tuple #[.pointer (some ⟨g33, 0, none⟩), .int .i64 0], .pointer (some ⟨g33, 0, none⟩), .int .i64 0, .int .i64 0, .int .i64 0, .bool false, .bool false, .int .i64 0, .bool false, .bool false, undef, undef, undef, undef, undef, undef, undef, undef, undef, undef, undef, undef, undef, undef, undef, undef, undef, undef, undef, undef, undef, undef, undef, undef, undef, undef, undef, undef, undef, undef, undef, undef, undef, undef, undef, undef, undef, undef, undef, undef, undef, undef, undef, undef, undef, undef, undef, undef, undef, undef, undef, undef, undef, undef, undef, undef, undef, undef, undef, undef, undef] zz undef), ⟨⟨by omega, by omega, O34⟩, M32⟩, rfl, (by kernel_rfl)⟩ ?_
        rintro gn _ W40 ⟨i, a, T1, u39, ⟨⟨ri, ra, O1⟩, M41⟩, rfl, rfl⟩
        refine wp_seq_k (fun K42 hK42 => ?_)
        refine wp_seq_k (fun K43 hK43 => ?_)
        refine wl_region ?_
        refine st_val (.int .i64 ((i : Nat) : Int)) (by kernel_rfl) (by kernel_rfl) ?_
        refine st_val (.slice Af lf.length cf) (by kernel_rfl) (by kernel_rfl) ?_
        refine st_val (.int .i64 ((lf.length : Nat) : Int)) (by kernel_rfl) (by kernel_rfl) ?_
        rcases Decidable.em ((((i : Nat) : Int) : Int) < ((lf.length : Nat) : Int)) with c50 | c50
        ·
          refine st_val (.bool true) (by kernel_rfl) (bool_of (dec_t c50) (by kernel_rfl)) ?_
          refine wl_nil ?_
          refine hK43 _ _ ?_
          try clear hK43 K43
          refine wp_cond_true (by kernel_rfl) ?_
          refine wp_skip ?_
          refine hK42 _ _ ?_
          try clear hK42 K42
          refine wp_seq_k (fun K44 hK44 => ?_)
          refine wp_block ?_
          refine wp_seq_k (fun K45 hK45 => ?_)
          refine wl_region ?_
          refine st_val (.pointer (some ⟨g22, 0, none⟩)) (by kernel_rfl) (by kernel_rfl) ?_
          refine st_val (.slice Af lf.length cf) (by kernel_rfl) (by kernel_rfl) ?_
          refine st_val (.int .i64 ((i : Nat) : Int)) (by kernel_rfl) (by kernel_rfl) ?_
          obtain ⟨b46, o47, eA48⟩ := RdK.addr (hrf.keep M41.keep (fun _ _ h => h)) (j := i * 1) (by rw [i64s_length]; omega)
          refine st_val (.pointer (some ⟨b46, o47 + i * 1, none⟩)) (by kernel_rfl) (run_indexSliceA 22 (.tmp 55) (.tmp 56) rfl Af ⟨b46, o47, none⟩ eA48 lf.length cf .i64 i (by kernel_rfl) (by kernel_rfl) Try.underlying22 1 (by kernel_rfl) (by omega) ⟨b46, o47 + i * 1, none⟩ (addr_atK _ _ _ _)) ?_
          refine st_val (.int .i64 (lf.getD i 0)) (by kernel_rfl) (run_load_cell 3 (.tmp 57) rfl ⟨b46, o47 + i * 1, none⟩ (by kernel_rfl) _ ((hrf.keep M41.keep (fun _ _ h => h)).cellF eA48 (f := 0) (i64s_get lf i (by omega))) (by kernel_rfl)) ?_
          have M49 : Mem NoS w W40 (((rT g22 v23 (endOf l) a TB24) ++ (T1 ++ []))) := M41.swap (A := []) (T := T1) (U := (rT g22 v23 (endOf l) a TB24)) (B := [])
          refine st_callU (A := []) (T := (rT g22 v23 (endOf l) a TB24)) (B := (T1 ++ [])) M49 (by kernel_rfl) (run_value_call 18 #[(Operand.tmp 54), (Operand.tmp 58)] _ rfl Try.func18 (by kernel_rfl) (by kernel_rfl) _ (by kernel_rfl)) (btake_any W40 F25 (by omega) (Mem.part (A := []) (T := (rT g22 v23 (endOf l) a TB24)) (B := (T1 ++ [])) M49) (lf.getD i 0)) ?_
          intro v50 T51 W52 O53 M54
          obtain ⟨rfl, rfl⟩ := O53
          have M55 : Mem NoS w W52 (((rT g22 v23 (endOf l) ((tkB ((unpack l).take (endOf l)) a (lf.getD i 0)).2.2) TB24) ++ (T1 ++ []))) := M54
          refine st_val (.tuple #[.agg (iv (tkB ((unpack l).take (endOf l)) a (lf.getD i 0)).1), .int .i64 ((tkB ((unpack l).take (endOf l)) a (lf.getD i 0)).2.1)]) (by kernel_rfl) (by kernel_rfl) ?_
          refine st_val (.agg (iv (tkB ((unpack l).take (endOf l)) a (lf.getD i 0)).1)) (by kernel_rfl) (by kernel_rfl) ?_
          refine st_val (.int .i64 ((tkB ((unpack l).take (endOf l)) a (lf.getD i 0)).2.1)) (by kernel_rfl) (by kernel_rfl) ?_
          refine st_alloc M55 (.cells (iv zeros) 23 (0, 0)) (by kernel_rfl) (by kernel_rfl) ?_
          intro g56 W57 M58
          refine st_storeRow M58 0 rfl 23 (.tmp 10) (.tmp 60) (by rfl) (iv ((tkB ((unpack l).take (endOf l)) a (lf.getD i 0)).1)) (by kernel_rfl) (by kernel_rfl) (info64 _ (tkB_len _ _ _)) (iv_same (tkB_len _ _ _) zeros_length) (iv_one _) (by kernel_rfl) ((g56, .cells (iv ((tkB ((unpack l).take (endOf l)) a (lf.getD i 0)).1)) 23 (0, 0)) :: ((rT g22 v23 (endOf l) ((tkB ((unpack l).take (endOf l)) a (lf.getD i 0)).2.2) TB24) ++ (T1 ++ []))) rfl ?_
          intro W59 M60
          refine st_val (.int .i64 ((tkB ((unpack l).take (endOf l)) a (lf.getD i 0)).2.1)) (by kernel_rfl) (by kernel_rfl) ?_
          refine wl_nil ?_
          refine hK45 _ _ ?_
          try clear hK45 K45
          refine wp_frame (a' := ⟨#[.slice A l.length c, .slice Af lf.length cf, undef, undef, (u39 4), .pointer (some ⟨g22, 0, none⟩), .int .i64 0, .pointer (some ⟨g33, 0, none⟩), .int .i64 0, .int .i64 ((i : Nat) : Int), .pointer (some ⟨g56, 0, none⟩), .int .i64 ((tkB ((unpack l).take (endOf l)) a (lf.getD i 0)).2.1), (u39 12), (u39 13), undef, undef, .slice A l.length c, .int .i64 ((l.length : Nat) : Int), .bool false, .bool false, .slice Af lf.length cf, .int .i64 ((lf.length : Nat) : Int), .bool false, .bool false, .tuple #[.pointer (some ⟨g22, 0, none⟩), .int .i64 0], .slice A l.length c, .tuple #[.pointer (some ⟨g22, 0, none⟩), .int .i64 0], .pointer (some ⟨g22, 0, none⟩), .int .i64 0, .tuple #[.pointer (some ⟨g33, 0, none⟩), .int .i64 0], .slice A l.length c, .tuple #[.pointer (some ⟨g33, 0, none⟩), .int .i64 0], .pointer (some ⟨g33, 0, none⟩), .int .i64 0, .int .i64 0, .int .i64 0, .bool false, .bool false, .int .i64 0, .bool false, .bool false, undef, undef, undef, undef, undef, undef, .int .i64 ((i : Nat) : Int), .slice Af lf.length cf, .int .i64 ((lf.length : Nat) : Int), .bool true, (u39 51), (u39 52), .tuple #[.agg (iv (tkB ((unpack l).take (endOf l)) a (lf.getD i 0)).1), .int .i64 ((tkB ((unpack l).take (endOf l)) a (lf.getD i 0)).2.1)], .pointer (some ⟨g22, 0, none⟩), .slice Af lf.length cf, .int .i64 ((i : Nat) : Int), .pointer (some ⟨b46, o47 + i * 1, none⟩), .int .i64 (lf.getD i 0), .tuple #[.agg (iv (tkB ((unpack l).take (endOf l)) a (lf.getD i 0)).1), .int .i64 ((tkB ((unpack l).take (endOf l)) a (lf.getD i 0)).2.1)], .agg (iv (tkB ((unpack l).take (endOf l)) a (lf.getD i 0)).1), .int .i64 ((tkB ((unpack l).take (endOf l)) a (lf.getD i 0)).2.1), (u39 62), (u39 63), (u39 64), (u39 65), (u39 66), (u39 67), (u39 68), (u39 69), (u39 70), (u39 71), (u39 72), (u39 73), (u39 74), (u39 75), (u39 76), (u39 77), (u39 78), (u39 79), (u39 80), (u39 81), (u39 82), (u39 83), (u39 84), (u39 85), (u39 86), (u39 87), undef, undef, undef, undef, undef, undef, undef, undef, undef, undef, undef, undef, undef, undef], []⟩) (by kernel_rfl) ?_
          refine wp_seq_k (fun K61 hK61 => ?_)
          refine wl_region ?_
          refine st_val (.pointer (some ⟨g33, 0, none⟩)) (by kernel_rfl) (by kernel_rfl) ?_
          refine st_val (.slice Af lf.length cf) (by kernel_rfl) (by kernel_rfl) ?_
          refine st_val (.int .i64 ((i : Nat) : Int)) (by kernel_rfl) (by kernel_rfl) ?_
          obtain ⟨b62, o63, eA64⟩ := RdK.addr (hrf.keep M60.keep (fun _ _ h => h)) (j := i * 1) (by rw [i64s_length]; omega)
          refine st_val (.pointer (some ⟨b62, o63 + i * 1, none⟩)) (by kernel_rfl) (run_indexSliceA 22 (.tmp 64) (.tmp 65) rfl Af ⟨b62, o63, none⟩ eA64 lf.length cf .i64 i (by kernel_rfl) (by kernel_rfl) Try.underlying22 1 (by kernel_rfl) (by omega) ⟨b62, o63 + i * 1, none⟩ (addr_atK _ _ _ _)) ?_
          refine st_val (.int .i64 (lf.getD i 0)) (by kernel_rfl) (run_load_cell 3 (.tmp 66) rfl ⟨b62, o63 + i * 1, none⟩ (by kernel_rfl) _ ((hrf.keep M60.keep (fun _ _ h => h)).cellF eA64 (f := 0) (i64s_get lf i (by omega))) (by kernel_rfl)) ?_
          have M65 : Mem NoS w W59 ((g56, .cells (iv ((tkB ((unpack l).take (endOf l)) a (lf.getD i 0)).1)) 23 (0, 0)) :: (T1 ++ ((rT g22 v23 (endOf l) ((tkB ((unpack l).take (endOf l)) a (lf.getD i 0)).2.2) TB24) ++ []))) := M60.swap (A := [(g56, .cells (iv ((tkB ((unpack l).take (endOf l)) a (lf.getD i 0)).1)) 23 (0, 0))]) (T := (rT g22 v23 (endOf l) ((tkB ((unpack l).take (endOf l)) a (lf.getD i 0)).2.2) TB24)) (U := T1) (B := [])
          refine st_callU (A := [(g56, .cells (iv ((tkB ((unpack l).take (endOf l)) a (lf.getD i 0)).1)) 23 (0, 0))]) (T := T1) (B := ((rT g22 v23 (endOf l) ((tkB ((unpack l).take (endOf l)) a (lf.getD i 0)).2.2) TB24) ++ [])) M65 (by kernel_rfl) (run_value_call 19 #[(Operand.tmp 63), (Operand.tmp 67)] _ rfl Try.func19 (by kernel_rfl) (by kernel_rfl) _ (by kernel_rfl)) (qbtk_any W59 O1 (Mem.part (A := [(g56, .cells (iv ((tkB ((unpack l).take (endOf l)) a (lf.getD i 0)).1)) 23 (0, 0))]) (T := T1) (B := ((rT g22 v23 (endOf l) ((tkB ((unpack l).take (endOf l)) a (lf.getD i 0)).2.2) TB24) ++ [])) M65) (lf.getD i 0)) ?_
          intro v66 T67 W68 O69 M70
          obtain ⟨rfl, O71⟩ := O69
          have M72 : Mem NoS w W68 ((g56, .cells (iv ((tkB ((unpack l).take (endOf l)) a (lf.getD i 0)).1)) 23 (0, 0)) :: (T67 ++ ((rT g22 v23 (endOf l) ((tkB ((unpack l).take (endOf l)) a (lf.getD i 0)).2.2) TB24) ++ []))) := M70
          refine st_val (.tuple #[.agg (iv (tkB ((unpack l).take (endOf l)) a (lf.getD i 0)).1), .int .i64 ((tkB ((unpack l).take (endOf l)) a (lf.getD i 0)).2.1)]) (by kernel_rfl) (by kernel_rfl) ?_
          refine st_val (.agg (iv (tkB ((unpack l).take (endOf l)) a (lf.getD i 0)).1)) (by kernel_rfl) (by kernel_rfl) ?_
          refine st_val (.int .i64 ((tkB ((unpack l).take (endOf l)) a (lf.getD i 0)).2.1)) (by kernel_rfl) (by kernel_rfl) ?_
          refine st_alloc M72 (.cells (iv zeros) 23 (0, 0)) (by kernel_rfl) (by kernel_rfl) ?_
          intro g73 W74 M75
          refine st_storeRow M75 0 rfl 23 (.tmp 12) (.tmp 69) (by rfl) (iv ((tkB ((unpack l).take (endOf l)) a (lf.getD i 0)).1)) (by kernel_rfl) (by kernel_rfl) (info64 _ (tkB_len _ _ _)) (iv_same (tkB_len _ _ _) zeros_length) (iv_one _) (by kernel_rfl) ((g73, .cells (iv ((tkB ((unpack l).take (endOf l)) a (lf.getD i 0)).1)) 23 (0, 0)) :: (g56, .cells (iv ((tkB ((unpack l).take (endOf l)) a (lf.getD i 0)).1)) 23 (0, 0)) :: (T67 ++ ((rT g22 v23 (endOf l) ((tkB ((unpack l).take (endOf l)) a (lf.getD i 0)).2.2) TB24) ++ []))) rfl ?_
          intro W76 M77
          refine st_val (.int .i64 ((tkB ((unpack l).take (endOf l)) a (lf.getD i 0)).2.1)) (by kernel_rfl) (by kernel_rfl) ?_
          refine wl_nil ?_
          refine hK61 _ _ ?_
          try clear hK61 K61
          refine wp_seq_k (fun K78 hK78 => ?_)
          refine wp_seq_k (fun K79 hK79 => ?_)
          refine wl_region ?_
          refine st_val (.agg (iv ((tkB ((unpack l).take (endOf l)) a (lf.getD i 0)).1))) (by kernel_rfl) (run_load_row 23 (.tmp 10) rfl g56 (by kernel_rfl) 23 (iv ((tkB ((unpack l).take (endOf l)) a (lf.getD i 0)).1)) (0, 0) _ (M77.get 1 rfl) Try.underlying23 rfl (info64 _ (tkB_len _ _ _))) ?_
          refine st_val (.agg (iv ((tkB ((unpack l).take (endOf l)) a (lf.getD i 0)).1))) (by kernel_rfl) (run_load_row 23 (.tmp 12) rfl g73 (by kernel_rfl) 23 (iv ((tkB ((unpack l).take (endOf l)) a (lf.getD i 0)).1)) (0, 0) _ (M77.get 0 rfl) Try.underlying23 rfl (info64 _ (tkB_len _ _ _))) ?_
          refine st_val (.bool false) (by kernel_rfl) (run_value_bin .neq 23 _ (.tmp 71) (.tmp 72) rfl (.agg (iv ((tkB ((unpack l).take (endOf l)) a (lf.getD i 0)).1))) (.agg (iv ((tkB ((unpack l).take (endOf l)) a (lf.getD i 0)).1))) _ (by kernel_rfl) (by kernel_rfl) (by kernel_rfl) (neq_same W76 ((tkB ((unpack l).take (endOf l)) a (lf.getD i 0)).1) (tkB_len _ _ _))) ?_
          refine st_val (.bool false) (by kernel_rfl) (by kernel_rfl) ?_
          refine st_val (.int .i64 ((tkB ((unpack l).take (endOf l)) a (lf.getD i 0)).2.1)) (by kernel_rfl) (by kernel_rfl) ?_
          refine st_val (.int .i64 ((tkB ((unpack l).take (endOf l)) a (lf.getD i 0)).2.1)) (by kernel_rfl) (by kernel_rfl) ?_
          refine st_val (.bool false) (by kernel_rfl) (bool_of (neq_f (show ((tkB ((unpack l).take (endOf l)) a (lf.getD i 0)).2.1 : Int) = (tkB ((unpack l).take (endOf l)) a (lf.getD i 0)).2.1 from rfl)) (by kernel_rfl)) ?_
          refine st_val (.bool false) (by kernel_rfl) (by kernel_rfl) ?_
          refine wl_nil ?_
          refine hK79 _ _ ?_
          try clear hK79 K79
          refine wp_frame (a' := ⟨#[.slice A l.length c, .slice Af lf.length cf, undef, undef, (u39 4), .pointer (some ⟨g22, 0, none⟩), .int .i64 0, .pointer (some ⟨g33, 0, none⟩), .int .i64 0, .int .i64 ((i : Nat) : Int), .pointer (some ⟨g56, 0, none⟩), .int .i64 ((tkB ((unpack l).take (endOf l)) a (lf.getD i 0)).2.1), .pointer (some ⟨g73, 0, none⟩), .int .i64 ((tkB ((unpack l).take (endOf l)) a (lf.getD i 0)).2.1), undef, undef, .slice A l.length c, .int .i64 ((l.length : Nat) : Int), .bool false, .bool false, .slice Af lf.length cf, .int .i64 ((lf.length : Nat) : Int), .bool false, .bool false, .tuple #[.pointer (some ⟨g22, 0, none⟩), .int .i64 0], .slice A l.length c, .tuple #[.pointer (some ⟨g22, 0, none⟩), .int .i64 0], .pointer (some ⟨g22, 0, none⟩), .int .i64 0, .tuple #[.pointer (some ⟨g33, 0, none⟩), .int .i64 0], .slice A l.length c, .tuple #[.pointer (some ⟨g33, 0, none⟩), .int .i64 0], .pointer (some ⟨g33, 0, none⟩), .int .i64 0, .int .i64 0, .int .i64 0, .bool false, .bool false, .int .i64 0, .bool false, .bool false, undef, undef, undef, undef, undef, undef, .int .i64 ((i : Nat) : Int), .slice Af lf.length cf, .int .i64 ((lf.length : Nat) : Int), .bool true, (u39 51), (u39 52), .tuple #[.agg (iv (tkB ((unpack l).take (endOf l)) a (lf.getD i 0)).1), .int .i64 ((tkB ((unpack l).take (endOf l)) a (lf.getD i 0)).2.1)], .pointer (some ⟨g22, 0, none⟩), .slice Af lf.length cf, .int .i64 ((i : Nat) : Int), .pointer (some ⟨b46, o47 + i * 1, none⟩), .int .i64 (lf.getD i 0), .tuple #[.agg (iv (tkB ((unpack l).take (endOf l)) a (lf.getD i 0)).1), .int .i64 ((tkB ((unpack l).take (endOf l)) a (lf.getD i 0)).2.1)], .agg (iv (tkB ((unpack l).take (endOf l)) a (lf.getD i 0)).1), .int .i64 ((tkB ((unpack l).take (endOf l)) a (lf.getD i 0)).2.1), .tuple #[.agg (iv (tkB ((unpack l).take (endOf l)) a (lf.getD i 0)).1), .int .i64 ((tkB ((unpack l).take (endOf l)) a (lf.getD i 0)).2.1)], .pointer (some ⟨g33, 0, none⟩), .slice Af lf.length cf, .int .i64 ((i : Nat) : Int), .pointer (some ⟨b62, o63 + i * 1, none⟩), .int .i64 (lf.getD i 0), .tuple #[.agg (iv (tkB ((unpack l).take (endOf l)) a (lf.getD i 0)).1), .int .i64 ((tkB ((unpack l).take (endOf l)) a (lf.getD i 0)).2.1)], .agg (iv (tkB ((unpack l).take (endOf l)) a (lf.getD i 0)).1), .int .i64 ((tkB ((unpack l).take (endOf l)) a (lf.getD i 0)).2.1), .agg (iv ((tkB ((unpack l).take (endOf l)) a (lf.getD i 0)).1)), .agg (iv ((tkB ((unpack l).take (endOf l)) a (lf.getD i 0)).1)), .bool false, .bool false, .int .i64 ((tkB ((unpack l).take (endOf l)) a (lf.getD i 0)).2.1), .int .i64 ((tkB ((unpack l).take (endOf l)) a (lf.getD i 0)).2.1), .bool false, .bool false, (u39 79), (u39 80), (u39 81), (u39 82), (u39 83), (u39 84), (u39 85), (u39 86), (u39 87), undef, undef, undef, undef, undef, undef, undef, undef, undef, undef, undef, undef, undef, undef], []⟩) (by kernel_rfl) ?_
          refine wp_cond_false (by kernel_rfl) ?_
          refine wp_skip ?_
          refine hK78 _ _ ?_
          try clear hK78 K78
          refine wp_seq_k (fun K80 hK80 => ?_)
          refine wp_seq_k (fun K81 hK81 => ?_)
          refine wl_region ?_
          refine st_val (.int .i64 ((tkB ((unpack l).take (endOf l)) a (lf.getD i 0)).2.1)) (by kernel_rfl) (by kernel_rfl) ?_
          rcases Decidable.em (((tkB ((unpack l).take (endOf l)) a (lf.getD i 0)).2.1 : Int) = 0) with c80 | c80
          ·
            refine st_val (.bool false) (by kernel_rfl) (bool_of (neq_f c80) (by kernel_rfl)) ?_
            refine wl_nil ?_
            refine hK81 _ _ ?_
            try clear hK81 K81
            refine wp_cond_false (by kernel_rfl) ?_
            refine wp_skip ?_
            refine hK80 _ _ ?_
            try clear hK80 K80
            refine wp_seq_k (fun K82 hK82 => ?_)
            have M83 : Mem NoS w W76 ((T67 ++ ((rT g22 v23 (endOf l) ((tkB ((unpack l).take (endOf l)) a (lf.getD i 0)).2.2) TB24) ++ []))) := M77.sub (((((List.Sublist.refl []).append_left (rT g22 v23 (endOf l) ((tkB ((unpack l).take (endOf l)) a (lf.getD i 0)).2.2) TB24)).append_left T67).cons _).cons _)
            have O90 := O71
            obtain ⟨v84, TB85, rfl, h86, h87, h88, h89⟩ := O71
            have M91 : Mem NoS w W76 ((g33, .cells #[v84, .int .i64 (((tkB ((unpack l).take (endOf l)) a (lf.getD i 0)).2.2 : Nat) : Int)] 49 (0, 0)) :: (TB85 ++ ((rT g22 v23 (endOf l) ((tkB ((unpack l).take (endOf l)) a (lf.getD i 0)).2.2) TB24) ++ []))) := M83
            refine wl_seq 7 (fun w' => Mem NoS w w' ((g33, .cells #[v84, .int .i64 (((tkB ((unpack l).take (endOf l)) a (lf.getD i 0)).2.2 : Nat) : Int)] 49 (0, 0)) :: (TB85 ++ ((rT g22 v23 (endOf l) ((tkB ((unpack l).take (endOf l)) a (lf.getD i 0)).2.2) TB24) ++ [])))) (by decide) (by kernel_rfl) (by kernel_rfl) M91.drew ?_
            refine seq_run (v := .pointer (some ⟨g22, 0, none⟩)) (by decide) (by kernel_rfl) (fun w' M' => (by kernel_rfl)) ?_
            refine seq_call (v := .int .i64 (((tkB ((unpack l).take (endOf l)) a (lf.getD i 0)).2.2 : Nat) : Int)) (f := 20) (args := #[.pointer (some ⟨g22, 0, none⟩)]) (by decide) (by kernel_rfl) (fun w' M' => (run_value_call 20 #[(Operand.tmp 81)] _ rfl Try.func20 (by kernel_rfl) (by kernel_rfl) _ (by kernel_rfl))) (fun w' M' => callE_mem M' (rAtM w' F25 (by first | omega | (have hle := O90.le.1; rw [F25.llen] at hle; exact hle)) (Mem.part (A := [(g33, .cells #[v84, .int .i64 (((tkB ((unpack l).take (endOf l)) a (lf.getD i 0)).2.2 : Nat) : Int)] 49 (0, 0))]) (T := (rT g22 v23 (endOf l) ((tkB ((unpack l).take (endOf l)) a (lf.getD i 0)).2.2) TB24)) (B := (TB85 ++ [])) (Mem.pull (A := [(g33, .cells #[v84, .int .i64 (((tkB ((unpack l).take (endOf l)) a (lf.getD i 0)).2.2 : Nat) : Int)] 49 (0, 0))]) [TB85] (rT g22 v23 (endOf l) ((tkB ((unpack l).take (endOf l)) a (lf.getD i 0)).2.2) TB24) [] M')))) ?_
            refine seq_run (v := .pointer (some ⟨g33, 0, none⟩)) (by decide) (by kernel_rfl) (fun w' M' => (by kernel_rfl)) ?_
            refine seq_run (v := .pointer (some ⟨g33, 0, none⟩)) (by decide) (by kernel_rfl) (fun w' M' => (by kernel_rfl)) ?_
            refine seq_run (v := .pointer (some ⟨g33, 1, none⟩)) (by decide) (by kernel_rfl) (fun w' M' => (by kernel_rfl)) ?_
            refine seq_run (v := .int .i64 (((tkB ((unpack l).take (endOf l)) a (lf.getD i 0)).2.2 : Nat) : Int)) (by decide) (by kernel_rfl) (fun w' M' => (run_load_cell 3 (.tmp 85) rfl ⟨g33, 1, none⟩ (by kernel_rfl) _ (M'.cell 0 rfl 1 _ rfl) (by kernel_rfl))) ?_
            refine seq_run (v := .bool false) (by decide) (by kernel_rfl) (fun w' M' => (bool_of (neq_f (show ((((tkB ((unpack l).take (endOf l)) a (lf.getD i 0)).2.2 : Nat) : Int) : Int) = (((tkB ((unpack l).take (endOf l)) a (lf.getD i 0)).2.2 : Nat) : Int) from rfl)) (by kernel_rfl))) ?_
            refine seq_end (by decide) ?_
            intro W92 M93
            refine wl_nil ?_
            refine hK82 _ _ ?_
            try clear hK82 K82
            refine wp_cond_false (by kernel_rfl) ?_
            refine wp_skip ?_
            refine blk_normal ?_
            refine hK44 _ _ ?_
            try clear hK44 K44
            refine wl_region ?_
            refine st_val (.int .i64 ((i : Nat) : Int)) (by kernel_rfl) (by kernel_rfl) ?_
            refine st_val (.int .i64 (((i : Nat) : Int) + 1)) (by kernel_rfl) (i64_of (by omega) (by kernel_rfl)) ?_
            refine st_val (.int .i64 (((i : Nat) : Int) + 1)) (by kernel_rfl) (by kernel_rfl) ?_
            refine wl_nil ?_
            refine th_normal ?_
            have M94 : Mem NoS w W92 ((((g33, .cells #[v84, .int .i64 (((tkB ((unpack l).take (endOf l)) a (lf.getD i 0)).2.2 : Nat) : Int)] 49 (0, 0)) :: TB85) ++ ((rT g22 v23 (endOf l) ((tkB ((unpack l).take (endOf l)) a (lf.getD i 0)).2.2) TB24) ++ []))) := M93
            have hle := O90.le.1
            rw [F25.llen] at hle
            exact ⟨_, by omega, (i + 1), ((tkB ((unpack l).take (endOf l)) a (lf.getD i 0)).2.2), ((g33, .cells #[v84, .int .i64 (((tkB ((unpack l).take (endOf l)) a (lf.getD i 0)).2.2 : Nat) : Int)] 49 (0, 0)) :: TB85), (fun zz => Array.getD #[.slice A l.length c, .slice Af lf.length cf, undef, undef, (u39 4), .pointer (some ⟨g22, 0, none⟩), .int .i64 0, .pointer (some ⟨g33, 0, none⟩), .int .i64 0, .int .i64 (((i : Nat) : Int) + 1), .pointer (some ⟨g56, 0, none⟩), .int .i64 ((tkB ((unpack l).take (endOf l)) a (lf.getD i 0)).2.1), .pointer (some ⟨g73, 0, none⟩), .int .i64 ((tkB ((unpack l).take (endOf l)) a (lf.getD i 0)).2.1), undef, undef, .slice A l.length c, .int .i64 ((l.length : Nat) : Int), .bool false, .bool false, .slice Af lf.length cf, .int .i64 ((lf.length : Nat) : Int), .bool false, .bool false, .tuple #[.pointer (some ⟨g22, 0, none⟩), .int .i64 0], .slice A l.length c, .tuple #[.pointer (some ⟨g22, 0, none⟩), .int .i64 0], .pointer (some ⟨g22, 0, none⟩), .int .i64 0, .tuple #[.pointer (some ⟨g33, 0, none⟩), .int .i64 0], .slice A l.length c, .tuple #[.pointer (some ⟨g33, 0, none⟩), .int .i64 0], .pointer (some ⟨g33, 0, none⟩), .int .i64 0, .int .i64 0, .int .i64 0, .bool false, .bool false, .int .i64 0, .bool false, .bool false, undef, undef, undef, undef, undef, undef, .int .i64 ((i : Nat) : Int), .slice Af lf.length cf, .int .i64 ((lf.length : Nat) : Int), .bool true, .int .i64 ((i : Nat) : Int), .int .i64 (((i : Nat) : Int) + 1), .tuple #[.agg (iv (tkB ((unpack l).take (endOf l)) a (lf.getD i 0)).1), .int .i64 ((tkB ((unpack l).take (endOf l)) a (lf.getD i 0)).2.1)], .pointer (some ⟨g22, 0, none⟩), .slice Af lf.length cf, .int .i64 ((i : Nat) : Int), .pointer (some ⟨b46, o47 + i * 1, none⟩), .int .i64 (lf.getD i 0), .tuple #[.agg (iv (tkB ((unpack l).take (endOf l)) a (lf.getD i 0)).1), .int .i64 ((tkB ((unpack l).take (endOf l)) a (lf.getD i 0)).2.1)], .agg (iv (tkB ((unpack l).take (endOf l)) a (lf.getD i 0)).1), .int .i64 ((tkB ((unpack l).take (endOf l)) a (lf.getD i 0)).2.1), .tuple #[.agg (iv (tkB ((unpack l).take (endOf l)) a (lf.getD i 0)).1), .int .i64 ((tkB ((unpack l).take (endOf l)) a (lf.getD i 0)).2.1)], .pointer (some ⟨g33, 0, none⟩), .slice Af lf.length cf, .int .i64 ((i : Nat) : Int), .pointer (some ⟨b62, o63 + i * 1, none⟩), .int .i64 (lf.getD i 0), .tuple #[.agg (iv (tkB ((unpack l).take (endOf l)) a (lf.getD i 0)).1), .int .i64 ((tkB ((unpack l).take (endOf l)) a (lf.getD i 0)).2.1)], .agg (iv (tkB ((unpack l).take (endOf l)) a (lf.getD i 0)).1), .int .i64 ((tkB ((unpack l).take (endOf l)) a (lf.getD i 0)).2.1), .agg (iv ((tkB ((unpack l).take (endOf l)) a (lf.getD i 0)).1)), .agg (iv ((tkB ((unpack l).take (endOf l)) a (lf.getD i 0)).1)), .bool false, .bool false, .int .i64 ((tkB ((unpack l).take (endOf l)) a (lf.getD i 0)).2.1), .int .i64 ((tkB ((unpack l).take (endOf l)) a (lf.getD i 0)).2.1), .bool false, .bool false, .int .i64 ((tkB ((unpack l).take (endOf l)) a (lf.getD i 0)).2.1), .bool false, .pointer (some ⟨g22, 0, none⟩), .int .i64 (((tkB ((unpack l).take (endOf l)) a (lf.getD i 0)).2.2 : Nat) : Int), .pointer (some ⟨g33, 0, none⟩), .pointer (some ⟨g33, 0, none⟩), .pointer (some ⟨g33, 1, none⟩), .int .i64 (((tkB ((unpack l).take (endOf l)) a (lf.getD i 0)).2.2 : Nat) : Int), .bool false, undef, undef, undef, undef, undef, undef, undef, undef, undef, undef, undef, undef, undef, undef] zz undef), ⟨⟨by omega, hle, O90⟩, M94⟩, rfl, (by kernel_rfl)⟩
          ·
            refine st_val (.bool true) (by kernel_rfl) (bool_of (neq_t c80) (by kernel_rfl)) ?_
            refine wl_nil ?_
            refine hK81 _ _ ?_
            try clear hK81 K81
            refine wp_cond_true (by kernel_rfl) ?_
            refine wp_exit ?_
            refine th_exit ?_
            refine blk_other (by decide) ?_
            refine th_exit ?_
            refine th_exit ?_
            refine blk_exit ?_
            refine hK37 _ _ ?_
            try clear hK37 K37
            refine wp_seq_k (fun K95 hK95 => ?_)
            refine wl_region ?_
            refine st_callB M77 (.tuple #[.agg (iv zeros), .int .i64 1]) (by kernel_rfl) (args := #[(Go.Value.pointer none), .int .i64 0]) (run_value_call 18 #[(Operand.const (Value.pointer none)), (Operand.const (Value.int IntKind.i64 0))] _ rfl Try.func18 (by kernel_rfl) (by kernel_rfl) _ (by kernel_rfl)) (btake_nil W76 0) ?_
            intro W96 M97
            refine st_val (.tuple #[.agg (iv zeros), .int .i64 1]) (by kernel_rfl) (by kernel_rfl) ?_
            refine st_val (.agg (iv zeros)) (by kernel_rfl) (by kernel_rfl) ?_
            refine st_val (.int .i64 1) (by kernel_rfl) (by kernel_rfl) ?_
            refine st_alloc M97 (.cells (iv zeros) 23 (0, 0)) (by kernel_rfl) (by kernel_rfl) ?_
            intro g98 W99 M100
            refine st_storeRow M100 0 rfl 23 (.tmp 14) (.tmp 90) (by rfl) (iv zeros) (by kernel_rfl) (by kernel_rfl) (info64 _ zeros_length) (iv_same zeros_length zeros_length) (iv_one _) (by kernel_rfl) ((g98, .cells (iv zeros) 23 (0, 0)) :: (g73, .cells (iv ((tkB ((unpack l).take (endOf l)) a (lf.getD i 0)).1)) 23 (0, 0)) :: (g56, .cells (iv ((tkB ((unpack l).take (endOf l)) a (lf.getD i 0)).1)) 23 (0, 0)) :: (T67 ++ ((rT g22 v23 (endOf l) ((tkB ((unpack l).take (endOf l)) a (lf.getD i 0)).2.2) TB24) ++ []))) rfl ?_
            intro W101 M102
            refine st_val (.int .i64 1) (by kernel_rfl) (by kernel_rfl) ?_
            refine wl_nil ?_
            refine hK95 _ _ ?_
            try clear hK95 K95
            refine wp_seq_k (fun K103 hK103 => ?_)
            refine wl_region ?_
            refine st_callB M102 (.bool true) (by kernel_rfl) (args := #[]) (run_value_call 12 #[] _ rfl Try.func12 (by kernel_rfl) (by kernel_rfl) _ (by kernel_rfl)) (awake_walk W101) ?_
            intro W104 M105
            refine st_val (.bool true) (by kernel_rfl) (by kernel_rfl) ?_
            refine st_val (.int .i64 1) (by kernel_rfl) (by kernel_rfl) ?_
            refine st_val (.bool true) (by kernel_rfl) (by kernel_rfl) ?_
            refine st_val (.bool true) (by kernel_rfl) (by kernel_rfl) ?_
            refine st_val (.bool true) (by kernel_rfl) (by kernel_rfl) ?_
            refine st_val (.agg (iv zeros)) (by kernel_rfl) (run_load_row 23 (.tmp 14) rfl g98 (by kernel_rfl) 23 (iv zeros) (0, 0) _ (M105.get 0 rfl) Try.underlying23 rfl (info64 _ zeros_length)) ?_
            refine st_val (.agg (iv zeros)) (by kernel_rfl) (by kernel_rfl) ?_
            refine st_val (.bool true) (by kernel_rfl) (run_value_bin .eql 23 _ (.tmp 98) (.tmp 99) rfl (.agg (iv zeros)) (.agg (iv zeros)) _ (by kernel_rfl) (by kernel_rfl) (by kernel_rfl) (eql_same W104 zeros zeros_length)) ?_
            refine st_val (.bool true) (by kernel_rfl) (by kernel_rfl) ?_
            refine st_val (.bool true) (by kernel_rfl) (by kernel_rfl) ?_
            refine wl_nil ?_
            refine hK103 _ _ ?_
            try clear hK103 K103
            refine wp_frame (a' := ⟨#[.slice A l.length c, .slice Af lf.length cf, undef, undef, .bool true, .pointer (some ⟨g22, 0, none⟩), .int .i64 0, .pointer (some ⟨g33, 0, none⟩), .int .i64 0, .int .i64 ((i : Nat) : Int), .pointer (some ⟨g56, 0, none⟩), .int .i64 ((tkB ((unpack l).take (endOf l)) a (lf.getD i 0)).2.1), .pointer (some ⟨g73, 0, none⟩), .int .i64 ((tkB ((unpack l).take (endOf l)) a (lf.getD i 0)).2.1), .pointer (some ⟨g98, 0, none⟩), .int .i64 1, .slice A l.length c, .int .i64 ((l.length : Nat) : Int), .bool false, .bool false, .slice Af lf.length cf, .int .i64 ((lf.length : Nat) : Int), .bool false, .bool false, .tuple #[.pointer (some ⟨g22, 0, none⟩), .int .i64 0], .slice A l.length c, .tuple #[.pointer (some ⟨g22, 0, none⟩), .int .i64 0], .pointer (some ⟨g22, 0, none⟩), .int .i64 0, .tuple #[.pointer (some ⟨g33, 0, none⟩), .int .i64 0], .slice A l.length c, .tuple #[.pointer (some ⟨g33, 0, none⟩), .int .i64 0], .pointer (some ⟨g33, 0, none⟩), .int .i64 0, .int .i64 0, .int .i64 0, .bool false, .bool false, .int .i64 0, .bool false, .bool false, undef, undef, undef, undef, undef, undef, .int .i64 ((i : Nat) : Int), .slice Af lf.length cf, .int .i64 ((lf.length : Nat) : Int), .bool true, (u39 51), (u39 52), .tuple #[.agg (iv (tkB ((unpack l).take (endOf l)) a (lf.getD i 0)).1), .int .i64 ((tkB ((unpack l).take (endOf l)) a (lf.getD i 0)).2.1)], .pointer (some ⟨g22, 0, none⟩), .slice Af lf.length cf, .int .i64 ((i : Nat) : Int), .pointer (some ⟨b46, o47 + i * 1, none⟩), .int .i64 (lf.getD i 0), .tuple #[.agg (iv (tkB ((unpack l).take (endOf l)) a (lf.getD i 0)).1), .int .i64 ((tkB ((unpack l).take (endOf l)) a (lf.getD i 0)).2.1)], .agg (iv (tkB ((unpack l).take (endOf l)) a (lf.getD i 0)).1), .int .i64 ((tkB ((unpack l).take (endOf l)) a (lf.getD i 0)).2.1), .tuple #[.agg (iv (tkB ((unpack l).take (endOf l)) a (lf.getD i 0)).1), .int .i64 ((tkB ((unpack l).take (endOf l)) a (lf.getD i 0)).2.1)], .pointer (some ⟨g33, 0, none⟩), .slice Af lf.length cf, .int .i64 ((i : Nat) : Int), .pointer (some ⟨b62, o63 + i * 1, none⟩), .int .i64 (lf.getD i 0), .tuple #[.agg (iv (tkB ((unpack l).take (endOf l)) a (lf.getD i 0)).1), .int .i64 ((tkB ((unpack l).take (endOf l)) a (lf.getD i 0)).2.1)], .agg (iv (tkB ((unpack l).take (endOf l)) a (lf.getD i 0)).1), .int .i64 ((tkB ((unpack l).take (endOf l)) a (lf.getD i 0)).2.1), .agg (iv ((tkB ((unpack l).take (endOf l)) a (lf.getD i 0)).1)), .agg (iv ((tkB ((unpack l).take (endOf l)) a (lf.getD i 0)).1)), .bool false, .bool false, .int .i64 ((tkB ((unpack l).take (endOf l)) a (lf.getD i 0)).2.1), .int .i64 ((tkB ((unpack l).take (endOf l)) a (lf.getD i 0)).2.1), .bool false, .bool false, .int .i64 ((tkB ((unpack l).take (endOf l)) a (lf.getD i 0)).2.1), .bool true, (u39 81), (u39 82), (u39 83), (u39 84), (u39 85), (u39 86), (u39 87), .tuple #[.agg (iv zeros), .int .i64 1], .tuple #[.agg (iv zeros), .int .i64 1], .agg (iv zeros), .int .i64 1, .bool true, .bool true, .int .i64 1, .bool true, .bool true, .bool true, .agg (iv zeros), .agg (iv zeros), .bool true, .bool true], []⟩) (by kernel_rfl) ?_
            refine wp_ret ?_
            exact done1 4 (.bool true) (by kernel_rfl) (by kernel_rfl) (by kernel_rfl) ⟨rfl, M105.toBelow⟩
        ·
          refine st_val (.bool false) (by kernel_rfl) (bool_of (dec_f c50) (by kernel_rfl)) ?_
          refine wl_nil ?_
          refine hK43 _ _ ?_
          try clear hK43 K43
          refine wp_cond_false (by kernel_rfl) ?_
          refine wp_exit ?_
          refine th_exit ?_
          refine th_exit ?_
          refine blk_exit ?_
          refine hK37 _ _ ?_
          try clear hK37 K37
          refine wp_seq_k (fun K106 hK106 => ?_)
          refine wl_region ?_
          refine st_callB M41 (.tuple #[.agg (iv zeros), .int .i64 1]) (by kernel_rfl) (args := #[(Go.Value.pointer none), .int .i64 0]) (run_value_call 18 #[(Operand.const (Value.pointer none)), (Operand.const (Value.int IntKind.i64 0))] _ rfl Try.func18 (by kernel_rfl) (by kernel_rfl) _ (by kernel_rfl)) (btake_nil W40 0) ?_
          intro W107 M108
          refine st_val (.tuple #[.agg (iv zeros), .int .i64 1]) (by kernel_rfl) (by kernel_rfl) ?_
          refine st_val (.agg (iv zeros)) (by kernel_rfl) (by kernel_rfl) ?_
          refine st_val (.int .i64 1) (by kernel_rfl) (by kernel_rfl) ?_
          refine st_alloc M108 (.cells (iv zeros) 23 (0, 0)) (by kernel_rfl) (by kernel_rfl) ?_
          intro g109 W110 M111
          refine st_storeRow M111 0 rfl 23 (.tmp 14) (.tmp 90) (by rfl) (iv zeros) (by kernel_rfl) (by kernel_rfl) (info64 _ zeros_length) (iv_same zeros_length zeros_length) (iv_one _) (by kernel_rfl) ((g109, .cells (iv zeros) 23 (0, 0)) :: (T1 ++ ((rT g22 v23 (endOf l) a TB24) ++ []))) rfl ?_
          intro W112 M113
          refine st_val (.int .i64 1) (by kernel_rfl) (by kernel_rfl) ?_
          refine wl_nil ?_
          refine hK106 _ _ ?_
          try clear hK106 K106
          refine wp_seq_k (fun K114 hK114 => ?_)
          refine wl_region ?_
          refine st_callB M113 (.bool true) (by kernel_rfl) (args := #[]) (run_value_call 12 #[] _ rfl Try.func12 (by kernel_rfl) (by kernel_rfl) _ (by kernel_rfl)) (awake_walk W112) ?_
          intro W115 M116
          refine st_val (.bool true) (by kernel_rfl) (by kernel_rfl) ?_
          refine st_val (.int .i64 1) (by kernel_rfl) (by kernel_rfl) ?_
          refine st_val (.bool true) (by kernel_rfl) (by kernel_rfl) ?_
          refine st_val (.bool true) (by kernel_rfl) (by kernel_rfl) ?_
          refine st_val (.bool true) (by kernel_rfl) (by kernel_rfl) ?_
          refine st_val (.agg (iv zeros)) (by kernel_rfl) (run_load_row 23 (.tmp 14) rfl g109 (by kernel_rfl) 23 (iv zeros) (0, 0) _ (M116.get 0 rfl) Try.underlying23 rfl (info64 _ zeros_length)) ?_
          refine st_val (.agg (iv zeros)) (by kernel_rfl) (by kernel_rfl) ?_
          refine st_val (.bool true) (by kernel_rfl) (run_value_bin .eql 23 _ (.tmp 98) (.tmp 99) rfl (.agg (iv zeros)) (.agg (iv zeros)) _ (by kernel_rfl) (by kernel_rfl) (by kernel_rfl) (eql_same W115 zeros zeros_length)) ?_
          refine st_val (.bool true) (by kernel_rfl) (by kernel_rfl) ?_
          refine st_val (.bool true) (by kernel_rfl) (by kernel_rfl) ?_
          refine wl_nil ?_
          refine hK114 _ _ ?_
          try clear hK114 K114
          refine wp_frame (a' := ⟨#[.slice A l.length c, .slice Af lf.length cf, undef, undef, .bool true, .pointer (some ⟨g22, 0, none⟩), .int .i64 0, .pointer (some ⟨g33, 0, none⟩), .int .i64 0, .int .i64 ((i : Nat) : Int), (u39 10), (u39 11), (u39 12), (u39 13), .pointer (some ⟨g109, 0, none⟩), .int .i64 1, .slice A l.length c, .int .i64 ((l.length : Nat) : Int), .bool false, .bool false, .slice Af lf.length cf, .int .i64 ((lf.length : Nat) : Int), .bool false, .bool false, .tuple #[.pointer (some ⟨g22, 0, none⟩), .int .i64 0], .slice A l.length c, .tuple #[.pointer (some ⟨g22, 0, none⟩), .int .i64 0], .pointer (some ⟨g22, 0, none⟩), .int .i64 0, .tuple #[.pointer (some ⟨g33, 0, none⟩), .int .i64 0], .slice A l.length c, .tuple #[.pointer (some ⟨g33, 0, none⟩), .int .i64 0], .pointer (some ⟨g33, 0, none⟩), .int .i64 0, .int .i64 0, .int .i64 0, .bool false, .bool false, .int .i64 0, .bool false, .bool false, undef, undef, undef, undef, undef, undef, .int .i64 ((i : Nat) : Int), .slice Af lf.length cf, .int .i64 ((lf.length : Nat) : Int), .bool false, (u39 51), (u39 52), (u39 53), (u39 54), (u39 55), (u39 56), (u39 57), (u39 58), (u39 59), (u39 60), (u39 61), (u39 62), (u39 63), (u39 64), (u39 65), (u39 66), (u39 67), (u39 68), (u39 69), (u39 70), (u39 71), (u39 72), (u39 73), (u39 74), (u39 75), (u39 76), (u39 77), (u39 78), (u39 79), (u39 80), (u39 81), (u39 82), (u39 83), (u39 84), (u39 85), (u39 86), (u39 87), .tuple #[.agg (iv zeros), .int .i64 1], .tuple #[.agg (iv zeros), .int .i64 1], .agg (iv zeros), .int .i64 1, .bool true, .bool true, .int .i64 1, .bool true, .bool true, .bool true, .agg (iv zeros), .agg (iv zeros), .bool true, .bool true], []⟩) (by kernel_rfl) ?_
          refine wp_ret ?_
          exact done1 4 (.bool true) (by kernel_rfl) (by kernel_rfl) (by kernel_rfl) ⟨rfl, M116.toBelow⟩
end Go.Proofs.Ytmchfkkifeioeaa
