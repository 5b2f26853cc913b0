/- The walk of VlcTakes. -/
import Derived.Test.YtkmnnfmdjgpflaaVa
import Derived.Test.YtkmnnfmdjgpflaaLi
namespace Go.Proofs.Ytkmnnfmdjgpflaa
open Go.RowKit Bt
set_option maxHeartbeats 4000000 in
set_option maxRecDepth 100000 in
theorem VlcTakes_walk (w : World) (v : Value) (l : List Nat) (hr : RdK w v l.length (u8s l)) (hb : ∀ x ∈ l, x < 256) (vs : Value) (sg : List Bool) (hrs : RdK w vs sg.length (bools sg)) : Calls Try.prog 7 #[v, vs] w fun e w' => e = .returned (.bool true) ∧ Below w.heap.size w w' := by
  obtain ⟨A, c, rfl, hc⟩ := hr.shape
  obtain ⟨As, cs, rfl, hcs⟩ := hrs.shape
  refine calls_of_wp Try.func7 rfl ?_
  refine wp_frame (a' := ⟨#[.slice A l.length c, .slice As sg.length cs, undef, undef, undef, undef, undef, undef, undef, undef, undef, undef, undef, undef, undef, undef, undef, undef, undef, undef, undef, undef, undef, undef, undef, undef, undef, undef, undef, undef, undef, undef, undef, undef, undef, undef, undef, undef, undef, undef, undef, undef, undef, undef, undef, undef, undef, undef, undef, undef, undef, undef, undef, undef, undef, undef, undef, undef, undef, undef, undef, undef, undef, undef, undef, undef, undef, undef, undef, undef, undef, undef, undef, undef, undef, undef, undef, undef, undef, undef, undef, undef, undef, undef, undef, undef, undef, undef, undef, undef, undef, undef, undef, undef, undef, undef, undef, undef, undef, undef, undef, undef, undef, undef, undef, undef, undef, undef, undef, undef, undef, undef, undef, undef, undef, undef, undef, undef, undef, undef, undef], []⟩) (by kernel_rfl) ?_
  have M0 : Mem NoS w w [] := Mem.start _ _
  refine wp_seq_k (fun K1 hK1 => ?_)
  refine wl_region ?_
  refine st_val (.bool false) (by kernel_rfl) (by kernel_rfl) ?_
  refine wl_nil ?_
  refine hK1 _ _ ?_
  try clear hK1 K1
  refine wp_seq_k (fun K2 hK2 => ?_)
  refine wp_seq_k (fun K3 hK3 => ?_)
  refine wl_region ?_
  refine st_val (.slice A l.length c) (by kernel_rfl) (by kernel_rfl) ?_
  refine st_val (.int .i64 ((l.length : Nat) : Int)) (by kernel_rfl) (by kernel_rfl) ?_
  rcases Decidable.em ((((l.length : Nat) : Int) : Int) > 300) with c20 | c20
  ·
    refine st_val (.bool true) (by kernel_rfl) (bool_of (dec_t c20) (by kernel_rfl)) ?_
    refine st_val (.bool true) (by kernel_rfl) (by kernel_rfl) ?_
    refine st_skip (by kernel_rfl) ?_
    refine st_skip (by kernel_rfl) ?_
    refine st_skip (by kernel_rfl) ?_
    refine st_val (.bool true) (by kernel_rfl) (by kernel_rfl) ?_
    refine wl_nil ?_
    refine hK3 _ _ ?_
    try clear hK3 K3
    refine wp_cond_true (by kernel_rfl) ?_
    refine wp_seq_k (fun K4 hK4 => ?_)
    refine wl_region ?_
    refine st_val (.bool true) (by kernel_rfl) (by kernel_rfl) ?_
    refine wl_nil ?_
    refine hK4 _ _ ?_
    try clear hK4 K4
    refine wp_ret ?_
    refine th_ret ?_
    exact done1 4 (.bool true) (by kernel_rfl) (by kernel_rfl) (by kernel_rfl) ⟨rfl, M0.toBelow⟩
  ·
    refine st_val (.bool false) (by kernel_rfl) (bool_of (dec_f c20) (by kernel_rfl)) ?_
    refine st_val (.bool false) (by kernel_rfl) (by kernel_rfl) ?_
    refine st_val (.slice As sg.length cs) (by kernel_rfl) (by kernel_rfl) ?_
    refine st_val (.int .i64 ((sg.length : Nat) : Int)) (by kernel_rfl) (by kernel_rfl) ?_
    rcases Decidable.em ((((sg.length : Nat) : Int) : Int) > 300) with c24 | c24
    ·
      refine st_val (.bool true) (by kernel_rfl) (bool_of (dec_t c24) (by kernel_rfl)) ?_
      refine st_val (.bool true) (by kernel_rfl) (by kernel_rfl) ?_
      refine wl_nil ?_
      refine hK3 _ _ ?_
      try clear hK3 K3
      refine wp_cond_true (by kernel_rfl) ?_
      refine wp_seq_k (fun K5 hK5 => ?_)
      refine wl_region ?_
      refine st_val (.bool true) (by kernel_rfl) (by kernel_rfl) ?_
      refine wl_nil ?_
      refine hK5 _ _ ?_
      try clear hK5 K5
      refine wp_ret ?_
      refine th_ret ?_
      exact done1 4 (.bool true) (by kernel_rfl) (by kernel_rfl) (by kernel_rfl) ⟨rfl, M0.toBelow⟩
    ·
      refine st_val (.bool false) (by kernel_rfl) (bool_of (dec_f c24) (by kernel_rfl)) ?_
      refine st_val (.bool false) (by kernel_rfl) (by kernel_rfl) ?_
      refine wl_nil ?_
      refine hK3 _ _ ?_
      try clear hK3 K3
      refine wp_cond_false (by kernel_rfl) ?_
      refine wp_skip ?_
      refine hK2 _ _ ?_
      try clear hK2 K2
      refine wp_seq_k (fun K6 hK6 => ?_)
      refine wl_region ?_
      refine st_val (.slice A l.length c) (by kernel_rfl) (by kernel_rfl) ?_
      rcases Classical.em (l = [] ∨ l.getD (l.length - 1) 0 = 0) with hpb | hpb
      ·
        refine st_callB M0 (.tuple #[.pointer none, .int .i64 3]) (by kernel_rfl) (args := #[.slice A l.length c]) (run_value_call 26 #[(Operand.tmp 27)] _ rfl Try.func26 (by kernel_rfl) (by kernel_rfl) _ (by kernel_rfl)) (newReaderBadM w (.slice A l.length c) l (hr.keep M0.keep (fun _ _ h => h)) (by omega) hpb) ?_
        intro W7 M8
        refine st_val (.tuple #[.pointer none, .int .i64 3]) (by kernel_rfl) (by kernel_rfl) ?_
        refine st_val (.pointer none) (by kernel_rfl) (by kernel_rfl) ?_
        refine st_val (.int .i64 3) (by kernel_rfl) (by kernel_rfl) ?_
        refine st_val (.pointer none) (by kernel_rfl) (by kernel_rfl) ?_
        refine st_val (.int .i64 3) (by kernel_rfl) (by kernel_rfl) ?_
        refine wl_nil ?_
        refine hK6 _ _ ?_
        try clear hK6 K6
        refine wp_frame (a' := ⟨#[.slice A l.length c, .slice As sg.length cs, undef, undef, .bool false, .pointer none, .int .i64 3, undef, undef, undef, undef, undef, undef, undef, undef, undef, undef, undef, .slice A l.length c, .int .i64 ((l.length : Nat) : Int), .bool false, .bool false, .slice As sg.length cs, .int .i64 ((sg.length : Nat) : Int), .bool false, .bool false, .tuple #[.pointer none, .int .i64 3], .slice A l.length c, .tuple #[.pointer none, .int .i64 3], .pointer none, .int .i64 3, undef, undef, undef, undef, undef, undef, undef, undef, undef, undef, undef, undef, undef, undef, undef, undef, undef, undef, undef, undef, undef, undef, undef, undef, undef, undef, undef, undef, undef, undef, undef, undef, undef, undef, undef, undef, undef, undef, undef, undef, undef, undef, undef, undef, undef, undef, undef, undef, undef, undef, undef, undef, undef, undef, undef, undef, undef, undef, undef, undef, undef, undef, undef, undef, undef, undef, undef, undef, undef, undef, undef, undef, undef, undef, undef, undef, undef, undef, undef, undef, undef, undef, undef, undef, undef, undef, undef, undef, undef, undef], []⟩) (by kernel_rfl) ?_
        refine wp_seq_k (fun K9 hK9 => ?_)
        refine wl_region ?_
        refine st_val (.slice A l.length c) (by kernel_rfl) (by kernel_rfl) ?_
        refine st_callB M8 (.tuple #[.pointer none, .int .i64 3]) (by kernel_rfl) (args := #[.slice A l.length c]) (run_value_call 29 #[(Operand.tmp 32)] _ rfl Try.func29 (by kernel_rfl) (by kernel_rfl) _ (by kernel_rfl)) (openBadM W7 (.slice A l.length c) l (hr.keep M8.keep (fun _ _ h => h)) (by omega) hpb) ?_
        intro W10 M11
        refine st_val (.tuple #[.pointer none, .int .i64 3]) (by kernel_rfl) (by kernel_rfl) ?_
        refine st_val (.pointer none) (by kernel_rfl) (by kernel_rfl) ?_
        refine st_val (.int .i64 3) (by kernel_rfl) (by kernel_rfl) ?_
        refine st_val (.pointer none) (by kernel_rfl) (by kernel_rfl) ?_
        refine st_val (.int .i64 3) (by kernel_rfl) (by kernel_rfl) ?_
        refine wl_nil ?_
        refine hK9 _ _ ?_
        try clear hK9 K9
        refine wp_seq_k (fun K12 hK12 => ?_)
        refine wp_seq_k (fun K13 hK13 => ?_)
        refine wl_region ?_
        refine st_val (.int .i64 3) (by kernel_rfl) (by kernel_rfl) ?_
        refine st_val (.int .i64 3) (by kernel_rfl) (by kernel_rfl) ?_
        refine st_val (.bool false) (by kernel_rfl) (by kernel_rfl) ?_
        refine st_val (.bool false) (by kernel_rfl) (by kernel_rfl) ?_
        refine st_val (.int .i64 3) (by kernel_rfl) (by kernel_rfl) ?_
        refine st_val (.bool true) (by kernel_rfl) (by kernel_rfl) ?_
        refine st_val (.bool true) (by kernel_rfl) (by kernel_rfl) ?_
        refine wl_nil ?_
        refine hK13 _ _ ?_
        try clear hK13 K13
        refine wp_frame (a' := ⟨#[.slice A l.length c, .slice As sg.length cs, undef, undef, .bool false, .pointer none, .int .i64 3, .pointer none, .int .i64 3, undef, undef, undef, undef, undef, undef, undef, undef, undef, .slice A l.length c, .int .i64 ((l.length : Nat) : Int), .bool false, .bool false, .slice As sg.length cs, .int .i64 ((sg.length : Nat) : Int), .bool false, .bool false, .tuple #[.pointer none, .int .i64 3], .slice A l.length c, .tuple #[.pointer none, .int .i64 3], .pointer none, .int .i64 3, .tuple #[.pointer none, .int .i64 3], .slice A l.length c, .tuple #[.pointer none, .int .i64 3], .pointer none, .int .i64 3, .int .i64 3, .int .i64 3, .bool false, .bool false, .int .i64 3, .bool true, .bool true, undef, undef, undef, undef, undef, undef, undef, undef, undef, undef, undef, undef, undef, undef, undef, undef, undef, undef, undef, undef, undef, undef, undef, undef, undef, undef, undef, undef, undef, undef, undef, undef, undef, undef, undef, undef, undef, undef, undef, undef, undef, undef, undef, undef, undef, undef, undef, undef, undef, undef, undef, undef, undef, undef, undef, undef, undef, undef, undef, undef, undef, undef, undef, undef, undef, undef, undef, undef, undef, undef, undef, undef, undef, undef, undef, undef, undef, undef], []⟩) (by kernel_rfl) ?_
        refine wp_cond_true (by kernel_rfl) ?_
        refine wp_seq_k (fun K14 hK14 => ?_)
        refine wl_region ?_
        refine st_callB M11 (.bool true) (by kernel_rfl) (args := #[]) (run_value_call 10 #[] _ rfl Try.func10 (by kernel_rfl) (by kernel_rfl) _ (by kernel_rfl)) (awake_walk W10) ?_
        intro W15 M16
        refine st_val (.bool true) (by kernel_rfl) (by kernel_rfl) ?_
        refine st_val (.int .i64 3) (by kernel_rfl) (by kernel_rfl) ?_
        refine st_val (.int .i64 3) (by kernel_rfl) (by kernel_rfl) ?_
        refine st_val (.bool true) (by kernel_rfl) (by kernel_rfl) ?_
        refine st_val (.bool true) (by kernel_rfl) (by kernel_rfl) ?_
        refine st_val (.bool true) (by kernel_rfl) (by kernel_rfl) ?_
        refine wl_nil ?_
        refine hK14 _ _ ?_
        try clear hK14 K14
        refine wp_ret ?_
        refine th_ret ?_
        exact done1 4 (.bool true) (by kernel_rfl) (by kernel_rfl) (by kernel_rfl) ⟨rfl, M16.toBelow⟩
      ·
        have hne := fun h => hpb (.inl h)
        have hla := fun h => hpb (.inr h)
        refine st_callR (A := []) (B := []) M0 (by kernel_rfl) (run_value_call 26 #[(Operand.tmp 27)] _ rfl Try.func26 (by kernel_rfl) (by kernel_rfl) _ (by kernel_rfl)) (newReaderM w (.slice A l.length c) l (hr.keep M0.keep (fun _ _ h => h)) hb (by omega) hne hla) ?_
        intro v17 T18 W19 O20 M21
        have M21 : Mem NoS w W19 ((T18 ++ [])) := M21
        obtain ⟨g22, v23, TB24, rfl, rfl, F25⟩ := O20
        have M26 : Mem NoS w W19 (((rT g22 v23 (endOf l) 0 TB24) ++ [])) := M21
        refine st_val (.tuple #[.pointer (some ⟨g22, 0, none⟩), .int .i64 0]) (by kernel_rfl) (by kernel_rfl) ?_
        refine st_val (.pointer (some ⟨g22, 0, none⟩)) (by kernel_rfl) (by kernel_rfl) ?_
        refine st_val (.int .i64 0) (by kernel_rfl) (by kernel_rfl) ?_
        refine st_val (.pointer (some ⟨g22, 0, none⟩)) (by kernel_rfl) (by kernel_rfl) ?_
        refine st_val (.int .i64 0) (by kernel_rfl) (by kernel_rfl) ?_
        refine wl_nil ?_
        refine hK6 _ _ ?_
        try clear hK6 K6
        refine wp_frame (a' := ⟨#[.slice A l.length c, .slice As sg.length cs, undef, undef, .bool false, .pointer (some ⟨g22, 0, none⟩), .int .i64 0, undef, undef, undef, undef, undef, undef, undef, undef, undef, undef, undef, .slice A l.length c, .int .i64 ((l.length : Nat) : Int), .bool false, .bool false, .slice As sg.length cs, .int .i64 ((sg.length : Nat) : Int), .bool false, .bool false, .tuple #[.pointer (some ⟨g22, 0, none⟩), .int .i64 0], .slice A l.length c, .tuple #[.pointer (some ⟨g22, 0, none⟩), .int .i64 0], .pointer (some ⟨g22, 0, none⟩), .int .i64 0, undef, undef, undef, undef, undef, undef, undef, undef, undef, undef, undef, undef, undef, undef, undef, undef, undef, undef, undef, undef, undef, undef, undef, undef, undef, undef, undef, undef, undef, undef, undef, undef, undef, undef, undef, undef, undef, undef, undef, undef, undef, undef, undef, undef, undef, undef, undef, undef, undef, undef, undef, undef, undef, undef, undef, undef, undef, undef, undef, undef, undef, undef, undef, undef, undef, undef, undef, undef, undef, undef, undef, undef, undef, undef, undef, undef, undef, undef, undef, undef, undef, undef, undef, undef, undef, undef, undef, undef, undef, undef], []⟩) (by kernel_rfl) ?_
        refine wp_seq_k (fun K27 hK27 => ?_)
        refine wl_region ?_
        refine st_val (.slice A l.length c) (by kernel_rfl) (by kernel_rfl) ?_
        refine st_callR (A := []) (B := ((rT g22 v23 (endOf l) 0 TB24) ++ [])) M26 (by kernel_rfl) (run_value_call 29 #[(Operand.tmp 32)] _ rfl Try.func29 (by kernel_rfl) (by kernel_rfl) _ (by kernel_rfl)) (openM W19 (.slice A l.length c) l (hr.keep M26.keep (fun _ _ h => h)) hb (by omega) hne hla) ?_
        intro v28 T29 W30 O31 M32
        have M32 : Mem NoS w W30 ((T29 ++ ((rT g22 v23 (endOf l) 0 TB24) ++ []))) := M32
        obtain ⟨g33, rfl, O34⟩ := O31
        refine st_val (.tuple #[.pointer (some ⟨g33, 0, none⟩), .int .i64 0]) (by kernel_rfl) (by kernel_rfl) ?_
        refine st_val (.pointer (some ⟨g33, 0, none⟩)) (by kernel_rfl) (by kernel_rfl) ?_
        refine st_val (.int .i64 0) (by kernel_rfl) (by kernel_rfl) ?_
        refine st_val (.pointer (some ⟨g33, 0, none⟩)) (by kernel_rfl) (by kernel_rfl) ?_
        refine st_val (.int .i64 0) (by kernel_rfl) (by kernel_rfl) ?_
        refine wl_nil ?_
        refine hK27 _ _ ?_
        try clear hK27 K27
        refine wp_seq_k (fun K35 hK35 => ?_)
        refine wp_seq_k (fun K36 hK36 => ?_)
        refine wl_region ?_
        refine st_val (.int .i64 0) (by kernel_rfl) (by kernel_rfl) ?_
        refine st_val (.int .i64 0) (by kernel_rfl) (by kernel_rfl) ?_
        refine st_val (.bool false) (by kernel_rfl) (by kernel_rfl) ?_
        refine st_val (.bool false) (by kernel_rfl) (by kernel_rfl) ?_
        refine st_val (.int .i64 0) (by kernel_rfl) (by kernel_rfl) ?_
        refine st_val (.bool false) (by kernel_rfl) (by kernel_rfl) ?_
        refine st_val (.bool false) (by kernel_rfl) (by kernel_rfl) ?_
        refine wl_nil ?_
        refine hK36 _ _ ?_
        try clear hK36 K36
        refine wp_frame (a' := ⟨#[.slice A l.length c, .slice As sg.length cs, undef, undef, .bool false, .pointer (some ⟨g22, 0, none⟩), .int .i64 0, .pointer (some ⟨g33, 0, none⟩), .int .i64 0, undef, undef, undef, undef, undef, undef, undef, undef, undef, .slice A l.length c, .int .i64 ((l.length : Nat) : Int), .bool false, .bool false, .slice As sg.length cs, .int .i64 ((sg.length : Nat) : Int), .bool false, .bool false, .tuple #[.pointer (some ⟨g22, 0, none⟩), .int .i64 0], .slice A l.length c, .tuple #[.pointer (some ⟨g22, 0, none⟩), .int .i64 0], .pointer (some ⟨g22, 0, none⟩), .int .i64 0, .tuple #[.pointer (some ⟨g33, 0, none⟩), .int .i64 0], .slice A l.length c, .tuple #[.pointer (some ⟨g33, 0, none⟩), .int .i64 0], .pointer (some ⟨g33, 0, none⟩), .int .i64 0, .int .i64 0, .int .i64 0, .bool false, .bool false, .int .i64 0, .bool false, .bool false, undef, undef, undef, undef, undef, undef, undef, undef, undef, undef, undef, undef, undef, undef, undef, undef, undef, undef, undef, undef, undef, undef, undef, undef, undef, undef, undef, undef, undef, undef, undef, undef, undef, undef, undef, undef, undef, undef, undef, undef, undef, undef, undef, undef, undef, undef, undef, undef, undef, undef, undef, undef, undef, undef, undef, undef, undef, undef, undef, undef, undef, undef, undef, undef, undef, undef, undef, undef, undef, undef, undef, undef, undef, undef, undef, undef, undef, undef], []⟩) (by kernel_rfl) ?_
        refine wp_cond_false (by kernel_rfl) ?_
        refine wp_skip ?_
        refine hK35 _ _ ?_
        try clear hK35 K35
        refine wp_seq_k (fun K37 hK37 => ?_)
        refine wp_seq_k (fun K38 hK38 => ?_)
        refine wl_region ?_
        refine st_val (.int .i64 0) (by kernel_rfl) (by kernel_rfl) ?_
        refine wl_nil ?_
        refine hK38 _ _ ?_
        try clear hK38 K38
        refine wp_block ?_
        refine wp_loop_ghost (fun gn a' w' => ∃ (i : Nat) (a : Nat) (T1 : List (Nat × Obj)) (u39 : Nat → Value), ((i ≤ sg.length ∧ a ≤ endOf l ∧ OwnQ g33 ((unpack l).take (endOf l)) a T1) ∧ Mem NoS w w' ((T1 ++ ((rT g22 v23 (endOf l) a TB24) ++ [])))) ∧ gn = sg.length - i ∧ a' = ⟨#[.slice A l.length c, .slice As sg.length cs, undef, undef, (u39 4), .pointer (some ⟨g22, 0, none⟩), .int .i64 0, .pointer (some ⟨g33, 0, none⟩), .int .i64 0, .int .i64 ((i : Nat) : Int), (u39 10), (u39 11), (u39 12), (u39 13), undef, undef, undef, undef, .slice A l.length c, .int .i64 ((l.length : Nat) : Int), .bool false, .bool false, .slice As sg.length cs, .int .i64 ((sg.length : Nat) : Int), .bool false, .bool false, .tuple #[.pointer (some ⟨g22, 0, none⟩), .int .i64 0], .slice A l.length c, .tuple #[.pointer (some ⟨g22, 0, none⟩), .int .i64 0], .pointer (some ⟨g22, 0, none⟩), .int .i64 0, .tuple #[.pointer (some ⟨g33, 0, none⟩), .int .i64 0], .slice A l.length c, .tuple #[.pointer (some ⟨g33, 0, none⟩), .int .i64 0], .pointer (some ⟨g33, 0, none⟩), .int .i64 0, .int .i64 0, .int .i64 0, .bool false, .bool false, .int .i64 0, .bool false, .bool false, undef, undef, undef, undef, undef, undef, (u39 49), (u39 50), (u39 51), (u39 52), (u39 53), (u39 54), (u39 55), (u39 56), (u39 57), (u39 58), (u39 59), (u39 60), (u39 61), (u39 62), (u39 63), (u39 64), (u39 65), (u39 66), (u39 67), (u39 68), (u39 69), (u39 70), (u39 71), (u39 72), (u39 73), (u39 74), (u39 75), (u39 76), (u39 77), (u39 78), (u39 79), (u39 80), (u39 81), (u39 82), (u39 83), (u39 84), (u39 85), (u39 86), (u39 87), (u39 88), (u39 89), (u39 90), (u39 91), (u39 92), (u39 93), (u39 94), (u39 95), undef, undef, undef, undef, undef, undef, undef, undef, undef, undef, undef, undef, undef, undef, undef, undef, undef, undef, undef, undef, undef, undef, undef, undef, undef], []⟩) _ ⟨0, 0, T29, (fun zz => Array.getD #[.slice A l.length c, .slice As sg.length cs, undef, undef, .bool false, .pointer (some ⟨g22, 0, none⟩), .int .i64 0, .pointer (some ⟨g33, 0, none⟩), .int .i64 0, .int .i64 0, undef, undef, undef, undef, undef, undef, undef, undef, .slice A l.length c, .int .i64 ((l.length : Nat) : Int), .bool false, .bool false, .slice As sg.length cs, .int .i64 ((sg.length : Nat) : Int), .bool false, .bool false, .tuple #[.pointer (some ⟨g22, 0, none⟩), .int .i64 0], .slice A l.length c, .tuple #[.pointer (some ⟨g22, 0, none⟩), .int .i64 0], .pointer (some ⟨g22, 0, none⟩), .int .i64 0, .tuple #[.pointer (some ⟨g33, 0, none⟩), .int .i64 0], .slice A l.length c, .tuple #[.pointer (some ⟨g33, 0, none⟩), .int .i64 0], .pointer (some ⟨g33, 0, none⟩), .int .i64 0, .int .i64 0, .int .i64 0, .bool false, .bool false, .int .i64 0, .bool false, .bool false, undef, undef, undef, undef, undef, undef, undef, undef, undef, undef, undef, undef, undef, undef, undef, undef, undef, undef, undef, undef, undef, undef, undef, undef, undef, undef, undef, undef, undef, undef, undef, undef, undef, undef, undef, undef, undef, undef, undef, undef, undef, undef, undef, undef, undef, undef, undef, undef, undef, undef, undef, undef, undef, undef, undef, undef, undef, undef, undef, undef, undef, undef, undef, undef, undef, undef, undef, undef, undef, undef, undef, undef, undef, undef, undef, undef, undef, undef] zz undef), ⟨⟨by omega, by omega, O34⟩, M32⟩, rfl, (by kernel_rfl)⟩ ?_
        rintro gn _ W40 ⟨i, a, T1, u39, ⟨⟨ri, ra, O1⟩, M41⟩, rfl, rfl⟩
        refine wp_seq_k (fun K42 hK42 => ?_)
        refine wp_seq_k (fun K43 hK43 => ?_)
        refine wl_region ?_
        refine st_val (.int .i64 ((i : Nat) : Int)) (by kernel_rfl) (by kernel_rfl) ?_
        refine st_val (.slice As sg.length cs) (by kernel_rfl) (by kernel_rfl) ?_
        refine st_val (.int .i64 ((sg.length : Nat) : Int)) (by kernel_rfl) (by kernel_rfl) ?_
        rcases Decidable.em ((((i : Nat) : Int) : Int) < ((sg.length : Nat) : Int)) with c52 | c52
        ·
          refine st_val (.bool true) (by kernel_rfl) (bool_of (dec_t c52) (by kernel_rfl)) ?_
          refine wl_nil ?_
          refine hK43 _ _ ?_
          try clear hK43 K43
          refine wp_cond_true (by kernel_rfl) ?_
          refine wp_skip ?_
          refine hK42 _ _ ?_
          try clear hK42 K42
          refine wp_seq_k (fun K44 hK44 => ?_)
          refine wp_block ?_
          refine wp_seq_k (fun K45 hK45 => ?_)
          refine wl_region ?_
          refine st_val (.int .i64 0) (by kernel_rfl) (by kernel_rfl) ?_
          refine st_val (.int .i64 0) (by kernel_rfl) (by kernel_rfl) ?_
          refine wl_nil ?_
          refine hK45 _ _ ?_
          try clear hK45 K45
          refine wp_seq_k (fun K46 hK46 => ?_)
          refine wl_region ?_
          refine st_val (.int .i64 0) (by kernel_rfl) (by kernel_rfl) ?_
          refine st_val (.int .i64 0) (by kernel_rfl) (by kernel_rfl) ?_
          refine wl_nil ?_
          refine hK46 _ _ ?_
          try clear hK46 K46
          refine wp_seq_k (fun K47 hK47 => ?_)
          refine wp_seq_k (fun K48 hK48 => ?_)
          refine wl_region ?_
          refine st_val (.slice As sg.length cs) (by kernel_rfl) (by kernel_rfl) ?_
          refine st_val (.int .i64 ((i : Nat) : Int)) (by kernel_rfl) (by kernel_rfl) ?_
          obtain ⟨b49, o50, eA51⟩ := RdK.addr (hrs.keep M41.keep (fun _ _ h => h)) (j := i * 1) (by rw [bools_length]; omega)
          refine st_val (.pointer (some ⟨b49, o50 + i * 1, none⟩)) (by kernel_rfl) (run_indexSliceA 44 (.tmp 55) (.tmp 56) rfl As ⟨b49, o50, none⟩ eA51 sg.length cs .i64 i (by kernel_rfl) (by kernel_rfl) Try.underlying44 1 (by kernel_rfl) (by omega) ⟨b49, o50 + i * 1, none⟩ (addr_atK _ _ _ _)) ?_
          refine st_val (.bool (sg.getD i false)) (by kernel_rfl) (run_load_cell 4 (.tmp 57) rfl ⟨b49, o50 + i * 1, none⟩ (by kernel_rfl) _ ((hrs.keep M41.keep (fun _ _ h => h)).cellF eA51 (f := 0) (bools_get sg i (by omega))) (by kernel_rfl)) ?_
          refine wl_nil ?_
          refine hK48 _ _ ?_
          try clear hK48 K48
          refine wp_cond_split (t := sg.getD i false) (by kernel_rfl) (fun c52 => ?_) (fun c52 => ?_)
          ·
            refine wp_seq_k (fun K53 hK53 => ?_)
            refine wl_region ?_
            refine st_val (.pointer (some ⟨g22, 0, none⟩)) (by kernel_rfl) (by kernel_rfl) ?_
            have M54 : Mem NoS w W40 (((rT g22 v23 (endOf l) a TB24) ++ (T1 ++ []))) := M41.swap (A := []) (T := T1) (U := (rT g22 v23 (endOf l) a TB24)) (B := [])
            refine st_callU (A := []) (T := (rT g22 v23 (endOf l) a TB24)) (B := (T1 ++ [])) M54 (by kernel_rfl) (run_value_call 30 #[(Operand.tmp 60)] _ rfl Try.func30 (by kernel_rfl) (by kernel_rfl) _ (by kernel_rfl)) (takeS_walk W40 F25 (by omega) (Mem.part (A := []) (T := (rT g22 v23 (endOf l) a TB24)) (B := (T1 ++ [])) M54)) ?_
            intro v55 T56 W57 O58 M59
            obtain ⟨rfl, rfl⟩ := O58
            have M60 : Mem NoS w W57 (((rT g22 v23 (endOf l) (a + (tk (((unpack l).take (endOf l)).drop a)).2.2) TB24) ++ (T1 ++ []))) := M59
            refine st_val (.tuple #[.int .i64 (tks (((unpack l).take (endOf l)).drop a)), .int .i64 ((tk (((unpack l).take (endOf l)).drop a)).2.1)]) (by kernel_rfl) (by kernel_rfl) ?_
            refine st_val (.int .i64 (tks (((unpack l).take (endOf l)).drop a))) (by kernel_rfl) (by kernel_rfl) ?_
            refine st_val (.int .i64 ((tk (((unpack l).take (endOf l)).drop a)).2.1)) (by kernel_rfl) (by kernel_rfl) ?_
            refine st_val (.int .i64 (tks (((unpack l).take (endOf l)).drop a))) (by kernel_rfl) (by kernel_rfl) ?_
            refine st_val (.int .i64 ((tk (((unpack l).take (endOf l)).drop a)).2.1)) (by kernel_rfl) (by kernel_rfl) ?_
            refine wl_nil ?_
            refine hK53 _ _ ?_
            try clear hK53 K53
            refine wp_frame (a' := ⟨#[.slice A l.length c, .slice As sg.length cs, undef, undef, (u39 4), .pointer (some ⟨g22, 0, none⟩), .int .i64 0, .pointer (some ⟨g33, 0, none⟩), .int .i64 0, .int .i64 ((i : Nat) : Int), .int .i64 (tks (((unpack l).take (endOf l)).drop a)), .int .i64 ((tk (((unpack l).take (endOf l)).drop a)).2.1), .int .i64 0, .int .i64 0, undef, undef, undef, undef, .slice A l.length c, .int .i64 ((l.length : Nat) : Int), .bool false, .bool false, .slice As sg.length cs, .int .i64 ((sg.length : Nat) : Int), .bool false, .bool false, .tuple #[.pointer (some ⟨g22, 0, none⟩), .int .i64 0], .slice A l.length c, .tuple #[.pointer (some ⟨g22, 0, none⟩), .int .i64 0], .pointer (some ⟨g22, 0, none⟩), .int .i64 0, .tuple #[.pointer (some ⟨g33, 0, none⟩), .int .i64 0], .slice A l.length c, .tuple #[.pointer (some ⟨g33, 0, none⟩), .int .i64 0], .pointer (some ⟨g33, 0, none⟩), .int .i64 0, .int .i64 0, .int .i64 0, .bool false, .bool false, .int .i64 0, .bool false, .bool false, undef, undef, undef, undef, undef, undef, .int .i64 ((i : Nat) : Int), .slice As sg.length cs, .int .i64 ((sg.length : Nat) : Int), .bool true, (u39 53), (u39 54), .slice As sg.length cs, .int .i64 ((i : Nat) : Int), .pointer (some ⟨b49, o50 + i * 1, none⟩), .bool (sg.getD i false), .tuple #[.int .i64 (tks (((unpack l).take (endOf l)).drop a)), .int .i64 ((tk (((unpack l).take (endOf l)).drop a)).2.1)], .pointer (some ⟨g22, 0, none⟩), .tuple #[.int .i64 (tks (((unpack l).take (endOf l)).drop a)), .int .i64 ((tk (((unpack l).take (endOf l)).drop a)).2.1)], .int .i64 (tks (((unpack l).take (endOf l)).drop a)), .int .i64 ((tk (((unpack l).take (endOf l)).drop a)).2.1), (u39 64), (u39 65), (u39 66), (u39 67), (u39 68), (u39 69), (u39 70), (u39 71), (u39 72), (u39 73), (u39 74), (u39 75), (u39 76), (u39 77), (u39 78), (u39 79), (u39 80), (u39 81), (u39 82), (u39 83), (u39 84), (u39 85), (u39 86), (u39 87), (u39 88), (u39 89), (u39 90), (u39 91), (u39 92), (u39 93), (u39 94), (u39 95), undef, undef, undef, undef, undef, undef, undef, undef, undef, undef, undef, undef, undef, undef, undef, undef, undef, undef, undef, undef, undef, undef, undef, undef, undef], []⟩) (by kernel_rfl) ?_
            refine wl_region ?_
            refine st_val (.pointer (some ⟨g33, 0, none⟩)) (by kernel_rfl) (by kernel_rfl) ?_
            have M61 : Mem NoS w W57 ((T1 ++ ((rT g22 v23 (endOf l) (a + (tk (((unpack l).take (endOf l)).drop a)).2.2) TB24) ++ []))) := M60.swap (A := []) (T := (rT g22 v23 (endOf l) (a + (tk (((unpack l).take (endOf l)).drop a)).2.2) TB24)) (U := T1) (B := [])
            refine st_callU (A := []) (T := T1) (B := ((rT g22 v23 (endOf l) (a + (tk (((unpack l).take (endOf l)).drop a)).2.2) TB24) ++ [])) M61 (by kernel_rfl) (run_value_call 31 #[(Operand.tmp 65)] _ rfl Try.func31 (by kernel_rfl) (by kernel_rfl) _ (by kernel_rfl)) (qtks_walk W57 O1 (Mem.part (A := []) (T := T1) (B := ((rT g22 v23 (endOf l) (a + (tk (((unpack l).take (endOf l)).drop a)).2.2) TB24) ++ [])) M61)) ?_
            intro v62 T63 W64 O65 M66
            obtain ⟨rfl, O67⟩ := O65
            have M68 : Mem NoS w W64 ((T63 ++ ((rT g22 v23 (endOf l) (a + (tk (((unpack l).take (endOf l)).drop a)).2.2) TB24) ++ []))) := M66
            refine st_val (.tuple #[.int .i64 (tks (((unpack l).take (endOf l)).drop a)), .int .i64 ((tk (((unpack l).take (endOf l)).drop a)).2.1)]) (by kernel_rfl) (by kernel_rfl) ?_
            refine st_val (.int .i64 (tks (((unpack l).take (endOf l)).drop a))) (by kernel_rfl) (by kernel_rfl) ?_
            refine st_val (.int .i64 ((tk (((unpack l).take (endOf l)).drop a)).2.1)) (by kernel_rfl) (by kernel_rfl) ?_
            refine st_val (.int .i64 (tks (((unpack l).take (endOf l)).drop a))) (by kernel_rfl) (by kernel_rfl) ?_
            refine st_val (.int .i64 ((tk (((unpack l).take (endOf l)).drop a)).2.1)) (by kernel_rfl) (by kernel_rfl) ?_
            refine wl_nil ?_
            refine hK47 _ _ ?_
            try clear hK47 K47
            refine wp_seq_k (fun K69 hK69 => ?_)
            have O76 := O67
            obtain ⟨v70, TB71, rfl, h72, h73, h74, h75⟩ := O67
            have M77 : Mem NoS w W64 ((g33, .cells #[v70, .int .i64 ((a + (tk (((unpack l).take (endOf l)).drop a)).2.2 : Nat) : Int)] 50 (0, 0)) :: (TB71 ++ ((rT g22 v23 (endOf l) (a + (tk (((unpack l).take (endOf l)).drop a)).2.2) TB24) ++ []))) := M68
            refine wl_seq 17 (fun w' => Mem NoS w w' ((g33, .cells #[v70, .int .i64 ((a + (tk (((unpack l).take (endOf l)).drop a)).2.2 : Nat) : Int)] 50 (0, 0)) :: (TB71 ++ ((rT g22 v23 (endOf l) (a + (tk (((unpack l).take (endOf l)).drop a)).2.2) TB24) ++ [])))) (by decide) (by kernel_rfl) (by kernel_rfl) M77.drew ?_
            refine seq_run (v := .int .i64 (tks (((unpack l).take (endOf l)).drop a))) (by decide) (by kernel_rfl) (fun w' M' => (by kernel_rfl)) ?_
            refine seq_run (v := .int .i64 (tks (((unpack l).take (endOf l)).drop a))) (by decide) (by kernel_rfl) (fun w' M' => (by kernel_rfl)) ?_
            refine seq_run (v := .bool false) (by decide) (by kernel_rfl) (fun w' M' => (bool_of (neq_f (show (tks (((unpack l).take (endOf l)).drop a) : Int) = tks (((unpack l).take (endOf l)).drop a) from rfl)) (by kernel_rfl))) ?_
            refine seq_run (v := .bool false) (by decide) (by kernel_rfl) (fun w' M' => (by kernel_rfl)) ?_
            refine seq_run (v := .int .i64 ((tk (((unpack l).take (endOf l)).drop a)).2.1)) (by decide) (by kernel_rfl) (fun w' M' => (by kernel_rfl)) ?_
            refine seq_run (v := .int .i64 ((tk (((unpack l).take (endOf l)).drop a)).2.1)) (by decide) (by kernel_rfl) (fun w' M' => (by kernel_rfl)) ?_
            refine seq_run (v := .bool false) (by decide) (by kernel_rfl) (fun w' M' => (bool_of (neq_f (show ((tk (((unpack l).take (endOf l)).drop a)).2.1 : Int) = (tk (((unpack l).take (endOf l)).drop a)).2.1 from rfl)) (by kernel_rfl))) ?_
            refine seq_run (v := .bool false) (by decide) (by kernel_rfl) (fun w' M' => (by kernel_rfl)) ?_
            refine seq_run (v := .bool false) (by decide) (by kernel_rfl) (fun w' M' => (by kernel_rfl)) ?_
            refine seq_run (v := .pointer (some ⟨g22, 0, none⟩)) (by decide) (by kernel_rfl) (fun w' M' => (by kernel_rfl)) ?_
            refine seq_call (v := .int .i64 ((a + (tk (((unpack l).take (endOf l)).drop a)).2.2 : Nat) : Int)) (f := 33) (args := #[.pointer (some ⟨g22, 0, none⟩)]) (by decide) (by kernel_rfl) (fun w' M' => (run_value_call 33 #[(Operand.tmp 88)] _ rfl Try.func33 (by kernel_rfl) (by kernel_rfl) _ (by kernel_rfl))) (fun w' M' => callE_mem M' (rAtM w' F25 (by first | omega | (have hle := O76.le.1; rw [F25.llen] at hle; exact hle)) (Mem.part (A := [(g33, .cells #[v70, .int .i64 ((a + (tk (((unpack l).take (endOf l)).drop a)).2.2 : Nat) : Int)] 50 (0, 0))]) (T := (rT g22 v23 (endOf l) (a + (tk (((unpack l).take (endOf l)).drop a)).2.2) TB24)) (B := (TB71 ++ [])) (Mem.pull (A := [(g33, .cells #[v70, .int .i64 ((a + (tk (((unpack l).take (endOf l)).drop a)).2.2 : Nat) : Int)] 50 (0, 0))]) [TB71] (rT g22 v23 (endOf l) (a + (tk (((unpack l).take (endOf l)).drop a)).2.2) TB24) [] M')))) ?_
            refine seq_run (v := .pointer (some ⟨g33, 0, none⟩)) (by decide) (by kernel_rfl) (fun w' M' => (by kernel_rfl)) ?_
            refine seq_run (v := .pointer (some ⟨g33, 0, none⟩)) (by decide) (by kernel_rfl) (fun w' M' => (by kernel_rfl)) ?_
            refine seq_run (v := .pointer (some ⟨g33, 1, none⟩)) (by decide) (by kernel_rfl) (fun w' M' => (by kernel_rfl)) ?_
            refine seq_run (v := .int .i64 ((a + (tk (((unpack l).take (endOf l)).drop a)).2.2 : Nat) : Int)) (by decide) (by kernel_rfl) (fun w' M' => (run_load_cell 3 (.tmp 92) rfl ⟨g33, 1, none⟩ (by kernel_rfl) _ (M'.cell 0 rfl 1 _ rfl) (by kernel_rfl))) ?_
            refine seq_run (v := .bool false) (by decide) (by kernel_rfl) (fun w' M' => (bool_of (neq_f (show (((a + (tk (((unpack l).take (endOf l)).drop a)).2.2 : Nat) : Int) : Int) = ((a + (tk (((unpack l).take (endOf l)).drop a)).2.2 : Nat) : Int) from rfl)) (by kernel_rfl))) ?_
            refine seq_run (v := .bool false) (by decide) (by kernel_rfl) (fun w' M' => (by kernel_rfl)) ?_
            refine seq_end (by decide) ?_
            intro W78 M79
            refine wl_nil ?_
            refine hK69 _ _ ?_
            try clear hK69 K69
            refine wp_frame (a' := ⟨#[.slice A l.length c, .slice As sg.length cs, undef, undef, (u39 4), .pointer (some ⟨g22, 0, none⟩), .int .i64 0, .pointer (some ⟨g33, 0, none⟩), .int .i64 0, .int .i64 ((i : Nat) : Int), .int .i64 (tks (((unpack l).take (endOf l)).drop a)), .int .i64 ((tk (((unpack l).take (endOf l)).drop a)).2.1), .int .i64 (tks (((unpack l).take (endOf l)).drop a)), .int .i64 ((tk (((unpack l).take (endOf l)).drop a)).2.1), undef, undef, undef, undef, .slice A l.length c, .int .i64 ((l.length : Nat) : Int), .bool false, .bool false, .slice As sg.length cs, .int .i64 ((sg.length : Nat) : Int), .bool false, .bool false, .tuple #[.pointer (some ⟨g22, 0, none⟩), .int .i64 0], .slice A l.length c, .tuple #[.pointer (some ⟨g22, 0, none⟩), .int .i64 0], .pointer (some ⟨g22, 0, none⟩), .int .i64 0, .tuple #[.pointer (some ⟨g33, 0, none⟩), .int .i64 0], .slice A l.length c, .tuple #[.pointer (some ⟨g33, 0, none⟩), .int .i64 0], .pointer (some ⟨g33, 0, none⟩), .int .i64 0, .int .i64 0, .int .i64 0, .bool false, .bool false, .int .i64 0, .bool false, .bool false, undef, undef, undef, undef, undef, undef, .int .i64 ((i : Nat) : Int), .slice As sg.length cs, .int .i64 ((sg.length : Nat) : Int), .bool true, (u39 53), (u39 54), .slice As sg.length cs, .int .i64 ((i : Nat) : Int), .pointer (some ⟨b49, o50 + i * 1, none⟩), .bool (sg.getD i false), .tuple #[.int .i64 (tks (((unpack l).take (endOf l)).drop a)), .int .i64 ((tk (((unpack l).take (endOf l)).drop a)).2.1)], .pointer (some ⟨g22, 0, none⟩), .tuple #[.int .i64 (tks (((unpack l).take (endOf l)).drop a)), .int .i64 ((tk (((unpack l).take (endOf l)).drop a)).2.1)], .int .i64 (tks (((unpack l).take (endOf l)).drop a)), .int .i64 ((tk (((unpack l).take (endOf l)).drop a)).2.1), .tuple #[.int .i64 (tks (((unpack l).take (endOf l)).drop a)), .int .i64 ((tk (((unpack l).take (endOf l)).drop a)).2.1)], .pointer (some ⟨g33, 0, none⟩), .tuple #[.int .i64 (tks (((unpack l).take (endOf l)).drop a)), .int .i64 ((tk (((unpack l).take (endOf l)).drop a)).2.1)], .int .i64 (tks (((unpack l).take (endOf l)).drop a)), .int .i64 ((tk (((unpack l).take (endOf l)).drop a)).2.1), (u39 69), (u39 70), (u39 71), (u39 72), (u39 73), (u39 74), (u39 75), (u39 76), (u39 77), (u39 78), .int .i64 (tks (((unpack l).take (endOf l)).drop a)), .int .i64 (tks (((unpack l).take (endOf l)).drop a)), .bool false, .bool false, .int .i64 ((tk (((unpack l).take (endOf l)).drop a)).2.1), .int .i64 ((tk (((unpack l).take (endOf l)).drop a)).2.1), .bool false, .bool false, .bool false, .pointer (some ⟨g22, 0, none⟩), .int .i64 ((a + (tk (((unpack l).take (endOf l)).drop a)).2.2 : Nat) : Int), .pointer (some ⟨g33, 0, none⟩), .pointer (some ⟨g33, 0, none⟩), .pointer (some ⟨g33, 1, none⟩), .int .i64 ((a + (tk (((unpack l).take (endOf l)).drop a)).2.2 : Nat) : Int), .bool false, .bool false, undef, undef, undef, undef, undef, undef, undef, undef, undef, undef, undef, undef, undef, undef, undef, undef, undef, undef, undef, undef, undef, undef, undef, undef, undef], []⟩) (by kernel_rfl) ?_
            refine wp_cond_false (by kernel_rfl) ?_
            refine wp_skip ?_
            refine blk_normal ?_
            refine hK44 _ _ ?_
            try clear hK44 K44
            refine wl_region ?_
            refine st_val (.int .i64 ((i : Nat) : Int)) (by kernel_rfl) (by kernel_rfl) ?_
            refine st_val (.int .i64 (((i : Nat) : Int) + 1)) (by kernel_rfl) (i64_of (by omega) (by kernel_rfl)) ?_
            refine st_val (.int .i64 (((i : Nat) : Int) + 1)) (by kernel_rfl) (by kernel_rfl) ?_
            refine wl_nil ?_
            refine th_normal ?_
            have M80 : Mem NoS w W78 ((((g33, .cells #[v70, .int .i64 ((a + (tk (((unpack l).take (endOf l)).drop a)).2.2 : Nat) : Int)] 50 (0, 0)) :: TB71) ++ ((rT g22 v23 (endOf l) (a + (tk (((unpack l).take (endOf l)).drop a)).2.2) TB24) ++ []))) := M79
            have hle := O76.le.1
            rw [F25.llen] at hle
            exact ⟨_, by omega, (i + 1), (a + (tk (((unpack l).take (endOf l)).drop a)).2.2), ((g33, .cells #[v70, .int .i64 ((a + (tk (((unpack l).take (endOf l)).drop a)).2.2 : Nat) : Int)] 50 (0, 0)) :: TB71), (fun zz => Array.getD #[.slice A l.length c, .slice As sg.length cs, undef, undef, (u39 4), .pointer (some ⟨g22, 0, none⟩), .int .i64 0, .pointer (some ⟨g33, 0, none⟩), .int .i64 0, .int .i64 (((i : Nat) : Int) + 1), .int .i64 (tks (((unpack l).take (endOf l)).drop a)), .int .i64 ((tk (((unpack l).take (endOf l)).drop a)).2.1), .int .i64 (tks (((unpack l).take (endOf l)).drop a)), .int .i64 ((tk (((unpack l).take (endOf l)).drop a)).2.1), undef, undef, undef, undef, .slice A l.length c, .int .i64 ((l.length : Nat) : Int), .bool false, .bool false, .slice As sg.length cs, .int .i64 ((sg.length : Nat) : Int), .bool false, .bool false, .tuple #[.pointer (some ⟨g22, 0, none⟩), .int .i64 0], .slice A l.length c, .tuple #[.pointer (some ⟨g22, 0, none⟩), .int .i64 0], .pointer (some ⟨g22, 0, none⟩), .int .i64 0, .tuple #[.pointer (some ⟨g33, 0, none⟩), .int .i64 0], .slice A l.length c, .tuple #[.pointer (some ⟨g33, 0, none⟩), .int .i64 0], .pointer (some ⟨g33, 0, none⟩), .int .i64 0, .int .i64 0, .int .i64 0, .bool false, .bool false, .int .i64 0, .bool false, .bool false, undef, undef, undef, undef, undef, undef, .int .i64 ((i : Nat) : Int), .slice As sg.length cs, .int .i64 ((sg.length : Nat) : Int), .bool true, .int .i64 ((i : Nat) : Int), .int .i64 (((i : Nat) : Int) + 1), .slice As sg.length cs, .int .i64 ((i : Nat) : Int), .pointer (some ⟨b49, o50 + i * 1, none⟩), .bool (sg.getD i false), .tuple #[.int .i64 (tks (((unpack l).take (endOf l)).drop a)), .int .i64 ((tk (((unpack l).take (endOf l)).drop a)).2.1)], .pointer (some ⟨g22, 0, none⟩), .tuple #[.int .i64 (tks (((unpack l).take (endOf l)).drop a)), .int .i64 ((tk (((unpack l).take (endOf l)).drop a)).2.1)], .int .i64 (tks (((unpack l).take (endOf l)).drop a)), .int .i64 ((tk (((unpack l).take (endOf l)).drop a)).2.1), .tuple #[.int .i64 (tks (((unpack l).take (endOf l)).drop a)), .int .i64 ((tk (((unpack l).take (endOf l)).drop a)).2.1)], .pointer (some ⟨g33, 0, none⟩), .tuple #[.int .i64 (tks (((unpack l).take (endOf l)).drop a)), .int .i64 ((tk (((unpack l).take (endOf l)).drop a)).2.1)], .int .i64 (tks (((unpack l).take (endOf l)).drop a)), .int .i64 ((tk (((unpack l).take (endOf l)).drop a)).2.1), (u39 69), (u39 70), (u39 71), (u39 72), (u39 73), (u39 74), (u39 75), (u39 76), (u39 77), (u39 78), .int .i64 (tks (((unpack l).take (endOf l)).drop a)), .int .i64 (tks (((unpack l).take (endOf l)).drop a)), .bool false, .bool false, .int .i64 ((tk (((unpack l).take (endOf l)).drop a)).2.1), .int .i64 ((tk (((unpack l).take (endOf l)).drop a)).2.1), .bool false, .bool false, .bool false, .pointer (some ⟨g22, 0, none⟩), .int .i64 ((a + (tk (((unpack l).take (endOf l)).drop a)).2.2 : Nat) : Int), .pointer (some ⟨g33, 0, none⟩), .pointer (some ⟨g33, 0, none⟩), .pointer (some ⟨g33, 1, none⟩), .int .i64 ((a + (tk (((unpack l).take (endOf l)).drop a)).2.2 : Nat) : Int), .bool false, .bool false, undef, undef, undef, undef, undef, undef, undef, undef, undef, undef, undef, undef, undef, undef, undef, undef, undef, undef, undef, undef, undef, undef, undef, undef, undef] zz undef), ⟨⟨by omega, hle, O76⟩, M80⟩, rfl, (by kernel_rfl)⟩
          ·
            refine wp_seq_k (fun K81 hK81 => ?_)
            refine wl_region ?_
            refine st_val (.pointer (some ⟨g22, 0, none⟩)) (by kernel_rfl) (by kernel_rfl) ?_
            have M82 : Mem NoS w W40 (((rT g22 v23 (endOf l) a TB24) ++ (T1 ++ []))) := M41.swap (A := []) (T := T1) (U := (rT g22 v23 (endOf l) a TB24)) (B := [])
            refine st_callU (A := []) (T := (rT g22 v23 (endOf l) a TB24)) (B := (T1 ++ [])) M82 (by kernel_rfl) (run_value_call 27 #[(Operand.tmp 70)] _ rfl Try.func27 (by kernel_rfl) (by kernel_rfl) _ (by kernel_rfl)) (takeU_walk W40 F25 (by first | omega | (have hle := O76.le.1; rw [F25.llen] at hle; exact hle)) (Mem.part (A := []) (T := (rT g22 v23 (endOf l) a TB24)) (B := (T1 ++ [])) M82)) ?_
            intro v83 T84 W85 O86 M87
            obtain ⟨rfl, rfl⟩ := O86
            have M88 : Mem NoS w W85 (((rT g22 v23 (endOf l) (a + (tk (((unpack l).take (endOf l)).drop a)).2.2) TB24) ++ (T1 ++ []))) := M87
            refine st_val (.tuple #[.int .i64 ((tk (((unpack l).take (endOf l)).drop a)).1), .int .i64 ((tk (((unpack l).take (endOf l)).drop a)).2.1)]) (by kernel_rfl) (by kernel_rfl) ?_
            refine st_val (.int .i64 ((tk (((unpack l).take (endOf l)).drop a)).1)) (by kernel_rfl) (by kernel_rfl) ?_
            refine st_val (.int .i64 ((tk (((unpack l).take (endOf l)).drop a)).2.1)) (by kernel_rfl) (by kernel_rfl) ?_
            refine st_val (.int .i64 ((tk (((unpack l).take (endOf l)).drop a)).1)) (by kernel_rfl) (by kernel_rfl) ?_
            refine st_val (.int .i64 ((tk (((unpack l).take (endOf l)).drop a)).2.1)) (by kernel_rfl) (by kernel_rfl) ?_
            refine wl_nil ?_
            refine hK81 _ _ ?_
            try clear hK81 K81
            refine wp_frame (a' := ⟨#[.slice A l.length c, .slice As sg.length cs, undef, undef, (u39 4), .pointer (some ⟨g22, 0, none⟩), .int .i64 0, .pointer (some ⟨g33, 0, none⟩), .int .i64 0, .int .i64 ((i : Nat) : Int), .int .i64 ((tk (((unpack l).take (endOf l)).drop a)).1), .int .i64 ((tk (((unpack l).take (endOf l)).drop a)).2.1), .int .i64 0, .int .i64 0, undef, undef, undef, undef, .slice A l.length c, .int .i64 ((l.length : Nat) : Int), .bool false, .bool false, .slice As sg.length cs, .int .i64 ((sg.length : Nat) : Int), .bool false, .bool false, .tuple #[.pointer (some ⟨g22, 0, none⟩), .int .i64 0], .slice A l.length c, .tuple #[.pointer (some ⟨g22, 0, none⟩), .int .i64 0], .pointer (some ⟨g22, 0, none⟩), .int .i64 0, .tuple #[.pointer (some ⟨g33, 0, none⟩), .int .i64 0], .slice A l.length c, .tuple #[.pointer (some ⟨g33, 0, none⟩), .int .i64 0], .pointer (some ⟨g33, 0, none⟩), .int .i64 0, .int .i64 0, .int .i64 0, .bool false, .bool false, .int .i64 0, .bool false, .bool false, undef, undef, undef, undef, undef, undef, .int .i64 ((i : Nat) : Int), .slice As sg.length cs, .int .i64 ((sg.length : Nat) : Int), .bool true, (u39 53), (u39 54), .slice As sg.length cs, .int .i64 ((i : Nat) : Int), .pointer (some ⟨b49, o50 + i * 1, none⟩), .bool (sg.getD i false), (u39 59), (u39 60), (u39 61), (u39 62), (u39 63), (u39 64), (u39 65), (u39 66), (u39 67), (u39 68), .tuple #[.int .i64 ((tk (((unpack l).take (endOf l)).drop a)).1), .int .i64 ((tk (((unpack l).take (endOf l)).drop a)).2.1)], .pointer (some ⟨g22, 0, none⟩), .tuple #[.int .i64 ((tk (((unpack l).take (endOf l)).drop a)).1), .int .i64 ((tk (((unpack l).take (endOf l)).drop a)).2.1)], .int .i64 ((tk (((unpack l).take (endOf l)).drop a)).1), .int .i64 ((tk (((unpack l).take (endOf l)).drop a)).2.1), (u39 74), (u39 75), (u39 76), (u39 77), (u39 78), (u39 79), (u39 80), (u39 81), (u39 82), (u39 83), (u39 84), (u39 85), (u39 86), (u39 87), (u39 88), (u39 89), (u39 90), (u39 91), (u39 92), (u39 93), (u39 94), (u39 95), undef, undef, undef, undef, undef, undef, undef, undef, undef, undef, undef, undef, undef, undef, undef, undef, undef, undef, undef, undef, undef, undef, undef, undef, undef], []⟩) (by kernel_rfl) ?_
            refine wl_region ?_
            refine st_val (.pointer (some ⟨g33, 0, none⟩)) (by kernel_rfl) (by kernel_rfl) ?_
            have M89 : Mem NoS w W85 ((T1 ++ ((rT g22 v23 (endOf l) (a + (tk (((unpack l).take (endOf l)).drop a)).2.2) TB24) ++ []))) := M88.swap (A := []) (T := (rT g22 v23 (endOf l) (a + (tk (((unpack l).take (endOf l)).drop a)).2.2) TB24)) (U := T1) (B := [])
            refine st_callU (A := []) (T := T1) (B := ((rT g22 v23 (endOf l) (a + (tk (((unpack l).take (endOf l)).drop a)).2.2) TB24) ++ [])) M89 (by kernel_rfl) (run_value_call 32 #[(Operand.tmp 75)] _ rfl Try.func32 (by kernel_rfl) (by kernel_rfl) _ (by kernel_rfl)) (qtk_walk W85 O1 (Mem.part (A := []) (T := T1) (B := ((rT g22 v23 (endOf l) (a + (tk (((unpack l).take (endOf l)).drop a)).2.2) TB24) ++ [])) M89)) ?_
            intro v90 T91 W92 O93 M94
            obtain ⟨rfl, O95⟩ := O93
            have M96 : Mem NoS w W92 ((T91 ++ ((rT g22 v23 (endOf l) (a + (tk (((unpack l).take (endOf l)).drop a)).2.2) TB24) ++ []))) := M94
            refine st_val (.tuple #[.int .i64 ((tk (((unpack l).take (endOf l)).drop a)).1), .int .i64 ((tk (((unpack l).take (endOf l)).drop a)).2.1)]) (by kernel_rfl) (by kernel_rfl) ?_
            refine st_val (.int .i64 ((tk (((unpack l).take (endOf l)).drop a)).1)) (by kernel_rfl) (by kernel_rfl) ?_
            refine st_val (.int .i64 ((tk (((unpack l).take (endOf l)).drop a)).2.1)) (by kernel_rfl) (by kernel_rfl) ?_
            refine st_val (.int .i64 ((tk (((unpack l).take (endOf l)).drop a)).1)) (by kernel_rfl) (by kernel_rfl) ?_
            refine st_val (.int .i64 ((tk (((unpack l).take (endOf l)).drop a)).2.1)) (by kernel_rfl) (by kernel_rfl) ?_
            refine wl_nil ?_
            refine hK47 _ _ ?_
            try clear hK47 K47
            refine wp_seq_k (fun K97 hK97 => ?_)
            have O104 := O95
            obtain ⟨v98, TB99, rfl, h100, h101, h102, h103⟩ := O95
            have M105 : Mem NoS w W92 ((g33, .cells #[v98, .int .i64 ((a + (tk (((unpack l).take (endOf l)).drop a)).2.2 : Nat) : Int)] 50 (0, 0)) :: (TB99 ++ ((rT g22 v23 (endOf l) (a + (tk (((unpack l).take (endOf l)).drop a)).2.2) TB24) ++ []))) := M96
            refine wl_seq 17 (fun w' => Mem NoS w w' ((g33, .cells #[v98, .int .i64 ((a + (tk (((unpack l).take (endOf l)).drop a)).2.2 : Nat) : Int)] 50 (0, 0)) :: (TB99 ++ ((rT g22 v23 (endOf l) (a + (tk (((unpack l).take (endOf l)).drop a)).2.2) TB24) ++ [])))) (by decide) (by kernel_rfl) (by kernel_rfl) M105.drew ?_
            refine seq_run (v := .int .i64 ((tk (((unpack l).take (endOf l)).drop a)).1)) (by decide) (by kernel_rfl) (fun w' M' => (by kernel_rfl)) ?_
            refine seq_run (v := .int .i64 ((tk (((unpack l).take (endOf l)).drop a)).1)) (by decide) (by kernel_rfl) (fun w' M' => (by kernel_rfl)) ?_
            refine seq_run (v := .bool false) (by decide) (by kernel_rfl) (fun w' M' => (bool_of (neq_f (show ((tk (((unpack l).take (endOf l)).drop a)).1 : Int) = (tk (((unpack l).take (endOf l)).drop a)).1 from rfl)) (by kernel_rfl))) ?_
            refine seq_run (v := .bool false) (by decide) (by kernel_rfl) (fun w' M' => (by kernel_rfl)) ?_
            refine seq_run (v := .int .i64 ((tk (((unpack l).take (endOf l)).drop a)).2.1)) (by decide) (by kernel_rfl) (fun w' M' => (by kernel_rfl)) ?_
            refine seq_run (v := .int .i64 ((tk (((unpack l).take (endOf l)).drop a)).2.1)) (by decide) (by kernel_rfl) (fun w' M' => (by kernel_rfl)) ?_
            refine seq_run (v := .bool false) (by decide) (by kernel_rfl) (fun w' M' => (bool_of (neq_f (show ((tk (((unpack l).take (endOf l)).drop a)).2.1 : Int) = (tk (((unpack l).take (endOf l)).drop a)).2.1 from rfl)) (by kernel_rfl))) ?_
            refine seq_run (v := .bool false) (by decide) (by kernel_rfl) (fun w' M' => (by kernel_rfl)) ?_
            refine seq_run (v := .bool false) (by decide) (by kernel_rfl) (fun w' M' => (by kernel_rfl)) ?_
            refine seq_run (v := .pointer (some ⟨g22, 0, none⟩)) (by decide) (by kernel_rfl) (fun w' M' => (by kernel_rfl)) ?_
            refine seq_call (v := .int .i64 ((a + (tk (((unpack l).take (endOf l)).drop a)).2.2 : Nat) : Int)) (f := 33) (args := #[.pointer (some ⟨g22, 0, none⟩)]) (by decide) (by kernel_rfl) (fun w' M' => (run_value_call 33 #[(Operand.tmp 88)] _ rfl Try.func33 (by kernel_rfl) (by kernel_rfl) _ (by kernel_rfl))) (fun w' M' => callE_mem M' (rAtM w' F25 (by first | omega | (have hle := O104.le.1; rw [F25.llen] at hle; exact hle)) (Mem.part (A := [(g33, .cells #[v98, .int .i64 ((a + (tk (((unpack l).take (endOf l)).drop a)).2.2 : Nat) : Int)] 50 (0, 0))]) (T := (rT g22 v23 (endOf l) (a + (tk (((unpack l).take (endOf l)).drop a)).2.2) TB24)) (B := (TB99 ++ [])) (Mem.pull (A := [(g33, .cells #[v98, .int .i64 ((a + (tk (((unpack l).take (endOf l)).drop a)).2.2 : Nat) : Int)] 50 (0, 0))]) [TB99] (rT g22 v23 (endOf l) (a + (tk (((unpack l).take (endOf l)).drop a)).2.2) TB24) [] M')))) ?_
            refine seq_run (v := .pointer (some ⟨g33, 0, none⟩)) (by decide) (by kernel_rfl) (fun w' M' => (by kernel_rfl)) ?_
            refine seq_run (v := .pointer (some ⟨g33, 0, none⟩)) (by decide) (by kernel_rfl) (fun w' M' => (by kernel_rfl)) ?_
            refine seq_run (v := .pointer (some ⟨g33, 1, none⟩)) (by decide) (by kernel_rfl) (fun w' M' => (by kernel_rfl)) ?_
            refine seq_run (v := .int .i64 ((a + (tk (((unpack l).take (endOf l)).drop a)).2.2 : Nat) : Int)) (by decide) (by kernel_rfl) (fun w' M' => (run_load_cell 3 (.tmp 92) rfl ⟨g33, 1, none⟩ (by kernel_rfl) _ (M'.cell 0 rfl 1 _ rfl) (by kernel_rfl))) ?_
            refine seq_run (v := .bool false) (by decide) (by kernel_rfl) (fun w' M' => (bool_of (neq_f (show (((a + (tk (((unpack l).take (endOf l)).drop a)).2.2 : Nat) : Int) : Int) = ((a + (tk (((unpack l).take (endOf l)).drop a)).2.2 : Nat) : Int) from rfl)) (by kernel_rfl))) ?_
            refine seq_run (v := .bool false) (by decide) (by kernel_rfl) (fun w' M' => (by kernel_rfl)) ?_
            refine seq_end (by decide) ?_
            intro W106 M107
            refine wl_nil ?_
            refine hK97 _ _ ?_
            try clear hK97 K97
            refine wp_frame (a' := ⟨#[.slice A l.length c, .slice As sg.length cs, undef, undef, (u39 4), .pointer (some ⟨g22, 0, none⟩), .int .i64 0, .pointer (some ⟨g33, 0, none⟩), .int .i64 0, .int .i64 ((i : Nat) : Int), .int .i64 ((tk (((unpack l).take (endOf l)).drop a)).1), .int .i64 ((tk (((unpack l).take (endOf l)).drop a)).2.1), .int .i64 ((tk (((unpack l).take (endOf l)).drop a)).1), .int .i64 ((tk (((unpack l).take (endOf l)).drop a)).2.1), undef, undef, undef, undef, .slice A l.length c, .int .i64 ((l.length : Nat) : Int), .bool false, .bool false, .slice As sg.length cs, .int .i64 ((sg.length : Nat) : Int), .bool false, .bool false, .tuple #[.pointer (some ⟨g22, 0, none⟩), .int .i64 0], .slice A l.length c, .tuple #[.pointer (some ⟨g22, 0, none⟩), .int .i64 0], .pointer (some ⟨g22, 0, none⟩), .int .i64 0, .tuple #[.pointer (some ⟨g33, 0, none⟩), .int .i64 0], .slice A l.length c, .tuple #[.pointer (some ⟨g33, 0, none⟩), .int .i64 0], .pointer (some ⟨g33, 0, none⟩), .int .i64 0, .int .i64 0, .int .i64 0, .bool false, .bool false, .int .i64 0, .bool false, .bool false, undef, undef, undef, undef, undef, undef, .int .i64 ((i : Nat) : Int), .slice As sg.length cs, .int .i64 ((sg.length : Nat) : Int), .bool true, (u39 53), (u39 54), .slice As sg.length cs, .int .i64 ((i : Nat) : Int), .pointer (some ⟨b49, o50 + i * 1, none⟩), .bool (sg.getD i false), (u39 59), (u39 60), (u39 61), (u39 62), (u39 63), (u39 64), (u39 65), (u39 66), (u39 67), (u39 68), .tuple #[.int .i64 ((tk (((unpack l).take (endOf l)).drop a)).1), .int .i64 ((tk (((unpack l).take (endOf l)).drop a)).2.1)], .pointer (some ⟨g22, 0, none⟩), .tuple #[.int .i64 ((tk (((unpack l).take (endOf l)).drop a)).1), .int .i64 ((tk (((unpack l).take (endOf l)).drop a)).2.1)], .int .i64 ((tk (((unpack l).take (endOf l)).drop a)).1), .int .i64 ((tk (((unpack l).take (endOf l)).drop a)).2.1), .tuple #[.int .i64 ((tk (((unpack l).take (endOf l)).drop a)).1), .int .i64 ((tk (((unpack l).take (endOf l)).drop a)).2.1)], .pointer (some ⟨g33, 0, none⟩), .tuple #[.int .i64 ((tk (((unpack l).take (endOf l)).drop a)).1), .int .i64 ((tk (((unpack l).take (endOf l)).drop a)).2.1)], .int .i64 ((tk (((unpack l).take (endOf l)).drop a)).1), .int .i64 ((tk (((unpack l).take (endOf l)).drop a)).2.1), .int .i64 ((tk (((unpack l).take (endOf l)).drop a)).1), .int .i64 ((tk (((unpack l).take (endOf l)).drop a)).1), .bool false, .bool false, .int .i64 ((tk (((unpack l).take (endOf l)).drop a)).2.1), .int .i64 ((tk (((unpack l).take (endOf l)).drop a)).2.1), .bool false, .bool false, .bool false, .pointer (some ⟨g22, 0, none⟩), .int .i64 ((a + (tk (((unpack l).take (endOf l)).drop a)).2.2 : Nat) : Int), .pointer (some ⟨g33, 0, none⟩), .pointer (some ⟨g33, 0, none⟩), .pointer (some ⟨g33, 1, none⟩), .int .i64 ((a + (tk (((unpack l).take (endOf l)).drop a)).2.2 : Nat) : Int), .bool false, .bool false, undef, undef, undef, undef, undef, undef, undef, undef, undef, undef, undef, undef, undef, undef, undef, undef, undef, undef, undef, undef, undef, undef, undef, undef, undef], []⟩) (by kernel_rfl) ?_
            refine wp_cond_false (by kernel_rfl) ?_
            refine wp_skip ?_
            refine blk_normal ?_
            refine hK44 _ _ ?_
            try clear hK44 K44
            refine wl_region ?_
            refine st_val (.int .i64 ((i : Nat) : Int)) (by kernel_rfl) (by kernel_rfl) ?_
            refine st_val (.int .i64 (((i : Nat) : Int) + 1)) (by kernel_rfl) (i64_of (by omega) (by kernel_rfl)) ?_
            refine st_val (.int .i64 (((i : Nat) : Int) + 1)) (by kernel_rfl) (by kernel_rfl) ?_
            refine wl_nil ?_
            refine th_normal ?_
            have M108 : Mem NoS w W106 ((((g33, .cells #[v98, .int .i64 ((a + (tk (((unpack l).take (endOf l)).drop a)).2.2 : Nat) : Int)] 50 (0, 0)) :: TB99) ++ ((rT g22 v23 (endOf l) (a + (tk (((unpack l).take (endOf l)).drop a)).2.2) TB24) ++ []))) := M107
            have hle := O104.le.1
            rw [F25.llen] at hle
            exact ⟨_, by omega, (i + 1), (a + (tk (((unpack l).take (endOf l)).drop a)).2.2), ((g33, .cells #[v98, .int .i64 ((a + (tk (((unpack l).take (endOf l)).drop a)).2.2 : Nat) : Int)] 50 (0, 0)) :: TB99), (fun zz => Array.getD #[.slice A l.length c, .slice As sg.length cs, undef, undef, (u39 4), .pointer (some ⟨g22, 0, none⟩), .int .i64 0, .pointer (some ⟨g33, 0, none⟩), .int .i64 0, .int .i64 (((i : Nat) : Int) + 1), .int .i64 ((tk (((unpack l).take (endOf l)).drop a)).1), .int .i64 ((tk (((unpack l).take (endOf l)).drop a)).2.1), .int .i64 ((tk (((unpack l).take (endOf l)).drop a)).1), .int .i64 ((tk (((unpack l).take (endOf l)).drop a)).2.1), undef, undef, undef, undef, .slice A l.length c, .int .i64 ((l.length : Nat) : Int), .bool false, .bool false, .slice As sg.length cs, .int .i64 ((sg.length : Nat) : Int), .bool false, .bool false, .tuple #[.pointer (some ⟨g22, 0, none⟩), .int .i64 0], .slice A l.length c, .tuple #[.pointer (some ⟨g22, 0, none⟩), .int .i64 0], .pointer (some ⟨g22, 0, none⟩), .int .i64 0, .tuple #[.pointer (some ⟨g33, 0, none⟩), .int .i64 0], .slice A l.length c, .tuple #[.pointer (some ⟨g33, 0, none⟩), .int .i64 0], .pointer (some ⟨g33, 0, none⟩), .int .i64 0, .int .i64 0, .int .i64 0, .bool false, .bool false, .int .i64 0, .bool false, .bool false, undef, undef, undef, undef, undef, undef, .int .i64 ((i : Nat) : Int), .slice As sg.length cs, .int .i64 ((sg.length : Nat) : Int), .bool true, .int .i64 ((i : Nat) : Int), .int .i64 (((i : Nat) : Int) + 1), .slice As sg.length cs, .int .i64 ((i : Nat) : Int), .pointer (some ⟨b49, o50 + i * 1, none⟩), .bool (sg.getD i false), (u39 59), (u39 60), (u39 61), (u39 62), (u39 63), (u39 64), (u39 65), (u39 66), (u39 67), (u39 68), .tuple #[.int .i64 ((tk (((unpack l).take (endOf l)).drop a)).1), .int .i64 ((tk (((unpack l).take (endOf l)).drop a)).2.1)], .pointer (some ⟨g22, 0, none⟩), .tuple #[.int .i64 ((tk (((unpack l).take (endOf l)).drop a)).1), .int .i64 ((tk (((unpack l).take (endOf l)).drop a)).2.1)], .int .i64 ((tk (((unpack l).take (endOf l)).drop a)).1), .int .i64 ((tk (((unpack l).take (endOf l)).drop a)).2.1), .tuple #[.int .i64 ((tk (((unpack l).take (endOf l)).drop a)).1), .int .i64 ((tk (((unpack l).take (endOf l)).drop a)).2.1)], .pointer (some ⟨g33, 0, none⟩), .tuple #[.int .i64 ((tk (((unpack l).take (endOf l)).drop a)).1), .int .i64 ((tk (((unpack l).take (endOf l)).drop a)).2.1)], .int .i64 ((tk (((unpack l).take (endOf l)).drop a)).1), .int .i64 ((tk (((unpack l).take (endOf l)).drop a)).2.1), .int .i64 ((tk (((unpack l).take (endOf l)).drop a)).1), .int .i64 ((tk (((unpack l).take (endOf l)).drop a)).1), .bool false, .bool false, .int .i64 ((tk (((unpack l).take (endOf l)).drop a)).2.1), .int .i64 ((tk (((unpack l).take (endOf l)).drop a)).2.1), .bool false, .bool false, .bool false, .pointer (some ⟨g22, 0, none⟩), .int .i64 ((a + (tk (((unpack l).take (endOf l)).drop a)).2.2 : Nat) : Int), .pointer (some ⟨g33, 0, none⟩), .pointer (some ⟨g33, 0, none⟩), .pointer (some ⟨g33, 1, none⟩), .int .i64 ((a + (tk (((unpack l).take (endOf l)).drop a)).2.2 : Nat) : Int), .bool false, .bool false, undef, undef, undef, undef, undef, undef, undef, undef, undef, undef, undef, undef, undef, undef, undef, undef, undef, undef, undef, undef, undef, undef, undef, undef, undef] zz undef), ⟨⟨by omega, hle, O104⟩, M108⟩, rfl, (by kernel_rfl)⟩
        ·
          refine st_val (.bool false) (by kernel_rfl) (bool_of (dec_f c52) (by kernel_rfl)) ?_
          refine wl_nil ?_
          refine hK43 _ _ ?_
          try clear hK43 K43
          refine wp_cond_false (by kernel_rfl) ?_
          refine wp_exit ?_
          refine th_exit ?_
          refine th_exit ?_
          refine blk_exit ?_
          refine hK37 _ _ ?_
          try clear hK37 K37
          refine wp_seq_k (fun K109 hK109 => ?_)
          refine wl_region ?_
          refine st_callB M41 (.tuple #[.int .i64 0, .int .i64 1]) (by kernel_rfl) (args := #[(Go.Value.pointer none)]) (run_value_call 27 #[(Operand.const (Value.pointer none))] _ rfl Try.func27 (by kernel_rfl) (by kernel_rfl) _ (by kernel_rfl)) (takeU_nil W40) ?_
          intro W110 M111
          refine st_val (.tuple #[.int .i64 0, .int .i64 1]) (by kernel_rfl) (by kernel_rfl) ?_
          refine st_val (.int .i64 0) (by kernel_rfl) (by kernel_rfl) ?_
          refine st_val (.int .i64 1) (by kernel_rfl) (by kernel_rfl) ?_
          refine st_val (.int .i64 0) (by kernel_rfl) (by kernel_rfl) ?_
          refine st_val (.int .i64 1) (by kernel_rfl) (by kernel_rfl) ?_
          refine wl_nil ?_
          refine hK109 _ _ ?_
          try clear hK109 K109
          refine wp_seq_k (fun K112 hK112 => ?_)
          refine wl_region ?_
          refine st_callB M111 (.tuple #[.int .i64 0, .int .i64 1]) (by kernel_rfl) (args := #[(Go.Value.pointer none)]) (run_value_call 30 #[(Operand.const (Value.pointer none))] _ rfl Try.func30 (by kernel_rfl) (by kernel_rfl) _ (by kernel_rfl)) (takeS_nil W110) ?_
          intro W113 M114
          refine st_val (.tuple #[.int .i64 0, .int .i64 1]) (by kernel_rfl) (by kernel_rfl) ?_
          refine st_val (.int .i64 0) (by kernel_rfl) (by kernel_rfl) ?_
          refine st_val (.int .i64 1) (by kernel_rfl) (by kernel_rfl) ?_
          refine st_val (.int .i64 0) (by kernel_rfl) (by kernel_rfl) ?_
          refine st_val (.int .i64 1) (by kernel_rfl) (by kernel_rfl) ?_
          refine wl_nil ?_
          refine hK112 _ _ ?_
          try clear hK112 K112
          refine wp_frame (a' := ⟨#[.slice A l.length c, .slice As sg.length cs, undef, undef, (u39 4), .pointer (some ⟨g22, 0, none⟩), .int .i64 0, .pointer (some ⟨g33, 0, none⟩), .int .i64 0, .int .i64 ((i : Nat) : Int), (u39 10), (u39 11), (u39 12), (u39 13), .int .i64 0, .int .i64 1, .int .i64 0, .int .i64 1, .slice A l.length c, .int .i64 ((l.length : Nat) : Int), .bool false, .bool false, .slice As sg.length cs, .int .i64 ((sg.length : Nat) : Int), .bool false, .bool false, .tuple #[.pointer (some ⟨g22, 0, none⟩), .int .i64 0], .slice A l.length c, .tuple #[.pointer (some ⟨g22, 0, none⟩), .int .i64 0], .pointer (some ⟨g22, 0, none⟩), .int .i64 0, .tuple #[.pointer (some ⟨g33, 0, none⟩), .int .i64 0], .slice A l.length c, .tuple #[.pointer (some ⟨g33, 0, none⟩), .int .i64 0], .pointer (some ⟨g33, 0, none⟩), .int .i64 0, .int .i64 0, .int .i64 0, .bool false, .bool false, .int .i64 0, .bool false, .bool false, undef, undef, undef, undef, undef, undef, .int .i64 ((i : Nat) : Int), .slice As sg.length cs, .int .i64 ((sg.length : Nat) : Int), .bool false, (u39 53), (u39 54), (u39 55), (u39 56), (u39 57), (u39 58), (u39 59), (u39 60), (u39 61), (u39 62), (u39 63), (u39 64), (u39 65), (u39 66), (u39 67), (u39 68), (u39 69), (u39 70), (u39 71), (u39 72), (u39 73), (u39 74), (u39 75), (u39 76), (u39 77), (u39 78), (u39 79), (u39 80), (u39 81), (u39 82), (u39 83), (u39 84), (u39 85), (u39 86), (u39 87), (u39 88), (u39 89), (u39 90), (u39 91), (u39 92), (u39 93), (u39 94), (u39 95), .tuple #[.int .i64 0, .int .i64 1], .tuple #[.int .i64 0, .int .i64 1], .int .i64 0, .int .i64 1, .tuple #[.int .i64 0, .int .i64 1], .tuple #[.int .i64 0, .int .i64 1], .int .i64 0, .int .i64 1, undef, undef, undef, undef, undef, undef, undef, undef, undef, undef, undef, undef, undef, undef, undef, undef, undef], []⟩) (by kernel_rfl) ?_
          refine wp_seq_k (fun K115 hK115 => ?_)
          refine wl_region ?_
          refine st_callB M114 (.bool true) (by kernel_rfl) (args := #[]) (run_value_call 10 #[] _ rfl Try.func10 (by kernel_rfl) (by kernel_rfl) _ (by kernel_rfl)) (awake_walk W113) ?_
          intro W116 M117
          refine st_val (.bool true) (by kernel_rfl) (by kernel_rfl) ?_
          refine st_val (.int .i64 0) (by kernel_rfl) (by kernel_rfl) ?_
          refine st_val (.bool true) (by kernel_rfl) (by kernel_rfl) ?_
          refine st_val (.bool true) (by kernel_rfl) (by kernel_rfl) ?_
          refine st_val (.bool true) (by kernel_rfl) (by kernel_rfl) ?_
          refine st_val (.int .i64 0) (by kernel_rfl) (by kernel_rfl) ?_
          refine st_val (.bool true) (by kernel_rfl) (by kernel_rfl) ?_
          refine st_val (.bool true) (by kernel_rfl) (by kernel_rfl) ?_
          refine st_val (.bool true) (by kernel_rfl) (by kernel_rfl) ?_
          refine st_val (.int .i64 1) (by kernel_rfl) (by kernel_rfl) ?_
          refine st_val (.bool true) (by kernel_rfl) (by kernel_rfl) ?_
          refine st_val (.bool true) (by kernel_rfl) (by kernel_rfl) ?_
          refine st_val (.bool true) (by kernel_rfl) (by kernel_rfl) ?_
          refine st_val (.int .i64 1) (by kernel_rfl) (by kernel_rfl) ?_
          refine st_val (.bool true) (by kernel_rfl) (by kernel_rfl) ?_
          refine st_val (.bool true) (by kernel_rfl) (by kernel_rfl) ?_
          refine st_val (.bool true) (by kernel_rfl) (by kernel_rfl) ?_
          refine wl_nil ?_
          refine hK115 _ _ ?_
          try clear hK115 K115
          refine wp_frame (a' := ⟨#[.slice A l.length c, .slice As sg.length cs, undef, undef, .bool true, .pointer (some ⟨g22, 0, none⟩), .int .i64 0, .pointer (some ⟨g33, 0, none⟩), .int .i64 0, .int .i64 ((i : Nat) : Int), (u39 10), (u39 11), (u39 12), (u39 13), .int .i64 0, .int .i64 1, .int .i64 0, .int .i64 1, .slice A l.length c, .int .i64 ((l.length : Nat) : Int), .bool false, .bool false, .slice As sg.length cs, .int .i64 ((sg.length : Nat) : Int), .bool false, .bool false, .tuple #[.pointer (some ⟨g22, 0, none⟩), .int .i64 0], .slice A l.length c, .tuple #[.pointer (some ⟨g22, 0, none⟩), .int .i64 0], .pointer (some ⟨g22, 0, none⟩), .int .i64 0, .tuple #[.pointer (some ⟨g33, 0, none⟩), .int .i64 0], .slice A l.length c, .tuple #[.pointer (some ⟨g33, 0, none⟩), .int .i64 0], .pointer (some ⟨g33, 0, none⟩), .int .i64 0, .int .i64 0, .int .i64 0, .bool false, .bool false, .int .i64 0, .bool false, .bool false, undef, undef, undef, undef, undef, undef, .int .i64 ((i : Nat) : Int), .slice As sg.length cs, .int .i64 ((sg.length : Nat) : Int), .bool false, (u39 53), (u39 54), (u39 55), (u39 56), (u39 57), (u39 58), (u39 59), (u39 60), (u39 61), (u39 62), (u39 63), (u39 64), (u39 65), (u39 66), (u39 67), (u39 68), (u39 69), (u39 70), (u39 71), (u39 72), (u39 73), (u39 74), (u39 75), (u39 76), (u39 77), (u39 78), (u39 79), (u39 80), (u39 81), (u39 82), (u39 83), (u39 84), (u39 85), (u39 86), (u39 87), (u39 88), (u39 89), (u39 90), (u39 91), (u39 92), (u39 93), (u39 94), (u39 95), .tuple #[.int .i64 0, .int .i64 1], .tuple #[.int .i64 0, .int .i64 1], .int .i64 0, .int .i64 1, .tuple #[.int .i64 0, .int .i64 1], .tuple #[.int .i64 0, .int .i64 1], .int .i64 0, .int .i64 1, .bool true, .bool true, .int .i64 0, .bool true, .bool true, .bool true, .int .i64 0, .bool true, .bool true, .bool true, .int .i64 1, .bool true, .bool true, .bool true, .int .i64 1, .bool true, .bool true], []⟩) (by kernel_rfl) ?_
          refine wp_ret ?_
          exact done1 4 (.bool true) (by kernel_rfl) (by kernel_rfl) (by kernel_rfl) ⟨rfl, M117.toBelow⟩
end Go.Proofs.Ytkmnnfmdjgpflaa
