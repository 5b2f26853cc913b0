/- The reference codes a block. -/
import Derived.Test.YtmimljaniliecaaAo
namespace Go.Proofs.Ytmimljaniliecaa
open Go.RowKit Bt

theorem pbL_lt (ls : List (List Int)) : ∀ x ∈ pbL ls, x < 256 := by
  rcases Classical.em (BP ls) with h | h
  · rw [(pb_t h).1]; exact summedB_lt (blk_lt0 h)
  · rw [(pb_f h).1]; intro x hx; simp at hx
set_option maxHeartbeats 4000000 in
set_option maxRecDepth 100000 in
theorem block_walk (w : World) (v : Value) (ls : List (List Int)) (As : Nat → Option Addr) (cs : Nat → Nat) (hP : RdP w v ls As cs) (hl4 : ls.length ≤ 1000000) : Calls Try.prog 48 #[v] w fun e w' => e = .returned (.bool (decide (BP ls))) ∧ Below w.heap.size w w' := by
  obtain ⟨A, c, rfl, hc⟩ := hP.rd.shape
  have hPk := hP
  refine calls_of_wp Try.func48 rfl ?_
  refine wp_frame (a' := ⟨#[.slice A ls.length c, undef, undef, undef, undef, undef, undef, undef, undef, undef, undef, undef, undef, undef, undef, undef, undef, undef, undef], []⟩) (by kernel_rfl) ?_
  have M0 : Mem NoS w w [] := Mem.start _ _
  refine wp_seq_k (fun K1 hK1 => ?_)
  refine wl_region ?_
  refine st_val (.bool false) (by kernel_rfl) (by kernel_rfl) ?_
  refine wl_nil ?_
  refine hK1 _ _ ?_
  try clear hK1 K1
  refine wp_seq_k (fun K2 hK2 => ?_)
  refine wl_region ?_
  refine st_val (.slice A ls.length c) (by kernel_rfl) (by kernel_rfl) ?_
  rcases Bool.eq_false_or_eq_true (ppB ls) with hpp | hpp
  ·
    obtain ⟨hp1, hp2, hp3⟩ := ppB_of hpp
    refine st_callB M0 (.bool true) (by kernel_rfl) (args := #[.slice A ls.length c]) (run_value_call 31 #[(Operand.tmp 3)] _ rfl Try.func31 (by kernel_rfl) (by kernel_rfl) _ (by kernel_rfl)) ((by have := refProper_walk w (.slice A ls.length c) ls As cs (hP.keep M0.keep (fun _ h => h)) (by omega); rw [hpp] at this; exact this)) ?_
    intro W3 M4
    refine st_val (.bool true) (by kernel_rfl) (by kernel_rfl) ?_
    refine st_val (.slice A ls.length c) (by kernel_rfl) (by kernel_rfl) ?_
    obtain ⟨b5, o6, eA7⟩ := RdK.addr (hP.rd.keep M4.keep (fun _ _ h => h)) (j := 0 * 1) (by rw [pvs_length]; omega)
    refine st_val (.pointer (some ⟨b5, o6 + 0 * 1, none⟩)) (by kernel_rfl) (run_indexSliceA 28 (.tmp 6) _ rfl A ⟨b5, o6, none⟩ eA7 ls.length c .i64 0 (by kernel_rfl) (by kernel_rfl) Try.underlying28 1 (by kernel_rfl) (by omega) ⟨b5, o6 + 0 * 1, none⟩ (addr_atK _ _ _ _)) ?_
    refine st_val (.slice (As 0) ((ls.getD 0 []).length) (cs 0)) (by kernel_rfl) (run_load_cell 39 (.tmp 7) rfl ⟨b5, o6 + 0 * 1, none⟩ (by kernel_rfl) _ ((hP.rd.keep M4.keep (fun _ _ h => h)).cellF eA7 (f := 0) (pvs_get ls As cs 0 (by omega))) (by kernel_rfl)) ?_
    refine st_val (.int .i64 (((ls.getD 0 []).length : Nat) : Int)) (by kernel_rfl) (by kernel_rfl) ?_
    rcases Decidable.em (((((ls.getD 0 []).length : Nat) : Int) : Int) ≥ 1) with c10 | c10
    ·
      refine st_val (.bool true) (by kernel_rfl) (bool_of (dec_t c10) (by kernel_rfl)) ?_
      refine st_val (.bool true) (by kernel_rfl) (by kernel_rfl) ?_
      refine st_val (.bool true) (by kernel_rfl) (by kernel_rfl) ?_
      refine st_val (.slice A ls.length c) (by kernel_rfl) (by kernel_rfl) ?_
      obtain ⟨b8, o9, eA10⟩ := RdK.addr (hP.rd.keep M4.keep (fun _ _ h => h)) (j := 0 * 1) (by rw [pvs_length]; omega)
      refine st_val (.pointer (some ⟨b8, o9 + 0 * 1, none⟩)) (by kernel_rfl) (run_indexSliceA 28 (.tmp 13) _ rfl A ⟨b8, o9, none⟩ eA10 ls.length c .i64 0 (by kernel_rfl) (by kernel_rfl) Try.underlying28 1 (by kernel_rfl) (by omega) ⟨b8, o9 + 0 * 1, none⟩ (addr_atK _ _ _ _)) ?_
      refine st_val (.slice (As 0) ((ls.getD 0 []).length) (cs 0)) (by kernel_rfl) (run_load_cell 39 (.tmp 14) rfl ⟨b8, o9 + 0 * 1, none⟩ (by kernel_rfl) _ ((hP.rd.keep M4.keep (fun _ _ h => h)).cellF eA10 (f := 0) (pvs_get ls As cs 0 (by omega))) (by kernel_rfl)) ?_
      refine st_val (.int .i64 (((ls.getD 0 []).length : Nat) : Int)) (by kernel_rfl) (by kernel_rfl) ?_
      rcases Decidable.em (((((ls.getD 0 []).length : Nat) : Int) : Int) ≤ 32) with c17 | c17
      ·
        refine st_val (.bool true) (by kernel_rfl) (bool_of (dec_t c17) (by kernel_rfl)) ?_
        refine st_val (.bool true) (by kernel_rfl) (by kernel_rfl) ?_
        refine st_val (.bool true) (by kernel_rfl) (by kernel_rfl) ?_
        refine wl_nil ?_
        refine hK2 _ _ ?_
        try clear hK2 K2
        refine wp_frame (a' := ⟨#[.slice A ls.length c, undef, .bool true, .slice A ls.length c, .bool true, .bool true, .slice A ls.length c, .pointer (some ⟨b5, o6 + 0 * 1, none⟩), .slice (As 0) ((ls.getD 0 []).length) (cs 0), .int .i64 (((ls.getD 0 []).length : Nat) : Int), .bool true, .bool true, .bool true, .slice A ls.length c, .pointer (some ⟨b8, o9 + 0 * 1, none⟩), .slice (As 0) ((ls.getD 0 []).length) (cs 0), .int .i64 (((ls.getD 0 []).length : Nat) : Int), .bool true, .bool true], []⟩) (by kernel_rfl) ?_
        refine wp_ret ?_
        exact done1 2 (.bool true) (by kernel_rfl) (by kernel_rfl) (by kernel_rfl) ⟨by rw [decide_eq_true (⟨⟨hp1, hp2, hp3⟩, by omega, by omega⟩ : BP ls)], M4.toBelow⟩
      ·
        refine st_val (.bool false) (by kernel_rfl) (bool_of (dec_f c17) (by kernel_rfl)) ?_
        refine st_val (.bool false) (by kernel_rfl) (by kernel_rfl) ?_
        refine st_val (.bool false) (by kernel_rfl) (by kernel_rfl) ?_
        refine wl_nil ?_
        refine hK2 _ _ ?_
        try clear hK2 K2
        refine wp_frame (a' := ⟨#[.slice A ls.length c, undef, .bool false, .slice A ls.length c, .bool true, .bool true, .slice A ls.length c, .pointer (some ⟨b5, o6 + 0 * 1, none⟩), .slice (As 0) ((ls.getD 0 []).length) (cs 0), .int .i64 (((ls.getD 0 []).length : Nat) : Int), .bool true, .bool true, .bool true, .slice A ls.length c, .pointer (some ⟨b8, o9 + 0 * 1, none⟩), .slice (As 0) ((ls.getD 0 []).length) (cs 0), .int .i64 (((ls.getD 0 []).length : Nat) : Int), .bool false, .bool false], []⟩) (by kernel_rfl) ?_
        refine wp_ret ?_
        exact done1 2 (.bool false) (by kernel_rfl) (by kernel_rfl) (by kernel_rfl) ⟨by rw [decide_eq_false (fun h : BP ls => by first | exact hpn h.1 | (have h1 := h.2.1; have h2 := h.2.2; omega))], M4.toBelow⟩
    ·
      refine st_val (.bool false) (by kernel_rfl) (bool_of (dec_f c10) (by kernel_rfl)) ?_
      refine st_val (.bool false) (by kernel_rfl) (by kernel_rfl) ?_
      refine st_val (.bool false) (by kernel_rfl) (by kernel_rfl) ?_
      refine st_skip (by kernel_rfl) ?_
      refine st_skip (by kernel_rfl) ?_
      refine st_skip (by kernel_rfl) ?_
      refine st_skip (by kernel_rfl) ?_
      refine st_skip (by kernel_rfl) ?_
      refine st_val (.bool false) (by kernel_rfl) (by kernel_rfl) ?_
      refine st_val (.bool false) (by kernel_rfl) (by kernel_rfl) ?_
      refine wl_nil ?_
      refine hK2 _ _ ?_
      try clear hK2 K2
      refine wp_frame (a' := ⟨#[.slice A ls.length c, undef, .bool false, .slice A ls.length c, .bool true, .bool true, .slice A ls.length c, .pointer (some ⟨b5, o6 + 0 * 1, none⟩), .slice (As 0) ((ls.getD 0 []).length) (cs 0), .int .i64 (((ls.getD 0 []).length : Nat) : Int), .bool false, .bool false, .bool false, undef, undef, undef, undef, undef, .bool false], []⟩) (by kernel_rfl) ?_
      refine wp_ret ?_
      exact done1 2 (.bool false) (by kernel_rfl) (by kernel_rfl) (by kernel_rfl) ⟨by rw [decide_eq_false (fun h : BP ls => by first | exact hpn h.1 | (have h1 := h.2.1; have h2 := h.2.2; omega))], M4.toBelow⟩
  ·
    have hpn := ppB_not hpp
    refine st_callB M0 (.bool false) (by kernel_rfl) (args := #[.slice A ls.length c]) (run_value_call 31 #[(Operand.tmp 3)] _ rfl Try.func31 (by kernel_rfl) (by kernel_rfl) _ (by kernel_rfl)) ((by have := refProper_walk w (.slice A ls.length c) ls As cs (hP.keep M0.keep (fun _ h => h)) (by omega); rw [hpp] at this; exact this)) ?_
    intro W11 M12
    refine st_val (.bool false) (by kernel_rfl) (by kernel_rfl) ?_
    refine st_skip (by kernel_rfl) ?_
    refine st_skip (by kernel_rfl) ?_
    refine st_skip (by kernel_rfl) ?_
    refine st_skip (by kernel_rfl) ?_
    refine st_skip (by kernel_rfl) ?_
    refine st_val (.bool false) (by kernel_rfl) (by kernel_rfl) ?_
    refine st_val (.bool false) (by kernel_rfl) (by kernel_rfl) ?_
    refine st_skip (by kernel_rfl) ?_
    refine st_skip (by kernel_rfl) ?_
    refine st_skip (by kernel_rfl) ?_
    refine st_skip (by kernel_rfl) ?_
    refine st_skip (by kernel_rfl) ?_
    refine st_val (.bool false) (by kernel_rfl) (by kernel_rfl) ?_
    refine st_val (.bool false) (by kernel_rfl) (by kernel_rfl) ?_
    refine wl_nil ?_
    refine hK2 _ _ ?_
    try clear hK2 K2
    refine wp_frame (a' := ⟨#[.slice A ls.length c, undef, .bool false, .slice A ls.length c, .bool false, .bool false, undef, undef, undef, undef, undef, .bool false, .bool false, undef, undef, undef, undef, undef, .bool false], []⟩) (by kernel_rfl) ?_
    refine wp_ret ?_
    exact done1 2 (.bool false) (by kernel_rfl) (by kernel_rfl) (by kernel_rfl) ⟨by rw [decide_eq_false (fun h : BP ls => by first | exact hpn h.1 | (have h1 := h.2.1; have h2 := h.2.2; omega))], M12.toBelow⟩
set_option maxHeartbeats 4000000 in
set_option maxRecDepth 100000 in
theorem refPutB_walk (w : World) (v : Value) (ls : List (List Int)) (As : Nat → Option Addr) (cs : Nat → Nat) (hP : RdP w v ls As cs) (hsp : SP ls) (hl4 : ls.length ≤ 1000000) : MakesRow Try.prog 22 #[v] w (fun v T => ∃ v1 m, v = .tuple #[v1, .int .i64 (pbE ls)] ∧ m = (pbL ls).length ∧ Own 5 1 v1 m (u8s (pbL ls)) T) := by
  unfold MakesRow
  obtain ⟨A, c, rfl, hc⟩ := hP.rd.shape
  have hPk := hP
  refine calls_of_wp Try.func22 rfl ?_
  refine wp_frame (a' := ⟨#[.slice A ls.length c, undef, undef, undef, undef, undef, undef, undef, undef, undef, undef, undef, undef, undef, undef, undef, undef, undef, undef, undef, undef, undef, undef, undef, undef, undef, undef, undef, undef, undef, undef, undef, undef, undef, undef, undef, undef, undef, undef, undef, undef, undef, undef, undef, undef, undef, undef, undef, undef, undef, undef, undef, undef, undef, undef, undef, undef, undef, undef, undef, undef, undef, undef, undef, undef, undef, undef, undef, undef], []⟩) (by kernel_rfl) ?_
  have M0 : Mem NoS w w [] := Mem.start _ _
  refine wp_seq_k (fun K1 hK1 => ?_)
  refine wl_region ?_
  refine st_val ((Go.Value.slice none 0 0)) (by kernel_rfl) (by kernel_rfl) ?_
  refine st_val (.int .i64 0) (by kernel_rfl) (by kernel_rfl) ?_
  refine wl_nil ?_
  refine hK1 _ _ ?_
  try clear hK1 K1
  refine wp_seq_k (fun K2 hK2 => ?_)
  refine wp_seq_k (fun K3 hK3 => ?_)
  refine wl_region ?_
  refine st_val (.slice A ls.length c) (by kernel_rfl) (by kernel_rfl) ?_
  rcases Bool.eq_false_or_eq_true (decide (BP ls)) with hbp | hbp
  ·
    have hBP := of_decide_eq_true hbp
    refine st_callB M0 (.bool true) (by kernel_rfl) (args := #[.slice A ls.length c]) (run_value_call 48 #[(Operand.tmp 9)] _ rfl Try.func48 (by kernel_rfl) (by kernel_rfl) _ (by kernel_rfl)) ((by have := block_walk w (.slice A ls.length c) ls As cs (hP.keep M0.keep (fun _ h => h)) (by omega); rw [hbp] at this; exact this)) ?_
    intro W4 M5
    refine st_val (.bool false) (by kernel_rfl) (by kernel_rfl) ?_
    refine wl_nil ?_
    refine hK3 _ _ ?_
    try clear hK3 K3
    refine wp_cond_false (by kernel_rfl) ?_
    refine wp_skip ?_
    refine hK2 _ _ ?_
    try clear hK2 K2
    refine wp_seq_k (fun K6 hK6 => ?_)
    obtain ⟨⟨hp1, hp2, hp3⟩, hq1, hq2⟩ := (show BP ls from hBP)
    refine wl_region ?_
    refine st_val ((Go.Value.slice none 0 0)) (by kernel_rfl) (by kernel_rfl) ?_
    refine wl_nil ?_
    refine hK6 _ _ ?_
    try clear hK6 K6
    refine wp_seq_k (fun K7 hK7 => ?_)
    refine wp_seq_k (fun K8 hK8 => ?_)
    refine wl_region ?_
    refine st_val (.int .i64 0) (by kernel_rfl) (by kernel_rfl) ?_
    refine wl_nil ?_
    refine hK8 _ _ ?_
    try clear hK8 K8
    refine wp_block ?_
    refine wp_loop_ghost (fun gn a' w' => ∃ (i : Nat) (m : Nat) (A1 : Option Addr) (c1 : Nat) (T1 : List (Nat × Obj)) (u9 : Nat → Value), ((i ≤ ls.length ∧ m = 292 * i ∧ Own 5 1 (.slice A1 m c1) m (u8s (blB ls i)) T1) ∧ Mem NoS w w' ((T1 ++ []))) ∧ gn = ls.length - i ∧ a' = ⟨#[.slice A ls.length c, undef, (Go.Value.slice none 0 0), .int .i64 0, .slice A1 m c1, .int .i64 ((i : Nat) : Int), (u9 6), (u9 7), (u9 8), .slice A ls.length c, .bool true, .bool false, (u9 12), (u9 13), (u9 14), (u9 15), (u9 16), (u9 17), (u9 18), (u9 19), (u9 20), (u9 21), (u9 22), (u9 23), (u9 24), (u9 25), (u9 26), (u9 27), (u9 28), (u9 29), (u9 30), (u9 31), (u9 32), (u9 33), (u9 34), (u9 35), (u9 36), (u9 37), (u9 38), (u9 39), (u9 40), (u9 41), (u9 42), (u9 43), (u9 44), (u9 45), (u9 46), (u9 47), (u9 48), (u9 49), (u9 50), (u9 51), (u9 52), (u9 53), (u9 54), (u9 55), undef, undef, undef, undef, undef, undef, undef, undef, undef, undef, undef, undef, undef], []⟩) _ ⟨0, 0, none, 0, ([]), (fun zz => Array.getD #[.slice A ls.length c, undef, (Go.Value.slice none 0 0), .int .i64 0, (Go.Value.slice none 0 0), .int .i64 0, undef, undef, undef, .slice A ls.length c, .bool true, .bool false, undef, undef, undef, undef, undef, undef, undef, undef, undef, undef, undef, undef, undef, undef, undef, undef, undef, undef, undef, undef, undef, undef, undef, undef, undef, undef, undef, undef, undef, undef, undef, undef, undef, undef, undef, undef, undef, undef, undef, undef, undef, undef, undef, undef, undef, undef, undef, undef, undef, undef, undef, undef, undef, undef, undef, undef, undef] zz undef), ⟨⟨by omega, by omega, Own.nil _ _⟩, M5⟩, rfl, (by kernel_rfl)⟩ ?_
    rintro gn _ W10 ⟨i, m, A1, c1, T1, u9, ⟨⟨ri, hm, O1⟩, M11⟩, rfl, rfl⟩
    refine wp_seq_k (fun K12 hK12 => ?_)
    refine wp_seq_k (fun K13 hK13 => ?_)
    refine wl_region ?_
    refine st_val (.int .i64 ((i : Nat) : Int)) (by kernel_rfl) (by kernel_rfl) ?_
    refine st_val (.slice A ls.length c) (by kernel_rfl) (by kernel_rfl) ?_
    refine st_val (.int .i64 ((ls.length : Nat) : Int)) (by kernel_rfl) (by kernel_rfl) ?_
    rcases Decidable.em ((((i : Nat) : Int) : Int) < ((ls.length : Nat) : Int)) with c15 | c15
    ·
      refine st_val (.bool true) (by kernel_rfl) (bool_of (dec_t c15) (by kernel_rfl)) ?_
      refine wl_nil ?_
      refine hK13 _ _ ?_
      try clear hK13 K13
      refine wp_cond_true (by kernel_rfl) ?_
      refine wp_skip ?_
      refine hK12 _ _ ?_
      try clear hK12 K12
      refine wp_seq_k (fun K14 hK14 => ?_)
      refine wp_block ?_
      refine wp_seq_k (fun K15 hK15 => ?_)
      have hel := expo_le (ls.getD i [])
      have hli := hp3 i (by omega)
      refine wl_region ?_
      refine st_val (.slice A ls.length c) (by kernel_rfl) (by kernel_rfl) ?_
      refine st_val (.int .i64 ((i : Nat) : Int)) (by kernel_rfl) (by kernel_rfl) ?_
      obtain ⟨b16, o17, eA18⟩ := RdK.addr (hP.rd.keep M11.keep (fun _ _ h => h)) (j := i * 1) (by rw [pvs_length]; omega)
      refine st_val (.pointer (some ⟨b16, o17 + i * 1, none⟩)) (by kernel_rfl) (run_indexSliceA 28 (.tmp 18) (.tmp 19) rfl A ⟨b16, o17, none⟩ eA18 ls.length c .i64 i (by kernel_rfl) (by kernel_rfl) Try.underlying28 1 (by kernel_rfl) (by omega) ⟨b16, o17 + i * 1, none⟩ (addr_atK _ _ _ _)) ?_
      refine st_val (.slice (As i) ((ls.getD i []).length) (cs i)) (by kernel_rfl) (run_load_cell 39 (.tmp 20) rfl ⟨b16, o17 + i * 1, none⟩ (by kernel_rfl) _ ((hP.rd.keep M11.keep (fun _ _ h => h)).cellF eA18 (f := 0) (pvs_get ls As cs i (by omega))) (by kernel_rfl)) ?_
      refine st_callB M11 (.int .i64 ((expo (ls.getD i []) : Nat) : Int)) (by kernel_rfl) (args := #[.slice (As i) ((ls.getD i []).length) (cs i)]) (run_value_call 49 #[(Operand.tmp 21)] _ rfl Try.func49 (by kernel_rfl) (by kernel_rfl) _ (by kernel_rfl)) (refExpo_walk W10 (As i) (cs i) (ls.getD i []) (fun h => (hP.ch i (by omega) h).keep M11.keep (fun _ _ h => h)) (hsp i (by omega)) (by omega)) ?_
      intro W19 M20
      refine st_val (.int .i64 ((expo (ls.getD i []) : Nat) : Int)) (by kernel_rfl) (by kernel_rfl) ?_
      refine wl_nil ?_
      refine hK15 _ _ ?_
      try clear hK15 K15
      refine wp_seq_k (fun K21 hK21 => ?_)
      refine wl_region ?_
      refine st_val (.slice A1 m c1) (by kernel_rfl) (by kernel_rfl) ?_
      refine st_val (.int .i64 ((expo (ls.getD i []) : Nat) : Int)) (by kernel_rfl) (by kernel_rfl) ?_
      refine st_val (.int .u32 ((expo (ls.getD i []) : Nat) : Int)) (by kernel_rfl) (int_of (wrap_u32 (by omega)) (by kernel_rfl)) ?_
      refine st_callR (A := []) (B := (T1 ++ [])) M20 (by kernel_rfl) (run_value_call 50 #[(Operand.tmp 25), (Operand.const (Value.int IntKind.i64 4))] _ rfl Try.func50 (by kernel_rfl) (by kernel_rfl) _ (by kernel_rfl)) (bitsM W19 (expo (ls.getD i [])) 4 (by omega) (by omega)) ?_
      intro v22 T23 W24 O25 M26
      have M26 : Mem NoS w W24 ((T23 ++ (T1 ++ []))) := M26
      obtain ⟨A27, cq28, rfl, hc29⟩ := O25.shape
      have M39 : Mem NoS w W24 ((T1 ++ (T23 ++ []))) := M26.swap (A := []) (T := T23) (U := T1) (B := [])
      obtain ⟨v30, T31, W32, hr33, O34, M35⟩ := append_u8 (A := []) (T := T1) (B := (T23 ++ [])) M39 22 _ _ _ O1 _ 4 (u8s (bitsOf (expo (ls.getD i [])) 4)) (O25.rd (fun p hp => M39.at_ p (List.mem_append_right _ (List.mem_append_left _ hp)))) (by rw [u8s_length, bitsOf_length] <;> omega) (u8s_one _) (by omega)
      have M35 : Mem NoS w W32 ((T31 ++ (T23 ++ []))) := M35
      obtain ⟨A36, cq37, rfl, hc38⟩ := O34.shape
      rw [← u8s_append] at O34
      refine st_world (.slice A36 (m + 4) cq37) W32 (by kernel_rfl) (run_append_op (.tmp 23) (.tmp 26) _ rfl (.slice A1 m c1) (.slice A27 4 cq28) _ (by kernel_rfl) (by kernel_rfl) hr33) ?_
      refine st_val (.slice A36 (m + 4) cq37) (by kernel_rfl) (by kernel_rfl) ?_
      refine wl_nil ?_
      refine hK21 _ _ ?_
      try clear hK21 K21
      refine wp_frame (a' := ⟨#[.slice A ls.length c, undef, (Go.Value.slice none 0 0), .int .i64 0, .slice A36 (m + 4) cq37, .int .i64 ((i : Nat) : Int), .int .i64 ((expo (ls.getD i []) : Nat) : Int), (u9 7), (u9 8), .slice A ls.length c, .bool true, .bool false, .int .i64 ((i : Nat) : Int), .slice A ls.length c, .int .i64 ((ls.length : Nat) : Int), .bool true, (u9 16), (u9 17), .slice A ls.length c, .int .i64 ((i : Nat) : Int), .pointer (some ⟨b16, o17 + i * 1, none⟩), .slice (As i) ((ls.getD i []).length) (cs i), .int .i64 ((expo (ls.getD i []) : Nat) : Int), .slice A1 m c1, .int .i64 ((expo (ls.getD i []) : Nat) : Int), .int .u32 ((expo (ls.getD i []) : Nat) : Int), .slice A27 4 cq28, .slice A36 (m + 4) cq37, (u9 28), (u9 29), (u9 30), (u9 31), (u9 32), (u9 33), (u9 34), (u9 35), (u9 36), (u9 37), (u9 38), (u9 39), (u9 40), (u9 41), (u9 42), (u9 43), (u9 44), (u9 45), (u9 46), (u9 47), (u9 48), (u9 49), (u9 50), (u9 51), (u9 52), (u9 53), (u9 54), (u9 55), undef, undef, undef, undef, undef, undef, undef, undef, undef, undef, undef, undef, undef], []⟩) (by kernel_rfl) ?_
      refine wp_seq_k (fun K40 hK40 => ?_)
      refine wl_region ?_
      refine st_val (.int .i64 0) (by kernel_rfl) (by kernel_rfl) ?_
      refine wl_nil ?_
      refine hK40 _ _ ?_
      try clear hK40 K40
      refine wp_block ?_
      have M41 : Mem NoS w W32 ((T31 ++ [])) := M35.sub (((List.Sublist.refl []).trans (List.sublist_append_right T23 _)).append_left T31)
      refine wp_loop_ghost (fun gn a' w' => ∃ (k : Nat) (m2 : Nat) (A2 : Option Addr) (c2 : Nat) (T2 : List (Nat × Obj)) (u42 : Nat → Value), ((k ≤ 32 ∧ m2 = 292 * i + 4 + 9 * k ∧ Own 5 1 (.slice A2 m2 c2) m2 (u8s (blB ls i ++ (bitsOf (expo (ls.getD i [])) 4 ++ chB (expo (ls.getD i [])) (ls.getD i []) k))) T2) ∧ Mem NoS w w' ((T2 ++ []))) ∧ gn = 32 - k ∧ a' = ⟨#[.slice A ls.length c, undef, (Go.Value.slice none 0 0), .int .i64 0, .slice A2 m2 c2, .int .i64 ((i : Nat) : Int), .int .i64 ((expo (ls.getD i []) : Nat) : Int), .int .i64 ((k : Nat) : Int), (u42 8), .slice A ls.length c, .bool true, .bool false, .int .i64 ((i : Nat) : Int), .slice A ls.length c, .int .i64 ((ls.length : Nat) : Int), .bool true, (u9 16), (u9 17), .slice A ls.length c, .int .i64 ((i : Nat) : Int), .pointer (some ⟨b16, o17 + i * 1, none⟩), .slice (As i) ((ls.getD i []).length) (cs i), .int .i64 ((expo (ls.getD i []) : Nat) : Int), .slice A1 m c1, .int .i64 ((expo (ls.getD i []) : Nat) : Int), .int .u32 ((expo (ls.getD i []) : Nat) : Int), .slice A27 4 cq28, .slice A36 (m + 4) cq37, (u42 28), (u42 29), (u42 30), (u42 31), (u42 32), (u42 33), (u42 34), (u42 35), (u42 36), (u42 37), (u42 38), (u42 39), (u42 40), (u42 41), (u42 42), (u42 43), (u42 44), (u42 45), (u42 46), (u42 47), (u42 48), (u42 49), (u42 50), (u42 51), (u42 52), (u42 53), (u42 54), (u42 55), undef, undef, undef, undef, undef, undef, undef, undef, undef, undef, undef, undef, undef], []⟩) _ ⟨0, (m + 4), A36, cq37, T31, (fun zz => Array.getD #[.slice A ls.length c, undef, (Go.Value.slice none 0 0), .int .i64 0, .slice A36 (m + 4) cq37, .int .i64 ((i : Nat) : Int), .int .i64 ((expo (ls.getD i []) : Nat) : Int), .int .i64 0, (u9 8), .slice A ls.length c, .bool true, .bool false, .int .i64 ((i : Nat) : Int), .slice A ls.length c, .int .i64 ((ls.length : Nat) : Int), .bool true, (u9 16), (u9 17), .slice A ls.length c, .int .i64 ((i : Nat) : Int), .pointer (some ⟨b16, o17 + i * 1, none⟩), .slice (As i) ((ls.getD i []).length) (cs i), .int .i64 ((expo (ls.getD i []) : Nat) : Int), .slice A1 m c1, .int .i64 ((expo (ls.getD i []) : Nat) : Int), .int .u32 ((expo (ls.getD i []) : Nat) : Int), .slice A27 4 cq28, .slice A36 (m + 4) cq37, (u9 28), (u9 29), (u9 30), (u9 31), (u9 32), (u9 33), (u9 34), (u9 35), (u9 36), (u9 37), (u9 38), (u9 39), (u9 40), (u9 41), (u9 42), (u9 43), (u9 44), (u9 45), (u9 46), (u9 47), (u9 48), (u9 49), (u9 50), (u9 51), (u9 52), (u9 53), (u9 54), (u9 55), undef, undef, undef, undef, undef, undef, undef, undef, undef, undef, undef, undef, undef] zz undef), ⟨⟨by omega, by omega, by show Own _ _ _ _ (u8s (blB ls i ++ (bitsOf (expo (ls.getD i [])) 4 ++ []))) _; rw [List.append_nil]; exact O34⟩, M41⟩, rfl, (by kernel_rfl)⟩ ?_
      rintro gn _ W43 ⟨k, m2, A2, c2, T2, u42, ⟨⟨rk, hm2, O2⟩, M44⟩, rfl, rfl⟩
      refine wp_seq_k (fun K45 hK45 => ?_)
      refine wp_seq_k (fun K46 hK46 => ?_)
      refine wl_region ?_
      refine st_val (.int .i64 ((k : Nat) : Int)) (by kernel_rfl) (by kernel_rfl) ?_
      rcases Decidable.em ((((k : Nat) : Int) : Int) < 32) with c29 | c29
      ·
        refine st_val (.bool true) (by kernel_rfl) (bool_of (dec_t c29) (by kernel_rfl)) ?_
        refine wl_nil ?_
        refine hK46 _ _ ?_
        try clear hK46 K46
        refine wp_cond_true (by kernel_rfl) ?_
        refine wp_skip ?_
        refine hK45 _ _ ?_
        try clear hK45 K45
        refine wp_seq_k (fun K47 hK47 => ?_)
        refine wp_block ?_
        refine wp_seq_k (fun K48 hK48 => ?_)
        refine wl_region ?_
        refine st_val (.int .i64 0) (by kernel_rfl) (by kernel_rfl) ?_
        refine wl_nil ?_
        refine hK48 _ _ ?_
        try clear hK48 K48
        refine wp_seq_k (fun K49 hK49 => ?_)
        refine wp_seq_k (fun K50 hK50 => ?_)
        refine wl_region ?_
        refine st_val (.int .i64 ((k : Nat) : Int)) (by kernel_rfl) (by kernel_rfl) ?_
        refine st_val (.slice A ls.length c) (by kernel_rfl) (by kernel_rfl) ?_
        refine st_val (.int .i64 ((i : Nat) : Int)) (by kernel_rfl) (by kernel_rfl) ?_
        obtain ⟨b51, o52, eA53⟩ := RdK.addr (hP.rd.keep M44.keep (fun _ _ h => h)) (j := i * 1) (by rw [pvs_length]; omega)
        refine st_val (.pointer (some ⟨b51, o52 + i * 1, none⟩)) (by kernel_rfl) (run_indexSliceA 28 (.tmp 33) (.tmp 34) rfl A ⟨b51, o52, none⟩ eA53 ls.length c .i64 i (by kernel_rfl) (by kernel_rfl) Try.underlying28 1 (by kernel_rfl) (by omega) ⟨b51, o52 + i * 1, none⟩ (addr_atK _ _ _ _)) ?_
        refine st_val (.slice (As i) ((ls.getD i []).length) (cs i)) (by kernel_rfl) (run_load_cell 39 (.tmp 35) rfl ⟨b51, o52 + i * 1, none⟩ (by kernel_rfl) _ ((hP.rd.keep M44.keep (fun _ _ h => h)).cellF eA53 (f := 0) (pvs_get ls As cs i (by omega))) (by kernel_rfl)) ?_
        refine st_val (.int .i64 (((ls.getD i []).length : Nat) : Int)) (by kernel_rfl) (by kernel_rfl) ?_
        rcases Decidable.em ((((k : Nat) : Int) : Int) < (((ls.getD i []).length : Nat) : Int)) with c38 | c38
        ·
          refine st_val (.bool true) (by kernel_rfl) (bool_of (dec_t c38) (by kernel_rfl)) ?_
          refine wl_nil ?_
          refine hK50 _ _ ?_
          try clear hK50 K50
          refine wp_cond_true (by kernel_rfl) ?_
          have hx16 := s16_get (hsp i (by omega)) k
          refine wl_region ?_
          refine st_val (.slice A ls.length c) (by kernel_rfl) (by kernel_rfl) ?_
          refine st_val (.int .i64 ((i : Nat) : Int)) (by kernel_rfl) (by kernel_rfl) ?_
          obtain ⟨b54, o55, eA56⟩ := RdK.addr (hP.rd.keep M44.keep (fun _ _ h => h)) (j := i * 1) (by rw [pvs_length]; omega)
          refine st_val (.pointer (some ⟨b54, o55 + i * 1, none⟩)) (by kernel_rfl) (run_indexSliceA 28 (.tmp 39) (.tmp 40) rfl A ⟨b54, o55, none⟩ eA56 ls.length c .i64 i (by kernel_rfl) (by kernel_rfl) Try.underlying28 1 (by kernel_rfl) (by omega) ⟨b54, o55 + i * 1, none⟩ (addr_atK _ _ _ _)) ?_
          refine st_val (.slice (As i) ((ls.getD i []).length) (cs i)) (by kernel_rfl) (run_load_cell 39 (.tmp 41) rfl ⟨b54, o55 + i * 1, none⟩ (by kernel_rfl) _ ((hP.rd.keep M44.keep (fun _ _ h => h)).cellF eA56 (f := 0) (pvs_get ls As cs i (by omega))) (by kernel_rfl)) ?_
          refine st_val (.int .i64 ((k : Nat) : Int)) (by kernel_rfl) (by kernel_rfl) ?_
          obtain ⟨b57, o58, eA59⟩ := RdK.addr ((hP.ch i (by omega) (by omega)).keep M44.keep (fun _ _ h => h)) (j := k * 1) (by rw [i16s_length]; omega)
          refine st_val (.pointer (some ⟨b57, o58 + k * 1, none⟩)) (by kernel_rfl) (run_indexSliceA 39 (.tmp 42) (.tmp 43) rfl (As i) ⟨b57, o58, none⟩ eA59 ((ls.getD i []).length) (cs i) .i64 k (by kernel_rfl) (by kernel_rfl) Try.underlying39 1 (by kernel_rfl) (by omega) ⟨b57, o58 + k * 1, none⟩ (addr_atK _ _ _ _)) ?_
          refine st_val (.int .i16 ((ls.getD i []).getD k 0)) (by kernel_rfl) (run_load_cell 45 (.tmp 44) rfl ⟨b57, o58 + k * 1, none⟩ (by kernel_rfl) _ (((hP.ch i (by omega) (by omega)).keep M44.keep (fun _ _ h => h)).cellF eA59 (f := 0) (i16s_get (ls.getD i []) k (by omega))) (by kernel_rfl)) ?_
          refine st_val (.int .i64 ((ls.getD i []).getD k 0)) (by kernel_rfl) (i64_of (by omega) (by kernel_rfl)) ?_
          refine st_val (.int .i64 ((ls.getD i []).getD k 0)) (by kernel_rfl) (by kernel_rfl) ?_
          refine wl_nil ?_
          refine hK49 _ _ ?_
          try clear hK49 K49
          refine wp_frame (a' := ⟨#[.slice A ls.length c, undef, (Go.Value.slice none 0 0), .int .i64 0, .slice A2 m2 c2, .int .i64 ((i : Nat) : Int), .int .i64 ((expo (ls.getD i []) : Nat) : Int), .int .i64 ((k : Nat) : Int), .int .i64 ((ls.getD i []).getD k 0), .slice A ls.length c, .bool true, .bool false, .int .i64 ((i : Nat) : Int), .slice A ls.length c, .int .i64 ((ls.length : Nat) : Int), .bool true, (u9 16), (u9 17), .slice A ls.length c, .int .i64 ((i : Nat) : Int), .pointer (some ⟨b16, o17 + i * 1, none⟩), .slice (As i) ((ls.getD i []).length) (cs i), .int .i64 ((expo (ls.getD i []) : Nat) : Int), .slice A1 m c1, .int .i64 ((expo (ls.getD i []) : Nat) : Int), .int .u32 ((expo (ls.getD i []) : Nat) : Int), .slice A27 4 cq28, .slice A36 (m + 4) cq37, .int .i64 ((k : Nat) : Int), .bool true, (u42 30), (u42 31), .int .i64 ((k : Nat) : Int), .slice A ls.length c, .int .i64 ((i : Nat) : Int), .pointer (some ⟨b51, o52 + i * 1, none⟩), .slice (As i) ((ls.getD i []).length) (cs i), .int .i64 (((ls.getD i []).length : Nat) : Int), .bool true, .slice A ls.length c, .int .i64 ((i : Nat) : Int), .pointer (some ⟨b54, o55 + i * 1, none⟩), .slice (As i) ((ls.getD i []).length) (cs i), .int .i64 ((k : Nat) : Int), .pointer (some ⟨b57, o58 + k * 1, none⟩), .int .i16 ((ls.getD i []).getD k 0), .int .i64 ((ls.getD i []).getD k 0), (u42 47), (u42 48), (u42 49), (u42 50), (u42 51), (u42 52), (u42 53), (u42 54), (u42 55), undef, undef, undef, undef, undef, undef, undef, undef, undef, undef, undef, undef, undef], []⟩) (by kernel_rfl) ?_
          have hml := mOf_lt (expo (ls.getD i [])) ((ls.getD i []).getD k 0); have hml0 := mOf_lt (expo (ls.getD i [])) 0
          refine wl_region ?_
          refine st_val (.slice A2 m2 c2) (by kernel_rfl) (by kernel_rfl) ?_
          refine st_val (.int .i64 ((ls.getD i []).getD k 0)) (by kernel_rfl) (by kernel_rfl) ?_
          refine st_val (.int .i64 ((expo (ls.getD i []) : Nat) : Int)) (by kernel_rfl) (by kernel_rfl) ?_
          refine st_val (.int .u64 ((expo (ls.getD i []) : Nat) : Int)) (by kernel_rfl) (int_of (wrap_u64 (by omega)) (by kernel_rfl)) ?_
          refine st_val (.int .i64 (((ls.getD i []).getD k 0) / 2 ^ (expo (ls.getD i [])))) (by kernel_rfl) (int_of (show ((ls.getD i []).getD k 0 : Int) / 2 ^ (expo (ls.getD i [])) = ((ls.getD i []).getD k 0) / 2 ^ (expo (ls.getD i [])) from rfl) (run_value_bin .shr 3 48 (.tmp 48) (.tmp 50) rfl (.int .i64 ((ls.getD i []).getD k 0)) (.int .u64 ((expo (ls.getD i []) : Nat) : Int)) _ (by kernel_rfl) (by kernel_rfl) (by kernel_rfl) (bin_shr (n := (expo (ls.getD i []))) (by show _ ≤ 64; omega)))) ?_
          refine st_val (.int .i64 ((mOf (expo (ls.getD i [])) ((ls.getD i []).getD k 0) : Nat) : Int)) (by kernel_rfl) (run_value_bin .and 3 3 (.tmp 51) _ rfl (.int .i64 (((ls.getD i []).getD k 0) / 2 ^ (expo (ls.getD i [])))) (.int .i64 511) _ (by kernel_rfl) (by kernel_rfl) (by kernel_rfl) (bin_bits (.inl rfl) (show bits .and .i64 (((ls.getD i []).getD k 0) / 2 ^ (expo (ls.getD i []))) 511 = ((mOf (expo (ls.getD i [])) ((ls.getD i []).getD k 0) : Nat) : Int) from (by rw [i64_and511, mOf_eq])))) ?_
          refine st_val (.int .u32 ((mOf (expo (ls.getD i [])) ((ls.getD i []).getD k 0) : Nat) : Int)) (by kernel_rfl) (int_of (wrap_u32 (by omega)) (by kernel_rfl)) ?_
          refine st_callR (A := []) (B := (T2 ++ [])) M44 (by kernel_rfl) (run_value_call 50 #[(Operand.tmp 53), (Operand.const (Value.int IntKind.i64 9))] _ rfl Try.func50 (by kernel_rfl) (by kernel_rfl) _ (by kernel_rfl)) (bitsM W43 (mOf (expo (ls.getD i [])) ((ls.getD i []).getD k 0)) 9 (by omega) (by omega)) ?_
          intro v60 T61 W62 O63 M64
          have M64 : Mem NoS w W62 ((T61 ++ (T2 ++ []))) := M64
          obtain ⟨A65, cq66, rfl, hc67⟩ := O63.shape
          have M77 : Mem NoS w W62 ((T2 ++ (T61 ++ []))) := M64.swap (A := []) (T := T61) (U := T2) (B := [])
          obtain ⟨v68, T69, W70, hr71, O72, M73⟩ := append_u8 (A := []) (T := T2) (B := (T61 ++ [])) M77 22 _ _ _ O2 _ 9 (u8s (bitsOf (mOf (expo (ls.getD i [])) ((ls.getD i []).getD k 0)) 9)) (O63.rd (fun p hp => M77.at_ p (List.mem_append_right _ (List.mem_append_left _ hp)))) (by rw [u8s_length, bitsOf_length] <;> omega) (u8s_one _) (by omega)
          have M73 : Mem NoS w W70 ((T69 ++ (T61 ++ []))) := M73
          obtain ⟨A74, cq75, rfl, hc76⟩ := O72.shape
          rw [← u8s_append] at O72
          refine st_world (.slice A74 (m2 + 9) cq75) W70 (by kernel_rfl) (run_append_op (.tmp 47) (.tmp 54) _ rfl (.slice A2 m2 c2) (.slice A65 9 cq66) _ (by kernel_rfl) (by kernel_rfl) hr71) ?_
          refine st_val (.slice A74 (m2 + 9) cq75) (by kernel_rfl) (by kernel_rfl) ?_
          refine wl_nil ?_
          refine blk_normal ?_
          refine hK47 _ _ ?_
          try clear hK47 K47
          refine wl_region ?_
          refine st_val (.int .i64 ((k : Nat) : Int)) (by kernel_rfl) (by kernel_rfl) ?_
          refine st_val (.int .i64 (((k : Nat) : Int) + 1)) (by kernel_rfl) (i64_of (by omega) (by kernel_rfl)) ?_
          refine st_val (.int .i64 (((k : Nat) : Int) + 1)) (by kernel_rfl) (by kernel_rfl) ?_
          refine wl_nil ?_
          refine th_normal ?_
          have M78 : Mem NoS w W70 ((T69 ++ [])) := M73.sub (((List.Sublist.refl []).trans (List.sublist_append_right T61 _)).append_left T69)
          have hO4 := O72
          have hO5 : Own 5 1 (.slice A74 (m2 + 9) cq75) (m2 + 9) (u8s (blB ls i ++ (bitsOf (expo (ls.getD i [])) 4 ++ (chB (expo (ls.getD i [])) (ls.getD i []) k ++ bitsOf (mOf (expo (ls.getD i [])) ((ls.getD i []).getD k 0)) 9)))) T69 := by rw [← List.append_assoc (bitsOf (expo (ls.getD i [])) 4), ← List.append_assoc]; exact hO4
          exact ⟨_, by omega, (k + 1), (m2 + 9), A74, cq75, T69, (fun zz => Array.getD #[.slice A ls.length c, undef, (Go.Value.slice none 0 0), .int .i64 0, .slice A74 (m2 + 9) cq75, .int .i64 ((i : Nat) : Int), .int .i64 ((expo (ls.getD i []) : Nat) : Int), .int .i64 (((k : Nat) : Int) + 1), .int .i64 ((ls.getD i []).getD k 0), .slice A ls.length c, .bool true, .bool false, .int .i64 ((i : Nat) : Int), .slice A ls.length c, .int .i64 ((ls.length : Nat) : Int), .bool true, (u9 16), (u9 17), .slice A ls.length c, .int .i64 ((i : Nat) : Int), .pointer (some ⟨b16, o17 + i * 1, none⟩), .slice (As i) ((ls.getD i []).length) (cs i), .int .i64 ((expo (ls.getD i []) : Nat) : Int), .slice A1 m c1, .int .i64 ((expo (ls.getD i []) : Nat) : Int), .int .u32 ((expo (ls.getD i []) : Nat) : Int), .slice A27 4 cq28, .slice A36 (m + 4) cq37, .int .i64 ((k : Nat) : Int), .bool true, .int .i64 ((k : Nat) : Int), .int .i64 (((k : Nat) : Int) + 1), .int .i64 ((k : Nat) : Int), .slice A ls.length c, .int .i64 ((i : Nat) : Int), .pointer (some ⟨b51, o52 + i * 1, none⟩), .slice (As i) ((ls.getD i []).length) (cs i), .int .i64 (((ls.getD i []).length : Nat) : Int), .bool true, .slice A ls.length c, .int .i64 ((i : Nat) : Int), .pointer (some ⟨b54, o55 + i * 1, none⟩), .slice (As i) ((ls.getD i []).length) (cs i), .int .i64 ((k : Nat) : Int), .pointer (some ⟨b57, o58 + k * 1, none⟩), .int .i16 ((ls.getD i []).getD k 0), .int .i64 ((ls.getD i []).getD k 0), .slice A2 m2 c2, .int .i64 ((ls.getD i []).getD k 0), .int .i64 ((expo (ls.getD i []) : Nat) : Int), .int .u64 ((expo (ls.getD i []) : Nat) : Int), .int .i64 (((ls.getD i []).getD k 0) / 2 ^ (expo (ls.getD i []))), .int .i64 ((mOf (expo (ls.getD i [])) ((ls.getD i []).getD k 0) : Nat) : Int), .int .u32 ((mOf (expo (ls.getD i [])) ((ls.getD i []).getD k 0) : Nat) : Int), .slice A65 9 cq66, .slice A74 (m2 + 9) cq75, undef, undef, undef, undef, undef, undef, undef, undef, undef, undef, undef, undef, undef] zz undef), ⟨⟨by omega, by omega, hO5⟩, M78⟩, rfl, (by kernel_rfl)⟩
        ·
          refine st_val (.bool false) (by kernel_rfl) (bool_of (dec_f c38) (by kernel_rfl)) ?_
          refine wl_nil ?_
          refine hK50 _ _ ?_
          try clear hK50 K50
          refine wp_cond_false (by kernel_rfl) ?_
          refine wp_skip ?_
          refine hK49 _ _ ?_
          try clear hK49 K49
          have hml := mOf_lt (expo (ls.getD i [])) ((ls.getD i []).getD k 0); have hml0 := mOf_lt (expo (ls.getD i [])) 0
          refine wl_region ?_
          refine st_val (.slice A2 m2 c2) (by kernel_rfl) (by kernel_rfl) ?_
          refine st_val (.int .i64 0) (by kernel_rfl) (by kernel_rfl) ?_
          refine st_val (.int .i64 ((expo (ls.getD i []) : Nat) : Int)) (by kernel_rfl) (by kernel_rfl) ?_
          refine st_val (.int .u64 ((expo (ls.getD i []) : Nat) : Int)) (by kernel_rfl) (int_of (wrap_u64 (by omega)) (by kernel_rfl)) ?_
          refine st_val (.int .i64 (0 / 2 ^ (expo (ls.getD i [])))) (by kernel_rfl) (int_of (show (0 : Int) / 2 ^ (expo (ls.getD i [])) = 0 / 2 ^ (expo (ls.getD i [])) from rfl) (run_value_bin .shr 3 48 (.tmp 48) (.tmp 50) rfl (.int .i64 0) (.int .u64 ((expo (ls.getD i []) : Nat) : Int)) _ (by kernel_rfl) (by kernel_rfl) (by kernel_rfl) (bin_shr (n := (expo (ls.getD i []))) (by show _ ≤ 64; omega)))) ?_
          refine st_val (.int .i64 ((mOf (expo (ls.getD i [])) 0 : Nat) : Int)) (by kernel_rfl) (run_value_bin .and 3 3 (.tmp 51) _ rfl (.int .i64 (0 / 2 ^ (expo (ls.getD i [])))) (.int .i64 511) _ (by kernel_rfl) (by kernel_rfl) (by kernel_rfl) (bin_bits (.inl rfl) (show bits .and .i64 (0 / 2 ^ (expo (ls.getD i []))) 511 = ((mOf (expo (ls.getD i [])) 0 : Nat) : Int) from (by rw [i64_and511, mOf_eq])))) ?_
          refine st_val (.int .u32 ((mOf (expo (ls.getD i [])) 0 : Nat) : Int)) (by kernel_rfl) (int_of (wrap_u32 (by omega)) (by kernel_rfl)) ?_
          refine st_callR (A := []) (B := (T2 ++ [])) M44 (by kernel_rfl) (run_value_call 50 #[(Operand.tmp 53), (Operand.const (Value.int IntKind.i64 9))] _ rfl Try.func50 (by kernel_rfl) (by kernel_rfl) _ (by kernel_rfl)) (bitsM W43 (mOf (expo (ls.getD i [])) 0) 9 (by omega) (by omega)) ?_
          intro v79 T80 W81 O82 M83
          have M83 : Mem NoS w W81 ((T80 ++ (T2 ++ []))) := M83
          obtain ⟨A84, cq85, rfl, hc86⟩ := O82.shape
          have M96 : Mem NoS w W81 ((T2 ++ (T80 ++ []))) := M83.swap (A := []) (T := T80) (U := T2) (B := [])
          obtain ⟨v87, T88, W89, hr90, O91, M92⟩ := append_u8 (A := []) (T := T2) (B := (T80 ++ [])) M96 22 _ _ _ O2 _ 9 (u8s (bitsOf (mOf (expo (ls.getD i [])) 0) 9)) (O82.rd (fun p hp => M96.at_ p (List.mem_append_right _ (List.mem_append_left _ hp)))) (by rw [u8s_length, bitsOf_length] <;> omega) (u8s_one _) (by omega)
          have M92 : Mem NoS w W89 ((T88 ++ (T80 ++ []))) := M92
          obtain ⟨A93, cq94, rfl, hc95⟩ := O91.shape
          rw [← u8s_append] at O91
          refine st_world (.slice A93 (m2 + 9) cq94) W89 (by kernel_rfl) (run_append_op (.tmp 47) (.tmp 54) _ rfl (.slice A2 m2 c2) (.slice A84 9 cq85) _ (by kernel_rfl) (by kernel_rfl) hr90) ?_
          refine st_val (.slice A93 (m2 + 9) cq94) (by kernel_rfl) (by kernel_rfl) ?_
          refine wl_nil ?_
          refine blk_normal ?_
          refine hK47 _ _ ?_
          try clear hK47 K47
          refine wp_frame (a' := ⟨#[.slice A ls.length c, undef, (Go.Value.slice none 0 0), .int .i64 0, .slice A93 (m2 + 9) cq94, .int .i64 ((i : Nat) : Int), .int .i64 ((expo (ls.getD i []) : Nat) : Int), .int .i64 ((k : Nat) : Int), .int .i64 0, .slice A ls.length c, .bool true, .bool false, .int .i64 ((i : Nat) : Int), .slice A ls.length c, .int .i64 ((ls.length : Nat) : Int), .bool true, (u9 16), (u9 17), .slice A ls.length c, .int .i64 ((i : Nat) : Int), .pointer (some ⟨b16, o17 + i * 1, none⟩), .slice (As i) ((ls.getD i []).length) (cs i), .int .i64 ((expo (ls.getD i []) : Nat) : Int), .slice A1 m c1, .int .i64 ((expo (ls.getD i []) : Nat) : Int), .int .u32 ((expo (ls.getD i []) : Nat) : Int), .slice A27 4 cq28, .slice A36 (m + 4) cq37, .int .i64 ((k : Nat) : Int), .bool true, (u42 30), (u42 31), .int .i64 ((k : Nat) : Int), .slice A ls.length c, .int .i64 ((i : Nat) : Int), .pointer (some ⟨b51, o52 + i * 1, none⟩), .slice (As i) ((ls.getD i []).length) (cs i), .int .i64 (((ls.getD i []).length : Nat) : Int), .bool false, (u42 39), (u42 40), (u42 41), (u42 42), (u42 43), (u42 44), (u42 45), (u42 46), .slice A2 m2 c2, .int .i64 0, .int .i64 ((expo (ls.getD i []) : Nat) : Int), .int .u64 ((expo (ls.getD i []) : Nat) : Int), .int .i64 (0 / 2 ^ (expo (ls.getD i []))), .int .i64 ((mOf (expo (ls.getD i [])) 0 : Nat) : Int), .int .u32 ((mOf (expo (ls.getD i [])) 0 : Nat) : Int), .slice A84 9 cq85, .slice A93 (m2 + 9) cq94, undef, undef, undef, undef, undef, undef, undef, undef, undef, undef, undef, undef, undef], []⟩) (by kernel_rfl) ?_
          refine wl_region ?_
          refine st_val (.int .i64 ((k : Nat) : Int)) (by kernel_rfl) (by kernel_rfl) ?_
          refine st_val (.int .i64 (((k : Nat) : Int) + 1)) (by kernel_rfl) (i64_of (by omega) (by kernel_rfl)) ?_
          refine st_val (.int .i64 (((k : Nat) : Int) + 1)) (by kernel_rfl) (by kernel_rfl) ?_
          refine wl_nil ?_
          refine th_normal ?_
          have M97 : Mem NoS w W89 ((T88 ++ [])) := M92.sub (((List.Sublist.refl []).trans (List.sublist_append_right T80 _)).append_left T88)
          have hO4 := O91
          have hg0 : ((ls.getD i []).getD k 0) = 0 := by rw [List.getD_eq_getElem?_getD, List.getElem?_eq_none (by omega)]; rfl
          have hO5 : Own 5 1 (.slice A93 (m2 + 9) cq94) (m2 + 9) (u8s (blB ls i ++ (bitsOf (expo (ls.getD i [])) 4 ++ (chB (expo (ls.getD i [])) (ls.getD i []) k ++ bitsOf (mOf (expo (ls.getD i [])) ((ls.getD i []).getD k 0)) 9)))) T88 := by rw [hg0]; rw [← List.append_assoc (bitsOf (expo (ls.getD i [])) 4), ← List.append_assoc]; exact hO4
          exact ⟨_, by omega, (k + 1), (m2 + 9), A93, cq94, T88, (fun zz => Array.getD #[.slice A ls.length c, undef, (Go.Value.slice none 0 0), .int .i64 0, .slice A93 (m2 + 9) cq94, .int .i64 ((i : Nat) : Int), .int .i64 ((expo (ls.getD i []) : Nat) : Int), .int .i64 (((k : Nat) : Int) + 1), .int .i64 0, .slice A ls.length c, .bool true, .bool false, .int .i64 ((i : Nat) : Int), .slice A ls.length c, .int .i64 ((ls.length : Nat) : Int), .bool true, (u9 16), (u9 17), .slice A ls.length c, .int .i64 ((i : Nat) : Int), .pointer (some ⟨b16, o17 + i * 1, none⟩), .slice (As i) ((ls.getD i []).length) (cs i), .int .i64 ((expo (ls.getD i []) : Nat) : Int), .slice A1 m c1, .int .i64 ((expo (ls.getD i []) : Nat) : Int), .int .u32 ((expo (ls.getD i []) : Nat) : Int), .slice A27 4 cq28, .slice A36 (m + 4) cq37, .int .i64 ((k : Nat) : Int), .bool true, .int .i64 ((k : Nat) : Int), .int .i64 (((k : Nat) : Int) + 1), .int .i64 ((k : Nat) : Int), .slice A ls.length c, .int .i64 ((i : Nat) : Int), .pointer (some ⟨b51, o52 + i * 1, none⟩), .slice (As i) ((ls.getD i []).length) (cs i), .int .i64 (((ls.getD i []).length : Nat) : Int), .bool false, (u42 39), (u42 40), (u42 41), (u42 42), (u42 43), (u42 44), (u42 45), (u42 46), .slice A2 m2 c2, .int .i64 0, .int .i64 ((expo (ls.getD i []) : Nat) : Int), .int .u64 ((expo (ls.getD i []) : Nat) : Int), .int .i64 (0 / 2 ^ (expo (ls.getD i []))), .int .i64 ((mOf (expo (ls.getD i [])) 0 : Nat) : Int), .int .u32 ((mOf (expo (ls.getD i [])) 0 : Nat) : Int), .slice A84 9 cq85, .slice A93 (m2 + 9) cq94, undef, undef, undef, undef, undef, undef, undef, undef, undef, undef, undef, undef, undef] zz undef), ⟨⟨by omega, by omega, hO5⟩, M97⟩, rfl, (by kernel_rfl)⟩
      ·
        refine st_val (.bool false) (by kernel_rfl) (bool_of (dec_f c29) (by kernel_rfl)) ?_
        refine wl_nil ?_
        refine hK46 _ _ ?_
        try clear hK46 K46
        refine wp_cond_false (by kernel_rfl) ?_
        refine wp_exit ?_
        refine th_exit ?_
        refine th_exit ?_
        refine blk_exit ?_
        refine blk_normal ?_
        refine hK14 _ _ ?_
        try clear hK14 K14
        refine wl_region ?_
        refine st_val (.int .i64 ((i : Nat) : Int)) (by kernel_rfl) (by kernel_rfl) ?_
        refine st_val (.int .i64 (((i : Nat) : Int) + 1)) (by kernel_rfl) (i64_of (by omega) (by kernel_rfl)) ?_
        refine st_val (.int .i64 (((i : Nat) : Int) + 1)) (by kernel_rfl) (by kernel_rfl) ?_
        refine wl_nil ?_
        refine th_normal ?_
        have hk32 : k = 32 := (by omega)
        rw [hk32] at O2
        exact ⟨_, by omega, (i + 1), m2, A2, c2, T2, (fun zz => Array.getD #[.slice A ls.length c, undef, (Go.Value.slice none 0 0), .int .i64 0, .slice A2 m2 c2, .int .i64 (((i : Nat) : Int) + 1), .int .i64 ((expo (ls.getD i []) : Nat) : Int), .int .i64 ((k : Nat) : Int), (u42 8), .slice A ls.length c, .bool true, .bool false, .int .i64 ((i : Nat) : Int), .slice A ls.length c, .int .i64 ((ls.length : Nat) : Int), .bool true, .int .i64 ((i : Nat) : Int), .int .i64 (((i : Nat) : Int) + 1), .slice A ls.length c, .int .i64 ((i : Nat) : Int), .pointer (some ⟨b16, o17 + i * 1, none⟩), .slice (As i) ((ls.getD i []).length) (cs i), .int .i64 ((expo (ls.getD i []) : Nat) : Int), .slice A1 m c1, .int .i64 ((expo (ls.getD i []) : Nat) : Int), .int .u32 ((expo (ls.getD i []) : Nat) : Int), .slice A27 4 cq28, .slice A36 (m + 4) cq37, .int .i64 ((k : Nat) : Int), .bool false, (u42 30), (u42 31), (u42 32), (u42 33), (u42 34), (u42 35), (u42 36), (u42 37), (u42 38), (u42 39), (u42 40), (u42 41), (u42 42), (u42 43), (u42 44), (u42 45), (u42 46), (u42 47), (u42 48), (u42 49), (u42 50), (u42 51), (u42 52), (u42 53), (u42 54), (u42 55), undef, undef, undef, undef, undef, undef, undef, undef, undef, undef, undef, undef, undef] zz undef), ⟨⟨by omega, by omega, O2⟩, M44⟩, rfl, (by kernel_rfl)⟩
    ·
      refine st_val (.bool false) (by kernel_rfl) (bool_of (dec_f c15) (by kernel_rfl)) ?_
      refine wl_nil ?_
      refine hK13 _ _ ?_
      try clear hK13 K13
      refine wp_cond_false (by kernel_rfl) ?_
      refine wp_exit ?_
      refine th_exit ?_
      refine th_exit ?_
      refine blk_exit ?_
      refine hK7 _ _ ?_
      try clear hK7 K7
      refine wp_seq_k (fun K98 hK98 => ?_)
      have hi0 : i = ls.length := (by omega)
      rw [hi0] at O1
      have hpl := payload_length (blB ls ls.length)
      have hbl := blB_len ls ls.length
      have hm9 : m = (blB ls ls.length).length := (by omega)
      refine wh_region (fun w' => Mem NoS w w' ((T1 ++ []))) (by kernel_rfl) (by kernel_rfl) (fun d _ _ _ _ h => by cases d <;> exact h) 15 rfl #[false, false, false, false, false, false, false, false, false, false, false, false, false, false, false] rfl ?_
      intro R99
      have M101 := M11.drew
      have hS102 : Mem NoS w W10.drew ((T1 ++ [])) := M101
      refine wh_take R99 0 (.slice A ls.length c) rfl (by kernel_rfl) (by kernel_rfl) (by kernel_rfl) (fun w' M' => (by kernel_rfl)) hS102 #[true, false, false, false, false, false, false, false, false, false, false, false, false, false, false] rfl ?_
      refine wh_take R99 1 (.int .i64 ((ls.length : Nat) : Int)) rfl (by kernel_rfl) (by kernel_rfl) (by kernel_rfl) (fun w' M' => (by kernel_rfl)) hS102 #[true, true, false, false, false, false, false, false, false, false, false, false, false, false, false] rfl ?_
      refine wh_take R99 2 (.int .u8 ((ls.length : Nat) : Int)) rfl (by kernel_rfl) (by kernel_rfl) (by kernel_rfl) (fun w' M' => (int_of (wrap_u8 (by omega)) (by kernel_rfl))) hS102 #[true, true, true, false, false, false, false, false, false, false, false, false, false, false, false] rfl ?_
      refine wh_take R99 3 (.slice A ls.length c) rfl (by kernel_rfl) (by kernel_rfl) (by kernel_rfl) (fun w' M' => (by kernel_rfl)) hS102 #[true, true, true, true, false, false, false, false, false, false, false, false, false, false, false] rfl ?_
      obtain ⟨b103, o104, eA105⟩ := RdK.addr (hP.rd.keep hS102.keep (fun _ _ h => h)) (j := 0 * 1) (by rw [pvs_length]; omega)
      refine wh_take R99 4 (.pointer (some ⟨b103, o104 + 0 * 1, none⟩)) rfl (by kernel_rfl) (by kernel_rfl) (by kernel_rfl) (fun w' M' => (run_indexSliceA 28 (.tmp 59) _ rfl A ⟨b103, o104, none⟩ eA105 ls.length c .i64 0 (by kernel_rfl) (by kernel_rfl) Try.underlying28 1 (by kernel_rfl) (by omega) ⟨b103, o104 + 0 * 1, none⟩ (addr_atK _ _ _ _))) hS102 #[true, true, true, true, true, false, false, false, false, false, false, false, false, false, false] rfl ?_
      refine wh_take R99 5 (.slice (As 0) ((ls.getD 0 []).length) (cs 0)) rfl (by kernel_rfl) (by kernel_rfl) (by kernel_rfl) (fun w' M' => (run_load_cell 39 (.tmp 60) rfl ⟨b103, o104 + 0 * 1, none⟩ (by kernel_rfl) _ ((hP.rd.keep M'.keep (fun _ _ h => h)).cellF eA105 (f := 0) (pvs_get ls As cs 0 (by omega))) (by kernel_rfl))) hS102 #[true, true, true, true, true, true, false, false, false, false, false, false, false, false, false] rfl ?_
      refine wh_take R99 6 (.int .i64 (((ls.getD 0 []).length : Nat) : Int)) rfl (by kernel_rfl) (by kernel_rfl) (by kernel_rfl) (fun w' M' => (by kernel_rfl)) hS102 #[true, true, true, true, true, true, true, false, false, false, false, false, false, false, false] rfl ?_
      refine wh_take R99 7 (.int .u8 (((ls.getD 0 []).length : Nat) : Int)) rfl (by kernel_rfl) (by kernel_rfl) (by kernel_rfl) (fun w' M' => (int_of (wrap_u8 (by omega)) (by kernel_rfl))) hS102 #[true, true, true, true, true, true, true, true, false, false, false, false, false, false, false] rfl ?_
      refine wh_take R99 9 (.slice A1 m c1) rfl (by kernel_rfl) (by kernel_rfl) (by kernel_rfl) (fun w' M' => (by kernel_rfl)) hS102 #[true, true, true, true, true, true, true, true, false, true, false, false, false, false, false] rfl ?_
      refine wh_branch2 8 10 (by kernel_rfl) ?_ ?_
      ·
        refine wi_new M101 8 (.cells #[.int .u8 ((ls.length : Nat) : Int), .int .u8 (((ls.getD 0 []).length : Nat) : Int)] 5 (0, 0)) (fun g => .slice (some ⟨g, 0, none⟩) 2 2) rfl trivial (by kernel_rfl) (by kernel_rfl) #[true, true, true, true, true, true, true, true, true, true, false, false, false, false, false] rfl ?_
        intro g106 W107 M108
        have hS109 : Mem NoS w W107 ((T1 ++ [])) := M108.sub (((List.Sublist.refl []).append_left T1).cons _)
        refine ⟨hS109, ?_⟩
        obtain ⟨T110, e113⟩ : ∃ T, T = [(g106, (.cells #[.int .u8 ((ls.length : Nat) : Int), .int .u8 (((ls.getD 0 []).length : Nat) : Int)] 5 (0, 0) : Obj))] := ⟨_, rfl⟩
        have O111 : Own 5 1 (.slice (some ⟨g106, 0, none⟩) 2 2) 2 (u8s ([ls.length, (ls.getD 0 []).length])) T110 := e113 ▸ own_lit 5 g106 (u8s ([ls.length, (ls.getD 0 []).length])) 2 rfl (by decide)
        have M112 : Mem NoS w W107 ((T110 ++ (T1 ++ []))) := by rw [e113]; exact M108
        refine wh_callR (A := []) (B := (T110 ++ (T1 ++ []))) M112 10 rfl (by kernel_rfl) (by kernel_rfl) (run_value_call 51 #[(Operand.tmp 65)] _ rfl Try.func51 (by kernel_rfl) (by kernel_rfl) _ (by kernel_rfl)) #[true, true, true, true, true, true, true, true, true, true, true, false, false, false, false] rfl (payloadM W107 (.slice A1 m c1) (blB ls ls.length) ((by rw [← hm9]; exact O1.rd (fun p hp => M112.at_ p (List.mem_append_right _ (List.mem_append_left _ hp))))) (blB_bin _ _) (by omega)) ?_
        intro v114 T115 W116 O117 M118
        have M118 : Mem NoS w W116 ((T115 ++ (T110 ++ (T1 ++ [])))) := M118
        obtain ⟨A119, cq120, rfl, hc121⟩ := O117.shape
        have hS122 : Mem NoS w W116 ((T1 ++ [])) := M118.sub ((((List.Sublist.refl []).append_left T1).trans (List.sublist_append_right T110 _)).trans (List.sublist_append_right T115 _))
        refine ⟨hS122, ?_⟩
        have M132 : Mem NoS w W116 ((T110 ++ (T115 ++ (T1 ++ [])))) := M118.swap (A := []) (T := T115) (U := T110) (B := (T1 ++ []))
        obtain ⟨v123, T124, W125, hr126, O127, M128⟩ := append_u8 (A := []) (T := T110) (B := (T115 ++ (T1 ++ []))) M132 22 _ _ _ O111 _ ((payload (blB ls ls.length)).length) (u8s (payload (blB ls ls.length))) (O117.rd (fun p hp => M132.at_ p (List.mem_append_right _ (List.mem_append_left _ hp)))) (by rw [u8s_length]; omega) (u8s_one _) (by omega)
        have M128 : Mem NoS w W125 ((T124 ++ (T115 ++ (T1 ++ [])))) := M128
        obtain ⟨A129, cq130, rfl, hc131⟩ := O127.shape
        rw [← u8s_append] at O127
        have hS133 : Mem NoS w W125 ((T1 ++ [])) := M128.sub ((((List.Sublist.refl []).append_left T1).trans (List.sublist_append_right T115 _)).trans (List.sublist_append_right T124 _))
        refine wh_world 11 (.slice A129 (2 + ((payload (blB ls ls.length)).length)) cq130) W125 rfl (by kernel_rfl) (by kernel_rfl) (run_append_op (.tmp 64) (.tmp 66) _ rfl (.slice (some ⟨g106, 0, none⟩) 2 2) (.slice A119 ((payload (blB ls ls.length)).length) cq120) _ (by kernel_rfl) (by kernel_rfl) hr126) #[true, true, true, true, true, true, true, true, true, true, true, true, false, false, false] rfl hS133 ?_
        refine wh_callR (A := []) (B := (T124 ++ (T115 ++ (T1 ++ [])))) M128 12 rfl (by kernel_rfl) (by kernel_rfl) (run_value_call 37 #[(Operand.tmp 67)] _ rfl Try.func37 (by kernel_rfl) (by kernel_rfl) _ (by kernel_rfl)) #[true, true, true, true, true, true, true, true, true, true, true, true, true, false, false] rfl (refSummed_walk W125 (.slice A129 (2 + ((payload (blB ls ls.length)).length)) cq130) ([ls.length, (ls.getD 0 []).length] ++ payload (blB ls ls.length)) ((by rw [List.length_append]; exact O127.rd (fun p hp => M128.at_ p (List.mem_append_left _ hp)))) (blk_lt0 hBP) (by rw [List.length_append, hpl]; simp; omega)) ?_
        intro v134 T135 W136 O137 M138
        have M138 : Mem NoS w W136 ((T135 ++ (T124 ++ (T115 ++ (T1 ++ []))))) := M138
        obtain ⟨m139, hm140, O141⟩ := O137
        obtain ⟨A142, cq143, rfl, hc144⟩ := O141.shape
        have hS145 : Mem NoS w W136 ((T1 ++ [])) := M138.sub (((((List.Sublist.refl []).append_left T1).trans (List.sublist_append_right T115 _)).trans (List.sublist_append_right T124 _)).trans (List.sublist_append_right T135 _))
        refine ⟨hS145, ?_⟩
        refine wh_take R99 13 (.slice A142 m139 cq143) rfl (by kernel_rfl) (by kernel_rfl) (by kernel_rfl) (fun w' M' => (by kernel_rfl)) hS145 #[true, true, true, true, true, true, true, true, true, true, true, true, true, true, false] rfl ?_
        refine wh_take R99 14 (.int .i64 0) rfl (by kernel_rfl) (by kernel_rfl) (by kernel_rfl) (fun w' M' => (by kernel_rfl)) hS145 #[true, true, true, true, true, true, true, true, true, true, true, true, true, true, true] rfl ?_
        refine wh_done (by kernel_rfl) ?_
        refine hK98 _ _ ?_
        try clear hK98 K98
        refine wp_frame (a' := ⟨#[.slice A ls.length c, undef, .slice A142 m139 cq143, .int .i64 0, .slice A1 m c1, .int .i64 ((i : Nat) : Int), (u9 6), (u9 7), (u9 8), .slice A ls.length c, .bool true, .bool false, .int .i64 ((i : Nat) : Int), .slice A ls.length c, .int .i64 ((ls.length : Nat) : Int), .bool false, (u9 16), (u9 17), (u9 18), (u9 19), (u9 20), (u9 21), (u9 22), (u9 23), (u9 24), (u9 25), (u9 26), (u9 27), (u9 28), (u9 29), (u9 30), (u9 31), (u9 32), (u9 33), (u9 34), (u9 35), (u9 36), (u9 37), (u9 38), (u9 39), (u9 40), (u9 41), (u9 42), (u9 43), (u9 44), (u9 45), (u9 46), (u9 47), (u9 48), (u9 49), (u9 50), (u9 51), (u9 52), (u9 53), (u9 54), (u9 55), .slice A ls.length c, .int .i64 ((ls.length : Nat) : Int), .int .u8 ((ls.length : Nat) : Int), .slice A ls.length c, .pointer (some ⟨b103, o104 + 0 * 1, none⟩), .slice (As 0) ((ls.getD 0 []).length) (cs 0), .int .i64 (((ls.getD 0 []).length : Nat) : Int), .int .u8 (((ls.getD 0 []).length : Nat) : Int), .slice (some ⟨g106, 0, none⟩) 2 2, .slice A1 m c1, .slice A119 ((payload (blB ls ls.length)).length) cq120, .slice A129 (2 + ((payload (blB ls ls.length)).length)) cq130, .slice A142 m139 cq143], []⟩) (by kernel_rfl) ?_
        refine wp_ret ?_
        exact done2 2 3 (.slice A142 m139 cq143) (.int .i64 0) (by kernel_rfl) (by kernel_rfl) (by kernel_rfl) (by kernel_rfl) ⟨_, T135, rfl, ⟨_, m139, by rw [(pb_t hBP).2], by rw [(pb_t hBP).1]; unfold blkL; rw [summedB_len]; exact hm140, by rw [(pb_t hBP).1]; exact O141⟩, M138.sub (List.sublist_append_left T135 (T124 ++ (T115 ++ (T1 ++ []))))⟩
      ·
        refine wi_callR (A := []) (B := (T1 ++ [])) M101 10 rfl trivial (by kernel_rfl) (run_value_call 51 #[(Operand.tmp 65)] _ rfl Try.func51 (by kernel_rfl) (by kernel_rfl) _ (by kernel_rfl)) #[true, true, true, true, true, true, true, true, false, true, true, false, false, false, false] rfl (payloadM W10.drew (.slice A1 m c1) (blB ls ls.length) ((by rw [← hm9]; exact O1.rd (fun p hp => M101.at_ p (List.mem_append_left _ hp)))) (blB_bin _ _) (by omega)) ?_
        intro v146 T147 W148 O149 M150
        have M150 : Mem NoS w W148 ((T147 ++ (T1 ++ []))) := M150
        obtain ⟨A151, cq152, rfl, hc153⟩ := O149.shape
        have hS154 : Mem NoS w W148 ((T1 ++ [])) := M150.sub (((List.Sublist.refl []).append_left T1).trans (List.sublist_append_right T147 _))
        refine ⟨hS154, ?_⟩
        refine wh_new M150 8 (.cells #[.int .u8 ((ls.length : Nat) : Int), .int .u8 (((ls.getD 0 []).length : Nat) : Int)] 5 (0, 0)) (fun g => .slice (some ⟨g, 0, none⟩) 2 2) rfl (by kernel_rfl) (by kernel_rfl) (by kernel_rfl) #[true, true, true, true, true, true, true, true, true, true, true, false, false, false, false] rfl ?_
        intro g155 W156 M157
        have hS158 : Mem NoS w W156 ((T1 ++ [])) := M157.sub ((((List.Sublist.refl []).append_left T1).trans (List.sublist_append_right T147 _)).cons _)
        refine ⟨hS158, ?_⟩
        obtain ⟨T159, e162⟩ : ∃ T, T = [(g155, (.cells #[.int .u8 ((ls.length : Nat) : Int), .int .u8 (((ls.getD 0 []).length : Nat) : Int)] 5 (0, 0) : Obj))] := ⟨_, rfl⟩
        have O160 : Own 5 1 (.slice (some ⟨g155, 0, none⟩) 2 2) 2 (u8s ([ls.length, (ls.getD 0 []).length])) T159 := e162 ▸ own_lit 5 g155 (u8s ([ls.length, (ls.getD 0 []).length])) 2 rfl (by decide)
        have M161 : Mem NoS w W156 ((T159 ++ (T147 ++ (T1 ++ [])))) := by rw [e162]; exact M157
        obtain ⟨v163, T164, W165, hr166, O167, M168⟩ := append_u8 (A := []) (T := T159) (B := (T147 ++ (T1 ++ []))) M161 22 _ _ _ O160 _ ((payload (blB ls ls.length)).length) (u8s (payload (blB ls ls.length))) (O149.rd (fun p hp => M161.at_ p (List.mem_append_right _ (List.mem_append_left _ hp)))) (by rw [u8s_length]; omega) (u8s_one _) (by omega)
        have M168 : Mem NoS w W165 ((T164 ++ (T147 ++ (T1 ++ [])))) := M168
        obtain ⟨A169, cq170, rfl, hc171⟩ := O167.shape
        rw [← u8s_append] at O167
        have hS172 : Mem NoS w W165 ((T1 ++ [])) := M168.sub ((((List.Sublist.refl []).append_left T1).trans (List.sublist_append_right T147 _)).trans (List.sublist_append_right T164 _))
        refine wh_world 11 (.slice A169 (2 + ((payload (blB ls ls.length)).length)) cq170) W165 rfl (by kernel_rfl) (by kernel_rfl) (run_append_op (.tmp 64) (.tmp 66) _ rfl (.slice (some ⟨g155, 0, none⟩) 2 2) (.slice A151 ((payload (blB ls ls.length)).length) cq152) _ (by kernel_rfl) (by kernel_rfl) hr166) #[true, true, true, true, true, true, true, true, true, true, true, true, false, false, false] rfl hS172 ?_
        refine wh_callR (A := []) (B := (T164 ++ (T147 ++ (T1 ++ [])))) M168 12 rfl (by kernel_rfl) (by kernel_rfl) (run_value_call 37 #[(Operand.tmp 67)] _ rfl Try.func37 (by kernel_rfl) (by kernel_rfl) _ (by kernel_rfl)) #[true, true, true, true, true, true, true, true, true, true, true, true, true, false, false] rfl (refSummed_walk W165 (.slice A169 (2 + ((payload (blB ls ls.length)).length)) cq170) ([ls.length, (ls.getD 0 []).length] ++ payload (blB ls ls.length)) ((by rw [List.length_append]; exact O167.rd (fun p hp => M168.at_ p (List.mem_append_left _ hp)))) (blk_lt0 hBP) (by rw [List.length_append, hpl]; simp; omega)) ?_
        intro v173 T174 W175 O176 M177
        have M177 : Mem NoS w W175 ((T174 ++ (T164 ++ (T147 ++ (T1 ++ []))))) := M177
        obtain ⟨m178, hm179, O180⟩ := O176
        obtain ⟨A181, cq182, rfl, hc183⟩ := O180.shape
        have hS184 : Mem NoS w W175 ((T1 ++ [])) := M177.sub (((((List.Sublist.refl []).append_left T1).trans (List.sublist_append_right T147 _)).trans (List.sublist_append_right T164 _)).trans (List.sublist_append_right T174 _))
        refine ⟨hS184, ?_⟩
        refine wh_take R99 13 (.slice A181 m178 cq182) rfl (by kernel_rfl) (by kernel_rfl) (by kernel_rfl) (fun w' M' => (by kernel_rfl)) hS184 #[true, true, true, true, true, true, true, true, true, true, true, true, true, true, false] rfl ?_
        refine wh_take R99 14 (.int .i64 0) rfl (by kernel_rfl) (by kernel_rfl) (by kernel_rfl) (fun w' M' => (by kernel_rfl)) hS184 #[true, true, true, true, true, true, true, true, true, true, true, true, true, true, true] rfl ?_
        refine wh_done (by kernel_rfl) ?_
        refine hK98 _ _ ?_
        try clear hK98 K98
        refine wp_frame (a' := ⟨#[.slice A ls.length c, undef, .slice A181 m178 cq182, .int .i64 0, .slice A1 m c1, .int .i64 ((i : Nat) : Int), (u9 6), (u9 7), (u9 8), .slice A ls.length c, .bool true, .bool false, .int .i64 ((i : Nat) : Int), .slice A ls.length c, .int .i64 ((ls.length : Nat) : Int), .bool false, (u9 16), (u9 17), (u9 18), (u9 19), (u9 20), (u9 21), (u9 22), (u9 23), (u9 24), (u9 25), (u9 26), (u9 27), (u9 28), (u9 29), (u9 30), (u9 31), (u9 32), (u9 33), (u9 34), (u9 35), (u9 36), (u9 37), (u9 38), (u9 39), (u9 40), (u9 41), (u9 42), (u9 43), (u9 44), (u9 45), (u9 46), (u9 47), (u9 48), (u9 49), (u9 50), (u9 51), (u9 52), (u9 53), (u9 54), (u9 55), .slice A ls.length c, .int .i64 ((ls.length : Nat) : Int), .int .u8 ((ls.length : Nat) : Int), .slice A ls.length c, .pointer (some ⟨b103, o104 + 0 * 1, none⟩), .slice (As 0) ((ls.getD 0 []).length) (cs 0), .int .i64 (((ls.getD 0 []).length : Nat) : Int), .int .u8 (((ls.getD 0 []).length : Nat) : Int), .slice (some ⟨g155, 0, none⟩) 2 2, .slice A1 m c1, .slice A151 ((payload (blB ls ls.length)).length) cq152, .slice A169 (2 + ((payload (blB ls ls.length)).length)) cq170, .slice A181 m178 cq182], []⟩) (by kernel_rfl) ?_
        refine wp_ret ?_
        exact done2 2 3 (.slice A181 m178 cq182) (.int .i64 0) (by kernel_rfl) (by kernel_rfl) (by kernel_rfl) (by kernel_rfl) ⟨_, T174, rfl, ⟨_, m178, by rw [(pb_t hBP).2], by rw [(pb_t hBP).1]; unfold blkL; rw [summedB_len]; exact hm179, by rw [(pb_t hBP).1]; exact O180⟩, M177.sub (List.sublist_append_left T174 (T164 ++ (T147 ++ (T1 ++ []))))⟩
  ·
    have hnb := of_decide_eq_false hbp
    refine st_callB M0 (.bool false) (by kernel_rfl) (args := #[.slice A ls.length c]) (run_value_call 48 #[(Operand.tmp 9)] _ rfl Try.func48 (by kernel_rfl) (by kernel_rfl) _ (by kernel_rfl)) ((by have := block_walk w (.slice A ls.length c) ls As cs (hP.keep M0.keep (fun _ h => h)) (by omega); rw [hbp] at this; exact this)) ?_
    intro W185 M186
    refine st_val (.bool true) (by kernel_rfl) (by kernel_rfl) ?_
    refine wl_nil ?_
    refine hK3 _ _ ?_
    try clear hK3 K3
    refine wp_cond_true (by kernel_rfl) ?_
    refine wp_seq_k (fun K187 hK187 => ?_)
    refine wl_region ?_
    refine st_val ((Go.Value.slice none 0 0)) (by kernel_rfl) (by kernel_rfl) ?_
    refine st_val (.int .i64 1) (by kernel_rfl) (by kernel_rfl) ?_
    refine wl_nil ?_
    refine hK187 _ _ ?_
    try clear hK187 K187
    refine wp_ret ?_
    refine th_ret ?_
    exact done2 2 3 ((Go.Value.slice none 0 0)) (.int .i64 1) (by kernel_rfl) (by kernel_rfl) (by kernel_rfl) (by kernel_rfl) ⟨_, [], rfl, ⟨_, 0, by rw [(pb_f hnb).2], by rw [(pb_f hnb).1]; rfl, by rw [(pb_f hnb).1]; exact Own.nil _ _⟩, M186.sub (List.nil_sublist _)⟩
end Go.Proofs.Ytmimljaniliecaa
