/- Sound is coded. -/
import Derived.Test.YtmimljaniliecaaBa
import Derived.Test.YtmimljaniliecaaMg
namespace Go.Proofs.Ytmimljaniliecaa
open Go.RowKit Bt
set_option maxHeartbeats 4000000 in
set_option maxRecDepth 100000 in
theorem enc_walk (w : World) (v : Value) (ls : List (List Int)) (As : Nat → Option Addr) (cs : Nat → Nat) (hP : RdP w v ls As cs) (hsp : SP ls) (hl4 : ls.length ≤ 1000000) : MakesRow Try.prog 26 #[v] w (fun v T => ∃ v1 m, v = .tuple #[v1, .int .i64 (enE ls)] ∧ m = (enL ls).length ∧ Own 5 1 v1 m (u8s (enL ls)) T) := by
  unfold MakesRow
  obtain ⟨A, c, rfl, hc⟩ := hP.rd.shape
  have hPk := hP
  refine calls_of_wp Try.func26 rfl ?_
  refine wp_frame (a' := ⟨#[.slice A ls.length c, undef, undef, undef, undef, undef, undef, undef, undef, undef, undef, undef, undef, undef, undef, undef, undef, undef, undef, undef, undef, undef, undef, undef, undef, undef, undef, undef, undef, undef, undef, undef, undef, undef, undef, undef, undef, undef, undef, undef, undef, undef, undef, undef, undef, undef, undef, undef, undef, undef, undef, undef, undef, undef, undef, undef, undef, undef, undef, undef, undef, undef, undef, undef, undef, undef, undef, undef], []⟩) (by kernel_rfl) ?_
  have M0 : Mem NoS w w [] := Mem.start _ _
  refine wp_seq_k (fun K1 hK1 => ?_)
  refine wl_region ?_
  refine st_val ((Go.Value.slice none 0 0)) (by kernel_rfl) (by kernel_rfl) ?_
  refine st_val (.int .i64 0) (by kernel_rfl) (by kernel_rfl) ?_
  refine wl_nil ?_
  refine hK1 _ _ ?_
  try clear hK1 K1
  refine wp_seq_k (fun K2 hK2 => ?_)
  refine wp_seq_k (fun K3 hK3 => ?_)
  refine wl_region ?_
  refine st_val (.slice A ls.length c) (by kernel_rfl) (by kernel_rfl) ?_
  rcases Bool.eq_false_or_eq_true (ppB ls) with hpp | hpp
  ·
    obtain ⟨hp1, hp2, hp3⟩ := ppB_of hpp
    refine st_callB M0 (.bool true) (by kernel_rfl) (args := #[.slice A ls.length c]) (run_value_call 42 #[(Operand.tmp 12)] _ rfl Try.func42 (by kernel_rfl) (by kernel_rfl) _ (by kernel_rfl)) ((by have := proper_walk w (.slice A ls.length c) ls As cs (hP.keep M0.keep (fun _ h => h)) (by omega); rw [hpp] at this; exact this)) ?_
    intro W4 M5
    refine st_val (.bool false) (by kernel_rfl) (by kernel_rfl) ?_
    refine wl_nil ?_
    refine hK3 _ _ ?_
    try clear hK3 K3
    refine wp_cond_false (by kernel_rfl) ?_
    refine wp_skip ?_
    refine hK2 _ _ ?_
    try clear hK2 K2
    refine wp_seq_k (fun K6 hK6 => ?_)
    refine wl_region ?_
    refine st_val (.slice A ls.length c) (by kernel_rfl) (by kernel_rfl) ?_
    obtain ⟨b7, o8, eA9⟩ := RdK.addr (hP.rd.keep M5.keep (fun _ _ h => h)) (j := 0 * 1) (by rw [pvs_length]; omega)
    refine st_val (.pointer (some ⟨b7, o8 + 0 * 1, none⟩)) (by kernel_rfl) (run_indexSliceA 28 (.tmp 15) _ rfl A ⟨b7, o8, none⟩ eA9 ls.length c .i64 0 (by kernel_rfl) (by kernel_rfl) Try.underlying28 1 (by kernel_rfl) (by omega) ⟨b7, o8 + 0 * 1, none⟩ (addr_atK _ _ _ _)) ?_
    refine st_val (.slice (As 0) ((ls.getD 0 []).length) (cs 0)) (by kernel_rfl) (run_load_cell 39 (.tmp 16) rfl ⟨b7, o8 + 0 * 1, none⟩ (by kernel_rfl) _ ((hP.rd.keep M5.keep (fun _ _ h => h)).cellF eA9 (f := 0) (pvs_get ls As cs 0 (by omega))) (by kernel_rfl)) ?_
    refine st_val (.int .i64 (((ls.getD 0 []).length : Nat) : Int)) (by kernel_rfl) (by kernel_rfl) ?_
    refine st_val (.int .i64 (((ls.getD 0 []).length : Nat) : Int)) (by kernel_rfl) (by kernel_rfl) ?_
    refine wl_nil ?_
    refine hK6 _ _ ?_
    try clear hK6 K6
    refine wp_seq_k (fun K10 hK10 => ?_)
    have hPP : PP ls := ⟨hp1, hp2, hp3⟩
    refine wl_region ?_
    refine st_callR (A := []) (B := []) M5 (by kernel_rfl) (run_value_call 53 #[] _ rfl Try.func53 (by kernel_rfl) (by kernel_rfl) _ (by kernel_rfl)) (magic_walk W4) ?_
    intro v11 T12 W13 O14 M15
    have M15 : Mem NoS w W13 ((T12 ++ [])) := M15
    obtain ⟨A16, cq17, rfl, hc18⟩ := O14.shape
    refine st_val (.slice A ls.length c) (by kernel_rfl) (by kernel_rfl) ?_
    refine st_val (.int .i64 ((ls.length : Nat) : Int)) (by kernel_rfl) (by kernel_rfl) ?_
    refine st_val (.int .u8 ((ls.length : Nat) : Int)) (by kernel_rfl) (int_of (wrap_u8 (by omega)) (by kernel_rfl)) ?_
    refine st_val (.int .i64 (((ls.getD 0 []).length : Nat) : Int)) (by kernel_rfl) (by kernel_rfl) ?_
    refine st_val (.int .i64 (((ls.getD 0 []).length / 65536 : Nat) : Int)) (by kernel_rfl) (int_of (show (((ls.getD 0 []).length : Nat) : Int) / 2 ^ 16 = (((ls.getD 0 []).length / 65536 : Nat) : Int) from (by omega)) (run_value_bin .shr 3 48 (.tmp 23) _ rfl (.int .i64 (((ls.getD 0 []).length : Nat) : Int)) (.int .u64 16) _ (by kernel_rfl) (by kernel_rfl) (by kernel_rfl) (bin_shr (n := 16) (by decide)))) ?_
    refine st_val (.int .u8 (((ls.getD 0 []).length / 65536 : Nat) : Int)) (by kernel_rfl) (int_of (wrap_u8 (by omega)) (by kernel_rfl)) ?_
    refine st_val (.int .i64 (((ls.getD 0 []).length : Nat) : Int)) (by kernel_rfl) (by kernel_rfl) ?_
    refine st_val (.int .i64 (((ls.getD 0 []).length / 256 : Nat) : Int)) (by kernel_rfl) (int_of (show (((ls.getD 0 []).length : Nat) : Int) / 2 ^ 8 = (((ls.getD 0 []).length / 256 : Nat) : Int) from (by omega)) (run_value_bin .shr 3 48 (.tmp 26) _ rfl (.int .i64 (((ls.getD 0 []).length : Nat) : Int)) (.int .u64 8) _ (by kernel_rfl) (by kernel_rfl) (by kernel_rfl) (bin_shr (n := 8) (by decide)))) ?_
    refine st_val (.int .u8 (((ls.getD 0 []).length / 256 % 256 : Nat) : Int)) (by kernel_rfl) (int_of (wrap_u8m ((ls.getD 0 []).length / 256)) (by kernel_rfl)) ?_
    refine st_val (.int .i64 (((ls.getD 0 []).length : Nat) : Int)) (by kernel_rfl) (by kernel_rfl) ?_
    refine st_val (.int .u8 (((ls.getD 0 []).length % 256 : Nat) : Int)) (by kernel_rfl) (int_of (wrap_u8m ((ls.getD 0 []).length)) (by kernel_rfl)) ?_
    refine st_new M15 (.cells #[.int .u8 ((ls.length : Nat) : Int), .int .u8 (((ls.getD 0 []).length / 65536 : Nat) : Int), .int .u8 (((ls.getD 0 []).length / 256 % 256 : Nat) : Int), .int .u8 (((ls.getD 0 []).length % 256 : Nat) : Int)] 5 (0, 0)) (fun g => .slice (some ⟨g, 0, none⟩) 4 4) (by kernel_rfl) (by kernel_rfl) ?_
    intro g19 W20 M21
    obtain ⟨v22, T23, W24, hr25, O26, M27⟩ := append_u8 (A := [(g19, .cells #[.int .u8 ((ls.length : Nat) : Int), .int .u8 (((ls.getD 0 []).length / 65536 : Nat) : Int), .int .u8 (((ls.getD 0 []).length / 256 % 256 : Nat) : Int), .int .u8 (((ls.getD 0 []).length % 256 : Nat) : Int)] 5 (0, 0))]) (T := T12) (B := []) M21 22 _ _ _ O14 _ 4 (u8s ([ls.length, (ls.getD 0 []).length / 65536, (ls.getD 0 []).length / 256 % 256, (ls.getD 0 []).length % 256])) (rdk_lit (xs := u8s [ls.length, (ls.getD 0 []).length / 65536, (ls.getD 0 []).length / 256 % 256, (ls.getD 0 []).length % 256]) (M21.get 0 rfl) rfl) rfl (u8s_one _) (by omega)
    have M27 : Mem NoS w W24 ((g19, .cells #[.int .u8 ((ls.length : Nat) : Int), .int .u8 (((ls.getD 0 []).length / 65536 : Nat) : Int), .int .u8 (((ls.getD 0 []).length / 256 % 256 : Nat) : Int), .int .u8 (((ls.getD 0 []).length % 256 : Nat) : Int)] 5 (0, 0)) :: (T23 ++ [])) := M27
    obtain ⟨A28, cq29, rfl, hc30⟩ := O26.shape
    rw [← u8s_append] at O26
    refine st_world (.slice A28 (4 + 4) cq29) W24 (by kernel_rfl) (run_append_op (.tmp 19) (.tmp 31) _ rfl (.slice A16 4 cq17) (.slice (some ⟨g19, 0, none⟩) 4 4) _ (by kernel_rfl) (by kernel_rfl) hr25) ?_
    refine st_callU (A := [(g19, .cells #[.int .u8 ((ls.length : Nat) : Int), .int .u8 (((ls.getD 0 []).length / 65536 : Nat) : Int), .int .u8 (((ls.getD 0 []).length / 256 % 256 : Nat) : Int), .int .u8 (((ls.getD 0 []).length % 256 : Nat) : Int)] 5 (0, 0))]) (T := T23) (B := []) M27 (by kernel_rfl) (run_value_call 46 #[(Operand.tmp 32)] _ rfl Try.func46 (by kernel_rfl) (by kernel_rfl) _ (by kernel_rfl)) (summed_walk W24 (Mem.part (A := [(g19, .cells #[.int .u8 ((ls.length : Nat) : Int), .int .u8 (((ls.getD 0 []).length / 65536 : Nat) : Int), .int .u8 (((ls.getD 0 []).length / 256 % 256 : Nat) : Int), .int .u8 (((ls.getD 0 []).length % 256 : Nat) : Int)] 5 (0, 0))]) (T := T23) (B := []) M27) (.slice A28 (4 + 4) cq29) ([67, 82, 83, 68] ++ [ls.length, (ls.getD 0 []).length / 65536, (ls.getD 0 []).length / 256 % 256, (ls.getD 0 []).length % 256]) (4 + 4) O26 (hdR_lt hPP) ⟨hdR_len ls, by decide⟩) ?_
    intro v31 T32 W33 O34 M35
    obtain ⟨m36, hm37, O38⟩ := O34
    obtain ⟨A39, cq40, rfl, hc41⟩ := O38.shape
    have M42 : Mem NoS w W33 ((g19, .cells #[.int .u8 ((ls.length : Nat) : Int), .int .u8 (((ls.getD 0 []).length / 65536 : Nat) : Int), .int .u8 (((ls.getD 0 []).length / 256 % 256 : Nat) : Int), .int .u8 (((ls.getD 0 []).length % 256 : Nat) : Int)] 5 (0, 0)) :: (T32 ++ [])) := M35
    refine st_val (.slice A39 m36 cq40) (by kernel_rfl) (by kernel_rfl) ?_
    refine wl_nil ?_
    refine hK10 _ _ ?_
    try clear hK10 K10
    refine wp_frame (a' := ⟨#[.slice A ls.length c, undef, (Go.Value.slice none 0 0), .int .i64 0, .int .i64 (((ls.getD 0 []).length : Nat) : Int), .slice A39 m36 cq40, undef, undef, undef, undef, undef, undef, .slice A ls.length c, .bool true, .bool false, .slice A ls.length c, .pointer (some ⟨b7, o8 + 0 * 1, none⟩), .slice (As 0) ((ls.getD 0 []).length) (cs 0), .int .i64 (((ls.getD 0 []).length : Nat) : Int), .slice A16 4 cq17, .slice A ls.length c, .int .i64 ((ls.length : Nat) : Int), .int .u8 ((ls.length : Nat) : Int), .int .i64 (((ls.getD 0 []).length : Nat) : Int), .int .i64 (((ls.getD 0 []).length / 65536 : Nat) : Int), .int .u8 (((ls.getD 0 []).length / 65536 : Nat) : Int), .int .i64 (((ls.getD 0 []).length : Nat) : Int), .int .i64 (((ls.getD 0 []).length / 256 : Nat) : Int), .int .u8 (((ls.getD 0 []).length / 256 % 256 : Nat) : Int), .int .i64 (((ls.getD 0 []).length : Nat) : Int), .int .u8 (((ls.getD 0 []).length % 256 : Nat) : Int), .slice (some ⟨g19, 0, none⟩) 4 4, .slice A28 (4 + 4) cq29, .slice A39 m36 cq40, undef, undef, undef, undef, undef, undef, undef, undef, undef, undef, undef, undef, undef, undef, undef, undef, undef, undef, undef, undef, undef, undef, undef, undef, undef, undef, undef, undef, undef, undef, undef, undef, undef, undef], []⟩) (by kernel_rfl) ?_
    refine wp_seq_k (fun K43 hK43 => ?_)
    refine wp_seq_k (fun K44 hK44 => ?_)
    refine wl_region ?_
    refine st_val (.int .i64 0) (by kernel_rfl) (by kernel_rfl) ?_
    refine wl_nil ?_
    refine hK44 _ _ ?_
    try clear hK44 K44
    refine wp_block ?_
    have M45 : Mem NoS w W33 ((T32 ++ [])) := M42.sub (((List.Sublist.refl []).append_left T32).cons _)
    refine wp_loop_ghost (fun gn a' w' => ∃ (k : Nat) (m : Nat) (A1 : Option Addr) (c1 : Nat) (T1 : List (Nat × Obj)) (u46 : Nat → Value), ((32 * k < (ls.getD 0 []).length + 32 ∧ m = (hdL ls ++ enB ls k).length ∧ Own 5 1 (.slice A1 m c1) m (u8s (hdL ls ++ enB ls k)) T1) ∧ Mem NoS w w' ((T1 ++ []))) ∧ gn = (ls.getD 0 []).length + 32 - 32 * k ∧ a' = ⟨#[.slice A ls.length c, undef, (u46 2), (u46 3), .int .i64 (((ls.getD 0 []).length : Nat) : Int), .slice A1 m c1, .int .i64 ((32 * k : Nat) : Int), (u46 7), undef, (u46 9), (u46 10), (u46 11), .slice A ls.length c, .bool true, .bool false, .slice A ls.length c, .pointer (some ⟨b7, o8 + 0 * 1, none⟩), .slice (As 0) ((ls.getD 0 []).length) (cs 0), .int .i64 (((ls.getD 0 []).length : Nat) : Int), .slice A16 4 cq17, .slice A ls.length c, .int .i64 ((ls.length : Nat) : Int), .int .u8 ((ls.length : Nat) : Int), .int .i64 (((ls.getD 0 []).length : Nat) : Int), .int .i64 (((ls.getD 0 []).length / 65536 : Nat) : Int), .int .u8 (((ls.getD 0 []).length / 65536 : Nat) : Int), .int .i64 (((ls.getD 0 []).length : Nat) : Int), .int .i64 (((ls.getD 0 []).length / 256 : Nat) : Int), .int .u8 (((ls.getD 0 []).length / 256 % 256 : Nat) : Int), .int .i64 (((ls.getD 0 []).length : Nat) : Int), .int .u8 (((ls.getD 0 []).length % 256 : Nat) : Int), .slice (some ⟨g19, 0, none⟩) 4 4, .slice A28 (4 + 4) cq29, .slice A39 m36 cq40, (u46 34), (u46 35), (u46 36), (u46 37), (u46 38), (u46 39), (u46 40), (u46 41), (u46 42), (u46 43), (u46 44), (u46 45), (u46 46), (u46 47), (u46 48), (u46 49), (u46 50), (u46 51), (u46 52), (u46 53), (u46 54), (u46 55), (u46 56), (u46 57), (u46 58), (u46 59), (u46 60), (u46 61), (u46 62), (u46 63), (u46 64), (u46 65), (u46 66), undef], []⟩) _ ⟨0, m36, A39, cq40, T32, (fun zz => Array.getD #[undef, undef, (Go.Value.slice none 0 0), .int .i64 0, undef, undef, undef, undef, undef, undef, undef, undef, undef, undef, undef, undef, undef, undef, undef, undef, undef, undef, undef, undef, undef, undef, undef, undef, undef, undef, undef, undef, undef, undef, undef, undef, undef, undef, undef, undef, undef, undef, undef, undef, undef, undef, undef, undef, undef, undef, undef, undef, undef, undef, undef, undef, undef, undef, undef, undef, undef, undef, undef, undef, undef, undef, undef] zz undef), ⟨⟨by omega, by rw [List.length_append, hdL_len]; exact hm37, by show Own _ _ _ _ (u8s (hdL ls ++ [])) _; rw [List.append_nil]; exact O38⟩, M45⟩, rfl, (by kernel_rfl)⟩ ?_
    rintro gn _ W47 ⟨k, m, A1, c1, T1, u46, ⟨⟨rk, hm, O1⟩, M48⟩, rfl, rfl⟩
    refine wp_seq_k (fun K49 hK49 => ?_)
    refine wp_seq_k (fun K50 hK50 => ?_)
    refine wl_region ?_
    refine st_val (.int .i64 ((32 * k : Nat) : Int)) (by kernel_rfl) (by kernel_rfl) ?_
    refine st_val (.int .i64 (((ls.getD 0 []).length : Nat) : Int)) (by kernel_rfl) (by kernel_rfl) ?_
    rcases Decidable.em ((((32 * k : Nat) : Int) : Int) < (((ls.getD 0 []).length : Nat) : Int)) with c36 | c36
    ·
      refine st_val (.bool true) (by kernel_rfl) (bool_of (dec_t c36) (by kernel_rfl)) ?_
      refine wl_nil ?_
      refine hK50 _ _ ?_
      try clear hK50 K50
      refine wp_cond_true (by kernel_rfl) ?_
      refine wp_skip ?_
      refine hK49 _ _ ?_
      try clear hK49 K49
      refine wp_seq_k (fun K51 hK51 => ?_)
      refine wp_block ?_
      refine wp_seq_k (fun K52 hK52 => ?_)
      have hdl := hdL_len ls
      have hel := enB_len ls k
      have hpl := pbL_len (cutL ls (32 * k))
      have hml : m = 10 + (enB ls k).length := by rw [hm, List.length_append, hdl]
      refine wl_region ?_
      refine st_val ((Go.Value.slice none 0 0)) (by kernel_rfl) (by kernel_rfl) ?_
      refine wl_nil ?_
      refine hK52 _ _ ?_
      try clear hK52 K52
      refine wp_seq_k (fun K53 hK53 => ?_)
      refine wp_seq_k (fun K54 hK54 => ?_)
      refine wl_region ?_
      refine st_val (.slice A ls.length c) (by kernel_rfl) (by kernel_rfl) ?_
      refine st_val (.int .i64 ((ls.length : Nat) : Int)) (by kernel_rfl) (by kernel_rfl) ?_
      refine st_val (.int .i64 0) (by kernel_rfl) (by kernel_rfl) ?_
      refine wl_nil ?_
      refine hK54 _ _ ?_
      try clear hK54 K54
      refine wp_block ?_
      refine wp_loop_ghost (fun gn a' w' => ∃ (j : Nat) (A2 : Option Addr) (c2 : Nat) (T2 : List (Nat × Obj)) (u55 : Nat → Value), ((j ≤ ls.length ∧ Own 39 1 (.slice A2 j c2) j ((pvs (cutL ls (32 * k)) (cutA As cs (32 * k)) (cutC cs (32 * k))).take j) T2) ∧ Mem NoS w w' ((T2 ++ (T1 ++ [])))) ∧ gn = ls.length - j ∧ a' = ⟨#[.slice A ls.length c, undef, (u46 2), (u46 3), .int .i64 (((ls.getD 0 []).length : Nat) : Int), .slice A1 m c1, .int .i64 ((32 * k : Nat) : Int), .slice A2 j c2, undef, (u55 9), (u46 10), (u46 11), .slice A ls.length c, .bool true, .bool false, .slice A ls.length c, .pointer (some ⟨b7, o8 + 0 * 1, none⟩), .slice (As 0) ((ls.getD 0 []).length) (cs 0), .int .i64 (((ls.getD 0 []).length : Nat) : Int), .slice A16 4 cq17, .slice A ls.length c, .int .i64 ((ls.length : Nat) : Int), .int .u8 ((ls.length : Nat) : Int), .int .i64 (((ls.getD 0 []).length : Nat) : Int), .int .i64 (((ls.getD 0 []).length / 65536 : Nat) : Int), .int .u8 (((ls.getD 0 []).length / 65536 : Nat) : Int), .int .i64 (((ls.getD 0 []).length : Nat) : Int), .int .i64 (((ls.getD 0 []).length / 256 : Nat) : Int), .int .u8 (((ls.getD 0 []).length / 256 % 256 : Nat) : Int), .int .i64 (((ls.getD 0 []).length : Nat) : Int), .int .u8 (((ls.getD 0 []).length % 256 : Nat) : Int), .slice (some ⟨g19, 0, none⟩) 4 4, .slice A28 (4 + 4) cq29, .slice A39 m36 cq40, .int .i64 ((32 * k : Nat) : Int), .int .i64 (((ls.getD 0 []).length : Nat) : Int), .bool true, (u46 37), (u46 38), .slice A ls.length c, .int .i64 ((ls.length : Nat) : Int), .int .i64 ((j : Nat) : Int), (u55 42), (u55 43), (u55 44), (u55 45), (u55 46), (u55 47), (u55 48), (u55 49), (u55 50), (u55 51), (u55 52), (u55 53), (u55 54), (u55 55), (u46 56), (u46 57), (u46 58), (u46 59), (u46 60), (u46 61), (u46 62), (u46 63), (u46 64), (u46 65), (u46 66), undef], []⟩) _ ⟨0, none, 0, ([]), (fun zz => Array.getD #[undef, undef, undef, undef, undef, undef, undef, undef, undef, (u46 9), undef, undef, undef, undef, undef, undef, undef, undef, undef, undef, undef, undef, undef, undef, undef, undef, undef, undef, undef, undef, undef, undef, undef, undef, undef, undef, undef, undef, undef, undef, undef, undef, (u46 42), (u46 43), (u46 44), (u46 45), (u46 46), (u46 47), (u46 48), (u46 49), (u46 50), (u46 51), (u46 52), (u46 53), (u46 54), (u46 55)] zz undef), ⟨⟨by omega, Own.nil _ _⟩, M48⟩, rfl, (by kernel_rfl)⟩ ?_
      rintro gn _ W56 ⟨j, A2, c2, T2, u55, ⟨⟨rj, O2⟩, M57⟩, rfl, rfl⟩
      refine wp_seq_k (fun K58 hK58 => ?_)
      refine wl_region ?_
      rcases Decidable.em ((((j : Nat) : Int) : Int) < ((ls.length : Nat) : Int)) with c42 | c42
      ·
        refine st_val (.bool true) (by kernel_rfl) (bool_of (dec_t c42) (by kernel_rfl)) ?_
        refine wl_nil ?_
        refine hK58 _ _ ?_
        try clear hK58 K58
        refine wp_seq_k (fun K59 hK59 => ?_)
        refine wp_cond_true (by kernel_rfl) ?_
        refine wp_skip ?_
        refine hK59 _ _ ?_
        try clear hK59 K59
        refine wp_seq_k (fun K60 hK60 => ?_)
        refine wp_block ?_
        refine wp_seq_k (fun K61 hK61 => ?_)
        have hlj := hp3 j (by omega)
        refine wl_region ?_
        obtain ⟨b62, o63, eA64⟩ := RdK.addr (hP.rd.keep M57.keep (fun _ _ h => h)) (j := j * 1) (by rw [pvs_length]; omega)
        refine st_val (.pointer (some ⟨b62, o63 + j * 1, none⟩)) (by kernel_rfl) (run_indexSliceA 28 (.tmp 39) (.tmp 41) rfl A ⟨b62, o63, none⟩ eA64 ls.length c .i64 j (by kernel_rfl) (by kernel_rfl) Try.underlying28 1 (by kernel_rfl) (by omega) ⟨b62, o63 + j * 1, none⟩ (addr_atK _ _ _ _)) ?_
        refine st_val (.slice (As j) ((ls.getD j []).length) (cs j)) (by kernel_rfl) (run_load_cell 39 (.tmp 43) rfl ⟨b62, o63 + j * 1, none⟩ (by kernel_rfl) _ ((hP.rd.keep M57.keep (fun _ _ h => h)).cellF eA64 (f := 0) (pvs_get ls As cs j (by omega))) (by kernel_rfl)) ?_
        refine st_val (.slice (As j) ((ls.getD j []).length) (cs j)) (by kernel_rfl) (by kernel_rfl) ?_
        refine wl_nil ?_
        refine hK61 _ _ ?_
        try clear hK61 K61
        have hcj := RdK.cap (hP.ch j (by omega) (by omega))
        refine wl_region ?_
        refine st_val (.slice A2 j c2) (by kernel_rfl) (by kernel_rfl) ?_
        refine st_val (.slice (As j) ((ls.getD j []).length) (cs j)) (by kernel_rfl) (by kernel_rfl) ?_
        refine st_val (.int .i64 ((32 * k : Nat) : Int)) (by kernel_rfl) (by kernel_rfl) ?_
        refine st_val (.int .i64 ((32 * k : Nat) : Int)) (by kernel_rfl) (by kernel_rfl) ?_
        refine st_val (.int .i64 ((32 * k + 32 : Nat) : Int)) (by kernel_rfl) (int_of (show ((32 * k : Nat) : Int) + 32 = ((32 * k + 32 : Nat) : Int) by omega) (i64_of (by omega) (by kernel_rfl))) ?_
        refine st_val (.int .i64 (((ls.getD 0 []).length : Nat) : Int)) (by kernel_rfl) (by kernel_rfl) ?_
        refine st_val (.int .i64 ((min (32 * k + 32) (ls.getD 0 []).length : Nat) : Int)) (by kernel_rfl) (int_of (show (if (((ls.getD 0 []).length : Nat) : Int) < ((32 * k + 32 : Nat) : Int) then (((ls.getD 0 []).length : Nat) : Int) else ((32 * k + 32 : Nat) : Int)) = ((min (32 * k + 32) (ls.getD 0 []).length : Nat) : Int) by omega) (by kernel_rfl)) ?_
        refine st_val (.slice (subA (As j) (cs j) (32 * k)) ((min (32 * k + 32) (ls.getD 0 []).length) - (32 * k)) ((cs j) - (32 * k))) (by kernel_rfl) (run_sub_lh 39 45 (.tmp 46) (.tmp 47) (.tmp 51) rfl Try.underlying39 (by kernel_rfl) (As j) ((ls.getD j []).length) (cs j) (by kernel_rfl) .i64 .i64 (32 * k) (min (32 * k + 32) (ls.getD 0 []).length) (by kernel_rfl) (by kernel_rfl) (by omega) (by omega)) ?_
        refine st_new M57 (.cells #[.slice (subA (As j) (cs j) (32 * k)) ((min (32 * k + 32) (ls.getD 0 []).length) - (32 * k)) ((cs j) - (32 * k))] 39 (0, 0)) (fun g => .slice (some ⟨g, 0, none⟩) 1 1) (by kernel_rfl) (by kernel_rfl) ?_
        intro g65 W66 M67
        obtain ⟨v68, T69, W70, hr71, O72, M73⟩ := append_s16 (A := [(g65, .cells #[.slice (subA (As j) (cs j) (32 * k)) ((min (32 * k + 32) (ls.getD 0 []).length) - (32 * k)) ((cs j) - (32 * k))] 39 (0, 0))]) (T := T2) (B := (T1 ++ [])) M67 28 _ _ _ O2 _ 1 ([.slice (subA (As j) (cs j) (32 * k)) ((min (32 * k + 32) (ls.getD 0 []).length) - (32 * k)) ((cs j) - (32 * k))]) (rdk_lit (xs := [.slice (subA (As j) (cs j) (32 * k)) ((min (32 * k + 32) (ls.getD 0 []).length) - (32 * k)) ((cs j) - (32 * k))]) (M67.get 0 rfl) rfl) rfl (by intro x hx; simp only [List.mem_cons, List.not_mem_nil, or_false] at hx; subst hx; rfl) (by omega)
        have M73 : Mem NoS w W70 ((g65, .cells #[.slice (subA (As j) (cs j) (32 * k)) ((min (32 * k + 32) (ls.getD 0 []).length) - (32 * k)) ((cs j) - (32 * k))] 39 (0, 0)) :: (T69 ++ (T1 ++ []))) := M73
        obtain ⟨A74, cq75, rfl, hc76⟩ := O72.shape
        refine st_world (.slice A74 (j + 1) cq75) W70 (by kernel_rfl) (run_append_op (.tmp 45) (.tmp 53) _ rfl (.slice A2 j c2) (.slice (some ⟨g65, 0, none⟩) 1 1) _ (by kernel_rfl) (by kernel_rfl) hr71) ?_
        refine st_val (.slice A74 (j + 1) cq75) (by kernel_rfl) (by kernel_rfl) ?_
        refine wl_nil ?_
        refine blk_normal ?_
        refine hK60 _ _ ?_
        try clear hK60 K60
        refine wp_frame (a' := ⟨#[.slice A ls.length c, undef, (u46 2), (u46 3), .int .i64 (((ls.getD 0 []).length : Nat) : Int), .slice A1 m c1, .int .i64 ((32 * k : Nat) : Int), .slice A74 (j + 1) cq75, undef, .slice (As j) ((ls.getD j []).length) (cs j), (u46 10), (u46 11), .slice A ls.length c, .bool true, .bool false, .slice A ls.length c, .pointer (some ⟨b7, o8 + 0 * 1, none⟩), .slice (As 0) ((ls.getD 0 []).length) (cs 0), .int .i64 (((ls.getD 0 []).length : Nat) : Int), .slice A16 4 cq17, .slice A ls.length c, .int .i64 ((ls.length : Nat) : Int), .int .u8 ((ls.length : Nat) : Int), .int .i64 (((ls.getD 0 []).length : Nat) : Int), .int .i64 (((ls.getD 0 []).length / 65536 : Nat) : Int), .int .u8 (((ls.getD 0 []).length / 65536 : Nat) : Int), .int .i64 (((ls.getD 0 []).length : Nat) : Int), .int .i64 (((ls.getD 0 []).length / 256 : Nat) : Int), .int .u8 (((ls.getD 0 []).length / 256 % 256 : Nat) : Int), .int .i64 (((ls.getD 0 []).length : Nat) : Int), .int .u8 (((ls.getD 0 []).length % 256 : Nat) : Int), .slice (some ⟨g19, 0, none⟩) 4 4, .slice A28 (4 + 4) cq29, .slice A39 m36 cq40, .int .i64 ((32 * k : Nat) : Int), .int .i64 (((ls.getD 0 []).length : Nat) : Int), .bool true, (u46 37), (u46 38), .slice A ls.length c, .int .i64 ((ls.length : Nat) : Int), .int .i64 ((j : Nat) : Int), .bool true, .pointer (some ⟨b62, o63 + j * 1, none⟩), .slice (As j) ((ls.getD j []).length) (cs j), .slice A2 j c2, .slice (As j) ((ls.getD j []).length) (cs j), .int .i64 ((32 * k : Nat) : Int), .int .i64 ((32 * k : Nat) : Int), .int .i64 ((32 * k + 32 : Nat) : Int), .int .i64 (((ls.getD 0 []).length : Nat) : Int), .int .i64 ((min (32 * k + 32) (ls.getD 0 []).length : Nat) : Int), .slice (subA (As j) (cs j) (32 * k)) ((min (32 * k + 32) (ls.getD 0 []).length) - (32 * k)) ((cs j) - (32 * k)), .slice (some ⟨g65, 0, none⟩) 1 1, .slice A74 (j + 1) cq75, (u55 55), (u46 56), (u46 57), (u46 58), (u46 59), (u46 60), (u46 61), (u46 62), (u46 63), (u46 64), (u46 65), (u46 66), undef], []⟩) (by kernel_rfl) ?_
        refine wl_region ?_
        refine st_val (.int .i64 (((j : Nat) : Int) + 1)) (by kernel_rfl) (i64_of (by omega) (by kernel_rfl)) ?_
        refine st_val (.int .i64 (((j : Nat) : Int) + 1)) (by kernel_rfl) (by kernel_rfl) ?_
        refine wl_nil ?_
        refine th_normal ?_
        have M77 : Mem NoS w W70 ((T69 ++ (T1 ++ []))) := M73.sub ((((List.Sublist.refl []).append_left T1).append_left T69).cons _)
        have hO5 := O72
        rw [cut_snoc hlj (by omega) rfl (by omega)] at hO5
        exact ⟨_, by omega, (j + 1), A74, cq75, T69, (fun zz => Array.getD #[undef, undef, undef, undef, undef, undef, undef, undef, undef, .slice (As j) ((ls.getD j []).length) (cs j), undef, undef, undef, undef, undef, undef, undef, undef, undef, undef, undef, undef, undef, undef, undef, undef, undef, undef, undef, undef, undef, undef, undef, undef, undef, undef, undef, undef, undef, undef, undef, undef, .bool true, .pointer (some ⟨b62, o63 + j * 1, none⟩), .slice (As j) ((ls.getD j []).length) (cs j), .slice A2 j c2, .slice (As j) ((ls.getD j []).length) (cs j), .int .i64 ((32 * k : Nat) : Int), .int .i64 ((32 * k : Nat) : Int), .int .i64 ((32 * k + 32 : Nat) : Int), .int .i64 (((ls.getD 0 []).length : Nat) : Int), .int .i64 ((min (32 * k + 32) (ls.getD 0 []).length : Nat) : Int), .slice (subA (As j) (cs j) (32 * k)) ((min (32 * k + 32) (ls.getD 0 []).length) - (32 * k)) ((cs j) - (32 * k)), .slice (some ⟨g65, 0, none⟩) 1 1, .slice A74 (j + 1) cq75, .int .i64 (((j : Nat) : Int) + 1)] zz undef), ⟨⟨by omega, hO5⟩, M77⟩, rfl, (by kernel_rfl)⟩
      ·
        refine st_val (.bool false) (by kernel_rfl) (bool_of (dec_f c42) (by kernel_rfl)) ?_
        refine wl_nil ?_
        refine hK58 _ _ ?_
        try clear hK58 K58
        refine wp_seq_k (fun K78 hK78 => ?_)
        refine wp_cond_false (by kernel_rfl) ?_
        refine wp_exit ?_
        refine th_exit ?_
        refine th_exit ?_
        refine blk_exit ?_
        refine hK53 _ _ ?_
        try clear hK53 K53
        refine wp_seq_k (fun K79 hK79 => ?_)
        refine wl_region ?_
        refine st_val (.slice A2 j c2) (by kernel_rfl) (by kernel_rfl) ?_
        refine st_callR (A := []) (B := (T2 ++ (T1 ++ []))) M57 (by kernel_rfl) (run_value_call 21 #[(Operand.tmp 57)] _ rfl Try.func21 (by kernel_rfl) (by kernel_rfl) _ (by kernel_rfl)) (putB_walk W56 (.slice A2 j c2) (cutL ls (32 * k)) (cutA As cs (32 * k)) (cutC cs (32 * k)) ((cut_rdp (hP.keep M57.keep (fun _ h => h)) O2 (by omega) (fun p hp => M57.at_ p ((List.mem_append_left _ hp))))) (cut_sp hsp _) (by rw [cutL_length]; omega)) ?_
        intro v80 T81 W82 O83 M84
        have M84 : Mem NoS w W82 ((T81 ++ (T2 ++ (T1 ++ [])))) := M84
        obtain ⟨v85, m86, rfl, hm87, O88⟩ := O83
        obtain ⟨A89, cq90, rfl, hc91⟩ := O88.shape
        refine st_val (.tuple #[.slice A89 m86 cq90, .int .i64 (pbE (cutL ls (32 * k)))]) (by kernel_rfl) (by kernel_rfl) ?_
        refine st_val (.slice A89 m86 cq90) (by kernel_rfl) (by kernel_rfl) ?_
        refine st_val (.int .i64 (pbE (cutL ls (32 * k)))) (by kernel_rfl) (by kernel_rfl) ?_
        refine st_val (.slice A89 m86 cq90) (by kernel_rfl) (by kernel_rfl) ?_
        refine st_val (.int .i64 (pbE (cutL ls (32 * k)))) (by kernel_rfl) (by kernel_rfl) ?_
        refine wl_nil ?_
        refine hK79 _ _ ?_
        try clear hK79 K79
        refine wp_seq_k (fun K92 hK92 => ?_)
        refine wp_seq_k (fun K93 hK93 => ?_)
        refine wl_region ?_
        refine st_val (.int .i64 (pbE (cutL ls (32 * k)))) (by kernel_rfl) (by kernel_rfl) ?_
        refine st_val (.bool false) (by kernel_rfl) (bool_of (neq_f (show (pbE (cutL ls (32 * k)) : Int) = 0 from (pb_t (cut_bp hPP (by omega))).2)) (by kernel_rfl)) ?_
        refine wl_nil ?_
        refine hK93 _ _ ?_
        try clear hK93 K93
        refine wp_cond_false (by kernel_rfl) ?_
        refine wp_skip ?_
        refine hK92 _ _ ?_
        try clear hK92 K92
        refine wl_region ?_
        refine st_val (.slice A1 m c1) (by kernel_rfl) (by kernel_rfl) ?_
        refine st_val (.slice A89 m86 cq90) (by kernel_rfl) (by kernel_rfl) ?_
        have M103 : Mem NoS w W82 ((T1 ++ (T81 ++ (T2 ++ [])))) := Mem.pull (A := []) [T81, T2] T1 [] M84
        obtain ⟨v94, T95, W96, hr97, O98, M99⟩ := append_u8 (A := []) (T := T1) (B := (T81 ++ (T2 ++ []))) M103 22 _ _ _ O1 _ m86 (u8s (pbL (cutL ls (32 * k)))) (O88.rd (fun p hp => M103.at_ p (List.mem_append_right _ (List.mem_append_left _ hp)))) (by rw [u8s_length]; omega) (u8s_one _) (by omega)
        have M99 : Mem NoS w W96 ((T95 ++ (T81 ++ (T2 ++ [])))) := M99
        obtain ⟨A100, cq101, rfl, hc102⟩ := O98.shape
        rw [← u8s_append] at O98
        refine st_world (.slice A100 (m + m86) cq101) W96 (by kernel_rfl) (run_append_op (.tmp 64) (.tmp 65) _ rfl (.slice A1 m c1) (.slice A89 m86 cq90) _ (by kernel_rfl) (by kernel_rfl) hr97) ?_
        refine st_val (.slice A100 (m + m86) cq101) (by kernel_rfl) (by kernel_rfl) ?_
        refine wl_nil ?_
        refine blk_normal ?_
        refine hK51 _ _ ?_
        try clear hK51 K51
        refine wp_frame (a' := ⟨#[.slice A ls.length c, undef, (u46 2), (u46 3), .int .i64 (((ls.getD 0 []).length : Nat) : Int), .slice A100 (m + m86) cq101, .int .i64 ((32 * k : Nat) : Int), .slice A2 j c2, undef, (u55 9), .slice A89 m86 cq90, .int .i64 (pbE (cutL ls (32 * k))), .slice A ls.length c, .bool true, .bool false, .slice A ls.length c, .pointer (some ⟨b7, o8 + 0 * 1, none⟩), .slice (As 0) ((ls.getD 0 []).length) (cs 0), .int .i64 (((ls.getD 0 []).length : Nat) : Int), .slice A16 4 cq17, .slice A ls.length c, .int .i64 ((ls.length : Nat) : Int), .int .u8 ((ls.length : Nat) : Int), .int .i64 (((ls.getD 0 []).length : Nat) : Int), .int .i64 (((ls.getD 0 []).length / 65536 : Nat) : Int), .int .u8 (((ls.getD 0 []).length / 65536 : Nat) : Int), .int .i64 (((ls.getD 0 []).length : Nat) : Int), .int .i64 (((ls.getD 0 []).length / 256 : Nat) : Int), .int .u8 (((ls.getD 0 []).length / 256 % 256 : Nat) : Int), .int .i64 (((ls.getD 0 []).length : Nat) : Int), .int .u8 (((ls.getD 0 []).length % 256 : Nat) : Int), .slice (some ⟨g19, 0, none⟩) 4 4, .slice A28 (4 + 4) cq29, .slice A39 m36 cq40, .int .i64 ((32 * k : Nat) : Int), .int .i64 (((ls.getD 0 []).length : Nat) : Int), .bool true, (u46 37), (u46 38), .slice A ls.length c, .int .i64 ((ls.length : Nat) : Int), .int .i64 ((j : Nat) : Int), .bool false, (u55 43), (u55 44), (u55 45), (u55 46), (u55 47), (u55 48), (u55 49), (u55 50), (u55 51), (u55 52), (u55 53), (u55 54), (u55 55), .tuple #[.slice A89 m86 cq90, .int .i64 (pbE (cutL ls (32 * k)))], .slice A2 j c2, .tuple #[.slice A89 m86 cq90, .int .i64 (pbE (cutL ls (32 * k)))], .slice A89 m86 cq90, .int .i64 (pbE (cutL ls (32 * k))), .int .i64 (pbE (cutL ls (32 * k))), .bool false, (u46 63), .slice A1 m c1, .slice A89 m86 cq90, .slice A100 (m + m86) cq101, undef], []⟩) (by kernel_rfl) ?_
        refine wl_region ?_
        refine st_val (.int .i64 ((32 * k : Nat) : Int)) (by kernel_rfl) (by kernel_rfl) ?_
        refine st_val (.int .i64 ((32 * (k + 1) : Nat) : Int)) (by kernel_rfl) (int_of (show ((32 * k : Nat) : Int) + 32 = ((32 * (k + 1) : Nat) : Int) by omega) (i64_of (by omega) (by kernel_rfl))) ?_
        refine st_val (.int .i64 ((32 * (k + 1) : Nat) : Int)) (by kernel_rfl) (by kernel_rfl) ?_
        refine wl_nil ?_
        refine th_normal ?_
        have M104 : Mem NoS w W96 ((T95 ++ [])) := M99.sub ((((List.Sublist.refl []).trans (List.sublist_append_right T2 _)).trans (List.sublist_append_right T81 _)).append_left T95)
        have hO4 := O98
        rw [List.append_assoc] at hO4
        have hm4 : m + m86 = (hdL ls ++ enB ls (k + 1)).length := (by show _ = (hdL ls ++ (enB ls k ++ pbL (cutL ls (32 * k)))).length; rw [List.length_append, List.length_append] at *; omega)
        exact ⟨_, by omega, (k + 1), (m + m86), A100, cq101, T95, (fun zz => Array.getD #[undef, undef, (u46 2), (u46 3), undef, undef, undef, .slice A2 j c2, undef, (u55 9), .slice A89 m86 cq90, .int .i64 (pbE (cutL ls (32 * k))), undef, undef, undef, undef, undef, undef, undef, undef, undef, undef, undef, undef, undef, undef, undef, undef, undef, undef, undef, undef, undef, undef, .int .i64 ((32 * k : Nat) : Int), .int .i64 (((ls.getD 0 []).length : Nat) : Int), .bool true, .int .i64 ((32 * k : Nat) : Int), .int .i64 ((32 * (k + 1) : Nat) : Int), .slice A ls.length c, .int .i64 ((ls.length : Nat) : Int), .int .i64 ((j : Nat) : Int), .bool false, (u55 43), (u55 44), (u55 45), (u55 46), (u55 47), (u55 48), (u55 49), (u55 50), (u55 51), (u55 52), (u55 53), (u55 54), (u55 55), .tuple #[.slice A89 m86 cq90, .int .i64 (pbE (cutL ls (32 * k)))], .slice A2 j c2, .tuple #[.slice A89 m86 cq90, .int .i64 (pbE (cutL ls (32 * k)))], .slice A89 m86 cq90, .int .i64 (pbE (cutL ls (32 * k))), .int .i64 (pbE (cutL ls (32 * k))), .bool false, (u46 63), .slice A1 m c1, .slice A89 m86 cq90, .slice A100 (m + m86) cq101] zz undef), ⟨⟨by omega, hm4, hO4⟩, M104⟩, rfl, (by kernel_rfl)⟩
    ·
      refine st_val (.bool false) (by kernel_rfl) (bool_of (dec_f c36) (by kernel_rfl)) ?_
      refine wl_nil ?_
      refine hK50 _ _ ?_
      try clear hK50 K50
      refine wp_cond_false (by kernel_rfl) ?_
      refine wp_exit ?_
      refine th_exit ?_
      refine th_exit ?_
      refine blk_exit ?_
      refine hK43 _ _ ?_
      try clear hK43 K43
      refine wp_seq_k (fun K105 hK105 => ?_)
      refine wl_region ?_
      refine st_val (.slice A1 m c1) (by kernel_rfl) (by kernel_rfl) ?_
      refine st_val (.slice A1 m c1) (by kernel_rfl) (by kernel_rfl) ?_
      refine st_val (.int .i64 0) (by kernel_rfl) (by kernel_rfl) ?_
      refine wl_nil ?_
      refine hK105 _ _ ?_
      try clear hK105 K105
      refine wp_ret ?_
      have hkk : k = ((ls.getD 0 []).length + 31) / 32 := (by omega)
      exact done2 2 3 (.slice A1 m c1) (.int .i64 0) (by kernel_rfl) (by kernel_rfl) (by kernel_rfl) (by kernel_rfl) ⟨_, T1, rfl, ⟨_, m, by rw [(en_t hPP).2], by rw [(en_t hPP).1, ← hkk]; exact hm, by rw [(en_t hPP).1, ← hkk]; exact O1⟩, M48.sub (List.sublist_append_left T1 [])⟩
  ·
    have hpn := ppB_not hpp
    refine st_callB M0 (.bool false) (by kernel_rfl) (args := #[.slice A ls.length c]) (run_value_call 42 #[(Operand.tmp 12)] _ rfl Try.func42 (by kernel_rfl) (by kernel_rfl) _ (by kernel_rfl)) ((by have := proper_walk w (.slice A ls.length c) ls As cs (hP.keep M0.keep (fun _ h => h)) (by omega); rw [hpp] at this; exact this)) ?_
    intro W106 M107
    refine st_val (.bool true) (by kernel_rfl) (by kernel_rfl) ?_
    refine wl_nil ?_
    refine hK3 _ _ ?_
    try clear hK3 K3
    refine wp_cond_true (by kernel_rfl) ?_
    refine wp_seq_k (fun K108 hK108 => ?_)
    refine wl_region ?_
    refine st_val ((Go.Value.slice none 0 0)) (by kernel_rfl) (by kernel_rfl) ?_
    refine st_val (.int .i64 1) (by kernel_rfl) (by kernel_rfl) ?_
    refine wl_nil ?_
    refine hK108 _ _ ?_
    try clear hK108 K108
    refine wp_ret ?_
    refine th_ret ?_
    have hnp : ¬ PP ls := hpn
    exact done2 2 3 ((Go.Value.slice none 0 0)) (.int .i64 1) (by kernel_rfl) (by kernel_rfl) (by kernel_rfl) (by kernel_rfl) ⟨_, [], rfl, ⟨_, 0, by rw [(en_f hnp).2], by rw [(en_f hnp).1]; rfl, by rw [(en_f hnp).1]; exact Own.nil _ _⟩, M107.sub (List.nil_sublist _)⟩
end Go.Proofs.Ytmimljaniliecaa
