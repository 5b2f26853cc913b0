/- Sums that are appended. -/
import Derived.Test.YtmimljaniliecaaAq
namespace Go.Proofs.Ytmimljaniliecaa
open Go.RowKit Bt
set_option maxHeartbeats 4000000 in
set_option maxRecDepth 100000 in
theorem summed_walk (w : World) {T : List (Nat × Obj)} (hT : Mem (fun k => k ∈ T.map (·.1)) w w T) (v : Value) (l : List Nat) (n : Nat) (hO : Own 5 1 v n (u8s l) T) (hb : ∀ x ∈ l, x < 256) (hl : l.length = n ∧ n ≤ 1000000000) : UpdRow Try.prog 46 #[v] w T (fun r T' => ∃ m, m = l.length + 2 ∧ Own 5 1 r m (u8s (summedB l)) T') := by
  unfold UpdRow
  obtain ⟨hnl, hn9⟩ := hl
  obtain ⟨A, c, rfl, hc⟩ := hO.shape
  have M0 : Mem (fun k => k ∈ T.map (·.1)) w w (T ++ []) := by rw [List.append_nil]; exact hT
  refine calls_of_wp Try.func46 rfl ?_
  refine wp_frame (a' := ⟨#[.slice A n c, undef, undef, undef, undef, undef, undef, undef, undef, undef, undef, undef, undef, undef], []⟩) (by kernel_rfl) ?_
  refine wp_seq_k (fun K1 hK1 => ?_)
  refine wl_region ?_
  refine st_val ((Go.Value.slice none 0 0)) (by kernel_rfl) (by kernel_rfl) ?_
  refine wl_nil ?_
  refine hK1 _ _ ?_
  try clear hK1 K1
  refine wp_seq_k (fun K2 hK2 => ?_)
  refine wl_region ?_
  refine st_val (.slice A n c) (by kernel_rfl) (by kernel_rfl) ?_
  refine st_callB M0 (.int .u16 ((crc l : Nat) : Int)) (by kernel_rfl) (args := #[.slice A n c]) (run_value_call 13 #[(Operand.tmp 4)] _ rfl Try.func13 (by kernel_rfl) (by kernel_rfl) _ (by kernel_rfl)) (sum_walk w (.slice A n c) l ((by rw [hnl]; exact hO.rd (fun p hp => M0.at_ p (List.mem_append_left _ hp)))) hb (by omega)) ?_
  intro W3 M4
  refine st_val (.int .u16 ((crc l : Nat) : Int)) (by kernel_rfl) (by kernel_rfl) ?_
  refine wl_nil ?_
  refine hK2 _ _ ?_
  try clear hK2 K2
  refine wp_seq_k (fun K5 hK5 => ?_)
  have hcl := crc_lt hb
  refine wl_region ?_
  refine st_val (.slice A n c) (by kernel_rfl) (by kernel_rfl) ?_
  refine st_val (.int .u16 ((crc l : Nat) : Int)) (by kernel_rfl) (by kernel_rfl) ?_
  refine st_val (.int .u16 ((crc l / 256 : Nat) : Int)) (by kernel_rfl) (int_of (show ((crc l : Nat) : Int) / 2 ^ 8 = ((crc l / 256 : Nat) : Int) from (by omega)) (run_value_bin .shr 24 48 (.tmp 7) _ rfl (.int .u16 ((crc l : Nat) : Int)) (.int .u64 8) _ (by kernel_rfl) (by kernel_rfl) (by kernel_rfl) (bin_shr (n := 8) (by decide)))) ?_
  refine st_val (.int .u8 ((crc l / 256 : Nat) : Int)) (by kernel_rfl) (int_of (wrap_u8 (by omega)) (by kernel_rfl)) ?_
  refine st_val (.int .u16 ((crc l : Nat) : Int)) (by kernel_rfl) (by kernel_rfl) ?_
  refine st_val (.int .u8 ((crc l % 256 : Nat) : Int)) (by kernel_rfl) (int_of (wrap_u8m (crc l)) (by kernel_rfl)) ?_
  refine st_new M4 (.cells #[.int .u8 ((crc l / 256 : Nat) : Int), .int .u8 ((crc l % 256 : Nat) : Int)] 5 (0, 0)) (fun g => .slice (some ⟨g, 0, none⟩) 2 2) (by kernel_rfl) (by kernel_rfl) ?_
  intro g6 W7 M8
  obtain ⟨v9, T10, W11, hr12, O13, M14⟩ := append_u8 (A := [(g6, .cells #[.int .u8 ((crc l / 256 : Nat) : Int), .int .u8 ((crc l % 256 : Nat) : Int)] 5 (0, 0))]) (T := T) (B := []) M8 22 _ _ _ hO _ 2 (u8s ([crc l / 256, crc l % 256])) (rdk_lit (xs := u8s [crc l / 256, crc l % 256]) (M8.get 0 rfl) rfl) rfl (u8s_one _) (by omega)
  have M14 : Mem (fun k => k ∈ T.map (·.1)) w W11 ((g6, .cells #[.int .u8 ((crc l / 256 : Nat) : Int), .int .u8 ((crc l % 256 : Nat) : Int)] 5 (0, 0)) :: (T10 ++ [])) := M14
  obtain ⟨A15, cq16, rfl, hc17⟩ := O13.shape
  rw [← u8s_append] at O13
  refine st_world (.slice A15 (n + 2) cq16) W11 (by kernel_rfl) (run_append_op (.tmp 6) (.tmp 12) _ rfl (.slice A n c) (.slice (some ⟨g6, 0, none⟩) 2 2) _ (by kernel_rfl) (by kernel_rfl) hr12) ?_
  refine st_val (.slice A15 (n + 2) cq16) (by kernel_rfl) (by kernel_rfl) ?_
  refine wl_nil ?_
  refine hK5 _ _ ?_
  try clear hK5 K5
  refine wp_frame (a' := ⟨#[.slice A n c, undef, .slice A15 (n + 2) cq16, .int .u16 ((crc l : Nat) : Int), .slice A n c, .int .u16 ((crc l : Nat) : Int), .slice A n c, .int .u16 ((crc l : Nat) : Int), .int .u16 ((crc l / 256 : Nat) : Int), .int .u8 ((crc l / 256 : Nat) : Int), .int .u16 ((crc l : Nat) : Int), .int .u8 ((crc l % 256 : Nat) : Int), .slice (some ⟨g6, 0, none⟩) 2 2, .slice A15 (n + 2) cq16], []⟩) (by kernel_rfl) ?_
  refine wp_ret ?_
  exact done1 2 (.slice A15 (n + 2) cq16) (by kernel_rfl) (by kernel_rfl) (by kernel_rfl) ⟨_, T10, rfl, ⟨_, by omega, O13⟩, M14.sub (((List.sublist_append_left T10 [])).cons _)⟩
set_option maxHeartbeats 4000000 in
set_option maxRecDepth 100000 in
theorem refSummed_walk (w : World) (v : Value) (l : List Nat) (hr : RdK w v l.length (u8s l)) (hb : ∀ x ∈ l, x < 256) (hlen : l.length ≤ 1000000000) : MakesRow Try.prog 37 #[v] w (fun r T => ∃ m, m = l.length + 2 ∧ Own 5 1 r m (u8s (summedB l)) T) := by
  unfold MakesRow
  obtain ⟨A, c, rfl, hc⟩ := hr.shape
  refine calls_of_wp Try.func37 rfl ?_
  refine wp_frame (a' := ⟨#[.slice A l.length c, undef, undef, undef, undef, undef, undef, undef, undef, undef, undef, undef, undef, undef, undef, undef], []⟩) (by kernel_rfl) ?_
  have M0 : Mem NoS w w [] := Mem.start _ _
  refine wp_seq_k (fun K1 hK1 => ?_)
  refine wl_region ?_
  refine st_val ((Go.Value.slice none 0 0)) (by kernel_rfl) (by kernel_rfl) ?_
  refine wl_nil ?_
  refine hK1 _ _ ?_
  try clear hK1 K1
  refine wp_seq_k (fun K2 hK2 => ?_)
  refine wl_region ?_
  refine st_val (.slice A l.length c) (by kernel_rfl) (by kernel_rfl) ?_
  refine st_callB M0 (.int .u16 ((crc l : Nat) : Int)) (by kernel_rfl) (args := #[.slice A l.length c]) (run_value_call 14 #[(Operand.tmp 4)] _ rfl Try.func14 (by kernel_rfl) (by kernel_rfl) _ (by kernel_rfl)) (refSum_walk w (.slice A l.length c) l (hr.keep M0.keep (fun _ _ h => h)) hb (by omega)) ?_
  intro W3 M4
  refine st_val (.int .u16 ((crc l : Nat) : Int)) (by kernel_rfl) (by kernel_rfl) ?_
  refine wl_nil ?_
  refine hK2 _ _ ?_
  try clear hK2 K2
  refine wp_seq_k (fun K5 hK5 => ?_)
  have hcl := crc_lt hb
  refine wl_region ?_
  refine st_new M4 (.cells #[] 5 (0, 0)) (fun g => .slice (some ⟨g, 0, none⟩) 0 0) (by kernel_rfl) (by kernel_rfl) ?_
  intro g6 W7 M8
  have M8 : Mem NoS w W7 (([(g6, .cells #[] 5 (0, 0))] ++ [])) := M8
  refine st_val (.slice A l.length c) (by kernel_rfl) (by kernel_rfl) ?_
  obtain ⟨v9, T10, W11, hr12, O13, M14⟩ := append_u8 (A := []) (T := [(g6, .cells #[] 5 (0, 0))]) (B := []) M8 22 _ _ _ (own_empty _ _ g6) _ l.length (u8s l) (hr.keep M8.keep (fun _ _ h => h)) (by rw [u8s_length]; omega) (u8s_one _) (by omega)
  have M14 : Mem NoS w W11 ((T10 ++ [])) := M14
  rw [Nat.zero_add, List.nil_append] at O13
  obtain ⟨A15, cq16, rfl, hc17⟩ := O13.shape
  refine st_world (.slice A15 l.length cq16) W11 (by kernel_rfl) (run_append_op (.tmp 6) (.tmp 7) _ rfl (.slice (some ⟨g6, 0, none⟩) 0 0) (.slice A l.length c) _ (by kernel_rfl) (by kernel_rfl) hr12) ?_
  refine st_val (.int .u16 ((crc l : Nat) : Int)) (by kernel_rfl) (by kernel_rfl) ?_
  refine st_val (.int .u16 ((crc l / 256 : Nat) : Int)) (by kernel_rfl) (int_of (show ((crc l : Nat) : Int) / 2 ^ 8 = ((crc l / 256 : Nat) : Int) from (by omega)) (run_value_bin .shr 24 48 (.tmp 9) _ rfl (.int .u16 ((crc l : Nat) : Int)) (.int .u64 8) _ (by kernel_rfl) (by kernel_rfl) (by kernel_rfl) (bin_shr (n := 8) (by decide)))) ?_
  refine st_val (.int .u8 ((crc l / 256 : Nat) : Int)) (by kernel_rfl) (int_of (wrap_u8 (by omega)) (by kernel_rfl)) ?_
  refine st_val (.int .u16 ((crc l : Nat) : Int)) (by kernel_rfl) (by kernel_rfl) ?_
  refine st_val (.int .u8 ((crc l % 256 : Nat) : Int)) (by kernel_rfl) (int_of (wrap_u8m (crc l)) (by kernel_rfl)) ?_
  refine st_new M14 (.cells #[.int .u8 ((crc l / 256 : Nat) : Int), .int .u8 ((crc l % 256 : Nat) : Int)] 5 (0, 0)) (fun g => .slice (some ⟨g, 0, none⟩) 2 2) (by kernel_rfl) (by kernel_rfl) ?_
  intro g18 W19 M20
  obtain ⟨v21, T22, W23, hr24, O25, M26⟩ := append_u8 (A := [(g18, .cells #[.int .u8 ((crc l / 256 : Nat) : Int), .int .u8 ((crc l % 256 : Nat) : Int)] 5 (0, 0))]) (T := T10) (B := []) M20 22 _ _ _ O13 _ 2 (u8s ([crc l / 256, crc l % 256])) (rdk_lit (xs := u8s [crc l / 256, crc l % 256]) (M20.get 0 rfl) rfl) rfl (u8s_one _) (by omega)
  have M26 : Mem NoS w W23 ((g18, .cells #[.int .u8 ((crc l / 256 : Nat) : Int), .int .u8 ((crc l % 256 : Nat) : Int)] 5 (0, 0)) :: (T22 ++ [])) := M26
  obtain ⟨A27, cq28, rfl, hc29⟩ := O25.shape
  rw [← u8s_append] at O25
  refine st_world (.slice A27 (l.length + 2) cq28) W23 (by kernel_rfl) (run_append_op (.tmp 8) (.tmp 14) _ rfl (.slice A15 l.length cq16) (.slice (some ⟨g18, 0, none⟩) 2 2) _ (by kernel_rfl) (by kernel_rfl) hr24) ?_
  refine st_val (.slice A27 (l.length + 2) cq28) (by kernel_rfl) (by kernel_rfl) ?_
  refine wl_nil ?_
  refine hK5 _ _ ?_
  try clear hK5 K5
  refine wp_frame (a' := ⟨#[.slice A l.length c, undef, .slice A27 (l.length + 2) cq28, .int .u16 ((crc l : Nat) : Int), .slice A l.length c, .int .u16 ((crc l : Nat) : Int), .slice (some ⟨g6, 0, none⟩) 0 0, .slice A l.length c, .slice A15 l.length cq16, .int .u16 ((crc l : Nat) : Int), .int .u16 ((crc l / 256 : Nat) : Int), .int .u8 ((crc l / 256 : Nat) : Int), .int .u16 ((crc l : Nat) : Int), .int .u8 ((crc l % 256 : Nat) : Int), .slice (some ⟨g18, 0, none⟩) 2 2, .slice A27 (l.length + 2) cq28], []⟩) (by kernel_rfl) ?_
  refine wp_ret ?_
  exact done1 2 (.slice A27 (l.length + 2) cq28) (by kernel_rfl) (by kernel_rfl) (by kernel_rfl) ⟨_, T22, rfl, ⟨_, by omega, O25⟩, M26.sub (((List.sublist_append_left T22 [])).cons _)⟩
set_option maxHeartbeats 4000000 in
set_option maxRecDepth 100000 in
theorem intact_walk (w : World) (v : Value) (l : List Nat) (hr : RdK w v l.length (u8s l)) (hb : ∀ x ∈ l, x < 256) (hlen : l.length ≤ 1000000000) (h2 : 2 ≤ l.length) : Calls Try.prog 33 #[v] w fun e w' => e = .returned (.bool (intB l)) ∧ Below w.heap.size w w' := by
  obtain ⟨A, c, rfl, hc⟩ := hr.shape
  refine calls_of_wp Try.func33 rfl ?_
  refine wp_frame (a' := ⟨#[.slice A l.length c, undef, undef, undef, undef, undef, undef, undef, undef, undef, undef, undef, undef, undef, undef, undef, undef, undef, undef, undef, undef, undef, undef, undef, undef, undef, undef, undef, undef, undef], []⟩) (by kernel_rfl) ?_
  have M0 : Mem NoS w w [] := Mem.start _ _
  refine wp_seq_k (fun K1 hK1 => ?_)
  refine wl_region ?_
  refine st_val (.bool false) (by kernel_rfl) (by kernel_rfl) ?_
  refine wl_nil ?_
  refine hK1 _ _ ?_
  try clear hK1 K1
  refine wp_seq_k (fun K2 hK2 => ?_)
  refine wl_region ?_
  refine st_val (.slice A l.length c) (by kernel_rfl) (by kernel_rfl) ?_
  refine st_val (.int .i64 ((l.length : Nat) : Int)) (by kernel_rfl) (by kernel_rfl) ?_
  refine st_val (.int .i64 ((l.length - 2 : Nat) : Int)) (by kernel_rfl) (int_of (show ((l.length : Nat) : Int) - 2 = ((l.length - 2 : Nat) : Int) by omega) (i64_of (by omega) (by kernel_rfl))) ?_
  refine st_val (.int .i64 ((l.length - 2 : Nat) : Int)) (by kernel_rfl) (by kernel_rfl) ?_
  refine wl_nil ?_
  refine hK2 _ _ ?_
  try clear hK2 K2
  refine wp_seq_k (fun K3 hK3 => ?_)
  refine wl_region ?_
  refine st_val (.slice A l.length c) (by kernel_rfl) (by kernel_rfl) ?_
  refine st_val (.int .i64 ((l.length - 2 : Nat) : Int)) (by kernel_rfl) (by kernel_rfl) ?_
  refine st_val (.slice (subA A c 0) ((l.length - 2) - 0) (c - 0)) (by kernel_rfl) (run_sub_hi 22 5 (.tmp 8) (.tmp 9) rfl Try.underlying22 (by kernel_rfl) A l.length c (by kernel_rfl) .i64 (l.length - 2) (by kernel_rfl) (by omega)) ?_
  refine st_callB M0 (.int .u16 ((crc (sl l 0 ((l.length - 2) - 0)) : Nat) : Int)) (by kernel_rfl) (args := #[.slice (subA A c 0) ((l.length - 2) - 0) (c - 0)]) (run_value_call 13 #[(Operand.tmp 10)] _ rfl Try.func13 (by kernel_rfl) (by kernel_rfl) _ (by kernel_rfl)) (sum_walk w (.slice (subA A c 0) ((l.length - 2) - 0) (c - 0)) (sl l 0 ((l.length - 2) - 0)) ((by rw [sl_len (by omega)]; exact (rdk_sl (hr.keep M0.keep (fun _ _ h => h)) rfl (by omega) (lo := 0) (hi := (l.length - 2)) (by omega) (by omega)))) (sl_lt hb _ _) (by rw [sl_len (by omega)]; omega)) ?_
  intro W4 M5
  refine st_val (.int .u16 ((crc (sl l 0 ((l.length - 2) - 0)) : Nat) : Int)) (by kernel_rfl) (by kernel_rfl) ?_
  refine wl_nil ?_
  refine hK3 _ _ ?_
  try clear hK3 K3
  refine wp_seq_k (fun K6 hK6 => ?_)
  have hcl := crc_lt (sl_lt hb 0 (l.length - 2 - 0))
  refine wl_region ?_
  refine st_val (.slice A l.length c) (by kernel_rfl) (by kernel_rfl) ?_
  refine st_val (.int .i64 ((l.length - 2 : Nat) : Int)) (by kernel_rfl) (by kernel_rfl) ?_
  obtain ⟨b7, o8, eA9⟩ := RdK.addr (hr.keep M5.keep (fun _ _ h => h)) (j := (l.length - 2) * 1) (by rw [u8s_length]; omega)
  refine st_val (.pointer (some ⟨b7, o8 + (l.length - 2) * 1, none⟩)) (by kernel_rfl) (run_indexSliceA 22 (.tmp 12) (.tmp 13) rfl A ⟨b7, o8, none⟩ eA9 l.length c .i64 (l.length - 2) (by kernel_rfl) (by kernel_rfl) Try.underlying22 1 (by kernel_rfl) (by omega) ⟨b7, o8 + (l.length - 2) * 1, none⟩ (addr_atK _ _ _ _)) ?_
  refine st_val (.int .u8 ((l.getD (l.length - 2) 0 : Nat) : Int)) (by kernel_rfl) (run_load_cell 5 (.tmp 14) rfl ⟨b7, o8 + (l.length - 2) * 1, none⟩ (by kernel_rfl) _ ((hr.keep M5.keep (fun _ _ h => h)).cellF eA9 (f := 0) (u8s_get l (l.length - 2) (by omega))) (by kernel_rfl)) ?_
  refine st_val (.int .u16 ((crc (sl l 0 ((l.length - 2) - 0)) : Nat) : Int)) (by kernel_rfl) (by kernel_rfl) ?_
  refine st_val (.int .u16 ((crc (sl l 0 (l.length - 2 - 0)) / 256 : Nat) : Int)) (by kernel_rfl) (int_of (show ((crc (sl l 0 ((l.length - 2) - 0)) : Nat) : Int) / 2 ^ 8 = ((crc (sl l 0 (l.length - 2 - 0)) / 256 : Nat) : Int) from (by omega)) (run_value_bin .shr 24 48 (.tmp 16) _ rfl (.int .u16 ((crc (sl l 0 ((l.length - 2) - 0)) : Nat) : Int)) (.int .u64 8) _ (by kernel_rfl) (by kernel_rfl) (by kernel_rfl) (bin_shr (n := 8) (by decide)))) ?_
  refine st_val (.int .u8 ((crc (sl l 0 (l.length - 2 - 0)) / 256 : Nat) : Int)) (by kernel_rfl) (int_of (wrap_u8 (by omega)) (by kernel_rfl)) ?_
  rcases Decidable.em ((((l.getD (l.length - 2) 0 : Nat) : Int) : Int) = ((crc (sl l 0 (l.length - 2 - 0)) / 256 : Nat) : Int)) with c19 | c19
  ·
    refine st_val (.bool true) (by kernel_rfl) (bool_of (dec_t c19) (by kernel_rfl)) ?_
    refine st_val (.bool true) (by kernel_rfl) (by kernel_rfl) ?_
    refine st_val (.slice A l.length c) (by kernel_rfl) (by kernel_rfl) ?_
    refine st_val (.int .i64 ((l.length - 2 : Nat) : Int)) (by kernel_rfl) (by kernel_rfl) ?_
    refine st_val (.int .i64 ((l.length - 2 + 1 : Nat) : Int)) (by kernel_rfl) (int_of (show ((l.length - 2 : Nat) : Int) + 1 = ((l.length - 2 + 1 : Nat) : Int) by omega) (i64_of (by omega) (by kernel_rfl))) ?_
    obtain ⟨b10, o11, eA12⟩ := RdK.addr (hr.keep M5.keep (fun _ _ h => h)) (j := (l.length - 2 + 1) * 1) (by rw [u8s_length]; omega)
    refine st_val (.pointer (some ⟨b10, o11 + (l.length - 2 + 1) * 1, none⟩)) (by kernel_rfl) (run_indexSliceA 22 (.tmp 21) (.tmp 23) rfl A ⟨b10, o11, none⟩ eA12 l.length c .i64 (l.length - 2 + 1) (by kernel_rfl) (by kernel_rfl) Try.underlying22 1 (by kernel_rfl) (by omega) ⟨b10, o11 + (l.length - 2 + 1) * 1, none⟩ (addr_atK _ _ _ _)) ?_
    refine st_val (.int .u8 ((l.getD (l.length - 2 + 1) 0 : Nat) : Int)) (by kernel_rfl) (run_load_cell 5 (.tmp 24) rfl ⟨b10, o11 + (l.length - 2 + 1) * 1, none⟩ (by kernel_rfl) _ ((hr.keep M5.keep (fun _ _ h => h)).cellF eA12 (f := 0) (u8s_get l (l.length - 2 + 1) (by omega))) (by kernel_rfl)) ?_
    refine st_val (.int .u16 ((crc (sl l 0 ((l.length - 2) - 0)) : Nat) : Int)) (by kernel_rfl) (by kernel_rfl) ?_
    refine st_val (.int .u8 ((crc (sl l 0 (l.length - 2 - 0)) % 256 : Nat) : Int)) (by kernel_rfl) (int_of (wrap_u8m (crc (sl l 0 (l.length - 2 - 0)))) (by kernel_rfl)) ?_
    rcases Decidable.em ((((l.getD (l.length - 2 + 1) 0 : Nat) : Int) : Int) = ((crc (sl l 0 (l.length - 2 - 0)) % 256 : Nat) : Int)) with c28 | c28
    ·
      refine st_val (.bool true) (by kernel_rfl) (bool_of (dec_t c28) (by kernel_rfl)) ?_
      refine st_val (.bool true) (by kernel_rfl) (by kernel_rfl) ?_
      refine st_val (.bool true) (by kernel_rfl) (by kernel_rfl) ?_
      refine wl_nil ?_
      refine hK6 _ _ ?_
      try clear hK6 K6
      refine wp_frame (a' := ⟨#[.slice A l.length c, undef, .bool true, .int .i64 ((l.length - 2 : Nat) : Int), .int .u16 ((crc (sl l 0 ((l.length - 2) - 0)) : Nat) : Int), .slice A l.length c, .int .i64 ((l.length : Nat) : Int), .int .i64 ((l.length - 2 : Nat) : Int), .slice A l.length c, .int .i64 ((l.length - 2 : Nat) : Int), .slice (subA A c 0) ((l.length - 2) - 0) (c - 0), .int .u16 ((crc (sl l 0 ((l.length - 2) - 0)) : Nat) : Int), .slice A l.length c, .int .i64 ((l.length - 2 : Nat) : Int), .pointer (some ⟨b7, o8 + (l.length - 2) * 1, none⟩), .int .u8 ((l.getD (l.length - 2) 0 : Nat) : Int), .int .u16 ((crc (sl l 0 ((l.length - 2) - 0)) : Nat) : Int), .int .u16 ((crc (sl l 0 (l.length - 2 - 0)) / 256 : Nat) : Int), .int .u8 ((crc (sl l 0 (l.length - 2 - 0)) / 256 : Nat) : Int), .bool true, .bool true, .slice A l.length c, .int .i64 ((l.length - 2 : Nat) : Int), .int .i64 ((l.length - 2 + 1 : Nat) : Int), .pointer (some ⟨b10, o11 + (l.length - 2 + 1) * 1, none⟩), .int .u8 ((l.getD (l.length - 2 + 1) 0 : Nat) : Int), .int .u16 ((crc (sl l 0 ((l.length - 2) - 0)) : Nat) : Int), .int .u8 ((crc (sl l 0 (l.length - 2 - 0)) % 256 : Nat) : Int), .bool true, .bool true], []⟩) (by kernel_rfl) ?_
      refine wp_ret ?_
      exact done1 2 (.bool true) (by kernel_rfl) (by kernel_rfl) (by kernel_rfl) ⟨by rw [show intB l = true from decide_eq_true ((intB_iff h2).2 ⟨by have := c19; show l.getD (l.length - 2) 0 = crc (sl l 0 (l.length - 2 - 0)) / 256; omega, by have := c28; show l.getD (l.length - 2 + 1) 0 = crc (sl l 0 (l.length - 2 - 0)) % 256; omega⟩)], M5.toBelow⟩
    ·
      refine st_val (.bool false) (by kernel_rfl) (bool_of (dec_f c28) (by kernel_rfl)) ?_
      refine st_val (.bool false) (by kernel_rfl) (by kernel_rfl) ?_
      refine st_val (.bool false) (by kernel_rfl) (by kernel_rfl) ?_
      refine wl_nil ?_
      refine hK6 _ _ ?_
      try clear hK6 K6
      refine wp_frame (a' := ⟨#[.slice A l.length c, undef, .bool false, .int .i64 ((l.length - 2 : Nat) : Int), .int .u16 ((crc (sl l 0 ((l.length - 2) - 0)) : Nat) : Int), .slice A l.length c, .int .i64 ((l.length : Nat) : Int), .int .i64 ((l.length - 2 : Nat) : Int), .slice A l.length c, .int .i64 ((l.length - 2 : Nat) : Int), .slice (subA A c 0) ((l.length - 2) - 0) (c - 0), .int .u16 ((crc (sl l 0 ((l.length - 2) - 0)) : Nat) : Int), .slice A l.length c, .int .i64 ((l.length - 2 : Nat) : Int), .pointer (some ⟨b7, o8 + (l.length - 2) * 1, none⟩), .int .u8 ((l.getD (l.length - 2) 0 : Nat) : Int), .int .u16 ((crc (sl l 0 ((l.length - 2) - 0)) : Nat) : Int), .int .u16 ((crc (sl l 0 (l.length - 2 - 0)) / 256 : Nat) : Int), .int .u8 ((crc (sl l 0 (l.length - 2 - 0)) / 256 : Nat) : Int), .bool true, .bool true, .slice A l.length c, .int .i64 ((l.length - 2 : Nat) : Int), .int .i64 ((l.length - 2 + 1 : Nat) : Int), .pointer (some ⟨b10, o11 + (l.length - 2 + 1) * 1, none⟩), .int .u8 ((l.getD (l.length - 2 + 1) 0 : Nat) : Int), .int .u16 ((crc (sl l 0 ((l.length - 2) - 0)) : Nat) : Int), .int .u8 ((crc (sl l 0 (l.length - 2 - 0)) % 256 : Nat) : Int), .bool false, .bool false], []⟩) (by kernel_rfl) ?_
      refine wp_ret ?_
      exact done1 2 (.bool false) (by kernel_rfl) (by kernel_rfl) (by kernel_rfl) ⟨by rw [show intB l = false from decide_eq_false (fun h => by obtain ⟨h3, h4⟩ := (intB_iff h2).1 h; have h3 : l.getD (l.length - 2) 0 = crc (sl l 0 (l.length - 2 - 0)) / 256 := h3; have h4 : l.getD (l.length - 2 + 1) 0 = crc (sl l 0 (l.length - 2 - 0)) % 256 := h4; omega)], M5.toBelow⟩
  ·
    refine st_val (.bool false) (by kernel_rfl) (bool_of (dec_f c19) (by kernel_rfl)) ?_
    refine st_val (.bool false) (by kernel_rfl) (by kernel_rfl) ?_
    refine st_skip (by kernel_rfl) ?_
    refine st_skip (by kernel_rfl) ?_
    refine st_skip (by kernel_rfl) ?_
    refine st_skip (by kernel_rfl) ?_
    refine st_skip (by kernel_rfl) ?_
    refine st_skip (by kernel_rfl) ?_
    refine st_skip (by kernel_rfl) ?_
    refine st_skip (by kernel_rfl) ?_
    refine st_val (.bool false) (by kernel_rfl) (by kernel_rfl) ?_
    refine st_val (.bool false) (by kernel_rfl) (by kernel_rfl) ?_
    refine wl_nil ?_
    refine hK6 _ _ ?_
    try clear hK6 K6
    refine wp_frame (a' := ⟨#[.slice A l.length c, undef, .bool false, .int .i64 ((l.length - 2 : Nat) : Int), .int .u16 ((crc (sl l 0 ((l.length - 2) - 0)) : Nat) : Int), .slice A l.length c, .int .i64 ((l.length : Nat) : Int), .int .i64 ((l.length - 2 : Nat) : Int), .slice A l.length c, .int .i64 ((l.length - 2 : Nat) : Int), .slice (subA A c 0) ((l.length - 2) - 0) (c - 0), .int .u16 ((crc (sl l 0 ((l.length - 2) - 0)) : Nat) : Int), .slice A l.length c, .int .i64 ((l.length - 2 : Nat) : Int), .pointer (some ⟨b7, o8 + (l.length - 2) * 1, none⟩), .int .u8 ((l.getD (l.length - 2) 0 : Nat) : Int), .int .u16 ((crc (sl l 0 ((l.length - 2) - 0)) : Nat) : Int), .int .u16 ((crc (sl l 0 (l.length - 2 - 0)) / 256 : Nat) : Int), .int .u8 ((crc (sl l 0 (l.length - 2 - 0)) / 256 : Nat) : Int), .bool false, .bool false, undef, undef, undef, undef, undef, undef, undef, undef, .bool false], []⟩) (by kernel_rfl) ?_
    refine wp_ret ?_
    exact done1 2 (.bool false) (by kernel_rfl) (by kernel_rfl) (by kernel_rfl) ⟨by rw [show intB l = false from decide_eq_false (fun h => by obtain ⟨h3, h4⟩ := (intB_iff h2).1 h; have h3 : l.getD (l.length - 2) 0 = crc (sl l 0 (l.length - 2 - 0)) / 256 := h3; have h4 : l.getD (l.length - 2 + 1) 0 = crc (sl l 0 (l.length - 2 - 0)) % 256 := h4; omega)], M5.toBelow⟩
end Go.Proofs.Ytmimljaniliecaa
