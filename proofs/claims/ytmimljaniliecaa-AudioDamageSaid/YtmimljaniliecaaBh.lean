/- Decode. -/
import Derived.Test.YtmimljaniliecaaBg
import Derived.Test.YtmimljaniliecaaLi
namespace Go.Proofs.Ytmimljaniliecaa
open Go.RowKit Bt

theorem pvs_lens {ls ms : List (List Int)} (h : ls.length = ms.length) (he : ∀ j, j < ls.length → (ls.getD j []).length = (ms.getD j []).length) (As : Nat → Option Addr) (cs : Nat → Nat) : pvs ls As cs = pvs ms As cs := by
  unfold pvs
  rw [← h]
  apply List.map_congr_left
  intro j hj
  rw [he j (List.mem_range.1 hj)]
theorem dec_good {l : List Nat} (hE : deE l = 0) {v : Value} {As : Nat → Option Addr} {cs : Nat → Nat} {T : List (Nat × Obj)} {Ts : Nat → List (Nat × Obj)} (hO : Own 39 1 v (deC l) (pvs (mk (fun _ => List.replicate (deN l) 0) (deC l)) As cs) T) (hI : OwnI (mk (fun j => chS l j (deK l)) (deC l)) As cs Ts) : OwnP v (deR l) (T ++ flatT Ts (deC l)) := by
  have e : mk (fun j => chS l j (deK l)) (deC l) = deR l := by
    rw [(de_ok hE).1]
    exact mk_congr (fun j _ => chS_end (by unfold deK; omega))
  have hl : (deR l).length = deC l := by rw [← e, mk_length]
  rw [e] at hI
  refine ⟨As, cs, T, Ts, ?_, hI, by rw [hl]⟩
  rw [hl]
  rw [pvs_lens (ms := deR l) (by rw [mk_length, hl]) (fun j hj => ?_)] at hO
  · exact hO
  · rw [mk_length] at hj
    rw [← e, mk_get hj, mk_get hj, chS_len hj, List.length_replicate]
set_option maxHeartbeats 4000000 in
set_option maxRecDepth 100000 in
theorem dec_walk (w : World) (v : Value) (l : List Nat) (hr : RdK w v l.length (u8s l)) (hb : ∀ x ∈ l, x < 256) (hlen : l.length ≤ 1000000) : MakesRow Try.prog 28 #[v] w (fun v T => ∃ v1 v2 T1 T2 m, v = .tuple #[v1, v2, .int .i64 (deE l)] ∧ OwnP v1 (deR l) T1 ∧ m = (deM l).length ∧ Own 3 1 v2 m (i64s (deM l)) T2 ∧ T = T1 ++ T2) := by
  unfold MakesRow
  obtain ⟨A, c, rfl, hc⟩ := hr.shape
  refine calls_of_wp Try.func28 rfl ?_
  refine wp_frame (a' := ⟨#[.slice A l.length c, undef, undef, undef, undef, undef, undef, undef, undef, undef, undef, undef, undef, undef, undef, undef, undef, undef, undef, undef, undef, undef, undef, undef, undef, undef, undef, undef, undef, undef, undef, undef, undef, undef, undef, undef, undef, undef, undef, undef, undef, undef, undef, undef, undef, undef, undef, undef, undef, undef, undef, undef, undef, undef, undef, undef, undef, undef, undef, undef, undef, undef, undef, undef, undef, undef, undef, undef, undef, undef, undef, undef, undef, undef, undef, undef, undef, undef, undef, undef, undef, undef, undef, undef, undef, undef, undef, undef, undef, undef, undef, undef, undef, undef, undef, undef, undef, undef, undef, undef, undef, undef, undef, undef, undef, undef, undef, undef, undef, undef, undef, undef, undef, undef, undef, undef, undef, undef, undef, undef, undef, undef, undef, undef, undef, undef, undef, undef, undef, undef, undef, undef, undef, undef, undef, undef, undef, undef, undef], []⟩) (by kernel_rfl) ?_
  have M0 : Mem NoS w w [] := Mem.start _ _
  refine wp_seq_k (fun K1 hK1 => ?_)
  refine wl_region ?_
  refine st_val ((Go.Value.slice none 0 0)) (by kernel_rfl) (by kernel_rfl) ?_
  refine st_val ((Go.Value.slice none 0 0)) (by kernel_rfl) (by kernel_rfl) ?_
  refine st_val (.int .i64 0) (by kernel_rfl) (by kernel_rfl) ?_
  refine wl_nil ?_
  refine hK1 _ _ ?_
  try clear hK1 K1
  refine wp_seq_k (fun K2 hK2 => ?_)
  refine wp_seq_k (fun K3 hK3 => ?_)
  refine wl_region ?_
  refine st_val (.slice A l.length c) (by kernel_rfl) (by kernel_rfl) ?_
  refine st_val (.int .i64 ((l.length : Nat) : Int)) (by kernel_rfl) (by kernel_rfl) ?_
  rcases Decidable.em ((((l.length : Nat) : Int) : Int) < 10) with c21 | c21
  ·
    refine st_val (.bool true) (by kernel_rfl) (bool_of (dec_t c21) (by kernel_rfl)) ?_
    refine wl_nil ?_
    refine hK3 _ _ ?_
    try clear hK3 K3
    refine wp_cond_true (by kernel_rfl) ?_
    refine wp_seq_k (fun K4 hK4 => ?_)
    refine wl_region ?_
    refine st_val ((Go.Value.slice none 0 0)) (by kernel_rfl) (by kernel_rfl) ?_
    refine st_val ((Go.Value.slice none 0 0)) (by kernel_rfl) (by kernel_rfl) ?_
    refine st_val (.int .i64 4) (by kernel_rfl) (by kernel_rfl) ?_
    refine wl_nil ?_
    refine hK4 _ _ ?_
    try clear hK4 K4
    refine wp_ret ?_
    refine th_ret ?_
    have hde : deE l = 4 := if_pos (by omega)
    exact done3 2 3 4 ((Go.Value.slice none 0 0)) ((Go.Value.slice none 0 0)) (.int .i64 4) (by kernel_rfl) (by kernel_rfl) (by kernel_rfl) (by kernel_rfl) (by kernel_rfl) ⟨_, [], rfl, ⟨_, _, [], [], 0, by rw [hde], by rw [(de_bad hde (by decide)).1]; exact OwnP.nil, by rw [(de_bad hde (by decide)).2]; rfl, by rw [(de_bad hde (by decide)).2]; exact Own.nil _ _, rfl⟩, M0.sub (List.nil_sublist _)⟩
  ·
    refine st_val (.bool false) (by kernel_rfl) (bool_of (dec_f c21) (by kernel_rfl)) ?_
    refine wl_nil ?_
    refine hK3 _ _ ?_
    try clear hK3 K3
    refine wp_cond_false (by kernel_rfl) ?_
    refine wp_skip ?_
    refine hK2 _ _ ?_
    try clear hK2 K2
    refine wp_seq_k (fun K5 hK5 => ?_)
    have hb4 := getDb_lt hb 4
    have hb5 := getDb_lt hb 5
    have hb6 := getDb_lt hb 6
    have hb7 := getDb_lt hb 7
    refine wl_seq 22 (fun w' => Mem NoS w w' []) (by decide) (by kernel_rfl) (by kernel_rfl) M0.drew ?_
    refine seq_run (v := .slice A l.length c) (by decide) (by kernel_rfl) (fun w' M' => (by kernel_rfl)) ?_
    obtain ⟨b6, o7, eA8⟩ := RdK.addr (hr.keep M0.keep (fun _ _ h => h)) (j := 4 * 1) (by rw [u8s_length]; omega)
    refine seq_run (v := .pointer (some ⟨b6, o7 + 4 * 1, none⟩)) (by decide) (by kernel_rfl) (fun w' M' => (run_indexSliceA 22 (.tmp 22) _ rfl A ⟨b6, o7, none⟩ eA8 l.length c .i64 4 (by kernel_rfl) (by kernel_rfl) Try.underlying22 1 (by kernel_rfl) (by omega) ⟨b6, o7 + 4 * 1, none⟩ (addr_atK _ _ _ _))) ?_
    refine seq_run (v := .int .u8 ((l.getD 4 0 : Nat) : Int)) (by decide) (by kernel_rfl) (fun w' M' => (run_load_cell 5 (.tmp 23) rfl ⟨b6, o7 + 4 * 1, none⟩ (by kernel_rfl) _ ((hr.keep M'.keep (fun _ _ h => h)).cellF eA8 (f := 0) (u8s_get l 4 (by omega))) (by kernel_rfl))) ?_
    refine seq_run (v := .int .i64 ((l.getD 4 0 : Nat) : Int)) (by decide) (by kernel_rfl) (fun w' M' => (i64_of (by omega) (by kernel_rfl))) ?_
    refine seq_run (v := .slice A l.length c) (by decide) (by kernel_rfl) (fun w' M' => (by kernel_rfl)) ?_
    obtain ⟨b9, o10, eA11⟩ := RdK.addr (hr.keep M0.keep (fun _ _ h => h)) (j := 5 * 1) (by rw [u8s_length]; omega)
    refine seq_run (v := .pointer (some ⟨b9, o10 + 5 * 1, none⟩)) (by decide) (by kernel_rfl) (fun w' M' => (run_indexSliceA 22 (.tmp 26) _ rfl A ⟨b9, o10, none⟩ eA11 l.length c .i64 5 (by kernel_rfl) (by kernel_rfl) Try.underlying22 1 (by kernel_rfl) (by omega) ⟨b9, o10 + 5 * 1, none⟩ (addr_atK _ _ _ _))) ?_
    refine seq_run (v := .int .u8 ((l.getD 5 0 : Nat) : Int)) (by decide) (by kernel_rfl) (fun w' M' => (run_load_cell 5 (.tmp 27) rfl ⟨b9, o10 + 5 * 1, none⟩ (by kernel_rfl) _ ((hr.keep M'.keep (fun _ _ h => h)).cellF eA11 (f := 0) (u8s_get l 5 (by omega))) (by kernel_rfl))) ?_
    refine seq_run (v := .int .i64 ((l.getD 5 0 : Nat) : Int)) (by decide) (by kernel_rfl) (fun w' M' => (i64_of (by omega) (by kernel_rfl))) ?_
    refine seq_run (v := .int .i64 ((l.getD 5 0 * 65536 : Nat) : Int)) (by decide) (by kernel_rfl) (fun w' M' => (run_value_bin .shl 3 48 (.tmp 29) _ rfl (.int .i64 ((l.getD 5 0 : Nat) : Int)) (.int .u64 16) _ (by kernel_rfl) (by kernel_rfl) (by kernel_rfl) (bin_shl (n := 16) (by decide) (show IntKind.i64.wrap (((l.getD 5 0 : Nat) : Int) * 2 ^ 16) = ((l.getD 5 0 * 65536 : Nat) : Int) from (by rw [show ((l.getD 5 0 : Nat) : Int) * 2 ^ 16 = ((l.getD 5 0 * 65536 : Nat) : Int) by omega]; exact i64_wrap (by omega)))))) ?_
    refine seq_run (v := .slice A l.length c) (by decide) (by kernel_rfl) (fun w' M' => (by kernel_rfl)) ?_
    obtain ⟨b12, o13, eA14⟩ := RdK.addr (hr.keep M0.keep (fun _ _ h => h)) (j := 6 * 1) (by rw [u8s_length]; omega)
    refine seq_run (v := .pointer (some ⟨b12, o13 + 6 * 1, none⟩)) (by decide) (by kernel_rfl) (fun w' M' => (run_indexSliceA 22 (.tmp 31) _ rfl A ⟨b12, o13, none⟩ eA14 l.length c .i64 6 (by kernel_rfl) (by kernel_rfl) Try.underlying22 1 (by kernel_rfl) (by omega) ⟨b12, o13 + 6 * 1, none⟩ (addr_atK _ _ _ _))) ?_
    refine seq_run (v := .int .u8 ((l.getD 6 0 : Nat) : Int)) (by decide) (by kernel_rfl) (fun w' M' => (run_load_cell 5 (.tmp 32) rfl ⟨b12, o13 + 6 * 1, none⟩ (by kernel_rfl) _ ((hr.keep M'.keep (fun _ _ h => h)).cellF eA14 (f := 0) (u8s_get l 6 (by omega))) (by kernel_rfl))) ?_
    refine seq_run (v := .int .i64 ((l.getD 6 0 : Nat) : Int)) (by decide) (by kernel_rfl) (fun w' M' => (i64_of (by omega) (by kernel_rfl))) ?_
    refine seq_run (v := .int .i64 ((l.getD 6 0 * 256 : Nat) : Int)) (by decide) (by kernel_rfl) (fun w' M' => (run_value_bin .shl 3 48 (.tmp 34) _ rfl (.int .i64 ((l.getD 6 0 : Nat) : Int)) (.int .u64 8) _ (by kernel_rfl) (by kernel_rfl) (by kernel_rfl) (bin_shl (n := 8) (by decide) (show IntKind.i64.wrap (((l.getD 6 0 : Nat) : Int) * 2 ^ 8) = ((l.getD 6 0 * 256 : Nat) : Int) from (by rw [show ((l.getD 6 0 : Nat) : Int) * 2 ^ 8 = ((l.getD 6 0 * 256 : Nat) : Int) by omega]; exact i64_wrap (by omega)))))) ?_
    refine seq_run (v := .int .i64 ((l.getD 5 0 * 65536 + l.getD 6 0 * 256 : Nat) : Int)) (by decide) (by kernel_rfl) (fun w' M' => (run_value_bin .or 3 3 (.tmp 30) (.tmp 35) rfl (.int .i64 ((l.getD 5 0 * 65536 : Nat) : Int)) (.int .i64 ((l.getD 6 0 * 256 : Nat) : Int)) _ (by kernel_rfl) (by kernel_rfl) (by kernel_rfl) (bin_bits (by simp) (show bits .or .i64 ((l.getD 5 0 * 65536 : Nat) : Int) ((l.getD 6 0 * 256 : Nat) : Int) = ((l.getD 5 0 * 65536 + l.getD 6 0 * 256 : Nat) : Int) from (i64_or1 hb5 hb6))))) ?_
    refine seq_run (v := .slice A l.length c) (by decide) (by kernel_rfl) (fun w' M' => (by kernel_rfl)) ?_
    obtain ⟨b15, o16, eA17⟩ := RdK.addr (hr.keep M0.keep (fun _ _ h => h)) (j := 7 * 1) (by rw [u8s_length]; omega)
    refine seq_run (v := .pointer (some ⟨b15, o16 + 7 * 1, none⟩)) (by decide) (by kernel_rfl) (fun w' M' => (run_indexSliceA 22 (.tmp 37) _ rfl A ⟨b15, o16, none⟩ eA17 l.length c .i64 7 (by kernel_rfl) (by kernel_rfl) Try.underlying22 1 (by kernel_rfl) (by omega) ⟨b15, o16 + 7 * 1, none⟩ (addr_atK _ _ _ _))) ?_
    refine seq_run (v := .int .u8 ((l.getD 7 0 : Nat) : Int)) (by decide) (by kernel_rfl) (fun w' M' => (run_load_cell 5 (.tmp 38) rfl ⟨b15, o16 + 7 * 1, none⟩ (by kernel_rfl) _ ((hr.keep M'.keep (fun _ _ h => h)).cellF eA17 (f := 0) (u8s_get l 7 (by omega))) (by kernel_rfl))) ?_
    refine seq_run (v := .int .i64 ((l.getD 7 0 : Nat) : Int)) (by decide) (by kernel_rfl) (fun w' M' => (i64_of (by omega) (by kernel_rfl))) ?_
    refine seq_run (v := .int .i64 ((l.getD 5 0 * 65536 + l.getD 6 0 * 256 + l.getD 7 0 : Nat) : Int)) (by decide) (by kernel_rfl) (fun w' M' => (run_value_bin .or 3 3 (.tmp 36) (.tmp 40) rfl (.int .i64 ((l.getD 5 0 * 65536 + l.getD 6 0 * 256 : Nat) : Int)) (.int .i64 ((l.getD 7 0 : Nat) : Int)) _ (by kernel_rfl) (by kernel_rfl) (by kernel_rfl) (bin_bits (by simp) (show bits .or .i64 ((l.getD 5 0 * 65536 + l.getD 6 0 * 256 : Nat) : Int) ((l.getD 7 0 : Nat) : Int) = ((l.getD 5 0 * 65536 + l.getD 6 0 * 256 + l.getD 7 0 : Nat) : Int) from (i64_or2 hb5 hb6 hb7))))) ?_
    refine seq_run (v := .int .i64 ((l.getD 4 0 : Nat) : Int)) (by decide) (by kernel_rfl) (fun w' M' => (by kernel_rfl)) ?_
    refine seq_run (v := .int .i64 ((l.getD 5 0 * 65536 + l.getD 6 0 * 256 + l.getD 7 0 : Nat) : Int)) (by decide) (by kernel_rfl) (fun w' M' => (by kernel_rfl)) ?_
    refine seq_end (by decide) ?_
    intro W18 M19
    refine wl_nil ?_
    refine hK5 _ _ ?_
    try clear hK5 K5
    refine wp_frame (a' := ⟨#[.slice A l.length c, undef, (Go.Value.slice none 0 0), (Go.Value.slice none 0 0), .int .i64 0, .int .i64 ((l.getD 4 0 : Nat) : Int), .int .i64 ((l.getD 5 0 * 65536 + l.getD 6 0 * 256 + l.getD 7 0 : Nat) : Int), undef, undef, undef, undef, undef, undef, undef, undef, undef, undef, undef, undef, .slice A l.length c, .int .i64 ((l.length : Nat) : Int), .bool false, .slice A l.length c, .pointer (some ⟨b6, o7 + 4 * 1, none⟩), .int .u8 ((l.getD 4 0 : Nat) : Int), .int .i64 ((l.getD 4 0 : Nat) : Int), .slice A l.length c, .pointer (some ⟨b9, o10 + 5 * 1, none⟩), .int .u8 ((l.getD 5 0 : Nat) : Int), .int .i64 ((l.getD 5 0 : Nat) : Int), .int .i64 ((l.getD 5 0 * 65536 : Nat) : Int), .slice A l.length c, .pointer (some ⟨b12, o13 + 6 * 1, none⟩), .int .u8 ((l.getD 6 0 : Nat) : Int), .int .i64 ((l.getD 6 0 : Nat) : Int), .int .i64 ((l.getD 6 0 * 256 : Nat) : Int), .int .i64 ((l.getD 5 0 * 65536 + l.getD 6 0 * 256 : Nat) : Int), .slice A l.length c, .pointer (some ⟨b15, o16 + 7 * 1, none⟩), .int .u8 ((l.getD 7 0 : Nat) : Int), .int .i64 ((l.getD 7 0 : Nat) : Int), .int .i64 ((l.getD 5 0 * 65536 + l.getD 6 0 * 256 + l.getD 7 0 : Nat) : Int), undef, undef, undef, undef, undef, undef, undef, undef, undef, undef, undef, undef, undef, undef, undef, undef, undef, undef, undef, undef, undef, undef, undef, undef, undef, undef, undef, undef, undef, undef, undef, undef, undef, undef, undef, undef, undef, undef, undef, undef, undef, undef, undef, undef, undef, undef, undef, undef, undef, undef, undef, undef, undef, undef, undef, undef, undef, undef, undef, undef, undef, undef, undef, undef, undef, undef, undef, undef, undef, undef, undef, undef, undef, undef, undef, undef, undef, undef, undef, undef, undef, undef, undef, undef, undef, undef, undef, undef, undef, undef, undef, undef, undef, undef, undef, undef, undef], []⟩) (by kernel_rfl) ?_
    refine wp_seq_k (fun K20 hK20 => ?_)
    have hdC : deC l = l.getD 4 0 := rfl
    have hdN : deN l = l.getD 5 0 * 65536 + l.getD 6 0 * 256 + l.getD 7 0 := rfl
    refine wp_frame (a' := ⟨#[.slice A l.length c, undef, (Go.Value.slice none 0 0), (Go.Value.slice none 0 0), .int .i64 0, .int .i64 ((deC l : Nat) : Int), .int .i64 ((deN l : Nat) : Int), undef, undef, undef, undef, undef, undef, undef, undef, undef, undef, undef, undef, .slice A l.length c, .int .i64 ((l.length : Nat) : Int), .bool false, .slice A l.length c, .pointer (some ⟨b6, o7 + 4 * 1, none⟩), .int .u8 ((l.getD 4 0 : Nat) : Int), .int .i64 ((l.getD 4 0 : Nat) : Int), .slice A l.length c, .pointer (some ⟨b9, o10 + 5 * 1, none⟩), .int .u8 ((l.getD 5 0 : Nat) : Int), .int .i64 ((l.getD 5 0 : Nat) : Int), .int .i64 ((l.getD 5 0 * 65536 : Nat) : Int), .slice A l.length c, .pointer (some ⟨b12, o13 + 6 * 1, none⟩), .int .u8 ((l.getD 6 0 : Nat) : Int), .int .i64 ((l.getD 6 0 : Nat) : Int), .int .i64 ((l.getD 6 0 * 256 : Nat) : Int), .int .i64 ((l.getD 5 0 * 65536 + l.getD 6 0 * 256 : Nat) : Int), .slice A l.length c, .pointer (some ⟨b15, o16 + 7 * 1, none⟩), .int .u8 ((l.getD 7 0 : Nat) : Int), .int .i64 ((l.getD 7 0 : Nat) : Int), .int .i64 ((l.getD 5 0 * 65536 + l.getD 6 0 * 256 + l.getD 7 0 : Nat) : Int), undef, undef, undef, undef, undef, undef, undef, undef, undef, undef, undef, undef, undef, undef, undef, undef, undef, undef, undef, undef, undef, undef, undef, undef, undef, undef, undef, undef, undef, undef, undef, undef, undef, undef, undef, undef, undef, undef, undef, undef, undef, undef, undef, undef, undef, undef, undef, undef, undef, undef, undef, undef, undef, undef, undef, undef, undef, undef, undef, undef, undef, undef, undef, undef, undef, undef, undef, undef, undef, undef, undef, undef, undef, undef, undef, undef, undef, undef, undef, undef, undef, undef, undef, undef, undef, undef, undef, undef, undef, undef, undef, undef, undef, undef, undef, undef, undef], []⟩) (by skip; kernel_rfl) ?_
    refine wl_region ?_
    refine st_val (.int .i64 ((deN l : Nat) : Int)) (by kernel_rfl) (by kernel_rfl) ?_
    refine st_val (.int .i64 (((deN l : Nat) : Int) + 32)) (by kernel_rfl) (i64_of (by omega) (by kernel_rfl)) ?_
    refine st_val (.int .i64 ((((deN l : Nat) : Int) + 32) - 1)) (by kernel_rfl) (i64_of (by omega) (by kernel_rfl)) ?_
    refine st_val (.int .i64 ((deK l : Nat) : Int)) (by kernel_rfl) (int_of (show ((((deN l : Nat) : Int) + 32) - 1) / 32 = ((deK l : Nat) : Int) by unfold deK; omega) (int_of (quo_of ((((deN l : Nat) : Int) + 32) - 1) 32 (by omega) (by omega) (by omega)) (by kernel_rfl))) ?_
    refine st_val (.int .i64 ((deK l : Nat) : Int)) (by kernel_rfl) (by kernel_rfl) ?_
    refine wl_nil ?_
    refine hK20 _ _ ?_
    try clear hK20 K20
    refine wp_seq_k (fun K21 hK21 => ?_)
    refine wl_region ?_
    refine st_val (.slice A l.length c) (by kernel_rfl) (by kernel_rfl) ?_
    refine st_val (.slice (subA A c 10) (l.length - 10) (c - 10)) (by kernel_rfl) (run_sub_lo 22 5 (.tmp 46) _ rfl Try.underlying22 (by kernel_rfl) A l.length c (by kernel_rfl) .i64 10 (by kernel_rfl) (by omega) (by omega)) ?_
    refine st_val (.slice (subA A c 10) (l.length - 10) (c - 10)) (by kernel_rfl) (by kernel_rfl) ?_
    refine wl_nil ?_
    refine hK21 _ _ ?_
    try clear hK21 K21
    refine wp_seq_k (fun K22 hK22 => ?_)
    refine wp_block ?_
    refine wp_seq_k (fun K23 hK23 => ?_)
    refine wh_region (fun w' => Mem NoS w w' []) (by kernel_rfl) (by kernel_rfl) (fun d _ _ _ _ h => by cases d <;> exact h) 15 rfl #[false, false, false, false, false, false, false, false, false, false, false, false, false, false, false] rfl ?_
    intro R24
    have M26 := M19.drew
    have hS27 : Mem NoS w W18.drew [] := M26
    refine wh_take R24 0 (.slice A l.length c) rfl (by kernel_rfl) (by kernel_rfl) (by kernel_rfl) (fun w' M' => (by kernel_rfl)) hS27 #[true, false, false, false, false, false, false, false, false, false, false, false, false, false, false] rfl ?_
    refine wh_take R24 1 (.slice (subA A c 0) (4 - 0) (c - 0)) rfl (by kernel_rfl) (by kernel_rfl) (by kernel_rfl) (fun w' M' => (run_sub_hi 22 5 (.tmp 49) _ rfl Try.underlying22 (by kernel_rfl) A l.length c (by kernel_rfl) .i64 4 (by kernel_rfl) (by omega))) hS27 #[true, true, false, false, false, false, false, false, false, false, false, false, false, false, false] rfl ?_
    refine wh_callR (A := []) (B := []) M26 2 rfl (by kernel_rfl) (by kernel_rfl) (run_value_call 53 #[] _ rfl Try.func53 (by kernel_rfl) (by kernel_rfl) _ (by kernel_rfl)) #[true, true, true, false, false, false, false, false, false, false, false, false, false, false, false] rfl (magic_walk W18.drew) ?_
    intro v28 T29 W30 O31 M32
    have M32 : Mem NoS w W30 ((T29 ++ [])) := M32
    obtain ⟨A33, cq34, rfl, hc35⟩ := O31.shape
    have hS36 : Mem NoS w W30 [] := M32.sub ((List.Sublist.refl []).trans (List.sublist_append_right T29 _))
    refine ⟨hS36, ?_⟩
    rcases Bool.eq_false_or_eq_true (decide ((sl l 0 (4 - 0)) = [67, 82, 83, 68])) with heq | heq
    ·
      have heq2 := of_decide_eq_true heq
      refine wh_callB M32 3 (.bool true) rfl (by kernel_rfl) (by kernel_rfl) (run_value_call 55 #[(Operand.tmp 50), (Operand.tmp 51)] _ rfl Try.func55 (by kernel_rfl) (by kernel_rfl) _ (by kernel_rfl)) #[true, true, true, true, false, false, false, false, false, false, false, false, false, false, false] rfl ((by have := equal_walk W30 (.slice (subA A c 0) (4 - 0) (c - 0)) (.slice A33 4 cq34) (sl l 0 (4 - 0)) ([67, 82, 83, 68]) ((by rw [sl_len (by omega)]; exact (rdk_sl (hr.keep M32.keep (fun _ _ h => h)) rfl (by omega) (lo := 0) (hi := 4) (by omega) (by omega)))) (O31.rd (fun p hp => M32.at_ p (List.mem_append_left _ hp))) (by rw [sl_len (by omega)]; omega); rw [heq] at this; exact this)) ?_
      intro W37 M38
      have hS39 : Mem NoS w W37 [] := M38.sub ((List.Sublist.refl []).trans (List.sublist_append_right T29 _))
      refine ⟨hS39, ?_⟩
      refine wh_take R24 4 (.bool false) rfl (by kernel_rfl) (by kernel_rfl) (by kernel_rfl) (fun w' M' => (by kernel_rfl)) hS39 #[true, true, true, true, true, false, false, false, false, false, false, false, false, false, false] rfl ?_
      refine wh_take R24 5 (.bool false) rfl (by kernel_rfl) (by kernel_rfl) (by kernel_rfl) (fun w' M' => (by kernel_rfl)) hS39 #[true, true, true, true, true, true, false, false, false, false, false, false, false, false, false] rfl ?_
      refine wh_take R24 6 (.int .i64 ((deC l : Nat) : Int)) rfl (by kernel_rfl) (by kernel_rfl) (by kernel_rfl) (fun w' M' => (by kernel_rfl)) hS39 #[true, true, true, true, true, true, true, false, false, false, false, false, false, false, false] rfl ?_
      rcases Bool.eq_false_or_eq_true (mayC ((deC l : Nat) : Int)) with hmc | hmc
      ·
        obtain ⟨hm1, hm2⟩ := of_decide_eq_true hmc
        refine wh_callB M38 7 (.bool true) rfl (by kernel_rfl) (by kernel_rfl) (run_value_call 32 #[(Operand.tmp 55)] _ rfl Try.func32 (by kernel_rfl) (by kernel_rfl) _ (by kernel_rfl)) #[true, true, true, true, true, true, true, true, false, false, false, false, false, false, false] rfl ((by have := mayC_walk W37 ((deC l : Nat) : Int); rw [hmc] at this; exact this)) ?_
        intro W40 M41
        have hS42 : Mem NoS w W40 [] := M41.sub ((List.Sublist.refl []).trans (List.sublist_append_right T29 _))
        refine ⟨hS42, ?_⟩
        refine wh_take R24 8 (.bool false) rfl (by kernel_rfl) (by kernel_rfl) (by kernel_rfl) (fun w' M' => (by kernel_rfl)) hS42 #[true, true, true, true, true, true, true, true, true, false, false, false, false, false, false] rfl ?_
        refine wh_take R24 9 (.bool false) rfl (by kernel_rfl) (by kernel_rfl) (by kernel_rfl) (fun w' M' => (by kernel_rfl)) hS42 #[true, true, true, true, true, true, true, true, true, true, false, false, false, false, false] rfl ?_
        refine wh_take R24 10 (.bool false) rfl (by kernel_rfl) (by kernel_rfl) (by kernel_rfl) (fun w' M' => (by kernel_rfl)) hS42 #[true, true, true, true, true, true, true, true, true, true, true, false, false, false, false] rfl ?_
        refine wh_take R24 11 (.int .i64 ((deN l : Nat) : Int)) rfl (by kernel_rfl) (by kernel_rfl) (by kernel_rfl) (fun w' M' => (by kernel_rfl)) hS42 #[true, true, true, true, true, true, true, true, true, true, true, true, false, false, false] rfl ?_
        rcases Decidable.em ((((deN l : Nat) : Int) : Int) > 1048576) with c61 | c61
        ·
          refine wh_take R24 12 (.bool true) rfl (by kernel_rfl) (by kernel_rfl) (by kernel_rfl) (fun w' M' => (bool_of (dec_t c61) (by kernel_rfl))) hS42 #[true, true, true, true, true, true, true, true, true, true, true, true, true, false, false] rfl ?_
          refine wh_take R24 13 (.bool true) rfl (by kernel_rfl) (by kernel_rfl) (by kernel_rfl) (fun w' M' => (by kernel_rfl)) hS42 #[true, true, true, true, true, true, true, true, true, true, true, true, true, true, false] rfl ?_
          refine wh_take R24 14 (.bool true) rfl (by kernel_rfl) (by kernel_rfl) (by kernel_rfl) (fun w' M' => (by kernel_rfl)) hS42 #[true, true, true, true, true, true, true, true, true, true, true, true, true, true, true] rfl ?_
          refine wh_done (by kernel_rfl) ?_
          refine hK23 _ _ ?_
          try clear hK23 K23
          refine wp_frame (a' := ⟨#[.slice A l.length c, undef, (Go.Value.slice none 0 0), (Go.Value.slice none 0 0), .int .i64 0, .int .i64 ((deC l : Nat) : Int), .int .i64 ((deN l : Nat) : Int), .int .i64 ((deK l : Nat) : Int), .slice (subA A c 10) (l.length - 10) (c - 10), undef, undef, undef, undef, undef, undef, undef, undef, undef, undef, .slice A l.length c, .int .i64 ((l.length : Nat) : Int), .bool false, .slice A l.length c, .pointer (some ⟨b6, o7 + 4 * 1, none⟩), .int .u8 ((l.getD 4 0 : Nat) : Int), .int .i64 ((l.getD 4 0 : Nat) : Int), .slice A l.length c, .pointer (some ⟨b9, o10 + 5 * 1, none⟩), .int .u8 ((l.getD 5 0 : Nat) : Int), .int .i64 ((l.getD 5 0 : Nat) : Int), .int .i64 ((l.getD 5 0 * 65536 : Nat) : Int), .slice A l.length c, .pointer (some ⟨b12, o13 + 6 * 1, none⟩), .int .u8 ((l.getD 6 0 : Nat) : Int), .int .i64 ((l.getD 6 0 : Nat) : Int), .int .i64 ((l.getD 6 0 * 256 : Nat) : Int), .int .i64 ((l.getD 5 0 * 65536 + l.getD 6 0 * 256 : Nat) : Int), .slice A l.length c, .pointer (some ⟨b15, o16 + 7 * 1, none⟩), .int .u8 ((l.getD 7 0 : Nat) : Int), .int .i64 ((l.getD 7 0 : Nat) : Int), .int .i64 ((l.getD 5 0 * 65536 + l.getD 6 0 * 256 + l.getD 7 0 : Nat) : Int), .int .i64 ((deN l : Nat) : Int), .int .i64 (((deN l : Nat) : Int) + 32), .int .i64 ((((deN l : Nat) : Int) + 32) - 1), .int .i64 ((deK l : Nat) : Int), .slice A l.length c, .slice (subA A c 10) (l.length - 10) (c - 10), .bool true, .slice A l.length c, .slice (subA A c 0) (4 - 0) (c - 0), .slice A33 4 cq34, .bool true, .bool false, .bool false, .int .i64 ((deC l : Nat) : Int), .bool true, .bool false, .bool false, .bool false, .int .i64 ((deN l : Nat) : Int), .bool true, .bool true, undef, undef, undef, undef, undef, undef, undef, undef, undef, undef, undef, undef, undef, undef, undef, undef, undef, undef, undef, undef, undef, undef, undef, undef, undef, undef, undef, undef, undef, undef, undef, undef, undef, undef, undef, undef, undef, undef, undef, undef, undef, undef, undef, undef, undef, undef, undef, undef, undef, undef, undef, undef, undef, undef, undef, undef, undef, undef, undef, undef, undef, undef, undef, undef, undef, undef, undef, undef, undef, undef, undef, undef, undef, undef, undef, undef], []⟩) (by kernel_rfl) ?_
          refine wp_cond_true (by kernel_rfl) ?_
          refine wp_seq_k (fun K43 hK43 => ?_)
          refine wl_region ?_
          refine st_val ((Go.Value.slice none 0 0)) (by kernel_rfl) (by kernel_rfl) ?_
          refine st_val ((Go.Value.slice none 0 0)) (by kernel_rfl) (by kernel_rfl) ?_
          refine st_val (.int .i64 3) (by kernel_rfl) (by kernel_rfl) ?_
          refine wl_nil ?_
          refine hK43 _ _ ?_
          try clear hK43 K43
          refine wp_ret ?_
          refine blk_ret ?_
          refine th_ret ?_
          have hde : deE l = 3 := (by unfold deE; first | (rw [if_neg (by omega), if_neg (fun h => h hG), if_neg (by rw [hit]; decide), if_pos (by omega)]) | (rw [if_neg (by omega), if_pos (fun hg => by obtain ⟨g1, ⟨g2, g3⟩, g4⟩ := hg; first | exact hne2 g1 | exact hmn ⟨by omega, by omega⟩ | omega)]))
          exact done3 2 3 4 ((Go.Value.slice none 0 0)) ((Go.Value.slice none 0 0)) (.int .i64 3) (by kernel_rfl) (by kernel_rfl) (by kernel_rfl) (by kernel_rfl) (by kernel_rfl) ⟨_, [], rfl, ⟨_, _, [], [], 0, by rw [hde], by rw [(de_bad hde (by decide)).1]; exact OwnP.nil, by rw [(de_bad hde (by decide)).2]; rfl, by rw [(de_bad hde (by decide)).2]; exact Own.nil _ _, rfl⟩, M41.sub (List.nil_sublist _)⟩
        ·
          refine wh_take R24 12 (.bool false) rfl (by kernel_rfl) (by kernel_rfl) (by kernel_rfl) (fun w' M' => (bool_of (dec_f c61) (by kernel_rfl))) hS42 #[true, true, true, true, true, true, true, true, true, true, true, true, true, false, false] rfl ?_
          refine wh_take R24 13 (.bool false) rfl (by kernel_rfl) (by kernel_rfl) (by kernel_rfl) (fun w' M' => (by kernel_rfl)) hS42 #[true, true, true, true, true, true, true, true, true, true, true, true, true, true, false] rfl ?_
          refine wh_take R24 14 (.bool false) rfl (by kernel_rfl) (by kernel_rfl) (by kernel_rfl) (fun w' M' => (by kernel_rfl)) hS42 #[true, true, true, true, true, true, true, true, true, true, true, true, true, true, true] rfl ?_
          refine wh_done (by kernel_rfl) ?_
          refine hK23 _ _ ?_
          try clear hK23 K23
          refine wp_frame (a' := ⟨#[.slice A l.length c, undef, (Go.Value.slice none 0 0), (Go.Value.slice none 0 0), .int .i64 0, .int .i64 ((deC l : Nat) : Int), .int .i64 ((deN l : Nat) : Int), .int .i64 ((deK l : Nat) : Int), .slice (subA A c 10) (l.length - 10) (c - 10), undef, undef, undef, undef, undef, undef, undef, undef, undef, undef, .slice A l.length c, .int .i64 ((l.length : Nat) : Int), .bool false, .slice A l.length c, .pointer (some ⟨b6, o7 + 4 * 1, none⟩), .int .u8 ((l.getD 4 0 : Nat) : Int), .int .i64 ((l.getD 4 0 : Nat) : Int), .slice A l.length c, .pointer (some ⟨b9, o10 + 5 * 1, none⟩), .int .u8 ((l.getD 5 0 : Nat) : Int), .int .i64 ((l.getD 5 0 : Nat) : Int), .int .i64 ((l.getD 5 0 * 65536 : Nat) : Int), .slice A l.length c, .pointer (some ⟨b12, o13 + 6 * 1, none⟩), .int .u8 ((l.getD 6 0 : Nat) : Int), .int .i64 ((l.getD 6 0 : Nat) : Int), .int .i64 ((l.getD 6 0 * 256 : Nat) : Int), .int .i64 ((l.getD 5 0 * 65536 + l.getD 6 0 * 256 : Nat) : Int), .slice A l.length c, .pointer (some ⟨b15, o16 + 7 * 1, none⟩), .int .u8 ((l.getD 7 0 : Nat) : Int), .int .i64 ((l.getD 7 0 : Nat) : Int), .int .i64 ((l.getD 5 0 * 65536 + l.getD 6 0 * 256 + l.getD 7 0 : Nat) : Int), .int .i64 ((deN l : Nat) : Int), .int .i64 (((deN l : Nat) : Int) + 32), .int .i64 ((((deN l : Nat) : Int) + 32) - 1), .int .i64 ((deK l : Nat) : Int), .slice A l.length c, .slice (subA A c 10) (l.length - 10) (c - 10), .bool false, .slice A l.length c, .slice (subA A c 0) (4 - 0) (c - 0), .slice A33 4 cq34, .bool true, .bool false, .bool false, .int .i64 ((deC l : Nat) : Int), .bool true, .bool false, .bool false, .bool false, .int .i64 ((deN l : Nat) : Int), .bool false, .bool false, undef, undef, undef, undef, undef, undef, undef, undef, undef, undef, undef, undef, undef, undef, undef, undef, undef, undef, undef, undef, undef, undef, undef, undef, undef, undef, undef, undef, undef, undef, undef, undef, undef, undef, undef, undef, undef, undef, undef, undef, undef, undef, undef, undef, undef, undef, undef, undef, undef, undef, undef, undef, undef, undef, undef, undef, undef, undef, undef, undef, undef, undef, undef, undef, undef, undef, undef, undef, undef, undef, undef, undef, undef, undef, undef, undef], []⟩) (by kernel_rfl) ?_
          refine wp_cond_false (by kernel_rfl) ?_
          refine wp_seq_k (fun K44 hK44 => ?_)
          have hG : deG l := ⟨heq2, ⟨by omega, by omega⟩, by omega⟩
          have hbz := bsz_v hG.2.1
          have hdS : bsz ((deC l : Nat) : Int) = ((deS l : Nat) : Int) := (by unfold deS; omega)
          have hdS2 : 41 ≤ deS l ∧ deS l ≤ 151 := (by have := hG.2.1; omega)
          have hdK : deK l ≤ 32768 := (by unfold deK; omega)
          have hks : deK l * deS l ≤ 32768 * 151 := Nat.mul_le_mul hdK hdS2.2
          refine wl_region ?_
          refine st_val (.slice A l.length c) (by kernel_rfl) (by kernel_rfl) ?_
          refine st_val (.slice (subA A c 0) (10 - 0) (c - 0)) (by kernel_rfl) (run_sub_hi 22 5 (.tmp 64) _ rfl Try.underlying22 (by kernel_rfl) A l.length c (by kernel_rfl) .i64 10 (by kernel_rfl) (by omega)) ?_
          rcases Bool.eq_false_or_eq_true (intB (sl l 0 (10 - 0))) with hit | hit
          ·
            refine st_callB M41 (.bool true) (by kernel_rfl) (args := #[.slice (subA A c 0) (10 - 0) (c - 0)]) (run_value_call 33 #[(Operand.tmp 65)] _ rfl Try.func33 (by kernel_rfl) (by kernel_rfl) _ (by kernel_rfl)) ((by have := intact_walk W40 (.slice (subA A c 0) (10 - 0) (c - 0)) (sl l 0 (10 - 0)) ((by rw [sl_len (by omega)]; exact (rdk_sl (hr.keep M41.keep (fun _ _ h => h)) rfl (by omega) (lo := 0) (hi := 10) (by omega) (by omega)))) (sl_lt hb _ _) (by rw [sl_len (by omega)]; omega) (by rw [sl_len (by omega)]; omega); rw [hit] at this; exact this)) ?_
            intro W45 M46
            refine st_val (.bool false) (by kernel_rfl) (by kernel_rfl) ?_
            refine st_val (.bool false) (by kernel_rfl) (by kernel_rfl) ?_
            refine wl_nil ?_
            refine hK44 _ _ ?_
            try clear hK44 K44
            refine wp_cond_false (by kernel_rfl) ?_
            refine wp_seq_k (fun K47 hK47 => ?_)
            refine wl_region ?_
            refine st_val (.slice (subA A c 10) (l.length - 10) (c - 10)) (by kernel_rfl) (by kernel_rfl) ?_
            refine st_val (.int .i64 ((l.length - 10 : Nat) : Int)) (by kernel_rfl) (by kernel_rfl) ?_
            refine st_val (.int .i64 ((deK l : Nat) : Int)) (by kernel_rfl) (by kernel_rfl) ?_
            refine st_val (.int .i64 ((deC l : Nat) : Int)) (by kernel_rfl) (by kernel_rfl) ?_
            refine st_callB M46 (.int .i64 ((deS l : Nat) : Int)) (by kernel_rfl) (args := #[.int .i64 ((deC l : Nat) : Int)]) (run_value_call 15 #[(Operand.tmp 72)] _ rfl Try.func15 (by kernel_rfl) (by kernel_rfl) _ (by kernel_rfl)) ((by have := bsz_walk W45 ((deC l : Nat) : Int); rw [hdS] at this; exact this)) ?_
            intro W48 M49
            refine st_val (.int .i64 ((deK l * deS l : Nat) : Int)) (by kernel_rfl) (int_of (show ((deK l : Nat) : Int) * ((deS l : Nat) : Int) = ((deK l * deS l : Nat) : Int) from (Int.natCast_mul _ _).symm) (i64_of (by rw [← Int.natCast_mul]; omega) (by kernel_rfl))) ?_
            rcases Decidable.em ((((l.length - 10 : Nat) : Int) : Int) > ((deK l * deS l : Nat) : Int)) with c75 | c75
            ·
              refine st_val (.bool true) (by kernel_rfl) (bool_of (dec_t c75) (by kernel_rfl)) ?_
              refine st_val (.bool true) (by kernel_rfl) (by kernel_rfl) ?_
              refine wl_nil ?_
              refine hK47 _ _ ?_
              try clear hK47 K47
              refine wp_frame (a' := ⟨#[.slice A l.length c, undef, (Go.Value.slice none 0 0), (Go.Value.slice none 0 0), .int .i64 0, .int .i64 ((deC l : Nat) : Int), .int .i64 ((deN l : Nat) : Int), .int .i64 ((deK l : Nat) : Int), .slice (subA A c 10) (l.length - 10) (c - 10), undef, undef, undef, undef, undef, undef, undef, undef, undef, undef, .slice A l.length c, .int .i64 ((l.length : Nat) : Int), .bool false, .slice A l.length c, .pointer (some ⟨b6, o7 + 4 * 1, none⟩), .int .u8 ((l.getD 4 0 : Nat) : Int), .int .i64 ((l.getD 4 0 : Nat) : Int), .slice A l.length c, .pointer (some ⟨b9, o10 + 5 * 1, none⟩), .int .u8 ((l.getD 5 0 : Nat) : Int), .int .i64 ((l.getD 5 0 : Nat) : Int), .int .i64 ((l.getD 5 0 * 65536 : Nat) : Int), .slice A l.length c, .pointer (some ⟨b12, o13 + 6 * 1, none⟩), .int .u8 ((l.getD 6 0 : Nat) : Int), .int .i64 ((l.getD 6 0 : Nat) : Int), .int .i64 ((l.getD 6 0 * 256 : Nat) : Int), .int .i64 ((l.getD 5 0 * 65536 + l.getD 6 0 * 256 : Nat) : Int), .slice A l.length c, .pointer (some ⟨b15, o16 + 7 * 1, none⟩), .int .u8 ((l.getD 7 0 : Nat) : Int), .int .i64 ((l.getD 7 0 : Nat) : Int), .int .i64 ((l.getD 5 0 * 65536 + l.getD 6 0 * 256 + l.getD 7 0 : Nat) : Int), .int .i64 ((deN l : Nat) : Int), .int .i64 (((deN l : Nat) : Int) + 32), .int .i64 ((((deN l : Nat) : Int) + 32) - 1), .int .i64 ((deK l : Nat) : Int), .slice A l.length c, .slice (subA A c 10) (l.length - 10) (c - 10), .bool false, .slice A l.length c, .slice (subA A c 0) (4 - 0) (c - 0), .slice A33 4 cq34, .bool true, .bool false, .bool false, .int .i64 ((deC l : Nat) : Int), .bool true, .bool false, .bool false, .bool false, .int .i64 ((deN l : Nat) : Int), .bool false, .bool false, .bool false, .slice A l.length c, .slice (subA A c 0) (10 - 0) (c - 0), .bool true, .bool false, .bool true, .slice (subA A c 10) (l.length - 10) (c - 10), .int .i64 ((l.length - 10 : Nat) : Int), .int .i64 ((deK l : Nat) : Int), .int .i64 ((deC l : Nat) : Int), .int .i64 ((deS l : Nat) : Int), .int .i64 ((deK l * deS l : Nat) : Int), .bool true, undef, undef, undef, undef, undef, undef, undef, undef, undef, undef, undef, undef, undef, undef, undef, undef, undef, undef, undef, undef, undef, undef, undef, undef, undef, undef, undef, undef, undef, undef, undef, undef, undef, undef, undef, undef, undef, undef, undef, undef, undef, undef, undef, undef, undef, undef, undef, undef, undef, undef, undef, undef, undef, undef, undef, undef, undef, undef, undef, undef, undef, undef, undef], []⟩) (by kernel_rfl) ?_
              refine wp_cond_true (by kernel_rfl) ?_
              refine wp_seq_k (fun K50 hK50 => ?_)
              refine wl_region ?_
              refine st_val ((Go.Value.slice none 0 0)) (by kernel_rfl) (by kernel_rfl) ?_
              refine st_val ((Go.Value.slice none 0 0)) (by kernel_rfl) (by kernel_rfl) ?_
              refine st_val (.int .i64 3) (by kernel_rfl) (by kernel_rfl) ?_
              refine wl_nil ?_
              refine hK50 _ _ ?_
              try clear hK50 K50
              refine wp_ret ?_
              refine blk_ret ?_
              refine th_ret ?_
              have hde : deE l = 3 := (by unfold deE; first | (rw [if_neg (by omega), if_neg (fun h => h hG), if_neg (by rw [hit]; decide), if_pos (by omega)]) | (rw [if_neg (by omega), if_pos (fun hg => by obtain ⟨g1, ⟨g2, g3⟩, g4⟩ := hg; first | exact hne2 g1 | exact hmn ⟨by omega, by omega⟩ | omega)]))
              exact done3 2 3 4 ((Go.Value.slice none 0 0)) ((Go.Value.slice none 0 0)) (.int .i64 3) (by kernel_rfl) (by kernel_rfl) (by kernel_rfl) (by kernel_rfl) (by kernel_rfl) ⟨_, [], rfl, ⟨_, _, [], [], 0, by rw [hde], by rw [(de_bad hde (by decide)).1]; exact OwnP.nil, by rw [(de_bad hde (by decide)).2]; rfl, by rw [(de_bad hde (by decide)).2]; exact Own.nil _ _, rfl⟩, M49.sub (List.nil_sublist _)⟩
            ·
              refine st_val (.bool false) (by kernel_rfl) (bool_of (dec_f c75) (by kernel_rfl)) ?_
              refine st_val (.bool false) (by kernel_rfl) (by kernel_rfl) ?_
              refine wl_nil ?_
              refine hK47 _ _ ?_
              try clear hK47 K47
              refine wp_frame (a' := ⟨#[.slice A l.length c, undef, (Go.Value.slice none 0 0), (Go.Value.slice none 0 0), .int .i64 0, .int .i64 ((deC l : Nat) : Int), .int .i64 ((deN l : Nat) : Int), .int .i64 ((deK l : Nat) : Int), .slice (subA A c 10) (l.length - 10) (c - 10), undef, undef, undef, undef, undef, undef, undef, undef, undef, undef, .slice A l.length c, .int .i64 ((l.length : Nat) : Int), .bool false, .slice A l.length c, .pointer (some ⟨b6, o7 + 4 * 1, none⟩), .int .u8 ((l.getD 4 0 : Nat) : Int), .int .i64 ((l.getD 4 0 : Nat) : Int), .slice A l.length c, .pointer (some ⟨b9, o10 + 5 * 1, none⟩), .int .u8 ((l.getD 5 0 : Nat) : Int), .int .i64 ((l.getD 5 0 : Nat) : Int), .int .i64 ((l.getD 5 0 * 65536 : Nat) : Int), .slice A l.length c, .pointer (some ⟨b12, o13 + 6 * 1, none⟩), .int .u8 ((l.getD 6 0 : Nat) : Int), .int .i64 ((l.getD 6 0 : Nat) : Int), .int .i64 ((l.getD 6 0 * 256 : Nat) : Int), .int .i64 ((l.getD 5 0 * 65536 + l.getD 6 0 * 256 : Nat) : Int), .slice A l.length c, .pointer (some ⟨b15, o16 + 7 * 1, none⟩), .int .u8 ((l.getD 7 0 : Nat) : Int), .int .i64 ((l.getD 7 0 : Nat) : Int), .int .i64 ((l.getD 5 0 * 65536 + l.getD 6 0 * 256 + l.getD 7 0 : Nat) : Int), .int .i64 ((deN l : Nat) : Int), .int .i64 (((deN l : Nat) : Int) + 32), .int .i64 ((((deN l : Nat) : Int) + 32) - 1), .int .i64 ((deK l : Nat) : Int), .slice A l.length c, .slice (subA A c 10) (l.length - 10) (c - 10), .bool false, .slice A l.length c, .slice (subA A c 0) (4 - 0) (c - 0), .slice A33 4 cq34, .bool true, .bool false, .bool false, .int .i64 ((deC l : Nat) : Int), .bool true, .bool false, .bool false, .bool false, .int .i64 ((deN l : Nat) : Int), .bool false, .bool false, .bool false, .slice A l.length c, .slice (subA A c 0) (10 - 0) (c - 0), .bool true, .bool false, .bool false, .slice (subA A c 10) (l.length - 10) (c - 10), .int .i64 ((l.length - 10 : Nat) : Int), .int .i64 ((deK l : Nat) : Int), .int .i64 ((deC l : Nat) : Int), .int .i64 ((deS l : Nat) : Int), .int .i64 ((deK l * deS l : Nat) : Int), .bool false, undef, undef, undef, undef, undef, undef, undef, undef, undef, undef, undef, undef, undef, undef, undef, undef, undef, undef, undef, undef, undef, undef, undef, undef, undef, undef, undef, undef, undef, undef, undef, undef, undef, undef, undef, undef, undef, undef, undef, undef, undef, undef, undef, undef, undef, undef, undef, undef, undef, undef, undef, undef, undef, undef, undef, undef, undef, undef, undef, undef, undef, undef, undef], []⟩) (by kernel_rfl) ?_
              refine wp_cond_false (by kernel_rfl) ?_
              refine wp_skip ?_
              refine blk_normal ?_
              refine hK22 _ _ ?_
              try clear hK22 K22
              refine wp_seq_k (fun K51 hK51 => ?_)
              refine wl_region ?_
              refine st_val (.int .i64 ((deC l : Nat) : Int)) (by kernel_rfl) (by kernel_rfl) ?_
              refine st_new M49 (.cells (madeCells #[.slice none 0 0] (deC l)) 39 (0, 0)) (fun g => .slice (some ⟨g, 0, none⟩) (deC l) (deC l)) (by kernel_rfl) (run_make_s16 (.tmp 76) (.tmp 76) rfl .i64 .i64 (deC l) (by kernel_rfl) (by kernel_rfl) (by omega)) ?_
              intro g52 W53 M54
              obtain ⟨T55, e58⟩ : ∃ T, T = [(g52, Obj.cells (madeCells #[.slice none 0 0] (deC l)) 39 (0, 0))] := ⟨_, rfl⟩
              have O56 : Own 39 1 (.slice (some ⟨g52, 0, none⟩) (deC l) (deC l)) (deC l) (List.replicate (deC l) (.slice none 0 0)) T55 := e58 ▸ own_made 39 g52 _ (deC l) (by simp only [maxLen]; omega)
              have M54 : Mem NoS w W53 ((T55 ++ (T29 ++ []))) := by rw [e58]; exact M54
              obtain ⟨A57, hA57⟩ : ∃ A, A = some (⟨g52, 0, none⟩ : Addr) := ⟨_, rfl⟩
              rw [← hA57] at O56
              rw [← hA57]
              refine st_val (.slice A57 (deC l) (deC l)) (by kernel_rfl) (by kernel_rfl) ?_
              refine wl_nil ?_
              refine hK51 _ _ ?_
              try clear hK51 K51
              refine wp_seq_k (fun K59 hK59 => ?_)
              refine wp_seq_k (fun K60 hK60 => ?_)
              refine wl_region ?_
              refine st_val (.slice A57 (deC l) (deC l)) (by kernel_rfl) (by kernel_rfl) ?_
              refine st_val (.int .i64 ((deC l : Nat) : Int)) (by kernel_rfl) (by kernel_rfl) ?_
              refine st_val (.int .i64 0) (by kernel_rfl) (by kernel_rfl) ?_
              refine wl_nil ?_
              refine hK60 _ _ ?_
              try clear hK60 K60
              refine wp_block ?_
              have hE : deE l = 0 := (by unfold deE; rw [if_neg (by omega), if_neg (fun h => h hG), if_neg (by rw [hit]; decide), if_neg (by omega)])
              have M61 : Mem NoS w W53 ((T55 ++ [])) := M54.sub (((List.Sublist.refl []).trans (List.sublist_append_right T29 _)).append_left T55)
              have hM0 := M61
              have hM0 : Mem NoS w W53 (T55 ++ (flatT (fun _ => []) (deC l) ++ [])) := by rw [flatT_nil]; exact hM0
              have hO0 := O56
              rw [← pvs_none] at hO0
              refine wp_loop_ghost (fun gn a' w' => ∃ (jc : Nat) (As : Nat → Option Addr) (cs : Nat → Nat) (Ts : Nat → List (Nat × Obj)) (T1 : List (Nat × Obj)) (u62 : Nat → Value), ((jc ≤ deC l ∧ Own 39 1 (.slice A57 (deC l) (deC l)) (deC l) (pvs (mk (fun j => if j < jc then List.replicate (deN l) 0 else []) (deC l)) As cs) T1 ∧ OwnI (mk (fun j => if j < jc then List.replicate (deN l) 0 else []) (deC l)) As cs Ts ∧ ∀ j, jc ≤ j → Ts j = []) ∧ Mem NoS w w' ((T1 ++ (flatT Ts (deC l) ++ [])))) ∧ gn = deC l - jc ∧ a' = ⟨#[.slice A l.length c, undef, (Go.Value.slice none 0 0), (Go.Value.slice none 0 0), .int .i64 0, .int .i64 ((deC l : Nat) : Int), .int .i64 ((deN l : Nat) : Int), .int .i64 ((deK l : Nat) : Int), .slice (subA A c 10) (l.length - 10) (c - 10), .slice A57 (deC l) (deC l), (u62 10), undef, undef, undef, undef, undef, undef, undef, undef, .slice A l.length c, .int .i64 ((l.length : Nat) : Int), .bool false, .slice A l.length c, .pointer (some ⟨b6, o7 + 4 * 1, none⟩), .int .u8 ((l.getD 4 0 : Nat) : Int), .int .i64 ((l.getD 4 0 : Nat) : Int), .slice A l.length c, .pointer (some ⟨b9, o10 + 5 * 1, none⟩), .int .u8 ((l.getD 5 0 : Nat) : Int), .int .i64 ((l.getD 5 0 : Nat) : Int), .int .i64 ((l.getD 5 0 * 65536 : Nat) : Int), .slice A l.length c, .pointer (some ⟨b12, o13 + 6 * 1, none⟩), .int .u8 ((l.getD 6 0 : Nat) : Int), .int .i64 ((l.getD 6 0 : Nat) : Int), .int .i64 ((l.getD 6 0 * 256 : Nat) : Int), .int .i64 ((l.getD 5 0 * 65536 + l.getD 6 0 * 256 : Nat) : Int), .slice A l.length c, .pointer (some ⟨b15, o16 + 7 * 1, none⟩), .int .u8 ((l.getD 7 0 : Nat) : Int), .int .i64 ((l.getD 7 0 : Nat) : Int), .int .i64 ((l.getD 5 0 * 65536 + l.getD 6 0 * 256 + l.getD 7 0 : Nat) : Int), .int .i64 ((deN l : Nat) : Int), .int .i64 (((deN l : Nat) : Int) + 32), .int .i64 ((((deN l : Nat) : Int) + 32) - 1), .int .i64 ((deK l : Nat) : Int), .slice A l.length c, .slice (subA A c 10) (l.length - 10) (c - 10), .bool false, .slice A l.length c, .slice (subA A c 0) (4 - 0) (c - 0), .slice A33 4 cq34, .bool true, .bool false, .bool false, .int .i64 ((deC l : Nat) : Int), .bool true, .bool false, .bool false, .bool false, .int .i64 ((deN l : Nat) : Int), .bool false, .bool false, .bool false, .slice A l.length c, .slice (subA A c 0) (10 - 0) (c - 0), .bool true, .bool false, .bool false, .slice (subA A c 10) (l.length - 10) (c - 10), .int .i64 ((l.length - 10 : Nat) : Int), .int .i64 ((deK l : Nat) : Int), .int .i64 ((deC l : Nat) : Int), .int .i64 ((deS l : Nat) : Int), .int .i64 ((deK l * deS l : Nat) : Int), .bool false, .int .i64 ((deC l : Nat) : Int), .slice A57 (deC l) (deC l), .slice A57 (deC l) (deC l), .int .i64 ((deC l : Nat) : Int), .int .i64 ((jc : Nat) : Int), (u62 81), (u62 82), (u62 83), (u62 84), (u62 85), (u62 86), (u62 87), (u62 88), undef, undef, undef, undef, undef, undef, undef, undef, undef, undef, undef, undef, undef, undef, undef, undef, undef, undef, undef, undef, undef, undef, undef, undef, undef, undef, undef, undef, undef, undef, undef, undef, undef, undef, undef, undef, undef, undef, undef, undef, undef, undef, undef, undef, undef, undef, undef, undef, undef, undef], []⟩) _ ⟨0, (fun _ => none), (fun _ => 0), (fun _ => []), T55, (fun zz => Array.getD #[undef, undef, undef, undef, undef, undef, undef, undef, undef, undef, undef, undef, undef, undef, undef, undef, undef, undef, undef, undef, undef, undef, undef, undef, undef, undef, undef, undef, undef, undef, undef, undef, undef, undef, undef, undef, undef, undef, undef, undef, undef, undef, undef, undef, undef, undef, undef, undef, undef, undef, undef, undef, undef, undef, undef, undef, undef, undef, undef, undef, undef, undef, undef, undef, undef, undef, undef, undef, undef, undef, undef, undef, undef, undef, undef, undef, undef, undef, undef, undef, undef, undef, undef, undef, undef, undef, undef, undef, undef] zz undef), ⟨⟨by omega, hO0, ownI_none, fun _ _ => rfl⟩, hM0⟩, rfl, (by kernel_rfl)⟩ ?_
              rintro gn _ W63 ⟨jc, As, cs, Ts, T1, u62, ⟨⟨rc, O1, OI1, hts⟩, M64⟩, rfl, rfl⟩
              refine wp_seq_k (fun K65 hK65 => ?_)
              refine wl_region ?_
              rcases Decidable.em ((((jc : Nat) : Int) : Int) < ((deC l : Nat) : Int)) with c81 | c81
              ·
                refine st_val (.bool true) (by kernel_rfl) (bool_of (dec_t c81) (by kernel_rfl)) ?_
                refine wl_nil ?_
                refine hK65 _ _ ?_
                try clear hK65 K65
                refine wp_seq_k (fun K66 hK66 => ?_)
                refine wp_cond_true (by kernel_rfl) ?_
                refine wp_skip ?_
                refine hK66 _ _ ?_
                try clear hK66 K66
                refine wp_seq_k (fun K67 hK67 => ?_)
                refine wp_block ?_
                refine wp_seq_k (fun K68 hK68 => ?_)
                refine wl_region ?_
                refine st_val (.int .i64 ((jc : Nat) : Int)) (by kernel_rfl) (by kernel_rfl) ?_
                refine st_val (.int .i64 ((jc : Nat) : Int)) (by kernel_rfl) (by kernel_rfl) ?_
                refine wl_nil ?_
                refine hK68 _ _ ?_
                try clear hK68 K68
                refine wl_region ?_
                refine st_val (.slice A57 (deC l) (deC l)) (by kernel_rfl) (by kernel_rfl) ?_
                refine st_val (.int .i64 ((jc : Nat) : Int)) (by kernel_rfl) (by kernel_rfl) ?_
                refine st_val (.int .i64 ((deN l : Nat) : Int)) (by kernel_rfl) (by kernel_rfl) ?_
                refine st_new M64 (.cells (madeCells #[.int .i16 0] (deN l)) 45 (0, 0)) (fun g => .slice (some ⟨g, 0, none⟩) (deN l) (deN l)) (by kernel_rfl) (run_make_i16 (.tmp 85) (.tmp 85) rfl .i64 .i64 (deN l) (by kernel_rfl) (by kernel_rfl) (by omega)) ?_
                intro g69 W70 M71
                obtain ⟨T72, e75⟩ : ∃ T, T = [(g69, Obj.cells (madeCells #[.int .i16 0] (deN l)) 45 (0, 0))] := ⟨_, rfl⟩
                have O73 : Own 45 1 (.slice (some ⟨g69, 0, none⟩) (deN l) (deN l)) (deN l) (List.replicate (deN l) (.int .i16 0)) T72 := e75 ▸ own_made 45 g69 _ (deN l) (by simp only [maxLen]; omega)
                have M71 : Mem NoS w W70 ((T72 ++ (T1 ++ (flatT Ts (deC l) ++ [])))) := by rw [e75]; exact M71
                obtain ⟨A74, hA74⟩ : ∃ A, A = some (⟨g69, 0, none⟩ : Addr) := ⟨_, rfl⟩
                rw [← hA74] at O73
                rw [← hA74]
                obtain ⟨b76, o77, eA78⟩ := RdK.addr (O1.rd (fun p hp => M71.at_ p (List.mem_append_right _ (List.mem_append_left _ hp)))) (j := jc * 1) (by rw [pvs_length, mk_length]; omega)
                refine st_val (.pointer (some ⟨b76, o77 + jc * 1, none⟩)) (by kernel_rfl) (run_indexSliceA 28 (.tmp 83) (.tmp 84) rfl A57 ⟨b76, o77, none⟩ eA78 (deC l) (deC l) .i64 jc (by kernel_rfl) (by kernel_rfl) Try.underlying28 1 (by kernel_rfl) (by omega) ⟨b76, o77 + jc * 1, none⟩ (addr_atK _ _ _ _)) ?_
                have M79 : Mem NoS w W70 ((T1 ++ (T72 ++ (flatT Ts (deC l) ++ [])))) := M71.swap (A := []) (T := T72) (U := T1) (B := (flatT Ts (deC l) ++ []))
                refine st_storeOwn (A := []) (T := T1) (B := (T72 ++ (flatT Ts (deC l) ++ []))) M79 O1 eA78 39 (.tmp 87) (.tmp 86) rfl (jc * 1) 0 (.slice A74 (deN l) (deN l)) (by kernel_rfl) (by kernel_rfl) (by rw [pvs_length, mk_length]; omega) (by kernel_rfl) (by kernel_rfl) (by kernel_rfl) (by kernel_rfl) ?_
                intro T80 W81 O82 M83
                have M83 : Mem NoS w W81 ((T80 ++ (T72 ++ (flatT Ts (deC l) ++ [])))) := M83
                refine wl_nil ?_
                refine blk_normal ?_
                refine hK67 _ _ ?_
                try clear hK67 K67
                refine wl_region ?_
                refine st_val (.int .i64 (((jc : Nat) : Int) + 1)) (by kernel_rfl) (i64_of (by omega) (by kernel_rfl)) ?_
                refine st_val (.int .i64 (((jc : Nat) : Int) + 1)) (by kernel_rfl) (by kernel_rfl) ?_
                refine wl_nil ?_
                refine th_normal ?_
                have M84 : Mem NoS w W81 ((T72 ++ (T80 ++ (flatT Ts (deC l) ++ [])))) := M83.swap (A := []) (T := T80) (U := T72) (B := (flatT Ts (deC l) ++ []))
                have M85 : Mem NoS w W81 ((flatT Ts (deC l) ++ (T72 ++ (T80 ++ [])))) := Mem.pull (A := []) [T72, T80] (flatT Ts (deC l)) [] M84
                have M86 : Mem NoS w W81 ((T80 ++ (flatT Ts (deC l) ++ (T72 ++ [])))) := Mem.pull (A := []) [flatT Ts (deC l), T72] T80 [] M85
                have hls := ls0_set (l := l) (c := jc) (by omega)
                have hM4 := M86
                have hfl := flatT_new (n := deC l) hts (by omega) T72
                rw [← List.append_assoc (flatT Ts (deC l)), ← hfl] at hM4
                have hps := pvs_set (ls := mk (fun j => if j < jc then List.replicate (deN l) 0 else []) (deC l)) (As := As) (cs := cs) (j := jc) (x := List.replicate (deN l) 0) (n := deN l) (by rw [mk_length]; omega) A74 (deN l) (List.length_replicate)
                have hO4 := O82
                rw [show jc * 1 + 0 = jc by omega, ← hps, hls] at hO4
                have hn4 := O73
                rw [i16s_rep] at hn4
                have hI4 := OI1.setA (j := jc) (by rw [mk_length]; omega) hn4 List.length_replicate
                rw [hls] at hI4
                exact ⟨_, by omega, (jc + 1), (setF As jc A74), (setF cs jc (deN l)), (setF Ts jc T72), T80, (fun zz => Array.getD #[undef, undef, undef, undef, undef, undef, undef, undef, undef, undef, .int .i64 ((jc : Nat) : Int), undef, undef, undef, undef, undef, undef, undef, undef, undef, undef, undef, undef, undef, undef, undef, undef, undef, undef, undef, undef, undef, undef, undef, undef, undef, undef, undef, undef, undef, undef, undef, undef, undef, undef, undef, undef, undef, undef, undef, undef, undef, undef, undef, undef, undef, undef, undef, undef, undef, undef, undef, undef, undef, undef, undef, undef, undef, undef, undef, undef, undef, undef, undef, undef, undef, undef, undef, undef, undef, undef, .bool true, .int .i64 ((jc : Nat) : Int), .slice A57 (deC l) (deC l), .int .i64 ((jc : Nat) : Int), .int .i64 ((deN l : Nat) : Int), .slice A74 (deN l) (deN l), .pointer (some ⟨b76, o77 + jc * 1, none⟩), .int .i64 (((jc : Nat) : Int) + 1)] zz undef), ⟨⟨by omega, hO4, hI4, fun j hj => by rw [setF_ne _ _ (by omega)]; exact hts j (by omega)⟩, hM4⟩, rfl, (by kernel_rfl)⟩
              ·
                refine st_val (.bool false) (by kernel_rfl) (bool_of (dec_f c81) (by kernel_rfl)) ?_
                refine wl_nil ?_
                refine hK65 _ _ ?_
                try clear hK65 K65
                refine wp_seq_k (fun K87 hK87 => ?_)
                refine wp_cond_false (by kernel_rfl) ?_
                refine wp_exit ?_
                refine th_exit ?_
                refine th_exit ?_
                refine blk_exit ?_
                refine hK59 _ _ ?_
                try clear hK59 K59
                refine wp_seq_k (fun K88 hK88 => ?_)
                have hjc : jc = deC l := (by omega)
                rw [hjc] at O1 OI1
                have hz : mk (fun j => if j < (deC l) then List.replicate (deN l) 0 else []) (deC l) = mk (fun _ => List.replicate (deN l) 0) (deC l) := mk_congr (fun j hj => if_pos hj)
                rw [hz] at O1 OI1
                refine wl_region ?_
                refine st_val ((Go.Value.slice none 0 0)) (by kernel_rfl) (by kernel_rfl) ?_
                refine wl_nil ?_
                refine hK88 _ _ ?_
                try clear hK88 K88
                refine wp_seq_k (fun K89 hK89 => ?_)
                refine wp_seq_k (fun K90 hK90 => ?_)
                refine wl_region ?_
                refine st_val (.int .i64 ((deK l : Nat) : Int)) (by kernel_rfl) (by kernel_rfl) ?_
                refine st_val (.int .i64 0) (by kernel_rfl) (by kernel_rfl) ?_
                refine wl_nil ?_
                refine hK90 _ _ ?_
                try clear hK90 K90
                refine wp_block ?_
                have hM0 : Mem NoS w W63 (T1 ++ (flatT Ts (deC l) ++ ([] ++ []))) := M64
                refine wp_loop_ghost (fun gn a' w' => ∃ (k : Nat) (Ts2 : Nat → List (Nat × Obj)) (nd : Nat) (A3 : Option Addr) (c3 : Nat) (T3 : List (Nat × Obj)) (u91 : Nat → Value), ((k ≤ deK l ∧ OwnI (mk (fun j => chS l j k) (deC l)) As cs Ts2 ∧ nd = (deD l k).length ∧ Own 3 1 (.slice A3 nd c3) nd (i64s (deD l k)) T3) ∧ Mem NoS w w' ((T1 ++ (flatT Ts2 (deC l) ++ (T3 ++ []))))) ∧ gn = deK l - k ∧ a' = ⟨#[.slice A l.length c, undef, (Go.Value.slice none 0 0), (Go.Value.slice none 0 0), .int .i64 0, .int .i64 ((deC l : Nat) : Int), .int .i64 ((deN l : Nat) : Int), .int .i64 ((deK l : Nat) : Int), .slice (subA A c 10) (l.length - 10) (c - 10), .slice A57 (deC l) (deC l), (u62 10), .slice A3 nd c3, (u91 12), (u91 13), (u91 14), (u91 15), (u91 16), (u91 17), (u91 18), .slice A l.length c, .int .i64 ((l.length : Nat) : Int), .bool false, .slice A l.length c, .pointer (some ⟨b6, o7 + 4 * 1, none⟩), .int .u8 ((l.getD 4 0 : Nat) : Int), .int .i64 ((l.getD 4 0 : Nat) : Int), .slice A l.length c, .pointer (some ⟨b9, o10 + 5 * 1, none⟩), .int .u8 ((l.getD 5 0 : Nat) : Int), .int .i64 ((l.getD 5 0 : Nat) : Int), .int .i64 ((l.getD 5 0 * 65536 : Nat) : Int), .slice A l.length c, .pointer (some ⟨b12, o13 + 6 * 1, none⟩), .int .u8 ((l.getD 6 0 : Nat) : Int), .int .i64 ((l.getD 6 0 : Nat) : Int), .int .i64 ((l.getD 6 0 * 256 : Nat) : Int), .int .i64 ((l.getD 5 0 * 65536 + l.getD 6 0 * 256 : Nat) : Int), .slice A l.length c, .pointer (some ⟨b15, o16 + 7 * 1, none⟩), .int .u8 ((l.getD 7 0 : Nat) : Int), .int .i64 ((l.getD 7 0 : Nat) : Int), .int .i64 ((l.getD 5 0 * 65536 + l.getD 6 0 * 256 + l.getD 7 0 : Nat) : Int), .int .i64 ((deN l : Nat) : Int), .int .i64 (((deN l : Nat) : Int) + 32), .int .i64 ((((deN l : Nat) : Int) + 32) - 1), .int .i64 ((deK l : Nat) : Int), .slice A l.length c, .slice (subA A c 10) (l.length - 10) (c - 10), .bool false, .slice A l.length c, .slice (subA A c 0) (4 - 0) (c - 0), .slice A33 4 cq34, .bool true, .bool false, .bool false, .int .i64 ((deC l : Nat) : Int), .bool true, .bool false, .bool false, .bool false, .int .i64 ((deN l : Nat) : Int), .bool false, .bool false, .bool false, .slice A l.length c, .slice (subA A c 0) (10 - 0) (c - 0), .bool true, .bool false, .bool false, .slice (subA A c 10) (l.length - 10) (c - 10), .int .i64 ((l.length - 10 : Nat) : Int), .int .i64 ((deK l : Nat) : Int), .int .i64 ((deC l : Nat) : Int), .int .i64 ((deS l : Nat) : Int), .int .i64 ((deK l * deS l : Nat) : Int), .bool false, .int .i64 ((deC l : Nat) : Int), .slice A57 (deC l) (deC l), .slice A57 (deC l) (deC l), .int .i64 ((deC l : Nat) : Int), .int .i64 ((jc : Nat) : Int), .bool false, (u62 82), (u62 83), (u62 84), (u62 85), (u62 86), (u62 87), (u62 88), .int .i64 ((deK l : Nat) : Int), .int .i64 ((k : Nat) : Int), (u91 91), (u91 92), (u91 93), (u91 94), (u91 95), (u91 96), (u91 97), (u91 98), (u91 99), (u91 100), (u91 101), (u91 102), (u91 103), (u91 104), (u91 105), (u91 106), (u91 107), (u91 108), (u91 109), (u91 110), (u91 111), (u91 112), (u91 113), (u91 114), (u91 115), (u91 116), (u91 117), (u91 118), (u91 119), (u91 120), (u91 121), (u91 122), (u91 123), (u91 124), (u91 125), (u91 126), (u91 127), (u91 128), (u91 129), (u91 130), (u91 131), (u91 132), (u91 133), (u91 134), (u91 135), (u91 136), undef, undef], []⟩) _ ⟨0, Ts, 0, none, 0, ([]), (fun zz => Array.getD #[undef, undef, undef, undef, undef, undef, undef, undef, undef, undef, undef, undef, undef, undef, undef, undef, undef, undef, undef, undef, undef, undef, undef, undef, undef, undef, undef, undef, undef, undef, undef, undef, undef, undef, undef, undef, undef, undef, undef, undef, undef, undef, undef, undef, undef, undef, undef, undef, undef, undef, undef, undef, undef, undef, undef, undef, undef, undef, undef, undef, undef, undef, undef, undef, undef, undef, undef, undef, undef, undef, undef, undef, undef, undef, undef, undef, undef, undef, undef, undef, undef, undef, undef, undef, undef, undef, undef, undef, undef, undef, undef, undef, undef, undef, undef, undef, undef, undef, undef, undef, undef, undef, undef, undef, undef, undef, undef, undef, undef, undef, undef, undef, undef, undef, undef, undef, undef, undef, undef, undef, undef, undef, undef, undef, undef, undef, undef, undef, undef, undef, undef, undef, undef, undef, undef, undef, undef] zz undef), ⟨⟨by omega, OI1, rfl, Own.nil _ _⟩, hM0⟩, rfl, (by kernel_rfl)⟩ ?_
                rintro gn _ W92 ⟨k, Ts2, nd, A3, c3, T3, u91, ⟨⟨rk, OI2, hnd, O3⟩, M93⟩, rfl, rfl⟩
                refine wp_seq_k (fun K94 hK94 => ?_)
                refine wl_region ?_
                rcases Decidable.em ((((k : Nat) : Int) : Int) < ((deK l : Nat) : Int)) with c91 | c91
                ·
                  refine st_val (.bool true) (by kernel_rfl) (bool_of (dec_t c91) (by kernel_rfl)) ?_
                  refine wl_nil ?_
                  refine hK94 _ _ ?_
                  try clear hK94 K94
                  refine wp_seq_k (fun K95 hK95 => ?_)
                  refine wp_cond_true (by kernel_rfl) ?_
                  refine wp_skip ?_
                  refine hK95 _ _ ?_
                  try clear hK95 K95
                  refine wp_seq_k (fun K96 hK96 => ?_)
                  refine wp_block ?_
                  refine wp_seq_k (fun K97 hK97 => ?_)
                  have hkn : 32 * k < deN l := (by have h := c91; unfold deK at h; omega)
                  have hkS : k * deS l ≤ 32768 * 151 := Nat.mul_le_mul (by omega) hdS2.2
                  have hat : deAt l k ≤ l.length - 10 := Nat.min_le_right _ _
                  refine wl_region ?_
                  refine st_val (.int .i64 ((k : Nat) : Int)) (by kernel_rfl) (by kernel_rfl) ?_
                  refine st_val (.int .i64 ((k : Nat) : Int)) (by kernel_rfl) (by kernel_rfl) ?_
                  refine wl_nil ?_
                  refine hK97 _ _ ?_
                  try clear hK97 K97
                  refine wp_seq_k (fun K98 hK98 => ?_)
                  refine wl_region ?_
                  refine st_val (.int .i64 ((k : Nat) : Int)) (by kernel_rfl) (by kernel_rfl) ?_
                  refine st_val (.int .i64 ((32 * k : Nat) : Int)) (by kernel_rfl) (int_of (show ((k : Nat) : Int) * 32 = ((32 * k : Nat) : Int) by omega) (i64_of (by omega) (by kernel_rfl))) ?_
                  refine st_val (.int .i64 ((32 * k : Nat) : Int)) (by kernel_rfl) (by kernel_rfl) ?_
                  refine wl_nil ?_
                  refine hK98 _ _ ?_
                  try clear hK98 K98
                  refine wp_seq_k (fun K99 hK99 => ?_)
                  refine wl_region ?_
                  refine st_val (.int .i64 ((k : Nat) : Int)) (by kernel_rfl) (by kernel_rfl) ?_
                  refine st_val (.int .i64 ((deC l : Nat) : Int)) (by kernel_rfl) (by kernel_rfl) ?_
                  refine st_callB M93 (.int .i64 ((deS l : Nat) : Int)) (by kernel_rfl) (args := #[.int .i64 ((deC l : Nat) : Int)]) (run_value_call 15 #[(Operand.tmp 96)] _ rfl Try.func15 (by kernel_rfl) (by kernel_rfl) _ (by kernel_rfl)) ((by have := bsz_walk W92 ((deC l : Nat) : Int); rw [hdS] at this; exact this)) ?_
                  intro W100 M101
                  refine st_val (.int .i64 ((k * deS l : Nat) : Int)) (by kernel_rfl) (int_of (show ((k : Nat) : Int) * ((deS l : Nat) : Int) = ((k * deS l : Nat) : Int) from (Int.natCast_mul _ _).symm) (i64_of (by rw [← Int.natCast_mul]; omega) (by kernel_rfl))) ?_
                  refine st_val (.slice (subA A c 10) (l.length - 10) (c - 10)) (by kernel_rfl) (by kernel_rfl) ?_
                  refine st_val (.int .i64 ((l.length - 10 : Nat) : Int)) (by kernel_rfl) (by kernel_rfl) ?_
                  refine st_val (.int .i64 ((deAt l k : Nat) : Int)) (by kernel_rfl) (int_of (show (if ((l.length - 10 : Nat) : Int) < ((k * deS l : Nat) : Int) then ((l.length - 10 : Nat) : Int) else ((k * deS l : Nat) : Int)) = ((deAt l k : Nat) : Int) by unfold deAt; omega) (by kernel_rfl)) ?_
                  refine st_val (.int .i64 ((deAt l k : Nat) : Int)) (by kernel_rfl) (by kernel_rfl) ?_
                  refine wl_nil ?_
                  refine hK99 _ _ ?_
                  try clear hK99 K99
                  refine wp_frame (a' := ⟨#[.slice A l.length c, undef, (Go.Value.slice none 0 0), (Go.Value.slice none 0 0), .int .i64 0, .int .i64 ((deC l : Nat) : Int), .int .i64 ((deN l : Nat) : Int), .int .i64 ((deK l : Nat) : Int), .slice (subA A c 10) (l.length - 10) (c - 10), .slice A57 (deC l) (deC l), (u62 10), .slice A3 nd c3, .int .i64 ((k : Nat) : Int), .int .i64 ((32 * k : Nat) : Int), .int .i64 ((deAt l k : Nat) : Int), (u91 15), (u91 16), (u91 17), (u91 18), .slice A l.length c, .int .i64 ((l.length : Nat) : Int), .bool false, .slice A l.length c, .pointer (some ⟨b6, o7 + 4 * 1, none⟩), .int .u8 ((l.getD 4 0 : Nat) : Int), .int .i64 ((l.getD 4 0 : Nat) : Int), .slice A l.length c, .pointer (some ⟨b9, o10 + 5 * 1, none⟩), .int .u8 ((l.getD 5 0 : Nat) : Int), .int .i64 ((l.getD 5 0 : Nat) : Int), .int .i64 ((l.getD 5 0 * 65536 : Nat) : Int), .slice A l.length c, .pointer (some ⟨b12, o13 + 6 * 1, none⟩), .int .u8 ((l.getD 6 0 : Nat) : Int), .int .i64 ((l.getD 6 0 : Nat) : Int), .int .i64 ((l.getD 6 0 * 256 : Nat) : Int), .int .i64 ((l.getD 5 0 * 65536 + l.getD 6 0 * 256 : Nat) : Int), .slice A l.length c, .pointer (some ⟨b15, o16 + 7 * 1, none⟩), .int .u8 ((l.getD 7 0 : Nat) : Int), .int .i64 ((l.getD 7 0 : Nat) : Int), .int .i64 ((l.getD 5 0 * 65536 + l.getD 6 0 * 256 + l.getD 7 0 : Nat) : Int), .int .i64 ((deN l : Nat) : Int), .int .i64 (((deN l : Nat) : Int) + 32), .int .i64 ((((deN l : Nat) : Int) + 32) - 1), .int .i64 ((deK l : Nat) : Int), .slice A l.length c, .slice (subA A c 10) (l.length - 10) (c - 10), .bool false, .slice A l.length c, .slice (subA A c 0) (4 - 0) (c - 0), .slice A33 4 cq34, .bool true, .bool false, .bool false, .int .i64 ((deC l : Nat) : Int), .bool true, .bool false, .bool false, .bool false, .int .i64 ((deN l : Nat) : Int), .bool false, .bool false, .bool false, .slice A l.length c, .slice (subA A c 0) (10 - 0) (c - 0), .bool true, .bool false, .bool false, .slice (subA A c 10) (l.length - 10) (c - 10), .int .i64 ((l.length - 10 : Nat) : Int), .int .i64 ((deK l : Nat) : Int), .int .i64 ((deC l : Nat) : Int), .int .i64 ((deS l : Nat) : Int), .int .i64 ((deK l * deS l : Nat) : Int), .bool false, .int .i64 ((deC l : Nat) : Int), .slice A57 (deC l) (deC l), .slice A57 (deC l) (deC l), .int .i64 ((deC l : Nat) : Int), .int .i64 ((jc : Nat) : Int), .bool false, (u62 82), (u62 83), (u62 84), (u62 85), (u62 86), (u62 87), (u62 88), .int .i64 ((deK l : Nat) : Int), .int .i64 ((k : Nat) : Int), .bool true, .int .i64 ((k : Nat) : Int), .int .i64 ((k : Nat) : Int), .int .i64 ((32 * k : Nat) : Int), .int .i64 ((k : Nat) : Int), .int .i64 ((deC l : Nat) : Int), .int .i64 ((deS l : Nat) : Int), .int .i64 ((k * deS l : Nat) : Int), .slice (subA A c 10) (l.length - 10) (c - 10), .int .i64 ((l.length - 10 : Nat) : Int), .int .i64 ((deAt l k : Nat) : Int), (u91 102), (u91 103), (u91 104), (u91 105), (u91 106), (u91 107), (u91 108), (u91 109), (u91 110), (u91 111), (u91 112), (u91 113), (u91 114), (u91 115), (u91 116), (u91 117), (u91 118), (u91 119), (u91 120), (u91 121), (u91 122), (u91 123), (u91 124), (u91 125), (u91 126), (u91 127), (u91 128), (u91 129), (u91 130), (u91 131), (u91 132), (u91 133), (u91 134), (u91 135), (u91 136), undef, undef], []⟩) (by kernel_rfl) ?_
                  refine wp_seq_k (fun K102 hK102 => ?_)
                  have hl8 : (sl l 10 (l.length - 10)).length = l.length - 10 := sl_len (by omega)
                  have hlB : (sl (sl l 10 (l.length - 10)) (deAt l k) ((l.length - 10) - deAt l k)).length = (l.length - 10) - deAt l k := sl_len (by rw [hl8]; omega)
                  have hW1 : 1 ≤ deW l k := (by unfold deW; omega)
                  refine wl_region ?_
                  refine st_val (.slice (subA A c 10) (l.length - 10) (c - 10)) (by kernel_rfl) (by kernel_rfl) ?_
                  refine st_val (.int .i64 ((deAt l k : Nat) : Int)) (by kernel_rfl) (by kernel_rfl) ?_
                  refine st_val (.slice (subA (subA A c 10) (c - 10) (deAt l k)) ((l.length - 10) - (deAt l k)) ((c - 10) - (deAt l k))) (by kernel_rfl) (run_sub_lo 22 5 (.tmp 103) (.tmp 104) rfl Try.underlying22 (by kernel_rfl) (subA A c 10) (l.length - 10) (c - 10) (by kernel_rfl) .i64 (deAt l k) (by kernel_rfl) (by omega) (by omega)) ?_
                  refine st_val (.int .i64 ((deC l : Nat) : Int)) (by kernel_rfl) (by kernel_rfl) ?_
                  refine st_val (.int .i64 ((deN l : Nat) : Int)) (by kernel_rfl) (by kernel_rfl) ?_
                  refine st_val (.int .i64 ((32 * k : Nat) : Int)) (by kernel_rfl) (by kernel_rfl) ?_
                  refine st_val (.int .i64 ((deN l - 32 * k : Nat) : Int)) (by kernel_rfl) (int_of (show ((deN l : Nat) : Int) - ((32 * k : Nat) : Int) = ((deN l - 32 * k : Nat) : Int) by omega) (i64_of (by omega) (by kernel_rfl))) ?_
                  refine st_val (.int .i64 ((deW l k : Nat) : Int)) (by kernel_rfl) (int_of (show (if ((deN l - 32 * k : Nat) : Int) < (32 : Int) then ((deN l - 32 * k : Nat) : Int) else (32 : Int)) = ((deW l k : Nat) : Int) by unfold deW; omega) (by kernel_rfl)) ?_
                  rcases Decidable.em (deOk l k) with hok | hok
                  ·
                    have hrc := whL_rect hok
                    refine st_callR (A := []) (B := (T1 ++ (flatT Ts2 (deC l) ++ (T3 ++ [])))) M101 (by kernel_rfl) (run_value_call 56 #[(Operand.tmp 105), (Operand.tmp 106), (Operand.tmp 110)] _ rfl Try.func56 (by kernel_rfl) (by kernel_rfl) _ (by kernel_rfl)) ((by have := whole_walk W100 (.slice (subA (subA A c 10) (c - 10) (deAt l k)) ((l.length - 10) - (deAt l k)) ((c - 10) - (deAt l k))) (sl (sl l 10 (l.length - 10)) (deAt l k) ((l.length - 10) - (deAt l k))) ((by rw [hlB]; exact rdk_sl (rdk_sl (hr.keep M101.keep (fun _ _ h => h)) rfl (by omega) (lo := 10) (hi := l.length) (by omega) (Nat.le_refl _)) hl8 (by omega) (lo := deAt l k) (hi := l.length - 10) hat (Nat.le_refl _))) (sl_lt (sl_lt hb _ _) _ _) (by rw [hlB]; omega) (deC l) (deW l k) hG.2.1 (by unfold deW; omega); rw [show decide (whB (sl (sl l 10 (l.length - 10)) (deAt l k) ((l.length - 10) - (deAt l k))) (deC l) (deW l k)) = true from decide_eq_true hok] at this; exact this)) ?_
                    intro v103 T104 W105 O106 M107
                    have M107 : Mem NoS w W105 ((T104 ++ (T1 ++ (flatT Ts2 (deC l) ++ (T3 ++ []))))) := M107
                    obtain ⟨v108, rfl, O109⟩ := O106
                    have O109 : OwnP v108 (whL (deB l k) (deC l) (deW l k)) T104 := O109
                    obtain ⟨As110, cs111, To112, Ts113, O114, OI115, eT116⟩ := O109
                    obtain ⟨A117, cq118, rfl, hc119⟩ := O114.shape
                    refine st_val (.tuple #[.slice A117 ((whL (deB l k) (deC l) (deW l k)).length) cq118, .bool true]) (by kernel_rfl) (by kernel_rfl) ?_
                    refine st_val (.slice A117 ((whL (deB l k) (deC l) (deW l k)).length) cq118) (by kernel_rfl) (by kernel_rfl) ?_
                    refine st_val (.bool true) (by kernel_rfl) (by kernel_rfl) ?_
                    refine st_val (.slice A117 ((whL (deB l k) (deC l) (deW l k)).length) cq118) (by kernel_rfl) (by kernel_rfl) ?_
                    refine st_val (.bool true) (by kernel_rfl) (by kernel_rfl) ?_
                    refine wl_nil ?_
                    refine hK102 _ _ ?_
                    try clear hK102 K102
                    refine wp_frame (a' := ⟨#[.slice A l.length c, undef, (Go.Value.slice none 0 0), (Go.Value.slice none 0 0), .int .i64 0, .int .i64 ((deC l : Nat) : Int), .int .i64 ((deN l : Nat) : Int), .int .i64 ((deK l : Nat) : Int), .slice (subA A c 10) (l.length - 10) (c - 10), .slice A57 (deC l) (deC l), (u62 10), .slice A3 nd c3, .int .i64 ((k : Nat) : Int), .int .i64 ((32 * k : Nat) : Int), .int .i64 ((deAt l k : Nat) : Int), .slice A117 ((whL (deB l k) (deC l) (deW l k)).length) cq118, .bool true, (u91 17), (u91 18), .slice A l.length c, .int .i64 ((l.length : Nat) : Int), .bool false, .slice A l.length c, .pointer (some ⟨b6, o7 + 4 * 1, none⟩), .int .u8 ((l.getD 4 0 : Nat) : Int), .int .i64 ((l.getD 4 0 : Nat) : Int), .slice A l.length c, .pointer (some ⟨b9, o10 + 5 * 1, none⟩), .int .u8 ((l.getD 5 0 : Nat) : Int), .int .i64 ((l.getD 5 0 : Nat) : Int), .int .i64 ((l.getD 5 0 * 65536 : Nat) : Int), .slice A l.length c, .pointer (some ⟨b12, o13 + 6 * 1, none⟩), .int .u8 ((l.getD 6 0 : Nat) : Int), .int .i64 ((l.getD 6 0 : Nat) : Int), .int .i64 ((l.getD 6 0 * 256 : Nat) : Int), .int .i64 ((l.getD 5 0 * 65536 + l.getD 6 0 * 256 : Nat) : Int), .slice A l.length c, .pointer (some ⟨b15, o16 + 7 * 1, none⟩), .int .u8 ((l.getD 7 0 : Nat) : Int), .int .i64 ((l.getD 7 0 : Nat) : Int), .int .i64 ((l.getD 5 0 * 65536 + l.getD 6 0 * 256 + l.getD 7 0 : Nat) : Int), .int .i64 ((deN l : Nat) : Int), .int .i64 (((deN l : Nat) : Int) + 32), .int .i64 ((((deN l : Nat) : Int) + 32) - 1), .int .i64 ((deK l : Nat) : Int), .slice A l.length c, .slice (subA A c 10) (l.length - 10) (c - 10), .bool false, .slice A l.length c, .slice (subA A c 0) (4 - 0) (c - 0), .slice A33 4 cq34, .bool true, .bool false, .bool false, .int .i64 ((deC l : Nat) : Int), .bool true, .bool false, .bool false, .bool false, .int .i64 ((deN l : Nat) : Int), .bool false, .bool false, .bool false, .slice A l.length c, .slice (subA A c 0) (10 - 0) (c - 0), .bool true, .bool false, .bool false, .slice (subA A c 10) (l.length - 10) (c - 10), .int .i64 ((l.length - 10 : Nat) : Int), .int .i64 ((deK l : Nat) : Int), .int .i64 ((deC l : Nat) : Int), .int .i64 ((deS l : Nat) : Int), .int .i64 ((deK l * deS l : Nat) : Int), .bool false, .int .i64 ((deC l : Nat) : Int), .slice A57 (deC l) (deC l), .slice A57 (deC l) (deC l), .int .i64 ((deC l : Nat) : Int), .int .i64 ((jc : Nat) : Int), .bool false, (u62 82), (u62 83), (u62 84), (u62 85), (u62 86), (u62 87), (u62 88), .int .i64 ((deK l : Nat) : Int), .int .i64 ((k : Nat) : Int), .bool true, .int .i64 ((k : Nat) : Int), .int .i64 ((k : Nat) : Int), .int .i64 ((32 * k : Nat) : Int), .int .i64 ((k : Nat) : Int), .int .i64 ((deC l : Nat) : Int), .int .i64 ((deS l : Nat) : Int), .int .i64 ((k * deS l : Nat) : Int), .slice (subA A c 10) (l.length - 10) (c - 10), .int .i64 ((l.length - 10 : Nat) : Int), .int .i64 ((deAt l k : Nat) : Int), .tuple #[.slice A117 ((whL (deB l k) (deC l) (deW l k)).length) cq118, .bool true], .slice (subA A c 10) (l.length - 10) (c - 10), .int .i64 ((deAt l k : Nat) : Int), .slice (subA (subA A c 10) (c - 10) (deAt l k)) ((l.length - 10) - (deAt l k)) ((c - 10) - (deAt l k)), .int .i64 ((deC l : Nat) : Int), .int .i64 ((deN l : Nat) : Int), .int .i64 ((32 * k : Nat) : Int), .int .i64 ((deN l - 32 * k : Nat) : Int), .int .i64 ((deW l k : Nat) : Int), .tuple #[.slice A117 ((whL (deB l k) (deC l) (deW l k)).length) cq118, .bool true], .slice A117 ((whL (deB l k) (deC l) (deW l k)).length) cq118, .bool true, (u91 114), (u91 115), (u91 116), (u91 117), (u91 118), (u91 119), (u91 120), (u91 121), (u91 122), (u91 123), (u91 124), (u91 125), (u91 126), (u91 127), (u91 128), (u91 129), (u91 130), (u91 131), (u91 132), (u91 133), (u91 134), (u91 135), (u91 136), undef, undef], []⟩) (by kernel_rfl) ?_
                    refine wp_seq_k (fun K120 hK120 => ?_)
                    refine wp_seq_k (fun K121 hK121 => ?_)
                    refine wl_region ?_
                    refine st_val (.bool true) (by kernel_rfl) (by kernel_rfl) ?_
                    refine st_val (.bool false) (by kernel_rfl) (by kernel_rfl) ?_
                    refine wl_nil ?_
                    refine hK121 _ _ ?_
                    try clear hK121 K121
                    refine wp_cond_false (by kernel_rfl) ?_
                    refine wp_skip ?_
                    refine hK120 _ _ ?_
                    try clear hK120 K120
                    refine wp_seq_k (fun K122 hK122 => ?_)
                    refine wl_region ?_
                    refine st_val (.slice A117 ((whL (deB l k) (deC l) (deW l k)).length) cq118) (by kernel_rfl) (by kernel_rfl) ?_
                    refine st_val (.int .i64 (((whL (deB l k) (deC l) (deW l k)).length : Nat) : Int)) (by kernel_rfl) (by kernel_rfl) ?_
                    refine st_val (.int .i64 0) (by kernel_rfl) (by kernel_rfl) ?_
                    refine wl_nil ?_
                    refine hK122 _ _ ?_
                    try clear hK122 K122
                    refine wp_block ?_
                    have M123 : Mem NoS w W105 ((T3 ++ (T104 ++ (T1 ++ (flatT Ts2 (deC l) ++ []))))) := Mem.pull (A := []) [T104, T1, flatT Ts2 (deC l)] T3 [] M107
                    have M124 : Mem NoS w W105 ((flatT Ts2 (deC l) ++ (T3 ++ (T104 ++ (T1 ++ []))))) := Mem.pull (A := []) [T3, T104, T1] (flatT Ts2 (deC l)) [] M123
                    have M125 : Mem NoS w W105 ((T1 ++ (flatT Ts2 (deC l) ++ (T3 ++ (T104 ++ []))))) := Mem.pull (A := []) [flatT Ts2 (deC l), T3, T104] T1 [] M124
                    have hl0 : mk (fun j => if j < 0 then chS l j (k + 1) else chS l j k) (deC l) = mk (fun j => chS l j k) (deC l) := mk_congr (fun j _ => if_neg (by omega))
                    refine wp_loop_ghost (fun gn a' w' => ∃ (jd : Nat) (Ts3 : Nat → List (Nat × Obj)) (u126 : Nat → Value), ((jd ≤ deC l ∧ OwnI (mk (fun j => if j < jd then chS l j (k + 1) else chS l j k) (deC l)) As cs Ts3) ∧ Mem NoS w w' ((T1 ++ (flatT Ts3 (deC l) ++ (T3 ++ (T104 ++ [])))))) ∧ gn = deC l - jd ∧ a' = ⟨#[.slice A l.length c, undef, (Go.Value.slice none 0 0), (Go.Value.slice none 0 0), .int .i64 0, .int .i64 ((deC l : Nat) : Int), .int .i64 ((deN l : Nat) : Int), .int .i64 ((deK l : Nat) : Int), .slice (subA A c 10) (l.length - 10) (c - 10), .slice A57 (deC l) (deC l), (u62 10), .slice A3 nd c3, .int .i64 ((k : Nat) : Int), .int .i64 ((32 * k : Nat) : Int), .int .i64 ((deAt l k : Nat) : Int), .slice A117 ((whL (deB l k) (deC l) (deW l k)).length) cq118, .bool true, (u126 17), (u126 18), .slice A l.length c, .int .i64 ((l.length : Nat) : Int), .bool false, .slice A l.length c, .pointer (some ⟨b6, o7 + 4 * 1, none⟩), .int .u8 ((l.getD 4 0 : Nat) : Int), .int .i64 ((l.getD 4 0 : Nat) : Int), .slice A l.length c, .pointer (some ⟨b9, o10 + 5 * 1, none⟩), .int .u8 ((l.getD 5 0 : Nat) : Int), .int .i64 ((l.getD 5 0 : Nat) : Int), .int .i64 ((l.getD 5 0 * 65536 : Nat) : Int), .slice A l.length c, .pointer (some ⟨b12, o13 + 6 * 1, none⟩), .int .u8 ((l.getD 6 0 : Nat) : Int), .int .i64 ((l.getD 6 0 : Nat) : Int), .int .i64 ((l.getD 6 0 * 256 : Nat) : Int), .int .i64 ((l.getD 5 0 * 65536 + l.getD 6 0 * 256 : Nat) : Int), .slice A l.length c, .pointer (some ⟨b15, o16 + 7 * 1, none⟩), .int .u8 ((l.getD 7 0 : Nat) : Int), .int .i64 ((l.getD 7 0 : Nat) : Int), .int .i64 ((l.getD 5 0 * 65536 + l.getD 6 0 * 256 + l.getD 7 0 : Nat) : Int), .int .i64 ((deN l : Nat) : Int), .int .i64 (((deN l : Nat) : Int) + 32), .int .i64 ((((deN l : Nat) : Int) + 32) - 1), .int .i64 ((deK l : Nat) : Int), .slice A l.length c, .slice (subA A c 10) (l.length - 10) (c - 10), .bool false, .slice A l.length c, .slice (subA A c 0) (4 - 0) (c - 0), .slice A33 4 cq34, .bool true, .bool false, .bool false, .int .i64 ((deC l : Nat) : Int), .bool true, .bool false, .bool false, .bool false, .int .i64 ((deN l : Nat) : Int), .bool false, .bool false, .bool false, .slice A l.length c, .slice (subA A c 0) (10 - 0) (c - 0), .bool true, .bool false, .bool false, .slice (subA A c 10) (l.length - 10) (c - 10), .int .i64 ((l.length - 10 : Nat) : Int), .int .i64 ((deK l : Nat) : Int), .int .i64 ((deC l : Nat) : Int), .int .i64 ((deS l : Nat) : Int), .int .i64 ((deK l * deS l : Nat) : Int), .bool false, .int .i64 ((deC l : Nat) : Int), .slice A57 (deC l) (deC l), .slice A57 (deC l) (deC l), .int .i64 ((deC l : Nat) : Int), .int .i64 ((jc : Nat) : Int), .bool false, (u62 82), (u62 83), (u62 84), (u62 85), (u62 86), (u62 87), (u62 88), .int .i64 ((deK l : Nat) : Int), .int .i64 ((k : Nat) : Int), .bool true, .int .i64 ((k : Nat) : Int), .int .i64 ((k : Nat) : Int), .int .i64 ((32 * k : Nat) : Int), .int .i64 ((k : Nat) : Int), .int .i64 ((deC l : Nat) : Int), .int .i64 ((deS l : Nat) : Int), .int .i64 ((k * deS l : Nat) : Int), .slice (subA A c 10) (l.length - 10) (c - 10), .int .i64 ((l.length - 10 : Nat) : Int), .int .i64 ((deAt l k : Nat) : Int), .tuple #[.slice A117 ((whL (deB l k) (deC l) (deW l k)).length) cq118, .bool true], .slice (subA A c 10) (l.length - 10) (c - 10), .int .i64 ((deAt l k : Nat) : Int), .slice (subA (subA A c 10) (c - 10) (deAt l k)) ((l.length - 10) - (deAt l k)) ((c - 10) - (deAt l k)), .int .i64 ((deC l : Nat) : Int), .int .i64 ((deN l : Nat) : Int), .int .i64 ((32 * k : Nat) : Int), .int .i64 ((deN l - 32 * k : Nat) : Int), .int .i64 ((deW l k : Nat) : Int), .tuple #[.slice A117 ((whL (deB l k) (deC l) (deW l k)).length) cq118, .bool true], .slice A117 ((whL (deB l k) (deC l) (deW l k)).length) cq118, .bool true, .bool true, .bool false, (u91 116), (u91 117), (u91 118), (u91 119), .slice A117 ((whL (deB l k) (deC l) (deW l k)).length) cq118, .int .i64 (((whL (deB l k) (deC l) (deW l k)).length : Nat) : Int), .int .i64 ((jd : Nat) : Int), (u126 123), (u126 124), (u126 125), (u126 126), (u126 127), (u126 128), (u126 129), (u126 130), (u126 131), (u126 132), (u126 133), (u126 134), (u126 135), (u91 136), undef, undef], []⟩) _ ⟨0, Ts2, (fun zz => Array.getD #[undef, undef, undef, undef, undef, undef, undef, undef, undef, undef, undef, undef, undef, undef, undef, undef, undef, (u91 17), (u91 18), undef, undef, undef, undef, undef, undef, undef, undef, undef, undef, undef, undef, undef, undef, undef, undef, undef, undef, undef, undef, undef, undef, undef, undef, undef, undef, undef, undef, undef, undef, undef, undef, undef, undef, undef, undef, undef, undef, undef, undef, undef, undef, undef, undef, undef, undef, undef, undef, undef, undef, undef, undef, undef, undef, undef, undef, undef, undef, undef, undef, undef, undef, undef, undef, undef, undef, undef, undef, undef, undef, undef, undef, undef, undef, undef, undef, undef, undef, undef, undef, undef, undef, undef, undef, undef, undef, undef, undef, undef, undef, undef, undef, undef, undef, undef, undef, undef, undef, undef, undef, undef, undef, undef, undef, (u91 123), (u91 124), (u91 125), (u91 126), (u91 127), (u91 128), (u91 129), (u91 130), (u91 131), (u91 132), (u91 133), (u91 134), (u91 135)] zz undef), ⟨⟨by omega, by rw [hl0]; exact OI2⟩, M125⟩, rfl, (by kernel_rfl)⟩ ?_
                    rintro gn _ W127 ⟨jd, Ts3, u126, ⟨⟨rjd, OI3⟩, M128⟩, rfl, rfl⟩
                    refine wp_seq_k (fun K129 hK129 => ?_)
                    refine wl_region ?_
                    rcases Decidable.em ((((jd : Nat) : Int) : Int) < (((whL (deB l k) (deC l) (deW l k)).length : Nat) : Int)) with c123 | c123
                    ·
                      refine st_val (.bool true) (by kernel_rfl) (bool_of (dec_t c123) (by kernel_rfl)) ?_
                      refine wl_nil ?_
                      refine hK129 _ _ ?_
                      try clear hK129 K129
                      refine wp_seq_k (fun K130 hK130 => ?_)
                      refine wp_cond_true (by kernel_rfl) ?_
                      refine wp_skip ?_
                      refine hK130 _ _ ?_
                      try clear hK130 K130
                      refine wp_seq_k (fun K131 hK131 => ?_)
                      refine wp_block ?_
                      refine wp_seq_k (fun K132 hK132 => ?_)
                      have hrc1 := hrc.1
                      have hrc2 := hrc.2 jd (by omega)
                      refine wl_region ?_
                      refine st_val (.int .i64 ((jd : Nat) : Int)) (by kernel_rfl) (by kernel_rfl) ?_
                      obtain ⟨b133, o134, eA135⟩ := RdK.addr ((rdP_of O114 OI115 (fun p hp => M128.at_ p ((List.mem_append_right _ (List.mem_append_right _ (List.mem_append_right _ (List.mem_append_left _ (by rw [eT116]; exact List.mem_append_left _ hp))))))) (fun p hp => M128.at_ p ((List.mem_append_right _ (List.mem_append_right _ (List.mem_append_right _ (List.mem_append_left _ (by rw [eT116]; exact List.mem_append_right _ hp)))))))).rd) (j := jd * 1) (by rw [pvs_length]; omega)
                      refine st_val (.pointer (some ⟨b133, o134 + jd * 1, none⟩)) (by kernel_rfl) (run_indexSliceA 28 (.tmp 120) (.tmp 122) rfl A117 ⟨b133, o134, none⟩ eA135 ((whL (deB l k) (deC l) (deW l k)).length) cq118 .i64 jd (by kernel_rfl) (by kernel_rfl) Try.underlying28 1 (by kernel_rfl) (by omega) ⟨b133, o134 + jd * 1, none⟩ (addr_atK _ _ _ _)) ?_
                      refine st_val (.slice (As110 jd) (((whL (deB l k) (deC l) (deW l k)).getD jd []).length) (cs111 jd)) (by kernel_rfl) (run_load_cell 39 (.tmp 125) rfl ⟨b133, o134 + jd * 1, none⟩ (by kernel_rfl) _ (((rdP_of O114 OI115 (fun p hp => M128.at_ p ((List.mem_append_right _ (List.mem_append_right _ (List.mem_append_right _ (List.mem_append_left _ (by rw [eT116]; exact List.mem_append_left _ hp))))))) (fun p hp => M128.at_ p ((List.mem_append_right _ (List.mem_append_right _ (List.mem_append_right _ (List.mem_append_left _ (by rw [eT116]; exact List.mem_append_right _ hp)))))))).rd).cellF eA135 (f := 0) (pvs_get (whL (deB l k) (deC l) (deW l k)) As110 cs111 jd (by omega))) (by kernel_rfl)) ?_
                      refine st_val (.int .i64 ((jd : Nat) : Int)) (by kernel_rfl) (by kernel_rfl) ?_
                      refine st_val (.slice (As110 jd) (((whL (deB l k) (deC l) (deW l k)).getD jd []).length) (cs111 jd)) (by kernel_rfl) (by kernel_rfl) ?_
                      refine wl_nil ?_
                      refine hK132 _ _ ?_
                      try clear hK132 K132
                      have hcl : ((mk (fun j => if j < jd then chS l j (k + 1) else chS l j k) (deC l)).getD jd []).length = deN l := (by rw [mk_get (by omega), if_neg (by omega), chS_len (by omega)])
                      have hcj : deN l ≤ cs jd := (by have h := ((OI3 jd (by rw [mk_length]; omega)).shape); obtain ⟨_, _, e, h⟩ := h; injection e; omega)
                      refine wl_region ?_
                      refine st_val (.slice A57 (deC l) (deC l)) (by kernel_rfl) (by kernel_rfl) ?_
                      refine st_val (.int .i64 ((jd : Nat) : Int)) (by kernel_rfl) (by kernel_rfl) ?_
                      obtain ⟨b136, o137, eA138⟩ := RdK.addr (O1.rd (fun p hp => M128.at_ p (List.mem_append_left _ hp))) (j := jd * 1) (by rw [pvs_length, mk_length]; omega)
                      refine st_val (.pointer (some ⟨b136, o137 + jd * 1, none⟩)) (by kernel_rfl) (run_indexSliceA 28 (.tmp 127) (.tmp 128) rfl A57 ⟨b136, o137, none⟩ eA138 (deC l) (deC l) .i64 jd (by kernel_rfl) (by kernel_rfl) Try.underlying28 1 (by kernel_rfl) (by omega) ⟨b136, o137 + jd * 1, none⟩ (addr_atK _ _ _ _)) ?_
                      refine st_val (.slice (As jd) (deN l) (cs jd)) (by kernel_rfl) (run_load_cell 39 (.tmp 129) rfl ⟨b136, o137 + jd * 1, none⟩ (by kernel_rfl) _ ((O1.rd (fun p hp => M128.at_ p (List.mem_append_left _ hp))).cellF eA138 (f := 0) (pv0_get As cs (by omega))) (by kernel_rfl)) ?_
                      refine st_val (.int .i64 ((32 * k : Nat) : Int)) (by kernel_rfl) (by kernel_rfl) ?_
                      refine st_val (.slice (subA (As jd) (cs jd) (32 * k)) (deN l - 32 * k) ((cs jd) - 32 * k)) (by kernel_rfl) (run_sub_lo 39 45 (.tmp 130) (.tmp 131) rfl Try.underlying39 (by kernel_rfl) (As jd) (deN l) (cs jd) (by kernel_rfl) .i64 (32 * k) (by kernel_rfl) (by omega) hcj) ?_
                      refine st_val (.slice (As110 jd) (((whL (deB l k) (deC l) (deW l k)).getD jd []).length) (cs111 jd)) (by kernel_rfl) (by kernel_rfl) ?_
                      have M139 : Mem NoS w W127 ((flatT Ts3 (deC l) ++ (T1 ++ (T3 ++ (T104 ++ []))))) := M128.swap (A := []) (T := T1) (U := flatT Ts3 (deC l)) (B := (T3 ++ (T104 ++ [])))
                      obtain ⟨T140, W141, hr142, M143, OI144⟩ := copy_chan2 (q := 32 * k) (A := []) (B := (T1 ++ (T3 ++ (T104 ++ [])))) (mk_length _ _) M139 OI3 (by omega) ((rdP_of O114 OI115 (fun p hp => M139.at_ p ((List.mem_append_right _ (List.mem_append_right _ (List.mem_append_right _ (List.mem_append_left _ (by rw [eT116]; exact List.mem_append_left _ hp))))))) (fun p hp => M139.at_ p ((List.mem_append_right _ (List.mem_append_right _ (List.mem_append_right _ (List.mem_append_left _ (by rw [eT116]; exact List.mem_append_right _ hp)))))))).ch jd (by omega) (by omega)) rfl (by rw [hrc2]; exact hW1) hcl (by rw [hrc2]; unfold deW; omega) 3
                      have M143 : Mem NoS w W141 ((flatT (setF Ts3 jd T140) (deC l) ++ (T1 ++ (T3 ++ (T104 ++ []))))) := M143
                      refine st_world (goInt (((whL (deB l k) (deC l) (deW l k)).getD jd []).length)) W141 (by kernel_rfl) (run_copy_op (.tmp 132) (.tmp 133) _ rfl (.slice (subA (As jd) (cs jd) (32 * k)) (deN l - 32 * k) ((cs jd) - 32 * k)) (.slice (As110 jd) (((whL (deB l k) (deC l) (deW l k)).getD jd []).length) (cs111 jd)) _ (by kernel_rfl) (by kernel_rfl) hr142) ?_
                      refine wl_nil ?_
                      refine blk_normal ?_
                      refine hK131 _ _ ?_
                      try clear hK131 K131
                      refine wp_frame (a' := ⟨#[.slice A l.length c, undef, (Go.Value.slice none 0 0), (Go.Value.slice none 0 0), .int .i64 0, .int .i64 ((deC l : Nat) : Int), .int .i64 ((deN l : Nat) : Int), .int .i64 ((deK l : Nat) : Int), .slice (subA A c 10) (l.length - 10) (c - 10), .slice A57 (deC l) (deC l), (u62 10), .slice A3 nd c3, .int .i64 ((k : Nat) : Int), .int .i64 ((32 * k : Nat) : Int), .int .i64 ((deAt l k : Nat) : Int), .slice A117 ((whL (deB l k) (deC l) (deW l k)).length) cq118, .bool true, .int .i64 ((jd : Nat) : Int), .slice (As110 jd) (((whL (deB l k) (deC l) (deW l k)).getD jd []).length) (cs111 jd), .slice A l.length c, .int .i64 ((l.length : Nat) : Int), .bool false, .slice A l.length c, .pointer (some ⟨b6, o7 + 4 * 1, none⟩), .int .u8 ((l.getD 4 0 : Nat) : Int), .int .i64 ((l.getD 4 0 : Nat) : Int), .slice A l.length c, .pointer (some ⟨b9, o10 + 5 * 1, none⟩), .int .u8 ((l.getD 5 0 : Nat) : Int), .int .i64 ((l.getD 5 0 : Nat) : Int), .int .i64 ((l.getD 5 0 * 65536 : Nat) : Int), .slice A l.length c, .pointer (some ⟨b12, o13 + 6 * 1, none⟩), .int .u8 ((l.getD 6 0 : Nat) : Int), .int .i64 ((l.getD 6 0 : Nat) : Int), .int .i64 ((l.getD 6 0 * 256 : Nat) : Int), .int .i64 ((l.getD 5 0 * 65536 + l.getD 6 0 * 256 : Nat) : Int), .slice A l.length c, .pointer (some ⟨b15, o16 + 7 * 1, none⟩), .int .u8 ((l.getD 7 0 : Nat) : Int), .int .i64 ((l.getD 7 0 : Nat) : Int), .int .i64 ((l.getD 5 0 * 65536 + l.getD 6 0 * 256 + l.getD 7 0 : Nat) : Int), .int .i64 ((deN l : Nat) : Int), .int .i64 (((deN l : Nat) : Int) + 32), .int .i64 ((((deN l : Nat) : Int) + 32) - 1), .int .i64 ((deK l : Nat) : Int), .slice A l.length c, .slice (subA A c 10) (l.length - 10) (c - 10), .bool false, .slice A l.length c, .slice (subA A c 0) (4 - 0) (c - 0), .slice A33 4 cq34, .bool true, .bool false, .bool false, .int .i64 ((deC l : Nat) : Int), .bool true, .bool false, .bool false, .bool false, .int .i64 ((deN l : Nat) : Int), .bool false, .bool false, .bool false, .slice A l.length c, .slice (subA A c 0) (10 - 0) (c - 0), .bool true, .bool false, .bool false, .slice (subA A c 10) (l.length - 10) (c - 10), .int .i64 ((l.length - 10 : Nat) : Int), .int .i64 ((deK l : Nat) : Int), .int .i64 ((deC l : Nat) : Int), .int .i64 ((deS l : Nat) : Int), .int .i64 ((deK l * deS l : Nat) : Int), .bool false, .int .i64 ((deC l : Nat) : Int), .slice A57 (deC l) (deC l), .slice A57 (deC l) (deC l), .int .i64 ((deC l : Nat) : Int), .int .i64 ((jc : Nat) : Int), .bool false, (u62 82), (u62 83), (u62 84), (u62 85), (u62 86), (u62 87), (u62 88), .int .i64 ((deK l : Nat) : Int), .int .i64 ((k : Nat) : Int), .bool true, .int .i64 ((k : Nat) : Int), .int .i64 ((k : Nat) : Int), .int .i64 ((32 * k : Nat) : Int), .int .i64 ((k : Nat) : Int), .int .i64 ((deC l : Nat) : Int), .int .i64 ((deS l : Nat) : Int), .int .i64 ((k * deS l : Nat) : Int), .slice (subA A c 10) (l.length - 10) (c - 10), .int .i64 ((l.length - 10 : Nat) : Int), .int .i64 ((deAt l k : Nat) : Int), .tuple #[.slice A117 ((whL (deB l k) (deC l) (deW l k)).length) cq118, .bool true], .slice (subA A c 10) (l.length - 10) (c - 10), .int .i64 ((deAt l k : Nat) : Int), .slice (subA (subA A c 10) (c - 10) (deAt l k)) ((l.length - 10) - (deAt l k)) ((c - 10) - (deAt l k)), .int .i64 ((deC l : Nat) : Int), .int .i64 ((deN l : Nat) : Int), .int .i64 ((32 * k : Nat) : Int), .int .i64 ((deN l - 32 * k : Nat) : Int), .int .i64 ((deW l k : Nat) : Int), .tuple #[.slice A117 ((whL (deB l k) (deC l) (deW l k)).length) cq118, .bool true], .slice A117 ((whL (deB l k) (deC l) (deW l k)).length) cq118, .bool true, .bool true, .bool false, (u91 116), (u91 117), (u91 118), (u91 119), .slice A117 ((whL (deB l k) (deC l) (deW l k)).length) cq118, .int .i64 (((whL (deB l k) (deC l) (deW l k)).length : Nat) : Int), .int .i64 ((jd : Nat) : Int), .bool true, .int .i64 ((jd : Nat) : Int), .pointer (some ⟨b133, o134 + jd * 1, none⟩), .slice (As110 jd) (((whL (deB l k) (deC l) (deW l k)).getD jd []).length) (cs111 jd), .slice A57 (deC l) (deC l), .int .i64 ((jd : Nat) : Int), .pointer (some ⟨b136, o137 + jd * 1, none⟩), .slice (As jd) (deN l) (cs jd), .int .i64 ((32 * k : Nat) : Int), .slice (subA (As jd) (cs jd) (32 * k)) (deN l - 32 * k) ((cs jd) - 32 * k), .slice (As110 jd) (((whL (deB l k) (deC l) (deW l k)).getD jd []).length) (cs111 jd), (goInt (((whL (deB l k) (deC l) (deW l k)).getD jd []).length)), (u126 135), (u91 136), undef, undef], []⟩) (by kernel_rfl) ?_
                      refine wl_region ?_
                      refine st_val (.int .i64 (((jd : Nat) : Int) + 1)) (by kernel_rfl) (i64_of (by omega) (by kernel_rfl)) ?_
                      refine st_val (.int .i64 (((jd : Nat) : Int) + 1)) (by kernel_rfl) (by kernel_rfl) ?_
                      refine wl_nil ?_
                      refine th_normal ?_
                      have M145 : Mem NoS w W141 ((T104 ++ (flatT (setF Ts3 jd T140) (deC l) ++ (T1 ++ (T3 ++ []))))) := Mem.pull (A := []) [flatT (setF Ts3 jd T140) (deC l), T1, T3] T104 [] M143
                      have M146 : Mem NoS w W141 ((T3 ++ (T104 ++ (flatT (setF Ts3 jd T140) (deC l) ++ (T1 ++ []))))) := Mem.pull (A := []) [T104, flatT (setF Ts3 jd T140) (deC l), T1] T3 [] M145
                      have M147 : Mem NoS w W141 ((flatT (setF Ts3 jd T140) (deC l) ++ (T3 ++ (T104 ++ (T1 ++ []))))) := Mem.pull (A := []) [T3, T104] (flatT (setF Ts3 jd T140) (deC l)) [T1] M146
                      have M148 : Mem NoS w W141 ((T1 ++ (flatT (setF Ts3 jd T140) (deC l) ++ (T3 ++ (T104 ++ []))))) := Mem.pull (A := []) [flatT (setF Ts3 jd T140) (deC l), T3, T104] T1 [] M147
                      have hs4 := ls1_set (l := l) (c := jd) (k := k) (by omega) (chS_ok hok (by omega) (by omega))
                      have hI4 := OI144
                      have hgg : (mk (fun j => if j < jd then chS l j (k + 1) else chS l j k) (deC l)).getD jd [] = chS l jd k := (by rw [mk_get (by omega), if_neg (by omega)])
                      rw [hgg, hrc2, hs4] at hI4
                      exact ⟨_, by omega, (jd + 1), (setF Ts3 jd T140), (fun zz => Array.getD #[undef, undef, undef, undef, undef, undef, undef, undef, undef, undef, undef, undef, undef, undef, undef, undef, undef, .int .i64 ((jd : Nat) : Int), .slice (As110 jd) (((whL (deB l k) (deC l) (deW l k)).getD jd []).length) (cs111 jd), undef, undef, undef, undef, undef, undef, undef, undef, undef, undef, undef, undef, undef, undef, undef, undef, undef, undef, undef, undef, undef, undef, undef, undef, undef, undef, undef, undef, undef, undef, undef, undef, undef, undef, undef, undef, undef, undef, undef, undef, undef, undef, undef, undef, undef, undef, undef, undef, undef, undef, undef, undef, undef, undef, undef, undef, undef, undef, undef, undef, undef, undef, undef, undef, undef, undef, undef, undef, undef, undef, undef, undef, undef, undef, undef, undef, undef, undef, undef, undef, undef, undef, undef, undef, undef, undef, undef, undef, undef, undef, undef, undef, undef, undef, undef, undef, undef, undef, undef, undef, undef, undef, undef, undef, .bool true, .int .i64 ((jd : Nat) : Int), .pointer (some ⟨b133, o134 + jd * 1, none⟩), .slice (As110 jd) (((whL (deB l k) (deC l) (deW l k)).getD jd []).length) (cs111 jd), .slice A57 (deC l) (deC l), .int .i64 ((jd : Nat) : Int), .pointer (some ⟨b136, o137 + jd * 1, none⟩), .slice (As jd) (deN l) (cs jd), .int .i64 ((32 * k : Nat) : Int), .slice (subA (As jd) (cs jd) (32 * k)) (deN l - 32 * k) ((cs jd) - 32 * k), .slice (As110 jd) (((whL (deB l k) (deC l) (deW l k)).getD jd []).length) (cs111 jd), (goInt (((whL (deB l k) (deC l) (deW l k)).getD jd []).length)), .int .i64 (((jd : Nat) : Int) + 1)] zz undef), ⟨⟨by omega, hI4⟩, M148⟩, rfl, (by kernel_rfl)⟩
                    ·
                      refine st_val (.bool false) (by kernel_rfl) (bool_of (dec_f c123) (by kernel_rfl)) ?_
                      refine wl_nil ?_
                      refine hK129 _ _ ?_
                      try clear hK129 K129
                      refine wp_seq_k (fun K149 hK149 => ?_)
                      refine wp_cond_false (by kernel_rfl) ?_
                      refine wp_exit ?_
                      refine th_exit ?_
                      refine th_exit ?_
                      refine blk_exit ?_
                      refine blk_normal ?_
                      refine hK96 _ _ ?_
                      try clear hK96 K96
                      refine wl_region ?_
                      refine st_val (.int .i64 (((k : Nat) : Int) + 1)) (by kernel_rfl) (i64_of (by omega) (by kernel_rfl)) ?_
                      refine st_val (.int .i64 (((k : Nat) : Int) + 1)) (by kernel_rfl) (by kernel_rfl) ?_
                      refine wl_nil ?_
                      refine th_normal ?_
                      have M150 : Mem NoS w W127 ((T1 ++ (flatT Ts3 (deC l) ++ (T3 ++ [])))) := M128.sub (((((List.Sublist.refl []).trans (List.sublist_append_right T104 _)).append_left T3).append_left (flatT Ts3 (deC l))).append_left T1)
                      have hjd : jd = deC l := (by have := hrc.1; omega)
                      have hlf : mk (fun j => if j < jd then chS l j (k + 1) else chS l j k) (deC l) = mk (fun j => chS l j (k + 1)) (deC l) := mk_congr (fun j hj => if_pos (by omega))
                      rw [hlf] at OI3
                      have hdd := deD_ok hok
                      exact ⟨_, by omega, (k + 1), Ts3, nd, A3, c3, T3, (fun zz => Array.getD #[undef, undef, undef, undef, undef, undef, undef, undef, undef, undef, undef, undef, .int .i64 ((k : Nat) : Int), .int .i64 ((32 * k : Nat) : Int), .int .i64 ((deAt l k : Nat) : Int), .slice A117 ((whL (deB l k) (deC l) (deW l k)).length) cq118, .bool true, (u126 17), (u126 18), undef, undef, undef, undef, undef, undef, undef, undef, undef, undef, undef, undef, undef, undef, undef, undef, undef, undef, undef, undef, undef, undef, undef, undef, undef, undef, undef, undef, undef, undef, undef, undef, undef, undef, undef, undef, undef, undef, undef, undef, undef, undef, undef, undef, undef, undef, undef, undef, undef, undef, undef, undef, undef, undef, undef, undef, undef, undef, undef, undef, undef, undef, undef, undef, undef, undef, undef, undef, undef, undef, undef, undef, .bool true, .int .i64 ((k : Nat) : Int), .int .i64 ((k : Nat) : Int), .int .i64 ((32 * k : Nat) : Int), .int .i64 ((k : Nat) : Int), .int .i64 ((deC l : Nat) : Int), .int .i64 ((deS l : Nat) : Int), .int .i64 ((k * deS l : Nat) : Int), .slice (subA A c 10) (l.length - 10) (c - 10), .int .i64 ((l.length - 10 : Nat) : Int), .int .i64 ((deAt l k : Nat) : Int), .tuple #[.slice A117 ((whL (deB l k) (deC l) (deW l k)).length) cq118, .bool true], .slice (subA A c 10) (l.length - 10) (c - 10), .int .i64 ((deAt l k : Nat) : Int), .slice (subA (subA A c 10) (c - 10) (deAt l k)) ((l.length - 10) - (deAt l k)) ((c - 10) - (deAt l k)), .int .i64 ((deC l : Nat) : Int), .int .i64 ((deN l : Nat) : Int), .int .i64 ((32 * k : Nat) : Int), .int .i64 ((deN l - 32 * k : Nat) : Int), .int .i64 ((deW l k : Nat) : Int), .tuple #[.slice A117 ((whL (deB l k) (deC l) (deW l k)).length) cq118, .bool true], .slice A117 ((whL (deB l k) (deC l) (deW l k)).length) cq118, .bool true, .bool true, .bool false, (u91 116), (u91 117), (u91 118), (u91 119), .slice A117 ((whL (deB l k) (deC l) (deW l k)).length) cq118, .int .i64 (((whL (deB l k) (deC l) (deW l k)).length : Nat) : Int), .int .i64 ((jd : Nat) : Int), .bool false, (u126 124), (u126 125), (u126 126), (u126 127), (u126 128), (u126 129), (u126 130), (u126 131), (u126 132), (u126 133), (u126 134), (u126 135), .int .i64 (((k : Nat) : Int) + 1)] zz undef), ⟨⟨by omega, OI3, by rw [hdd]; exact hnd, by rw [hdd]; exact O3⟩, M150⟩, rfl, (by kernel_rfl)⟩
                  ·
                    refine st_callR (A := []) (B := (T1 ++ (flatT Ts2 (deC l) ++ (T3 ++ [])))) M101 (by kernel_rfl) (run_value_call 56 #[(Operand.tmp 105), (Operand.tmp 106), (Operand.tmp 110)] _ rfl Try.func56 (by kernel_rfl) (by kernel_rfl) _ (by kernel_rfl)) ((by have := whole_walk W100 (.slice (subA (subA A c 10) (c - 10) (deAt l k)) ((l.length - 10) - (deAt l k)) ((c - 10) - (deAt l k))) (sl (sl l 10 (l.length - 10)) (deAt l k) ((l.length - 10) - (deAt l k))) ((by rw [hlB]; exact rdk_sl (rdk_sl (hr.keep M101.keep (fun _ _ h => h)) rfl (by omega) (lo := 10) (hi := l.length) (by omega) (Nat.le_refl _)) hl8 (by omega) (lo := deAt l k) (hi := l.length - 10) hat (Nat.le_refl _))) (sl_lt (sl_lt hb _ _) _ _) (by rw [hlB]; omega) (deC l) (deW l k) hG.2.1 (by unfold deW; omega); rw [show decide (whB (sl (sl l 10 (l.length - 10)) (deAt l k) ((l.length - 10) - (deAt l k))) (deC l) (deW l k)) = false from decide_eq_false hok] at this; exact this)) ?_
                    intro v151 T152 W153 O154 M155
                    have M155 : Mem NoS w W153 ((T152 ++ (T1 ++ (flatT Ts2 (deC l) ++ (T3 ++ []))))) := M155
                    obtain ⟨v156, rfl, O157⟩ := O154
                    refine st_val (.tuple #[v156, .bool false]) (by kernel_rfl) (by kernel_rfl) ?_
                    refine st_val (v156) (by kernel_rfl) (by kernel_rfl) ?_
                    refine st_val (.bool false) (by kernel_rfl) (by kernel_rfl) ?_
                    refine st_val (v156) (by kernel_rfl) (by kernel_rfl) ?_
                    refine st_val (.bool false) (by kernel_rfl) (by kernel_rfl) ?_
                    refine wl_nil ?_
                    refine hK102 _ _ ?_
                    try clear hK102 K102
                    refine wp_frame (a' := ⟨#[.slice A l.length c, undef, (Go.Value.slice none 0 0), (Go.Value.slice none 0 0), .int .i64 0, .int .i64 ((deC l : Nat) : Int), .int .i64 ((deN l : Nat) : Int), .int .i64 ((deK l : Nat) : Int), .slice (subA A c 10) (l.length - 10) (c - 10), .slice A57 (deC l) (deC l), (u62 10), .slice A3 nd c3, .int .i64 ((k : Nat) : Int), .int .i64 ((32 * k : Nat) : Int), .int .i64 ((deAt l k : Nat) : Int), v156, .bool false, (u91 17), (u91 18), .slice A l.length c, .int .i64 ((l.length : Nat) : Int), .bool false, .slice A l.length c, .pointer (some ⟨b6, o7 + 4 * 1, none⟩), .int .u8 ((l.getD 4 0 : Nat) : Int), .int .i64 ((l.getD 4 0 : Nat) : Int), .slice A l.length c, .pointer (some ⟨b9, o10 + 5 * 1, none⟩), .int .u8 ((l.getD 5 0 : Nat) : Int), .int .i64 ((l.getD 5 0 : Nat) : Int), .int .i64 ((l.getD 5 0 * 65536 : Nat) : Int), .slice A l.length c, .pointer (some ⟨b12, o13 + 6 * 1, none⟩), .int .u8 ((l.getD 6 0 : Nat) : Int), .int .i64 ((l.getD 6 0 : Nat) : Int), .int .i64 ((l.getD 6 0 * 256 : Nat) : Int), .int .i64 ((l.getD 5 0 * 65536 + l.getD 6 0 * 256 : Nat) : Int), .slice A l.length c, .pointer (some ⟨b15, o16 + 7 * 1, none⟩), .int .u8 ((l.getD 7 0 : Nat) : Int), .int .i64 ((l.getD 7 0 : Nat) : Int), .int .i64 ((l.getD 5 0 * 65536 + l.getD 6 0 * 256 + l.getD 7 0 : Nat) : Int), .int .i64 ((deN l : Nat) : Int), .int .i64 (((deN l : Nat) : Int) + 32), .int .i64 ((((deN l : Nat) : Int) + 32) - 1), .int .i64 ((deK l : Nat) : Int), .slice A l.length c, .slice (subA A c 10) (l.length - 10) (c - 10), .bool false, .slice A l.length c, .slice (subA A c 0) (4 - 0) (c - 0), .slice A33 4 cq34, .bool true, .bool false, .bool false, .int .i64 ((deC l : Nat) : Int), .bool true, .bool false, .bool false, .bool false, .int .i64 ((deN l : Nat) : Int), .bool false, .bool false, .bool false, .slice A l.length c, .slice (subA A c 0) (10 - 0) (c - 0), .bool true, .bool false, .bool false, .slice (subA A c 10) (l.length - 10) (c - 10), .int .i64 ((l.length - 10 : Nat) : Int), .int .i64 ((deK l : Nat) : Int), .int .i64 ((deC l : Nat) : Int), .int .i64 ((deS l : Nat) : Int), .int .i64 ((deK l * deS l : Nat) : Int), .bool false, .int .i64 ((deC l : Nat) : Int), .slice A57 (deC l) (deC l), .slice A57 (deC l) (deC l), .int .i64 ((deC l : Nat) : Int), .int .i64 ((jc : Nat) : Int), .bool false, (u62 82), (u62 83), (u62 84), (u62 85), (u62 86), (u62 87), (u62 88), .int .i64 ((deK l : Nat) : Int), .int .i64 ((k : Nat) : Int), .bool true, .int .i64 ((k : Nat) : Int), .int .i64 ((k : Nat) : Int), .int .i64 ((32 * k : Nat) : Int), .int .i64 ((k : Nat) : Int), .int .i64 ((deC l : Nat) : Int), .int .i64 ((deS l : Nat) : Int), .int .i64 ((k * deS l : Nat) : Int), .slice (subA A c 10) (l.length - 10) (c - 10), .int .i64 ((l.length - 10 : Nat) : Int), .int .i64 ((deAt l k : Nat) : Int), .tuple #[v156, .bool false], .slice (subA A c 10) (l.length - 10) (c - 10), .int .i64 ((deAt l k : Nat) : Int), .slice (subA (subA A c 10) (c - 10) (deAt l k)) ((l.length - 10) - (deAt l k)) ((c - 10) - (deAt l k)), .int .i64 ((deC l : Nat) : Int), .int .i64 ((deN l : Nat) : Int), .int .i64 ((32 * k : Nat) : Int), .int .i64 ((deN l - 32 * k : Nat) : Int), .int .i64 ((deW l k : Nat) : Int), .tuple #[v156, .bool false], v156, .bool false, (u91 114), (u91 115), (u91 116), (u91 117), (u91 118), (u91 119), (u91 120), (u91 121), (u91 122), (u91 123), (u91 124), (u91 125), (u91 126), (u91 127), (u91 128), (u91 129), (u91 130), (u91 131), (u91 132), (u91 133), (u91 134), (u91 135), (u91 136), undef, undef], []⟩) (by kernel_rfl) ?_
                    refine wp_seq_k (fun K158 hK158 => ?_)
                    refine wp_seq_k (fun K159 hK159 => ?_)
                    refine wl_region ?_
                    refine st_val (.bool false) (by kernel_rfl) (by kernel_rfl) ?_
                    refine st_val (.bool true) (by kernel_rfl) (by kernel_rfl) ?_
                    refine wl_nil ?_
                    refine hK159 _ _ ?_
                    try clear hK159 K159
                    refine wp_cond_true (by kernel_rfl) ?_
                    refine wp_seq_k (fun K160 hK160 => ?_)
                    have hdl := deD_le l k
                    refine wl_region ?_
                    refine st_val (.slice A3 nd c3) (by kernel_rfl) (by kernel_rfl) ?_
                    refine st_val (.int .i64 ((k : Nat) : Int)) (by kernel_rfl) (by kernel_rfl) ?_
                    refine st_new M155 (.cells #[.int .i64 ((k : Nat) : Int)] 3 (0, 0)) (fun g => .slice (some ⟨g, 0, none⟩) 1 1) (by kernel_rfl) (by kernel_rfl) ?_
                    intro g161 W162 M163
                    have M173 : Mem NoS w W162 ((g161, .cells #[.int .i64 ((k : Nat) : Int)] 3 (0, 0)) :: (T3 ++ (T152 ++ (T1 ++ (flatT Ts2 (deC l) ++ []))))) := Mem.pull (A := [(g161, .cells #[.int .i64 ((k : Nat) : Int)] 3 (0, 0))]) [T152, T1, flatT Ts2 (deC l)] T3 [] M163
                    obtain ⟨v164, T165, W166, hr167, O168, M169⟩ := append_i64 (A := [(g161, .cells #[.int .i64 ((k : Nat) : Int)] 3 (0, 0))]) (T := T3) (B := (T152 ++ (T1 ++ (flatT Ts2 (deC l) ++ [])))) M173 41 _ _ _ O3 _ 1 ([.int .i64 ((k : Nat) : Int)]) (rdk_lit (xs := [.int .i64 ((k : Nat) : Int)]) (M173.get 0 rfl) rfl) rfl (by intro x hx; simp only [List.mem_cons, List.not_mem_nil, or_false] at hx; subst hx; rfl) (by omega)
                    have M169 : Mem NoS w W166 ((g161, .cells #[.int .i64 ((k : Nat) : Int)] 3 (0, 0)) :: (T165 ++ (T152 ++ (T1 ++ (flatT Ts2 (deC l) ++ []))))) := M169
                    obtain ⟨A170, cq171, rfl, hc172⟩ := O168.shape
                    refine st_world (.slice A170 (nd + 1) cq171) W166 (by kernel_rfl) (run_append_op (.tmp 116) (.tmp 118) _ rfl (.slice A3 nd c3) (.slice (some ⟨g161, 0, none⟩) 1 1) _ (by kernel_rfl) (by kernel_rfl) hr167) ?_
                    refine st_val (.slice A170 (nd + 1) cq171) (by kernel_rfl) (by kernel_rfl) ?_
                    refine wl_nil ?_
                    refine hK160 _ _ ?_
                    try clear hK160 K160
                    refine wp_exit ?_
                    refine th_exit ?_
                    refine blk_exit ?_
                    refine hK96 _ _ ?_
                    try clear hK96 K96
                    refine wl_region ?_
                    refine st_val (.int .i64 (((k : Nat) : Int) + 1)) (by kernel_rfl) (i64_of (by omega) (by kernel_rfl)) ?_
                    refine st_val (.int .i64 (((k : Nat) : Int) + 1)) (by kernel_rfl) (by kernel_rfl) ?_
                    refine wl_nil ?_
                    refine th_normal ?_
                    have M174 : Mem NoS w W166 ((T165 ++ (T1 ++ (flatT Ts2 (deC l) ++ [])))) := M169.sub ((((((List.Sublist.refl []).append_left (flatT Ts2 (deC l))).append_left T1).trans (List.sublist_append_right T152 _)).append_left T165).cons _)
                    have M175 : Mem NoS w W166 ((flatT Ts2 (deC l) ++ (T165 ++ (T1 ++ [])))) := Mem.pull (A := []) [T165, T1] (flatT Ts2 (deC l)) [] M174
                    have M176 : Mem NoS w W166 ((T1 ++ (flatT Ts2 (deC l) ++ (T165 ++ [])))) := Mem.pull (A := []) [flatT Ts2 (deC l), T165] T1 [] M175
                    have hcb : mk (fun j => chS l j (k + 1)) (deC l) = mk (fun j => chS l j k) (deC l) := mk_congr (fun j _ => chS_bad hok j)
                    have hO4 := O168
                    have hdd := deD_bad hok
                    have hdi : i64s (deD l (k + 1)) = i64s (deD l k) ++ [.int .i64 ((k : Nat) : Int)] := (by rw [hdd]; simp [i64s])
                    exact ⟨_, by omega, (k + 1), Ts2, (nd + 1), A170, cq171, T165, (fun zz => Array.getD #[undef, undef, undef, undef, undef, undef, undef, undef, undef, undef, undef, undef, .int .i64 ((k : Nat) : Int), .int .i64 ((32 * k : Nat) : Int), .int .i64 ((deAt l k : Nat) : Int), v156, .bool false, (u91 17), (u91 18), undef, undef, undef, undef, undef, undef, undef, undef, undef, undef, undef, undef, undef, undef, undef, undef, undef, undef, undef, undef, undef, undef, undef, undef, undef, undef, undef, undef, undef, undef, undef, undef, undef, undef, undef, undef, undef, undef, undef, undef, undef, undef, undef, undef, undef, undef, undef, undef, undef, undef, undef, undef, undef, undef, undef, undef, undef, undef, undef, undef, undef, undef, undef, undef, undef, undef, undef, undef, undef, undef, undef, undef, .bool true, .int .i64 ((k : Nat) : Int), .int .i64 ((k : Nat) : Int), .int .i64 ((32 * k : Nat) : Int), .int .i64 ((k : Nat) : Int), .int .i64 ((deC l : Nat) : Int), .int .i64 ((deS l : Nat) : Int), .int .i64 ((k * deS l : Nat) : Int), .slice (subA A c 10) (l.length - 10) (c - 10), .int .i64 ((l.length - 10 : Nat) : Int), .int .i64 ((deAt l k : Nat) : Int), .tuple #[v156, .bool false], .slice (subA A c 10) (l.length - 10) (c - 10), .int .i64 ((deAt l k : Nat) : Int), .slice (subA (subA A c 10) (c - 10) (deAt l k)) ((l.length - 10) - (deAt l k)) ((c - 10) - (deAt l k)), .int .i64 ((deC l : Nat) : Int), .int .i64 ((deN l : Nat) : Int), .int .i64 ((32 * k : Nat) : Int), .int .i64 ((deN l - 32 * k : Nat) : Int), .int .i64 ((deW l k : Nat) : Int), .tuple #[v156, .bool false], v156, .bool false, .bool false, .bool true, .slice A3 nd c3, .int .i64 ((k : Nat) : Int), .slice (some ⟨g161, 0, none⟩) 1 1, .slice A170 (nd + 1) cq171, (u91 120), (u91 121), (u91 122), (u91 123), (u91 124), (u91 125), (u91 126), (u91 127), (u91 128), (u91 129), (u91 130), (u91 131), (u91 132), (u91 133), (u91 134), (u91 135), .int .i64 (((k : Nat) : Int) + 1)] zz undef), ⟨⟨by omega, by rw [hcb]; exact OI2, by rw [hdd, List.length_append, hnd]; rfl, by rw [hdi]; exact hO4⟩, M176⟩, rfl, (by kernel_rfl)⟩
                ·
                  refine st_val (.bool false) (by kernel_rfl) (bool_of (dec_f c91) (by kernel_rfl)) ?_
                  refine wl_nil ?_
                  refine hK94 _ _ ?_
                  try clear hK94 K94
                  refine wp_seq_k (fun K177 hK177 => ?_)
                  refine wp_cond_false (by kernel_rfl) ?_
                  refine wp_exit ?_
                  refine th_exit ?_
                  refine th_exit ?_
                  refine blk_exit ?_
                  refine hK89 _ _ ?_
                  try clear hK89 K89
                  refine wp_seq_k (fun K178 hK178 => ?_)
                  refine wl_region ?_
                  refine st_val (.slice A57 (deC l) (deC l)) (by kernel_rfl) (by kernel_rfl) ?_
                  refine st_val (.slice A3 nd c3) (by kernel_rfl) (by kernel_rfl) ?_
                  refine st_val (.slice A57 (deC l) (deC l)) (by kernel_rfl) (by kernel_rfl) ?_
                  refine st_val (.slice A3 nd c3) (by kernel_rfl) (by kernel_rfl) ?_
                  refine st_val (.int .i64 0) (by kernel_rfl) (by kernel_rfl) ?_
                  refine wl_nil ?_
                  refine hK178 _ _ ?_
                  try clear hK178 K178
                  refine wp_ret ?_
                  obtain rfl : k = deK l := (by omega)
                  exact done3 2 3 4 (.slice A57 (deC l) (deC l)) (.slice A3 nd c3) (.int .i64 0) (by kernel_rfl) (by kernel_rfl) (by kernel_rfl) (by kernel_rfl) (by kernel_rfl) ⟨_, (T1 ++ flatT Ts2 (deC l)) ++ T3, rfl, ⟨_, _, T1 ++ flatT Ts2 (deC l), T3, nd, by rw [hE], dec_good hE O1 OI2, by rw [(de_ok hE).2]; exact hnd, by rw [(de_ok hE).2]; exact O3, rfl⟩, (by have h := M93; rw [List.append_nil] at h; rw [List.append_assoc]; exact h)⟩
          ·
            refine st_callB M41 (.bool false) (by kernel_rfl) (args := #[.slice (subA A c 0) (10 - 0) (c - 0)]) (run_value_call 33 #[(Operand.tmp 65)] _ rfl Try.func33 (by kernel_rfl) (by kernel_rfl) _ (by kernel_rfl)) ((by have := intact_walk W40 (.slice (subA A c 0) (10 - 0) (c - 0)) (sl l 0 (10 - 0)) ((by rw [sl_len (by omega)]; exact (rdk_sl (hr.keep M41.keep (fun _ _ h => h)) rfl (by omega) (lo := 0) (hi := 10) (by omega) (by omega)))) (sl_lt hb _ _) (by rw [sl_len (by omega)]; omega) (by rw [sl_len (by omega)]; omega); rw [hit] at this; exact this)) ?_
            intro W179 M180
            refine st_val (.bool true) (by kernel_rfl) (by kernel_rfl) ?_
            refine st_val (.bool true) (by kernel_rfl) (by kernel_rfl) ?_
            refine wl_nil ?_
            refine hK44 _ _ ?_
            try clear hK44 K44
            refine wp_cond_true (by kernel_rfl) ?_
            refine wp_seq_k (fun K181 hK181 => ?_)
            refine wl_region ?_
            refine st_val ((Go.Value.slice none 0 0)) (by kernel_rfl) (by kernel_rfl) ?_
            refine st_val ((Go.Value.slice none 0 0)) (by kernel_rfl) (by kernel_rfl) ?_
            refine st_val (.int .i64 10) (by kernel_rfl) (by kernel_rfl) ?_
            refine wl_nil ?_
            refine hK181 _ _ ?_
            try clear hK181 K181
            refine wp_ret ?_
            refine blk_ret ?_
            refine th_ret ?_
            have hde : deE l = 10 := (by unfold deE; rw [if_neg (by omega), if_neg (fun h => h hG), if_pos hit])
            exact done3 2 3 4 ((Go.Value.slice none 0 0)) ((Go.Value.slice none 0 0)) (.int .i64 10) (by kernel_rfl) (by kernel_rfl) (by kernel_rfl) (by kernel_rfl) (by kernel_rfl) ⟨_, [], rfl, ⟨_, _, [], [], 0, by rw [hde], by rw [(de_bad hde (by decide)).1]; exact OwnP.nil, by rw [(de_bad hde (by decide)).2]; rfl, by rw [(de_bad hde (by decide)).2]; exact Own.nil _ _, rfl⟩, M180.sub (List.nil_sublist _)⟩
      ·
        have hmn := of_decide_eq_false hmc
        refine wh_callB M38 7 (.bool false) rfl (by kernel_rfl) (by kernel_rfl) (run_value_call 32 #[(Operand.tmp 55)] _ rfl Try.func32 (by kernel_rfl) (by kernel_rfl) _ (by kernel_rfl)) #[true, true, true, true, true, true, true, true, false, false, false, false, false, false, false] rfl ((by have := mayC_walk W37 ((deC l : Nat) : Int); rw [hmc] at this; exact this)) ?_
        intro W182 M183
        have hS184 : Mem NoS w W182 [] := M183.sub ((List.Sublist.refl []).trans (List.sublist_append_right T29 _))
        refine ⟨hS184, ?_⟩
        refine wh_take R24 8 (.bool true) rfl (by kernel_rfl) (by kernel_rfl) (by kernel_rfl) (fun w' M' => (by kernel_rfl)) hS184 #[true, true, true, true, true, true, true, true, true, false, false, false, false, false, false] rfl ?_
        refine wh_take R24 9 (.bool true) rfl (by kernel_rfl) (by kernel_rfl) (by kernel_rfl) (fun w' M' => (by kernel_rfl)) hS184 #[true, true, true, true, true, true, true, true, true, true, false, false, false, false, false] rfl ?_
        refine wh_take R24 10 (.bool true) rfl (by kernel_rfl) (by kernel_rfl) (by kernel_rfl) (fun w' M' => (by kernel_rfl)) hS184 #[true, true, true, true, true, true, true, true, true, true, true, false, false, false, false] rfl ?_
        refine wh_skip R24 11 rfl (by kernel_rfl) (by kernel_rfl) (by kernel_rfl) hS184 #[true, true, true, true, true, true, true, true, true, true, true, true, false, false, false] rfl ?_
        refine wh_skip R24 12 rfl (by kernel_rfl) (by kernel_rfl) (by kernel_rfl) hS184 #[true, true, true, true, true, true, true, true, true, true, true, true, true, false, false] rfl ?_
        refine wh_take R24 13 (.bool true) rfl (by kernel_rfl) (by kernel_rfl) (by kernel_rfl) (fun w' M' => (by kernel_rfl)) hS184 #[true, true, true, true, true, true, true, true, true, true, true, true, true, true, false] rfl ?_
        refine wh_take R24 14 (.bool true) rfl (by kernel_rfl) (by kernel_rfl) (by kernel_rfl) (fun w' M' => (by kernel_rfl)) hS184 #[true, true, true, true, true, true, true, true, true, true, true, true, true, true, true] rfl ?_
        refine wh_done (by kernel_rfl) ?_
        refine hK23 _ _ ?_
        try clear hK23 K23
        refine wp_frame (a' := ⟨#[.slice A l.length c, undef, (Go.Value.slice none 0 0), (Go.Value.slice none 0 0), .int .i64 0, .int .i64 ((deC l : Nat) : Int), .int .i64 ((deN l : Nat) : Int), .int .i64 ((deK l : Nat) : Int), .slice (subA A c 10) (l.length - 10) (c - 10), undef, undef, undef, undef, undef, undef, undef, undef, undef, undef, .slice A l.length c, .int .i64 ((l.length : Nat) : Int), .bool false, .slice A l.length c, .pointer (some ⟨b6, o7 + 4 * 1, none⟩), .int .u8 ((l.getD 4 0 : Nat) : Int), .int .i64 ((l.getD 4 0 : Nat) : Int), .slice A l.length c, .pointer (some ⟨b9, o10 + 5 * 1, none⟩), .int .u8 ((l.getD 5 0 : Nat) : Int), .int .i64 ((l.getD 5 0 : Nat) : Int), .int .i64 ((l.getD 5 0 * 65536 : Nat) : Int), .slice A l.length c, .pointer (some ⟨b12, o13 + 6 * 1, none⟩), .int .u8 ((l.getD 6 0 : Nat) : Int), .int .i64 ((l.getD 6 0 : Nat) : Int), .int .i64 ((l.getD 6 0 * 256 : Nat) : Int), .int .i64 ((l.getD 5 0 * 65536 + l.getD 6 0 * 256 : Nat) : Int), .slice A l.length c, .pointer (some ⟨b15, o16 + 7 * 1, none⟩), .int .u8 ((l.getD 7 0 : Nat) : Int), .int .i64 ((l.getD 7 0 : Nat) : Int), .int .i64 ((l.getD 5 0 * 65536 + l.getD 6 0 * 256 + l.getD 7 0 : Nat) : Int), .int .i64 ((deN l : Nat) : Int), .int .i64 (((deN l : Nat) : Int) + 32), .int .i64 ((((deN l : Nat) : Int) + 32) - 1), .int .i64 ((deK l : Nat) : Int), .slice A l.length c, .slice (subA A c 10) (l.length - 10) (c - 10), .bool true, .slice A l.length c, .slice (subA A c 0) (4 - 0) (c - 0), .slice A33 4 cq34, .bool true, .bool false, .bool false, .int .i64 ((deC l : Nat) : Int), .bool false, .bool true, .bool true, .bool true, undef, undef, .bool true, undef, undef, undef, undef, undef, undef, undef, undef, undef, undef, undef, undef, undef, undef, undef, undef, undef, undef, undef, undef, undef, undef, undef, undef, undef, undef, undef, undef, undef, undef, undef, undef, undef, undef, undef, undef, undef, undef, undef, undef, undef, undef, undef, undef, undef, undef, undef, undef, undef, undef, undef, undef, undef, undef, undef, undef, undef, undef, undef, undef, undef, undef, undef, undef, undef, undef, undef, undef, undef, undef, undef, undef, undef, undef, undef, undef], []⟩) (by kernel_rfl) ?_
        refine wp_cond_true (by kernel_rfl) ?_
        refine wp_seq_k (fun K185 hK185 => ?_)
        refine wl_region ?_
        refine st_val ((Go.Value.slice none 0 0)) (by kernel_rfl) (by kernel_rfl) ?_
        refine st_val ((Go.Value.slice none 0 0)) (by kernel_rfl) (by kernel_rfl) ?_
        refine st_val (.int .i64 3) (by kernel_rfl) (by kernel_rfl) ?_
        refine wl_nil ?_
        refine hK185 _ _ ?_
        try clear hK185 K185
        refine wp_ret ?_
        refine blk_ret ?_
        refine th_ret ?_
        have hde : deE l = 3 := (by unfold deE; first | (rw [if_neg (by omega), if_neg (fun h => h hG), if_neg (by rw [hit]; decide), if_pos (by omega)]) | (rw [if_neg (by omega), if_pos (fun hg => by obtain ⟨g1, ⟨g2, g3⟩, g4⟩ := hg; first | exact hne2 g1 | exact hmn ⟨by omega, by omega⟩ | omega)]))
        exact done3 2 3 4 ((Go.Value.slice none 0 0)) ((Go.Value.slice none 0 0)) (.int .i64 3) (by kernel_rfl) (by kernel_rfl) (by kernel_rfl) (by kernel_rfl) (by kernel_rfl) ⟨_, [], rfl, ⟨_, _, [], [], 0, by rw [hde], by rw [(de_bad hde (by decide)).1]; exact OwnP.nil, by rw [(de_bad hde (by decide)).2]; rfl, by rw [(de_bad hde (by decide)).2]; exact Own.nil _ _, rfl⟩, M183.sub (List.nil_sublist _)⟩
    ·
      have hne2 := of_decide_eq_false heq
      refine wh_callB M32 3 (.bool false) rfl (by kernel_rfl) (by kernel_rfl) (run_value_call 55 #[(Operand.tmp 50), (Operand.tmp 51)] _ rfl Try.func55 (by kernel_rfl) (by kernel_rfl) _ (by kernel_rfl)) #[true, true, true, true, false, false, false, false, false, false, false, false, false, false, false] rfl ((by have := equal_walk W30 (.slice (subA A c 0) (4 - 0) (c - 0)) (.slice A33 4 cq34) (sl l 0 (4 - 0)) ([67, 82, 83, 68]) ((by rw [sl_len (by omega)]; exact (rdk_sl (hr.keep M32.keep (fun _ _ h => h)) rfl (by omega) (lo := 0) (hi := 4) (by omega) (by omega)))) (O31.rd (fun p hp => M32.at_ p (List.mem_append_left _ hp))) (by rw [sl_len (by omega)]; omega); rw [heq] at this; exact this)) ?_
      intro W186 M187
      have hS188 : Mem NoS w W186 [] := M187.sub ((List.Sublist.refl []).trans (List.sublist_append_right T29 _))
      refine ⟨hS188, ?_⟩
      refine wh_take R24 4 (.bool true) rfl (by kernel_rfl) (by kernel_rfl) (by kernel_rfl) (fun w' M' => (by kernel_rfl)) hS188 #[true, true, true, true, true, false, false, false, false, false, false, false, false, false, false] rfl ?_
      refine wh_take R24 5 (.bool true) rfl (by kernel_rfl) (by kernel_rfl) (by kernel_rfl) (fun w' M' => (by kernel_rfl)) hS188 #[true, true, true, true, true, true, false, false, false, false, false, false, false, false, false] rfl ?_
      refine wh_skip R24 6 rfl (by kernel_rfl) (by kernel_rfl) (by kernel_rfl) hS188 #[true, true, true, true, true, true, true, false, false, false, false, false, false, false, false] rfl ?_
      refine wh_skip R24 7 rfl (by kernel_rfl) (by kernel_rfl) (by kernel_rfl) hS188 #[true, true, true, true, true, true, true, true, false, false, false, false, false, false, false] rfl ?_
      refine wh_skip R24 8 rfl (by kernel_rfl) (by kernel_rfl) (by kernel_rfl) hS188 #[true, true, true, true, true, true, true, true, true, false, false, false, false, false, false] rfl ?_
      refine wh_take R24 9 (.bool true) rfl (by kernel_rfl) (by kernel_rfl) (by kernel_rfl) (fun w' M' => (by kernel_rfl)) hS188 #[true, true, true, true, true, true, true, true, true, true, false, false, false, false, false] rfl ?_
      refine wh_take R24 10 (.bool true) rfl (by kernel_rfl) (by kernel_rfl) (by kernel_rfl) (fun w' M' => (by kernel_rfl)) hS188 #[true, true, true, true, true, true, true, true, true, true, true, false, false, false, false] rfl ?_
      refine wh_skip R24 11 rfl (by kernel_rfl) (by kernel_rfl) (by kernel_rfl) hS188 #[true, true, true, true, true, true, true, true, true, true, true, true, false, false, false] rfl ?_
      refine wh_skip R24 12 rfl (by kernel_rfl) (by kernel_rfl) (by kernel_rfl) hS188 #[true, true, true, true, true, true, true, true, true, true, true, true, true, false, false] rfl ?_
      refine wh_take R24 13 (.bool true) rfl (by kernel_rfl) (by kernel_rfl) (by kernel_rfl) (fun w' M' => (by kernel_rfl)) hS188 #[true, true, true, true, true, true, true, true, true, true, true, true, true, true, false] rfl ?_
      refine wh_take R24 14 (.bool true) rfl (by kernel_rfl) (by kernel_rfl) (by kernel_rfl) (fun w' M' => (by kernel_rfl)) hS188 #[true, true, true, true, true, true, true, true, true, true, true, true, true, true, true] rfl ?_
      refine wh_done (by kernel_rfl) ?_
      refine hK23 _ _ ?_
      try clear hK23 K23
      refine wp_frame (a' := ⟨#[.slice A l.length c, undef, (Go.Value.slice none 0 0), (Go.Value.slice none 0 0), .int .i64 0, .int .i64 ((deC l : Nat) : Int), .int .i64 ((deN l : Nat) : Int), .int .i64 ((deK l : Nat) : Int), .slice (subA A c 10) (l.length - 10) (c - 10), undef, undef, undef, undef, undef, undef, undef, undef, undef, undef, .slice A l.length c, .int .i64 ((l.length : Nat) : Int), .bool false, .slice A l.length c, .pointer (some ⟨b6, o7 + 4 * 1, none⟩), .int .u8 ((l.getD 4 0 : Nat) : Int), .int .i64 ((l.getD 4 0 : Nat) : Int), .slice A l.length c, .pointer (some ⟨b9, o10 + 5 * 1, none⟩), .int .u8 ((l.getD 5 0 : Nat) : Int), .int .i64 ((l.getD 5 0 : Nat) : Int), .int .i64 ((l.getD 5 0 * 65536 : Nat) : Int), .slice A l.length c, .pointer (some ⟨b12, o13 + 6 * 1, none⟩), .int .u8 ((l.getD 6 0 : Nat) : Int), .int .i64 ((l.getD 6 0 : Nat) : Int), .int .i64 ((l.getD 6 0 * 256 : Nat) : Int), .int .i64 ((l.getD 5 0 * 65536 + l.getD 6 0 * 256 : Nat) : Int), .slice A l.length c, .pointer (some ⟨b15, o16 + 7 * 1, none⟩), .int .u8 ((l.getD 7 0 : Nat) : Int), .int .i64 ((l.getD 7 0 : Nat) : Int), .int .i64 ((l.getD 5 0 * 65536 + l.getD 6 0 * 256 + l.getD 7 0 : Nat) : Int), .int .i64 ((deN l : Nat) : Int), .int .i64 (((deN l : Nat) : Int) + 32), .int .i64 ((((deN l : Nat) : Int) + 32) - 1), .int .i64 ((deK l : Nat) : Int), .slice A l.length c, .slice (subA A c 10) (l.length - 10) (c - 10), .bool true, .slice A l.length c, .slice (subA A c 0) (4 - 0) (c - 0), .slice A33 4 cq34, .bool false, .bool true, .bool true, undef, undef, undef, .bool true, .bool true, undef, undef, .bool true, undef, undef, undef, undef, undef, undef, undef, undef, undef, undef, undef, undef, undef, undef, undef, undef, undef, undef, undef, undef, undef, undef, undef, undef, undef, undef, undef, undef, undef, undef, undef, undef, undef, undef, undef, undef, undef, undef, undef, undef, undef, undef, undef, undef, undef, undef, undef, undef, undef, undef, undef, undef, undef, undef, undef, undef, undef, undef, undef, undef, undef, undef, undef, undef, undef, undef, undef, undef, undef, undef, undef, undef, undef, undef, undef, undef], []⟩) (by kernel_rfl) ?_
      refine wp_cond_true (by kernel_rfl) ?_
      refine wp_seq_k (fun K189 hK189 => ?_)
      refine wl_region ?_
      refine st_val ((Go.Value.slice none 0 0)) (by kernel_rfl) (by kernel_rfl) ?_
      refine st_val ((Go.Value.slice none 0 0)) (by kernel_rfl) (by kernel_rfl) ?_
      refine st_val (.int .i64 3) (by kernel_rfl) (by kernel_rfl) ?_
      refine wl_nil ?_
      refine hK189 _ _ ?_
      try clear hK189 K189
      refine wp_ret ?_
      refine blk_ret ?_
      refine th_ret ?_
      have hde : deE l = 3 := (by unfold deE; first | (rw [if_neg (by omega), if_neg (fun h => h hG), if_neg (by rw [hit]; decide), if_pos (by omega)]) | (rw [if_neg (by omega), if_pos (fun hg => by obtain ⟨g1, ⟨g2, g3⟩, g4⟩ := hg; first | exact hne2 g1 | exact hmn ⟨by omega, by omega⟩ | omega)]))
      exact done3 2 3 4 ((Go.Value.slice none 0 0)) ((Go.Value.slice none 0 0)) (.int .i64 3) (by kernel_rfl) (by kernel_rfl) (by kernel_rfl) (by kernel_rfl) (by kernel_rfl) ⟨_, [], rfl, ⟨_, _, [], [], 0, by rw [hde], by rw [(de_bad hde (by decide)).1]; exact OwnP.nil, by rw [(de_bad hde (by decide)).2]; rfl, by rw [(de_bad hde (by decide)).2]; exact Own.nil _ _, rfl⟩, M187.sub (List.nil_sublist _)⟩
end Go.Proofs.Ytmimljaniliecaa
