/- Blocks of sound are coded. -/
import Derived.Test.YtmimljaniliecaaAt
namespace Go.Proofs.Ytmimljaniliecaa
open Go.RowKit Bt

theorem wPutN (w : World) {g : Nat} {l : List Nat} {T : List (Nat × Obj)} (h : OwnW g l T) (M : Mem (fun k => k ∈ T.map (·.1)) w w T) (v n : Nat) (hl : l.length ≤ 1000000000) (hv : v < 4294967296) (hn : n ≤ 32) (hr : v < 2 ^ n) :
    UpdRow Try.prog 45 #[.pointer (some ⟨g, 0, none⟩), .int .u32 (v : Int), .int .i64 (n : Int)] w T (fun r T' => r = .int .i64 0 ∧ OwnW g (l ++ bitsOf v n) T') := by
  have := wPutM w h M v n hl (by omega) (by omega) (by
    rw [Int.toNat_natCast]
    have : ((v : Int) / 2 ^ n) = ((v / 2 ^ n : Nat) : Int) := by rw [Int.natCast_ediv, Int.natCast_pow]; rfl
    rw [this, Nat.div_eq_of_lt hr]
    exact Int.le_refl _)
  simpa using this
theorem two_pos (k : Nat) : 0 < 2 ^ k := Nat.pow_pos (by decide)
theorem blk_lt0 {ls : List (List Int)} (h : BP ls) : ∀ x ∈ [ls.length, (ls.getD 0 []).length] ++ payload (blB ls ls.length), x < 256 := by
  intro x hx
  rcases List.mem_append.1 hx with hx | hx
  · have h1 := h.1.1; have h2 := h.2.2
    simp only [List.mem_cons, List.not_mem_nil, or_false] at hx; omega
  · exact payload_lt _ (blB_bin _ _) x hx
set_option maxHeartbeats 4000000 in
set_option maxRecDepth 100000 in
theorem putB_walk (w : World) (v : Value) (ls : List (List Int)) (As : Nat → Option Addr) (cs : Nat → Nat) (hP : RdP w v ls As cs) (hsp : SP ls) (hl4 : ls.length ≤ 1000000) : MakesRow Try.prog 21 #[v] w (fun v T => ∃ v1 m, v = .tuple #[v1, .int .i64 (pbE ls)] ∧ m = (pbL ls).length ∧ Own 5 1 v1 m (u8s (pbL ls)) T) := by
  unfold MakesRow
  obtain ⟨A, c, rfl, hc⟩ := hP.rd.shape
  have hPk := hP
  refine calls_of_wp Try.func21 rfl ?_
  refine wp_frame (a' := ⟨#[.slice A ls.length c, undef, undef, undef, undef, undef, undef, undef, undef, undef, undef, undef, undef, undef, undef, undef, undef, undef, undef, undef, undef, undef, undef, undef, undef, undef, undef, undef, undef, undef, undef, undef, undef, undef, undef, undef, undef, undef, undef, undef, undef, undef, undef, undef, undef, undef, undef, undef, undef, undef, undef, undef, undef, undef, undef, undef, undef, undef, undef, undef, undef, undef, undef, undef, undef, undef, undef, undef, undef, undef, undef, undef, undef, undef, undef, undef, undef, undef, undef, undef, undef, undef, undef], []⟩) (by kernel_rfl) ?_
  have M0 : Mem NoS w w [] := Mem.start _ _
  refine wp_seq_k (fun K1 hK1 => ?_)
  refine wl_region ?_
  refine st_val ((Go.Value.slice none 0 0)) (by kernel_rfl) (by kernel_rfl) ?_
  refine st_val (.int .i64 0) (by kernel_rfl) (by kernel_rfl) ?_
  refine wl_nil ?_
  refine hK1 _ _ ?_
  try clear hK1 K1
  refine wp_seq_k (fun K2 hK2 => ?_)
  refine wp_seq_k (fun K3 hK3 => ?_)
  refine wl_region ?_
  refine st_val (.slice A ls.length c) (by kernel_rfl) (by kernel_rfl) ?_
  rcases Bool.eq_false_or_eq_true (ppB ls) with hpp | hpp
  ·
    obtain ⟨hp1, hp2, hp3⟩ := ppB_of hpp
    refine st_callB M0 (.bool true) (by kernel_rfl) (args := #[.slice A ls.length c]) (run_value_call 42 #[(Operand.tmp 13)] _ rfl Try.func42 (by kernel_rfl) (by kernel_rfl) _ (by kernel_rfl)) ((by have := proper_walk w (.slice A ls.length c) ls As cs (hP.keep M0.keep (fun _ h => h)) (by omega); rw [hpp] at this; exact this)) ?_
    intro W4 M5
    refine st_val (.bool false) (by kernel_rfl) (by kernel_rfl) ?_
    refine st_val (.bool false) (by kernel_rfl) (by kernel_rfl) ?_
    refine st_val (.slice A ls.length c) (by kernel_rfl) (by kernel_rfl) ?_
    obtain ⟨b6, o7, eA8⟩ := RdK.addr (hP.rd.keep M5.keep (fun _ _ h => h)) (j := 0 * 1) (by rw [pvs_length]; omega)
    refine st_val (.pointer (some ⟨b6, o7 + 0 * 1, none⟩)) (by kernel_rfl) (run_indexSliceA 28 (.tmp 17) _ rfl A ⟨b6, o7, none⟩ eA8 ls.length c .i64 0 (by kernel_rfl) (by kernel_rfl) Try.underlying28 1 (by kernel_rfl) (by omega) ⟨b6, o7 + 0 * 1, none⟩ (addr_atK _ _ _ _)) ?_
    refine st_val (.slice (As 0) ((ls.getD 0 []).length) (cs 0)) (by kernel_rfl) (run_load_cell 39 (.tmp 18) rfl ⟨b6, o7 + 0 * 1, none⟩ (by kernel_rfl) _ ((hP.rd.keep M5.keep (fun _ _ h => h)).cellF eA8 (f := 0) (pvs_get ls As cs 0 (by omega))) (by kernel_rfl)) ?_
    refine st_val (.int .i64 (((ls.getD 0 []).length : Nat) : Int)) (by kernel_rfl) (by kernel_rfl) ?_
    rcases Decidable.em (((((ls.getD 0 []).length : Nat) : Int) : Int) < 1) with c21 | c21
    ·
      refine st_val (.bool true) (by kernel_rfl) (bool_of (dec_t c21) (by kernel_rfl)) ?_
      refine st_val (.bool true) (by kernel_rfl) (by kernel_rfl) ?_
      refine st_val (.bool true) (by kernel_rfl) (by kernel_rfl) ?_
      refine st_skip (by kernel_rfl) ?_
      refine st_skip (by kernel_rfl) ?_
      refine st_skip (by kernel_rfl) ?_
      refine st_skip (by kernel_rfl) ?_
      refine st_skip (by kernel_rfl) ?_
      refine st_val (.bool true) (by kernel_rfl) (by kernel_rfl) ?_
      refine wl_nil ?_
      refine hK3 _ _ ?_
      try clear hK3 K3
      refine wp_frame (a' := ⟨#[.slice A ls.length c, undef, (Go.Value.slice none 0 0), .int .i64 0, undef, undef, undef, undef, undef, undef, undef, undef, undef, .slice A ls.length c, .bool true, .bool false, .bool false, .slice A ls.length c, .pointer (some ⟨b6, o7 + 0 * 1, none⟩), .slice (As 0) ((ls.getD 0 []).length) (cs 0), .int .i64 (((ls.getD 0 []).length : Nat) : Int), .bool true, .bool true, .bool true, undef, undef, undef, undef, undef, .bool true, undef, undef, undef, undef, undef, undef, undef, undef, undef, undef, undef, undef, undef, undef, undef, undef, undef, undef, undef, undef, undef, undef, undef, undef, undef, undef, undef, undef, undef, undef, undef, undef, undef, undef, undef, undef, undef, undef, undef, undef, undef, undef, undef, undef, undef, undef, undef, undef, undef, undef, undef, undef, undef], []⟩) (by kernel_rfl) ?_
      refine wp_cond_true (by kernel_rfl) ?_
      refine wp_seq_k (fun K9 hK9 => ?_)
      refine wl_region ?_
      refine st_val ((Go.Value.slice none 0 0)) (by kernel_rfl) (by kernel_rfl) ?_
      refine st_val (.int .i64 1) (by kernel_rfl) (by kernel_rfl) ?_
      refine wl_nil ?_
      refine hK9 _ _ ?_
      try clear hK9 K9
      refine wp_ret ?_
      refine th_ret ?_
      have hnb : ¬ BP ls := fun h => by first | exact hpn h.1 | (have := h.2.1; have := h.2.2; omega)
      exact done2 2 3 ((Go.Value.slice none 0 0)) (.int .i64 1) (by kernel_rfl) (by kernel_rfl) (by kernel_rfl) (by kernel_rfl) ⟨_, [], rfl, ⟨_, 0, by rw [(pb_f hnb).2], by rw [(pb_f hnb).1]; rfl, by rw [(pb_f hnb).1]; exact Own.nil _ _⟩, M5.sub (List.nil_sublist _)⟩
    ·
      refine st_val (.bool false) (by kernel_rfl) (bool_of (dec_f c21) (by kernel_rfl)) ?_
      refine st_val (.bool false) (by kernel_rfl) (by kernel_rfl) ?_
      refine st_val (.bool false) (by kernel_rfl) (by kernel_rfl) ?_
      refine st_val (.slice A ls.length c) (by kernel_rfl) (by kernel_rfl) ?_
      obtain ⟨b10, o11, eA12⟩ := RdK.addr (hP.rd.keep M5.keep (fun _ _ h => h)) (j := 0 * 1) (by rw [pvs_length]; omega)
      refine st_val (.pointer (some ⟨b10, o11 + 0 * 1, none⟩)) (by kernel_rfl) (run_indexSliceA 28 (.tmp 24) _ rfl A ⟨b10, o11, none⟩ eA12 ls.length c .i64 0 (by kernel_rfl) (by kernel_rfl) Try.underlying28 1 (by kernel_rfl) (by omega) ⟨b10, o11 + 0 * 1, none⟩ (addr_atK _ _ _ _)) ?_
      refine st_val (.slice (As 0) ((ls.getD 0 []).length) (cs 0)) (by kernel_rfl) (run_load_cell 39 (.tmp 25) rfl ⟨b10, o11 + 0 * 1, none⟩ (by kernel_rfl) _ ((hP.rd.keep M5.keep (fun _ _ h => h)).cellF eA12 (f := 0) (pvs_get ls As cs 0 (by omega))) (by kernel_rfl)) ?_
      refine st_val (.int .i64 (((ls.getD 0 []).length : Nat) : Int)) (by kernel_rfl) (by kernel_rfl) ?_
      rcases Decidable.em (((((ls.getD 0 []).length : Nat) : Int) : Int) > 32) with c28 | c28
      ·
        refine st_val (.bool true) (by kernel_rfl) (bool_of (dec_t c28) (by kernel_rfl)) ?_
        refine st_val (.bool true) (by kernel_rfl) (by kernel_rfl) ?_
        refine wl_nil ?_
        refine hK3 _ _ ?_
        try clear hK3 K3
        refine wp_frame (a' := ⟨#[.slice A ls.length c, undef, (Go.Value.slice none 0 0), .int .i64 0, undef, undef, undef, undef, undef, undef, undef, undef, undef, .slice A ls.length c, .bool true, .bool false, .bool false, .slice A ls.length c, .pointer (some ⟨b6, o7 + 0 * 1, none⟩), .slice (As 0) ((ls.getD 0 []).length) (cs 0), .int .i64 (((ls.getD 0 []).length : Nat) : Int), .bool false, .bool false, .bool false, .slice A ls.length c, .pointer (some ⟨b10, o11 + 0 * 1, none⟩), .slice (As 0) ((ls.getD 0 []).length) (cs 0), .int .i64 (((ls.getD 0 []).length : Nat) : Int), .bool true, .bool true, undef, undef, undef, undef, undef, undef, undef, undef, undef, undef, undef, undef, undef, undef, undef, undef, undef, undef, undef, undef, undef, undef, undef, undef, undef, undef, undef, undef, undef, undef, undef, undef, undef, undef, undef, undef, undef, undef, undef, undef, undef, undef, undef, undef, undef, undef, undef, undef, undef, undef, undef, undef, undef], []⟩) (by kernel_rfl) ?_
        refine wp_cond_true (by kernel_rfl) ?_
        refine wp_seq_k (fun K13 hK13 => ?_)
        refine wl_region ?_
        refine st_val ((Go.Value.slice none 0 0)) (by kernel_rfl) (by kernel_rfl) ?_
        refine st_val (.int .i64 1) (by kernel_rfl) (by kernel_rfl) ?_
        refine wl_nil ?_
        refine hK13 _ _ ?_
        try clear hK13 K13
        refine wp_ret ?_
        refine th_ret ?_
        have hnb : ¬ BP ls := fun h => by first | exact hpn h.1 | (have := h.2.1; have := h.2.2; omega)
        exact done2 2 3 ((Go.Value.slice none 0 0)) (.int .i64 1) (by kernel_rfl) (by kernel_rfl) (by kernel_rfl) (by kernel_rfl) ⟨_, [], rfl, ⟨_, 0, by rw [(pb_f hnb).2], by rw [(pb_f hnb).1]; rfl, by rw [(pb_f hnb).1]; exact Own.nil _ _⟩, M5.sub (List.nil_sublist _)⟩
      ·
        refine st_val (.bool false) (by kernel_rfl) (bool_of (dec_f c28) (by kernel_rfl)) ?_
        refine st_val (.bool false) (by kernel_rfl) (by kernel_rfl) ?_
        refine wl_nil ?_
        refine hK3 _ _ ?_
        try clear hK3 K3
        refine wp_frame (a' := ⟨#[.slice A ls.length c, undef, (Go.Value.slice none 0 0), .int .i64 0, undef, undef, undef, undef, undef, undef, undef, undef, undef, .slice A ls.length c, .bool true, .bool false, .bool false, .slice A ls.length c, .pointer (some ⟨b6, o7 + 0 * 1, none⟩), .slice (As 0) ((ls.getD 0 []).length) (cs 0), .int .i64 (((ls.getD 0 []).length : Nat) : Int), .bool false, .bool false, .bool false, .slice A ls.length c, .pointer (some ⟨b10, o11 + 0 * 1, none⟩), .slice (As 0) ((ls.getD 0 []).length) (cs 0), .int .i64 (((ls.getD 0 []).length : Nat) : Int), .bool false, .bool false, undef, undef, undef, undef, undef, undef, undef, undef, undef, undef, undef, undef, undef, undef, undef, undef, undef, undef, undef, undef, undef, undef, undef, undef, undef, undef, undef, undef, undef, undef, undef, undef, undef, undef, undef, undef, undef, undef, undef, undef, undef, undef, undef, undef, undef, undef, undef, undef, undef, undef, undef, undef, undef], []⟩) (by kernel_rfl) ?_
        refine wp_cond_false (by kernel_rfl) ?_
        refine wp_skip ?_
        refine hK2 _ _ ?_
        try clear hK2 K2
        refine wp_seq_k (fun K14 hK14 => ?_)
        refine wl_region ?_
        refine st_callR (A := []) (B := []) M5 (by kernel_rfl) (run_value_call 43 #[] _ rfl Try.func43 (by kernel_rfl) (by kernel_rfl) _ (by kernel_rfl)) (newWriterM W4) ?_
        intro v15 T16 W17 O18 M19
        have M19 : Mem NoS w W17 ((T16 ++ [])) := M19
        obtain ⟨g20, rfl, O21⟩ := O18
        refine st_val (.pointer (some ⟨g20, 0, none⟩)) (by kernel_rfl) (by kernel_rfl) ?_
        refine wl_nil ?_
        refine hK14 _ _ ?_
        try clear hK14 K14
        refine wp_seq_k (fun K22 hK22 => ?_)
        refine wp_seq_k (fun K23 hK23 => ?_)
        refine wl_region ?_
        refine st_val (.slice A ls.length c) (by kernel_rfl) (by kernel_rfl) ?_
        refine st_val (.int .i64 ((ls.length : Nat) : Int)) (by kernel_rfl) (by kernel_rfl) ?_
        refine st_val (.int .i64 0) (by kernel_rfl) (by kernel_rfl) ?_
        refine wl_nil ?_
        refine hK23 _ _ ?_
        try clear hK23 K23
        refine wp_block ?_
        refine wp_loop_ghost (fun gn a' w' => ∃ (i : Nat) (T1 : List (Nat × Obj)) (u24 : Nat → Value), ((i ≤ ls.length ∧ OwnW g20 (blB ls i) T1) ∧ Mem NoS w w' ((T1 ++ []))) ∧ gn = ls.length - i ∧ a' = ⟨#[.slice A ls.length c, undef, (u24 2), (u24 3), .pointer (some ⟨g20, 0, none⟩), undef, (u24 6), (u24 7), (u24 8), (u24 9), (u24 10), (u24 11), undef, .slice A ls.length c, .bool true, .bool false, .bool false, .slice A ls.length c, .pointer (some ⟨b6, o7 + 0 * 1, none⟩), .slice (As 0) ((ls.getD 0 []).length) (cs 0), .int .i64 (((ls.getD 0 []).length : Nat) : Int), .bool false, .bool false, .bool false, .slice A ls.length c, .pointer (some ⟨b10, o11 + 0 * 1, none⟩), .slice (As 0) ((ls.getD 0 []).length) (cs 0), .int .i64 (((ls.getD 0 []).length : Nat) : Int), .bool false, .bool false, .pointer (some ⟨g20, 0, none⟩), .slice A ls.length c, .int .i64 ((ls.length : Nat) : Int), .int .i64 ((i : Nat) : Int), (u24 34), (u24 35), (u24 36), (u24 37), (u24 38), (u24 39), (u24 40), (u24 41), (u24 42), (u24 43), (u24 44), (u24 45), (u24 46), (u24 47), (u24 48), (u24 49), (u24 50), (u24 51), (u24 52), (u24 53), (u24 54), (u24 55), (u24 56), (u24 57), (u24 58), (u24 59), (u24 60), (u24 61), (u24 62), (u24 63), (u24 64), (u24 65), (u24 66), (u24 67), (u24 68), undef, undef, undef, undef, undef, undef, undef, undef, undef, undef, undef, undef, undef, undef], []⟩) _ ⟨0, T16, (fun zz => Array.getD #[.slice A ls.length c, undef, (Go.Value.slice none 0 0), .int .i64 0, .pointer (some ⟨g20, 0, none⟩), undef, undef, undef, undef, undef, undef, undef, undef, .slice A ls.length c, .bool true, .bool false, .bool false, .slice A ls.length c, .pointer (some ⟨b6, o7 + 0 * 1, none⟩), .slice (As 0) ((ls.getD 0 []).length) (cs 0), .int .i64 (((ls.getD 0 []).length : Nat) : Int), .bool false, .bool false, .bool false, .slice A ls.length c, .pointer (some ⟨b10, o11 + 0 * 1, none⟩), .slice (As 0) ((ls.getD 0 []).length) (cs 0), .int .i64 (((ls.getD 0 []).length : Nat) : Int), .bool false, .bool false, .pointer (some ⟨g20, 0, none⟩), .slice A ls.length c, .int .i64 ((ls.length : Nat) : Int), .int .i64 0, undef, undef, undef, undef, undef, undef, undef, undef, undef, undef, undef, undef, undef, undef, undef, undef, undef, undef, undef, undef, undef, undef, undef, undef, undef, undef, undef, undef, undef, undef, undef, undef, undef, undef, undef, undef, undef, undef, undef, undef, undef, undef, undef, undef, undef, undef, undef, undef, undef] zz undef), ⟨⟨by omega, O21⟩, M19⟩, rfl, (by kernel_rfl)⟩ ?_
        rintro gn _ W25 ⟨i, T1, u24, ⟨⟨ri, O1⟩, M26⟩, rfl, rfl⟩
        refine wp_seq_k (fun K27 hK27 => ?_)
        refine wl_region ?_
        rcases Decidable.em ((((i : Nat) : Int) : Int) < ((ls.length : Nat) : Int)) with c34 | c34
        ·
          refine st_val (.bool true) (by kernel_rfl) (bool_of (dec_t c34) (by kernel_rfl)) ?_
          refine wl_nil ?_
          refine hK27 _ _ ?_
          try clear hK27 K27
          refine wp_seq_k (fun K28 hK28 => ?_)
          refine wp_cond_true (by kernel_rfl) ?_
          refine wp_skip ?_
          refine hK28 _ _ ?_
          try clear hK28 K28
          refine wp_seq_k (fun K29 hK29 => ?_)
          refine wp_block ?_
          refine wp_seq_k (fun K30 hK30 => ?_)
          refine wl_region ?_
          obtain ⟨b31, o32, eA33⟩ := RdK.addr (hP.rd.keep M26.keep (fun _ _ h => h)) (j := i * 1) (by rw [pvs_length]; omega)
          refine st_val (.pointer (some ⟨b31, o32 + i * 1, none⟩)) (by kernel_rfl) (run_indexSliceA 28 (.tmp 31) (.tmp 33) rfl A ⟨b31, o32, none⟩ eA33 ls.length c .i64 i (by kernel_rfl) (by kernel_rfl) Try.underlying28 1 (by kernel_rfl) (by omega) ⟨b31, o32 + i * 1, none⟩ (addr_atK _ _ _ _)) ?_
          refine st_val (.slice (As i) ((ls.getD i []).length) (cs i)) (by kernel_rfl) (run_load_cell 39 (.tmp 35) rfl ⟨b31, o32 + i * 1, none⟩ (by kernel_rfl) _ ((hP.rd.keep M26.keep (fun _ _ h => h)).cellF eA33 (f := 0) (pvs_get ls As cs i (by omega))) (by kernel_rfl)) ?_
          refine st_val (.slice (As i) ((ls.getD i []).length) (cs i)) (by kernel_rfl) (by kernel_rfl) ?_
          refine wl_nil ?_
          refine hK30 _ _ ?_
          try clear hK30 K30
          refine wp_seq_k (fun K34 hK34 => ?_)
          have hel := expo_le (ls.getD i [])
          have hli := hp3 i (by omega)
          refine wl_region ?_
          refine st_val (.slice (As i) ((ls.getD i []).length) (cs i)) (by kernel_rfl) (by kernel_rfl) ?_
          refine st_callB M26 (.int .i64 ((expo (ls.getD i []) : Nat) : Int)) (by kernel_rfl) (args := #[.slice (As i) ((ls.getD i []).length) (cs i)]) (run_value_call 44 #[(Operand.tmp 37)] _ rfl Try.func44 (by kernel_rfl) (by kernel_rfl) _ (by kernel_rfl)) (expo_walk W25 (As i) (cs i) (ls.getD i []) (fun h => (hP.ch i (by omega) h).keep M26.keep (fun _ _ h => h)) (hsp i (by omega)) (by omega)) ?_
          intro W35 M36
          refine st_val (.int .i64 ((expo (ls.getD i []) : Nat) : Int)) (by kernel_rfl) (by kernel_rfl) ?_
          refine wl_nil ?_
          refine hK34 _ _ ?_
          try clear hK34 K34
          refine wp_seq_k (fun K37 hK37 => ?_)
          refine wp_seq_k (fun K38 hK38 => ?_)
          refine wl_region ?_
          refine st_val (.pointer (some ⟨g20, 0, none⟩)) (by kernel_rfl) (by kernel_rfl) ?_
          refine st_val (.int .i64 ((expo (ls.getD i []) : Nat) : Int)) (by kernel_rfl) (by kernel_rfl) ?_
          refine st_val (.int .u32 ((expo (ls.getD i []) : Nat) : Int)) (by kernel_rfl) (int_of (wrap_u32 (by omega)) (by kernel_rfl)) ?_
          refine st_callU (A := []) (T := T1) (B := []) M36 (by kernel_rfl) (run_value_call 45 #[(Operand.tmp 39), (Operand.tmp 41), (Operand.const (Value.int IntKind.i64 4))] _ rfl Try.func45 (by kernel_rfl) (by kernel_rfl) _ (by kernel_rfl)) (wPutN W35 O1 (Mem.part (A := []) (T := T1) (B := []) M36) (expo (ls.getD i [])) 4 (by rw [blB_len]; omega) (by omega) (by omega) (by omega)) ?_
          intro v39 T40 W41 O42 M43
          obtain ⟨rfl, O44⟩ := O42
          have M45 : Mem NoS w W41 ((T40 ++ [])) := M43
          refine st_val (.int .i64 0) (by kernel_rfl) (by kernel_rfl) ?_
          refine wl_nil ?_
          refine hK38 _ _ ?_
          try clear hK38 K38
          refine wp_seq_k (fun K46 hK46 => ?_)
          refine wl_region ?_
          refine st_val (.int .i64 0) (by kernel_rfl) (by kernel_rfl) ?_
          refine st_val (.bool false) (by kernel_rfl) (by kernel_rfl) ?_
          refine wl_nil ?_
          refine hK46 _ _ ?_
          try clear hK46 K46
          refine wp_frame (a' := ⟨#[.slice A ls.length c, undef, (u24 2), (u24 3), .pointer (some ⟨g20, 0, none⟩), undef, .slice (As i) ((ls.getD i []).length) (cs i), .int .i64 ((expo (ls.getD i []) : Nat) : Int), .int .i64 0, (u24 9), (u24 10), (u24 11), undef, .slice A ls.length c, .bool true, .bool false, .bool false, .slice A ls.length c, .pointer (some ⟨b6, o7 + 0 * 1, none⟩), .slice (As 0) ((ls.getD 0 []).length) (cs 0), .int .i64 (((ls.getD 0 []).length : Nat) : Int), .bool false, .bool false, .bool false, .slice A ls.length c, .pointer (some ⟨b10, o11 + 0 * 1, none⟩), .slice (As 0) ((ls.getD 0 []).length) (cs 0), .int .i64 (((ls.getD 0 []).length : Nat) : Int), .bool false, .bool false, .pointer (some ⟨g20, 0, none⟩), .slice A ls.length c, .int .i64 ((ls.length : Nat) : Int), .int .i64 ((i : Nat) : Int), .bool true, .pointer (some ⟨b31, o32 + i * 1, none⟩), .slice (As i) ((ls.getD i []).length) (cs i), .slice (As i) ((ls.getD i []).length) (cs i), .int .i64 ((expo (ls.getD i []) : Nat) : Int), .pointer (some ⟨g20, 0, none⟩), .int .i64 ((expo (ls.getD i []) : Nat) : Int), .int .u32 ((expo (ls.getD i []) : Nat) : Int), .int .i64 0, .int .i64 0, .bool false, (u24 45), (u24 46), (u24 47), (u24 48), (u24 49), (u24 50), (u24 51), (u24 52), (u24 53), (u24 54), (u24 55), (u24 56), (u24 57), (u24 58), (u24 59), (u24 60), (u24 61), (u24 62), (u24 63), (u24 64), (u24 65), (u24 66), (u24 67), (u24 68), undef, undef, undef, undef, undef, undef, undef, undef, undef, undef, undef, undef, undef, undef], []⟩) (by kernel_rfl) ?_
          refine wp_cond_false (by kernel_rfl) ?_
          refine wp_skip ?_
          refine hK37 _ _ ?_
          try clear hK37 K37
          refine wp_seq_k (fun K47 hK47 => ?_)
          refine wl_region ?_
          refine st_val (.int .i64 0) (by kernel_rfl) (by kernel_rfl) ?_
          refine wl_nil ?_
          refine hK47 _ _ ?_
          try clear hK47 K47
          refine wp_block ?_
          refine wp_loop_ghost (fun gn a' w' => ∃ (k : Nat) (T2 : List (Nat × Obj)) (u48 : Nat → Value), ((k ≤ 32 ∧ OwnW g20 (blB ls i ++ (bitsOf (expo (ls.getD i [])) 4 ++ chB (expo (ls.getD i [])) (ls.getD i []) k)) T2) ∧ Mem NoS w w' ((T2 ++ []))) ∧ gn = 32 - k ∧ a' = ⟨#[.slice A ls.length c, undef, (u48 2), (u48 3), .pointer (some ⟨g20, 0, none⟩), undef, .slice (As i) ((ls.getD i []).length) (cs i), .int .i64 ((expo (ls.getD i []) : Nat) : Int), .int .i64 0, (u48 9), (u48 10), (u48 11), undef, .slice A ls.length c, .bool true, .bool false, .bool false, .slice A ls.length c, .pointer (some ⟨b6, o7 + 0 * 1, none⟩), .slice (As 0) ((ls.getD 0 []).length) (cs 0), .int .i64 (((ls.getD 0 []).length : Nat) : Int), .bool false, .bool false, .bool false, .slice A ls.length c, .pointer (some ⟨b10, o11 + 0 * 1, none⟩), .slice (As 0) ((ls.getD 0 []).length) (cs 0), .int .i64 (((ls.getD 0 []).length : Nat) : Int), .bool false, .bool false, .pointer (some ⟨g20, 0, none⟩), .slice A ls.length c, .int .i64 ((ls.length : Nat) : Int), .int .i64 ((i : Nat) : Int), .bool true, .pointer (some ⟨b31, o32 + i * 1, none⟩), .slice (As i) ((ls.getD i []).length) (cs i), .slice (As i) ((ls.getD i []).length) (cs i), .int .i64 ((expo (ls.getD i []) : Nat) : Int), .pointer (some ⟨g20, 0, none⟩), .int .i64 ((expo (ls.getD i []) : Nat) : Int), .int .u32 ((expo (ls.getD i []) : Nat) : Int), .int .i64 0, .int .i64 0, .bool false, (u24 45), .int .i64 ((k : Nat) : Int), (u48 47), (u48 48), (u48 49), (u48 50), (u48 51), (u48 52), (u48 53), (u48 54), (u48 55), (u48 56), (u48 57), (u48 58), (u48 59), (u48 60), (u48 61), (u48 62), (u48 63), (u48 64), (u48 65), (u48 66), (u48 67), (u24 68), undef, undef, undef, undef, undef, undef, undef, undef, undef, undef, undef, undef, undef, undef], []⟩) _ ⟨0, T40, (fun zz => Array.getD #[.slice A ls.length c, undef, (u24 2), (u24 3), .pointer (some ⟨g20, 0, none⟩), undef, .slice (As i) ((ls.getD i []).length) (cs i), .int .i64 ((expo (ls.getD i []) : Nat) : Int), .int .i64 0, (u24 9), (u24 10), (u24 11), undef, .slice A ls.length c, .bool true, .bool false, .bool false, .slice A ls.length c, .pointer (some ⟨b6, o7 + 0 * 1, none⟩), .slice (As 0) ((ls.getD 0 []).length) (cs 0), .int .i64 (((ls.getD 0 []).length : Nat) : Int), .bool false, .bool false, .bool false, .slice A ls.length c, .pointer (some ⟨b10, o11 + 0 * 1, none⟩), .slice (As 0) ((ls.getD 0 []).length) (cs 0), .int .i64 (((ls.getD 0 []).length : Nat) : Int), .bool false, .bool false, .pointer (some ⟨g20, 0, none⟩), .slice A ls.length c, .int .i64 ((ls.length : Nat) : Int), .int .i64 ((i : Nat) : Int), .bool true, .pointer (some ⟨b31, o32 + i * 1, none⟩), .slice (As i) ((ls.getD i []).length) (cs i), .slice (As i) ((ls.getD i []).length) (cs i), .int .i64 ((expo (ls.getD i []) : Nat) : Int), .pointer (some ⟨g20, 0, none⟩), .int .i64 ((expo (ls.getD i []) : Nat) : Int), .int .u32 ((expo (ls.getD i []) : Nat) : Int), .int .i64 0, .int .i64 0, .bool false, (u24 45), .int .i64 0, (u24 47), (u24 48), (u24 49), (u24 50), (u24 51), (u24 52), (u24 53), (u24 54), (u24 55), (u24 56), (u24 57), (u24 58), (u24 59), (u24 60), (u24 61), (u24 62), (u24 63), (u24 64), (u24 65), (u24 66), (u24 67), (u24 68), undef, undef, undef, undef, undef, undef, undef, undef, undef, undef, undef, undef, undef, undef] zz undef), ⟨⟨by omega, by show OwnW _ (blB ls i ++ (bitsOf (expo (ls.getD i [])) 4 ++ [])) _; rw [List.append_nil]; exact O44⟩, M45⟩, rfl, (by kernel_rfl)⟩ ?_
          rintro gn _ W49 ⟨k, T2, u48, ⟨⟨rk, O2⟩, M50⟩, rfl, rfl⟩
          refine wp_seq_k (fun K51 hK51 => ?_)
          refine wl_region ?_
          rcases Decidable.em ((((k : Nat) : Int) : Int) < 32) with c47 | c47
          ·
            refine st_val (.bool true) (by kernel_rfl) (bool_of (dec_t c47) (by kernel_rfl)) ?_
            refine wl_nil ?_
            refine hK51 _ _ ?_
            try clear hK51 K51
            refine wp_seq_k (fun K52 hK52 => ?_)
            refine wp_cond_true (by kernel_rfl) ?_
            refine wp_skip ?_
            refine hK52 _ _ ?_
            try clear hK52 K52
            refine wp_seq_k (fun K53 hK53 => ?_)
            refine wp_block ?_
            refine wp_seq_k (fun K54 hK54 => ?_)
            refine wl_region ?_
            refine st_val (.int .i64 ((k : Nat) : Int)) (by kernel_rfl) (by kernel_rfl) ?_
            refine st_val (.int .i64 ((k : Nat) : Int)) (by kernel_rfl) (by kernel_rfl) ?_
            refine wl_nil ?_
            refine hK54 _ _ ?_
            try clear hK54 K54
            refine wp_seq_k (fun K55 hK55 => ?_)
            refine wl_region ?_
            refine st_val (.int .u32 0) (by kernel_rfl) (by kernel_rfl) ?_
            refine wl_nil ?_
            refine hK55 _ _ ?_
            try clear hK55 K55
            refine wp_seq_k (fun K56 hK56 => ?_)
            refine wp_seq_k (fun K57 hK57 => ?_)
            refine wl_region ?_
            refine st_val (.int .i64 ((k : Nat) : Int)) (by kernel_rfl) (by kernel_rfl) ?_
            refine st_val (.slice (As i) ((ls.getD i []).length) (cs i)) (by kernel_rfl) (by kernel_rfl) ?_
            refine st_val (.int .i64 (((ls.getD i []).length : Nat) : Int)) (by kernel_rfl) (by kernel_rfl) ?_
            rcases Decidable.em ((((k : Nat) : Int) : Int) < (((ls.getD i []).length : Nat) : Int)) with c52 | c52
            ·
              refine st_val (.bool true) (by kernel_rfl) (bool_of (dec_t c52) (by kernel_rfl)) ?_
              refine wl_nil ?_
              refine hK57 _ _ ?_
              try clear hK57 K57
              refine wp_cond_true (by kernel_rfl) ?_
              refine wl_region ?_
              refine st_val (.slice (As i) ((ls.getD i []).length) (cs i)) (by kernel_rfl) (by kernel_rfl) ?_
              refine st_val (.int .i64 ((k : Nat) : Int)) (by kernel_rfl) (by kernel_rfl) ?_
              obtain ⟨b58, o59, eA60⟩ := RdK.addr ((hP.ch i (by omega) (by omega)).keep M50.keep (fun _ _ h => h)) (j := k * 1) (by rw [i16s_length]; omega)
              refine st_val (.pointer (some ⟨b58, o59 + k * 1, none⟩)) (by kernel_rfl) (run_indexSliceA 39 (.tmp 53) (.tmp 54) rfl (As i) ⟨b58, o59, none⟩ eA60 ((ls.getD i []).length) (cs i) .i64 k (by kernel_rfl) (by kernel_rfl) Try.underlying39 1 (by kernel_rfl) (by omega) ⟨b58, o59 + k * 1, none⟩ (addr_atK _ _ _ _)) ?_
              refine st_val (.int .i16 ((ls.getD i []).getD k 0)) (by kernel_rfl) (run_load_cell 45 (.tmp 55) rfl ⟨b58, o59 + k * 1, none⟩ (by kernel_rfl) _ (((hP.ch i (by omega) (by omega)).keep M50.keep (fun _ _ h => h)).cellF eA60 (f := 0) (i16s_get (ls.getD i []) k (by omega))) (by kernel_rfl)) ?_
              refine st_val (.int .i64 ((expo (ls.getD i []) : Nat) : Int)) (by kernel_rfl) (by kernel_rfl) ?_
              refine st_val (.int .i16 (((ls.getD i []).getD k 0) / 2 ^ (expo (ls.getD i [])))) (by kernel_rfl) (int_of (show ((ls.getD i []).getD k 0) / 2 ^ (expo (ls.getD i [])) = ((ls.getD i []).getD k 0) / 2 ^ (expo (ls.getD i [])) from rfl) (run_value_bin .shr 45 3 (.tmp 56) (.tmp 57) rfl (.int .i16 ((ls.getD i []).getD k 0)) (.int .i64 ((expo (ls.getD i []) : Nat) : Int)) _ (by kernel_rfl) (by kernel_rfl) (by kernel_rfl) (bin_shr (n := (expo (ls.getD i []))) (by show _ ≤ 16; omega)))) ?_
              refine st_val (.int .u32 (((ls.getD i []).getD k 0) / 2 ^ (expo (ls.getD i [])) % 4294967296)) (by kernel_rfl) (int_of (IntKind.wrap_u32' _) (by kernel_rfl)) ?_
              refine st_val (.int .u32 ((mOf (expo (ls.getD i [])) ((ls.getD i []).getD k 0) : Nat) : Int)) (by kernel_rfl) (run_value_bin .and 60 60 (.tmp 59) _ rfl (.int .u32 (((ls.getD i []).getD k 0) / 2 ^ (expo (ls.getD i [])) % 4294967296)) (.int .u32 511) _ (by kernel_rfl) (by kernel_rfl) (by kernel_rfl) (bin_bits (by simp) (show bits .and .u32 (((ls.getD i []).getD k 0) / 2 ^ (expo (ls.getD i [])) % 4294967296) 511 = ((mOf (expo (ls.getD i [])) ((ls.getD i []).getD k 0) : Nat) : Int) from (by rw [u32_and511, mOf_eq])))) ?_
              refine st_val (.int .u32 ((mOf (expo (ls.getD i [])) ((ls.getD i []).getD k 0) : Nat) : Int)) (by kernel_rfl) (by kernel_rfl) ?_
              refine wl_nil ?_
              refine hK56 _ _ ?_
              try clear hK56 K56
              refine wp_frame (a' := ⟨#[.slice A ls.length c, undef, (u48 2), (u48 3), .pointer (some ⟨g20, 0, none⟩), undef, .slice (As i) ((ls.getD i []).length) (cs i), .int .i64 ((expo (ls.getD i []) : Nat) : Int), .int .i64 0, .int .i64 ((k : Nat) : Int), .int .u32 ((mOf (expo (ls.getD i [])) ((ls.getD i []).getD k 0) : Nat) : Int), (u48 11), undef, .slice A ls.length c, .bool true, .bool false, .bool false, .slice A ls.length c, .pointer (some ⟨b6, o7 + 0 * 1, none⟩), .slice (As 0) ((ls.getD 0 []).length) (cs 0), .int .i64 (((ls.getD 0 []).length : Nat) : Int), .bool false, .bool false, .bool false, .slice A ls.length c, .pointer (some ⟨b10, o11 + 0 * 1, none⟩), .slice (As 0) ((ls.getD 0 []).length) (cs 0), .int .i64 (((ls.getD 0 []).length : Nat) : Int), .bool false, .bool false, .pointer (some ⟨g20, 0, none⟩), .slice A ls.length c, .int .i64 ((ls.length : Nat) : Int), .int .i64 ((i : Nat) : Int), .bool true, .pointer (some ⟨b31, o32 + i * 1, none⟩), .slice (As i) ((ls.getD i []).length) (cs i), .slice (As i) ((ls.getD i []).length) (cs i), .int .i64 ((expo (ls.getD i []) : Nat) : Int), .pointer (some ⟨g20, 0, none⟩), .int .i64 ((expo (ls.getD i []) : Nat) : Int), .int .u32 ((expo (ls.getD i []) : Nat) : Int), .int .i64 0, .int .i64 0, .bool false, (u24 45), .int .i64 ((k : Nat) : Int), .bool true, .int .i64 ((k : Nat) : Int), .int .i64 ((k : Nat) : Int), .slice (As i) ((ls.getD i []).length) (cs i), .int .i64 (((ls.getD i []).length : Nat) : Int), .bool true, .slice (As i) ((ls.getD i []).length) (cs i), .int .i64 ((k : Nat) : Int), .pointer (some ⟨b58, o59 + k * 1, none⟩), .int .i16 ((ls.getD i []).getD k 0), .int .i64 ((expo (ls.getD i []) : Nat) : Int), .int .i16 (((ls.getD i []).getD k 0) / 2 ^ (expo (ls.getD i []))), .int .u32 (((ls.getD i []).getD k 0) / 2 ^ (expo (ls.getD i [])) % 4294967296), .int .u32 ((mOf (expo (ls.getD i [])) ((ls.getD i []).getD k 0) : Nat) : Int), (u48 61), (u48 62), (u48 63), (u48 64), (u48 65), (u48 66), (u48 67), (u24 68), undef, undef, undef, undef, undef, undef, undef, undef, undef, undef, undef, undef, undef, undef], []⟩) (by kernel_rfl) ?_
              refine wp_seq_k (fun K61 hK61 => ?_)
              have hml := mOf_lt (expo (ls.getD i [])) ((ls.getD i []).getD k 0)
              refine wl_region ?_
              refine st_val (.pointer (some ⟨g20, 0, none⟩)) (by kernel_rfl) (by kernel_rfl) ?_
              refine st_val (.int .u32 ((mOf (expo (ls.getD i [])) ((ls.getD i []).getD k 0) : Nat) : Int)) (by kernel_rfl) (by kernel_rfl) ?_
              refine st_callU (A := []) (T := T2) (B := []) M50 (by kernel_rfl) (run_value_call 45 #[(Operand.tmp 61), (Operand.tmp 62), (Operand.const (Value.int IntKind.i64 9))] _ rfl Try.func45 (by kernel_rfl) (by kernel_rfl) _ (by kernel_rfl)) (wPutN W49 O2 (Mem.part (A := []) (T := T2) (B := []) M50) (mOf (expo (ls.getD i [])) ((ls.getD i []).getD k 0)) 9 (by rw [List.length_append, List.length_append, blB_len, bitsOf_length, chB_len]; omega) (by omega) (by omega) (by omega)) ?_
              intro v62 T63 W64 O65 M66
              obtain ⟨rfl, O67⟩ := O65
              have M68 : Mem NoS w W64 ((T63 ++ [])) := M66
              refine st_val (.int .i64 0) (by kernel_rfl) (by kernel_rfl) ?_
              refine wl_nil ?_
              refine hK61 _ _ ?_
              try clear hK61 K61
              refine wp_seq_k (fun K69 hK69 => ?_)
              refine wl_region ?_
              refine st_val (.int .i64 0) (by kernel_rfl) (by kernel_rfl) ?_
              refine st_val (.bool false) (by kernel_rfl) (by kernel_rfl) ?_
              refine wl_nil ?_
              refine hK69 _ _ ?_
              try clear hK69 K69
              refine wp_cond_false (by kernel_rfl) ?_
              refine wp_skip ?_
              refine blk_normal ?_
              refine hK53 _ _ ?_
              try clear hK53 K53
              refine wl_region ?_
              refine st_val (.int .i64 (((k : Nat) : Int) + 1)) (by kernel_rfl) (i64_of (by omega) (by kernel_rfl)) ?_
              refine st_val (.int .i64 (((k : Nat) : Int) + 1)) (by kernel_rfl) (by kernel_rfl) ?_
              refine wl_nil ?_
              refine th_normal ?_
              have hO4 := O67
              exact ⟨_, by omega, (k + 1), T63, (fun zz => Array.getD #[.slice A ls.length c, undef, (u48 2), (u48 3), .pointer (some ⟨g20, 0, none⟩), undef, .slice (As i) ((ls.getD i []).length) (cs i), .int .i64 ((expo (ls.getD i []) : Nat) : Int), .int .i64 0, .int .i64 ((k : Nat) : Int), .int .u32 ((mOf (expo (ls.getD i [])) ((ls.getD i []).getD k 0) : Nat) : Int), .int .i64 0, undef, .slice A ls.length c, .bool true, .bool false, .bool false, .slice A ls.length c, .pointer (some ⟨b6, o7 + 0 * 1, none⟩), .slice (As 0) ((ls.getD 0 []).length) (cs 0), .int .i64 (((ls.getD 0 []).length : Nat) : Int), .bool false, .bool false, .bool false, .slice A ls.length c, .pointer (some ⟨b10, o11 + 0 * 1, none⟩), .slice (As 0) ((ls.getD 0 []).length) (cs 0), .int .i64 (((ls.getD 0 []).length : Nat) : Int), .bool false, .bool false, .pointer (some ⟨g20, 0, none⟩), .slice A ls.length c, .int .i64 ((ls.length : Nat) : Int), .int .i64 ((i : Nat) : Int), .bool true, .pointer (some ⟨b31, o32 + i * 1, none⟩), .slice (As i) ((ls.getD i []).length) (cs i), .slice (As i) ((ls.getD i []).length) (cs i), .int .i64 ((expo (ls.getD i []) : Nat) : Int), .pointer (some ⟨g20, 0, none⟩), .int .i64 ((expo (ls.getD i []) : Nat) : Int), .int .u32 ((expo (ls.getD i []) : Nat) : Int), .int .i64 0, .int .i64 0, .bool false, (u24 45), .int .i64 (((k : Nat) : Int) + 1), .bool true, .int .i64 ((k : Nat) : Int), .int .i64 ((k : Nat) : Int), .slice (As i) ((ls.getD i []).length) (cs i), .int .i64 (((ls.getD i []).length : Nat) : Int), .bool true, .slice (As i) ((ls.getD i []).length) (cs i), .int .i64 ((k : Nat) : Int), .pointer (some ⟨b58, o59 + k * 1, none⟩), .int .i16 ((ls.getD i []).getD k 0), .int .i64 ((expo (ls.getD i []) : Nat) : Int), .int .i16 (((ls.getD i []).getD k 0) / 2 ^ (expo (ls.getD i []))), .int .u32 (((ls.getD i []).getD k 0) / 2 ^ (expo (ls.getD i [])) % 4294967296), .int .u32 ((mOf (expo (ls.getD i [])) ((ls.getD i []).getD k 0) : Nat) : Int), .pointer (some ⟨g20, 0, none⟩), .int .u32 ((mOf (expo (ls.getD i [])) ((ls.getD i []).getD k 0) : Nat) : Int), .int .i64 0, .int .i64 0, .bool false, (u48 66), .int .i64 (((k : Nat) : Int) + 1), (u24 68), undef, undef, undef, undef, undef, undef, undef, undef, undef, undef, undef, undef, undef, undef] zz undef), ⟨⟨by omega, by show OwnW _ (blB ls i ++ (bitsOf (expo (ls.getD i [])) 4 ++ (chB (expo (ls.getD i [])) (ls.getD i []) k ++ bitsOf (mOf (expo (ls.getD i [])) ((ls.getD i []).getD k 0)) 9))) _; rw [← List.append_assoc (bitsOf (expo (ls.getD i [])) 4), ← List.append_assoc]; exact hO4⟩, M68⟩, rfl, (by kernel_rfl)⟩
            ·
              refine st_val (.bool false) (by kernel_rfl) (bool_of (dec_f c52) (by kernel_rfl)) ?_
              refine wl_nil ?_
              refine hK57 _ _ ?_
              try clear hK57 K57
              refine wp_cond_false (by kernel_rfl) ?_
              refine wp_skip ?_
              refine hK56 _ _ ?_
              try clear hK56 K56
              refine wp_seq_k (fun K70 hK70 => ?_)
              have hml := mOf_lt (expo (ls.getD i [])) ((ls.getD i []).getD k 0)
              refine wl_region ?_
              refine st_val (.pointer (some ⟨g20, 0, none⟩)) (by kernel_rfl) (by kernel_rfl) ?_
              refine st_val (.int .u32 0) (by kernel_rfl) (by kernel_rfl) ?_
              refine st_callU (A := []) (T := T2) (B := []) M50 (by kernel_rfl) (run_value_call 45 #[(Operand.tmp 61), (Operand.tmp 62), (Operand.const (Value.int IntKind.i64 9))] _ rfl Try.func45 (by kernel_rfl) (by kernel_rfl) _ (by kernel_rfl)) (wPutN W49 O2 (Mem.part (A := []) (T := T2) (B := []) M50) 0 9 (by rw [List.length_append, List.length_append, blB_len, bitsOf_length, chB_len]; omega) (by omega) (by omega) (by omega)) ?_
              intro v71 T72 W73 O74 M75
              obtain ⟨rfl, O76⟩ := O74
              have M77 : Mem NoS w W73 ((T72 ++ [])) := M75
              refine st_val (.int .i64 0) (by kernel_rfl) (by kernel_rfl) ?_
              refine wl_nil ?_
              refine hK70 _ _ ?_
              try clear hK70 K70
              refine wp_seq_k (fun K78 hK78 => ?_)
              refine wl_region ?_
              refine st_val (.int .i64 0) (by kernel_rfl) (by kernel_rfl) ?_
              refine st_val (.bool false) (by kernel_rfl) (by kernel_rfl) ?_
              refine wl_nil ?_
              refine hK78 _ _ ?_
              try clear hK78 K78
              refine wp_frame (a' := ⟨#[.slice A ls.length c, undef, (u48 2), (u48 3), .pointer (some ⟨g20, 0, none⟩), undef, .slice (As i) ((ls.getD i []).length) (cs i), .int .i64 ((expo (ls.getD i []) : Nat) : Int), .int .i64 0, .int .i64 ((k : Nat) : Int), .int .u32 0, .int .i64 0, undef, .slice A ls.length c, .bool true, .bool false, .bool false, .slice A ls.length c, .pointer (some ⟨b6, o7 + 0 * 1, none⟩), .slice (As 0) ((ls.getD 0 []).length) (cs 0), .int .i64 (((ls.getD 0 []).length : Nat) : Int), .bool false, .bool false, .bool false, .slice A ls.length c, .pointer (some ⟨b10, o11 + 0 * 1, none⟩), .slice (As 0) ((ls.getD 0 []).length) (cs 0), .int .i64 (((ls.getD 0 []).length : Nat) : Int), .bool false, .bool false, .pointer (some ⟨g20, 0, none⟩), .slice A ls.length c, .int .i64 ((ls.length : Nat) : Int), .int .i64 ((i : Nat) : Int), .bool true, .pointer (some ⟨b31, o32 + i * 1, none⟩), .slice (As i) ((ls.getD i []).length) (cs i), .slice (As i) ((ls.getD i []).length) (cs i), .int .i64 ((expo (ls.getD i []) : Nat) : Int), .pointer (some ⟨g20, 0, none⟩), .int .i64 ((expo (ls.getD i []) : Nat) : Int), .int .u32 ((expo (ls.getD i []) : Nat) : Int), .int .i64 0, .int .i64 0, .bool false, (u24 45), .int .i64 ((k : Nat) : Int), .bool true, .int .i64 ((k : Nat) : Int), .int .i64 ((k : Nat) : Int), .slice (As i) ((ls.getD i []).length) (cs i), .int .i64 (((ls.getD i []).length : Nat) : Int), .bool false, (u48 53), (u48 54), (u48 55), (u48 56), (u48 57), (u48 58), (u48 59), (u48 60), .pointer (some ⟨g20, 0, none⟩), .int .u32 0, .int .i64 0, .int .i64 0, .bool false, (u48 66), (u48 67), (u24 68), undef, undef, undef, undef, undef, undef, undef, undef, undef, undef, undef, undef, undef, undef], []⟩) (by kernel_rfl) ?_
              refine wp_cond_false (by kernel_rfl) ?_
              refine wp_skip ?_
              refine blk_normal ?_
              refine hK53 _ _ ?_
              try clear hK53 K53
              refine wl_region ?_
              refine st_val (.int .i64 (((k : Nat) : Int) + 1)) (by kernel_rfl) (i64_of (by omega) (by kernel_rfl)) ?_
              refine st_val (.int .i64 (((k : Nat) : Int) + 1)) (by kernel_rfl) (by kernel_rfl) ?_
              refine wl_nil ?_
              refine th_normal ?_
              have hO4 := O76
              have hg0 : ((ls.getD i []).getD k 0) = 0 := by rw [List.getD_eq_getElem?_getD, List.getElem?_eq_none (by omega)]; rfl
              have hm0 : mOf (expo (ls.getD i [])) ((ls.getD i []).getD k 0) = 0 := by rw [hg0, mOf_zero]
              rw [← hm0] at hO4
              exact ⟨_, by omega, (k + 1), T72, (fun zz => Array.getD #[.slice A ls.length c, undef, (u48 2), (u48 3), .pointer (some ⟨g20, 0, none⟩), undef, .slice (As i) ((ls.getD i []).length) (cs i), .int .i64 ((expo (ls.getD i []) : Nat) : Int), .int .i64 0, .int .i64 ((k : Nat) : Int), .int .u32 0, .int .i64 0, undef, .slice A ls.length c, .bool true, .bool false, .bool false, .slice A ls.length c, .pointer (some ⟨b6, o7 + 0 * 1, none⟩), .slice (As 0) ((ls.getD 0 []).length) (cs 0), .int .i64 (((ls.getD 0 []).length : Nat) : Int), .bool false, .bool false, .bool false, .slice A ls.length c, .pointer (some ⟨b10, o11 + 0 * 1, none⟩), .slice (As 0) ((ls.getD 0 []).length) (cs 0), .int .i64 (((ls.getD 0 []).length : Nat) : Int), .bool false, .bool false, .pointer (some ⟨g20, 0, none⟩), .slice A ls.length c, .int .i64 ((ls.length : Nat) : Int), .int .i64 ((i : Nat) : Int), .bool true, .pointer (some ⟨b31, o32 + i * 1, none⟩), .slice (As i) ((ls.getD i []).length) (cs i), .slice (As i) ((ls.getD i []).length) (cs i), .int .i64 ((expo (ls.getD i []) : Nat) : Int), .pointer (some ⟨g20, 0, none⟩), .int .i64 ((expo (ls.getD i []) : Nat) : Int), .int .u32 ((expo (ls.getD i []) : Nat) : Int), .int .i64 0, .int .i64 0, .bool false, (u24 45), .int .i64 (((k : Nat) : Int) + 1), .bool true, .int .i64 ((k : Nat) : Int), .int .i64 ((k : Nat) : Int), .slice (As i) ((ls.getD i []).length) (cs i), .int .i64 (((ls.getD i []).length : Nat) : Int), .bool false, (u48 53), (u48 54), (u48 55), (u48 56), (u48 57), (u48 58), (u48 59), (u48 60), .pointer (some ⟨g20, 0, none⟩), .int .u32 0, .int .i64 0, .int .i64 0, .bool false, (u48 66), .int .i64 (((k : Nat) : Int) + 1), (u24 68), undef, undef, undef, undef, undef, undef, undef, undef, undef, undef, undef, undef, undef, undef] zz undef), ⟨⟨by omega, by show OwnW _ (blB ls i ++ (bitsOf (expo (ls.getD i [])) 4 ++ (chB (expo (ls.getD i [])) (ls.getD i []) k ++ bitsOf (mOf (expo (ls.getD i [])) ((ls.getD i []).getD k 0)) 9))) _; rw [← List.append_assoc (bitsOf (expo (ls.getD i [])) 4), ← List.append_assoc]; exact hO4⟩, M77⟩, rfl, (by kernel_rfl)⟩
          ·
            refine st_val (.bool false) (by kernel_rfl) (bool_of (dec_f c47) (by kernel_rfl)) ?_
            refine wl_nil ?_
            refine hK51 _ _ ?_
            try clear hK51 K51
            refine wp_seq_k (fun K79 hK79 => ?_)
            refine wp_cond_false (by kernel_rfl) ?_
            refine wp_exit ?_
            refine th_exit ?_
            refine th_exit ?_
            refine blk_exit ?_
            refine blk_normal ?_
            refine hK29 _ _ ?_
            try clear hK29 K29
            refine wl_region ?_
            refine st_val (.int .i64 (((i : Nat) : Int) + 1)) (by kernel_rfl) (i64_of (by omega) (by kernel_rfl)) ?_
            refine st_val (.int .i64 (((i : Nat) : Int) + 1)) (by kernel_rfl) (by kernel_rfl) ?_
            refine wl_nil ?_
            refine th_normal ?_
            have hk32 : k = 32 := (by omega)
            rw [hk32] at O2
            exact ⟨_, by omega, (i + 1), T2, (fun zz => Array.getD #[.slice A ls.length c, undef, (u48 2), (u48 3), .pointer (some ⟨g20, 0, none⟩), undef, .slice (As i) ((ls.getD i []).length) (cs i), .int .i64 ((expo (ls.getD i []) : Nat) : Int), .int .i64 0, (u48 9), (u48 10), (u48 11), undef, .slice A ls.length c, .bool true, .bool false, .bool false, .slice A ls.length c, .pointer (some ⟨b6, o7 + 0 * 1, none⟩), .slice (As 0) ((ls.getD 0 []).length) (cs 0), .int .i64 (((ls.getD 0 []).length : Nat) : Int), .bool false, .bool false, .bool false, .slice A ls.length c, .pointer (some ⟨b10, o11 + 0 * 1, none⟩), .slice (As 0) ((ls.getD 0 []).length) (cs 0), .int .i64 (((ls.getD 0 []).length : Nat) : Int), .bool false, .bool false, .pointer (some ⟨g20, 0, none⟩), .slice A ls.length c, .int .i64 ((ls.length : Nat) : Int), .int .i64 (((i : Nat) : Int) + 1), .bool true, .pointer (some ⟨b31, o32 + i * 1, none⟩), .slice (As i) ((ls.getD i []).length) (cs i), .slice (As i) ((ls.getD i []).length) (cs i), .int .i64 ((expo (ls.getD i []) : Nat) : Int), .pointer (some ⟨g20, 0, none⟩), .int .i64 ((expo (ls.getD i []) : Nat) : Int), .int .u32 ((expo (ls.getD i []) : Nat) : Int), .int .i64 0, .int .i64 0, .bool false, (u24 45), .int .i64 ((k : Nat) : Int), .bool false, (u48 48), (u48 49), (u48 50), (u48 51), (u48 52), (u48 53), (u48 54), (u48 55), (u48 56), (u48 57), (u48 58), (u48 59), (u48 60), (u48 61), (u48 62), (u48 63), (u48 64), (u48 65), (u48 66), (u48 67), .int .i64 (((i : Nat) : Int) + 1), undef, undef, undef, undef, undef, undef, undef, undef, undef, undef, undef, undef, undef, undef] zz undef), ⟨⟨by omega, O2⟩, M50⟩, rfl, (by kernel_rfl)⟩
        ·
          refine st_val (.bool false) (by kernel_rfl) (bool_of (dec_f c34) (by kernel_rfl)) ?_
          refine wl_nil ?_
          refine hK27 _ _ ?_
          try clear hK27 K27
          refine wp_seq_k (fun K80 hK80 => ?_)
          refine wp_cond_false (by kernel_rfl) ?_
          refine wp_exit ?_
          refine th_exit ?_
          refine th_exit ?_
          refine blk_exit ?_
          refine hK22 _ _ ?_
          try clear hK22 K22
          refine wp_seq_k (fun K81 hK81 => ?_)
          have hi0 : i = ls.length := (by omega)
          rw [hi0] at O1
          refine wl_region ?_
          refine st_val (.slice A ls.length c) (by kernel_rfl) (by kernel_rfl) ?_
          refine st_val (.int .i64 ((ls.length : Nat) : Int)) (by kernel_rfl) (by kernel_rfl) ?_
          refine st_val (.int .u8 ((ls.length : Nat) : Int)) (by kernel_rfl) (int_of (wrap_u8 (by omega)) (by kernel_rfl)) ?_
          refine st_val (.slice A ls.length c) (by kernel_rfl) (by kernel_rfl) ?_
          obtain ⟨b82, o83, eA84⟩ := RdK.addr (hP.rd.keep M26.keep (fun _ _ h => h)) (j := 0 * 1) (by rw [pvs_length]; omega)
          refine st_val (.pointer (some ⟨b82, o83 + 0 * 1, none⟩)) (by kernel_rfl) (run_indexSliceA 28 (.tmp 72) _ rfl A ⟨b82, o83, none⟩ eA84 ls.length c .i64 0 (by kernel_rfl) (by kernel_rfl) Try.underlying28 1 (by kernel_rfl) (by omega) ⟨b82, o83 + 0 * 1, none⟩ (addr_atK _ _ _ _)) ?_
          refine st_val (.slice (As 0) ((ls.getD 0 []).length) (cs 0)) (by kernel_rfl) (run_load_cell 39 (.tmp 73) rfl ⟨b82, o83 + 0 * 1, none⟩ (by kernel_rfl) _ ((hP.rd.keep M26.keep (fun _ _ h => h)).cellF eA84 (f := 0) (pvs_get ls As cs 0 (by omega))) (by kernel_rfl)) ?_
          refine st_val (.int .i64 (((ls.getD 0 []).length : Nat) : Int)) (by kernel_rfl) (by kernel_rfl) ?_
          refine st_val (.int .u8 (((ls.getD 0 []).length : Nat) : Int)) (by kernel_rfl) (int_of (wrap_u8 (by omega)) (by kernel_rfl)) ?_
          refine st_new M26 (.cells #[.int .u8 ((ls.length : Nat) : Int), .int .u8 (((ls.getD 0 []).length : Nat) : Int)] 5 (0, 0)) (fun g => .slice (some ⟨g, 0, none⟩) 2 2) (by kernel_rfl) (by kernel_rfl) ?_
          intro g85 W86 M87
          obtain ⟨T88, e91⟩ : ∃ T, T = [(g85, (.cells #[.int .u8 ((ls.length : Nat) : Int), .int .u8 (((ls.getD 0 []).length : Nat) : Int)] 5 (0, 0) : Obj))] := ⟨_, rfl⟩
          have O89 : Own 5 1 (.slice (some ⟨g85, 0, none⟩) 2 2) 2 (u8s ([ls.length, (ls.getD 0 []).length])) T88 := e91 ▸ own_lit 5 g85 (u8s ([ls.length, (ls.getD 0 []).length])) 2 rfl (by decide)
          have M90 : Mem NoS w W86 ((T88 ++ (T1 ++ []))) := by rw [e91]; exact M87
          refine st_val (.slice (some ⟨g85, 0, none⟩) 2 2) (by kernel_rfl) (by kernel_rfl) ?_
          refine wl_nil ?_
          refine hK81 _ _ ?_
          try clear hK81 K81
          refine wp_seq_k (fun K92 hK92 => ?_)
          have hpl := payload_length (blB ls ls.length)
          have hbl := blB_len ls ls.length
          have hBP : BP ls := ⟨⟨hp1, hp2, hp3⟩, by omega, by omega⟩
          refine wl_region ?_
          refine st_val (.slice (some ⟨g85, 0, none⟩) 2 2) (by kernel_rfl) (by kernel_rfl) ?_
          refine st_val (.pointer (some ⟨g20, 0, none⟩)) (by kernel_rfl) (by kernel_rfl) ?_
          have M93 : Mem NoS w W86 ((T1 ++ (T88 ++ []))) := M90.swap (A := []) (T := T88) (U := T1) (B := [])
          refine st_callR (A := []) (B := (T1 ++ (T88 ++ []))) M93 (by kernel_rfl) (run_value_call 47 #[(Operand.tmp 79)] _ rfl Try.func47 (by kernel_rfl) (by kernel_rfl) _ (by kernel_rfl)) (wPayM W86 O1 (Mem.part (A := []) (T := T1) (B := (T88 ++ [])) M93) (by rw [blB_len]; omega)) ?_
          intro v94 T95 W96 O97 M98
          have M98 : Mem NoS w W96 ((T95 ++ (T1 ++ (T88 ++ [])))) := M98
          obtain ⟨A99, cq100, rfl, hc101⟩ := O97.shape
          have M111 : Mem NoS w W96 ((T88 ++ (T95 ++ (T1 ++ [])))) := Mem.pull (A := []) [T95, T1] T88 [] M98
          obtain ⟨v102, T103, W104, hr105, O106, M107⟩ := append_u8 (A := []) (T := T88) (B := (T95 ++ (T1 ++ []))) M111 22 _ _ _ O89 _ ((payload (blB ls ls.length)).length) (u8s (payload (blB ls ls.length))) (O97.rd (fun p hp => M111.at_ p (List.mem_append_right _ (List.mem_append_left _ hp)))) (by rw [u8s_length]; omega) (u8s_one _) (by omega)
          have M107 : Mem NoS w W104 ((T103 ++ (T95 ++ (T1 ++ [])))) := M107
          obtain ⟨A108, cq109, rfl, hc110⟩ := O106.shape
          rw [← u8s_append] at O106
          refine st_world (.slice A108 (2 + ((payload (blB ls ls.length)).length)) cq109) W104 (by kernel_rfl) (run_append_op (.tmp 78) (.tmp 80) _ rfl (.slice (some ⟨g85, 0, none⟩) 2 2) (.slice A99 ((payload (blB ls ls.length)).length) cq100) _ (by kernel_rfl) (by kernel_rfl) hr105) ?_
          refine st_callU (A := []) (T := T103) (B := (T95 ++ (T1 ++ []))) M107 (by kernel_rfl) (run_value_call 46 #[(Operand.tmp 81)] _ rfl Try.func46 (by kernel_rfl) (by kernel_rfl) _ (by kernel_rfl)) (summed_walk W104 (Mem.part (A := []) (T := T103) (B := (T95 ++ (T1 ++ []))) M107) (.slice A108 (2 + ((payload (blB ls ls.length)).length)) cq109) ([ls.length, (ls.getD 0 []).length] ++ payload (blB ls ls.length)) (2 + ((payload (blB ls ls.length)).length)) O106 (blk_lt0 hBP) (by rw [List.length_append, hpl]; simp; omega)) ?_
          intro v112 T113 W114 O115 M116
          obtain ⟨m117, hm118, O119⟩ := O115
          obtain ⟨A120, cq121, rfl, hc122⟩ := O119.shape
          have M123 : Mem NoS w W114 ((T113 ++ (T95 ++ (T1 ++ [])))) := M116
          refine st_val (.slice A120 m117 cq121) (by kernel_rfl) (by kernel_rfl) ?_
          refine st_val (.int .i64 0) (by kernel_rfl) (by kernel_rfl) ?_
          refine wl_nil ?_
          refine hK92 _ _ ?_
          try clear hK92 K92
          refine wp_frame (a' := ⟨#[.slice A ls.length c, undef, .slice A120 m117 cq121, .int .i64 0, .pointer (some ⟨g20, 0, none⟩), undef, (u24 6), (u24 7), (u24 8), (u24 9), (u24 10), (u24 11), .slice (some ⟨g85, 0, none⟩) 2 2, .slice A ls.length c, .bool true, .bool false, .bool false, .slice A ls.length c, .pointer (some ⟨b6, o7 + 0 * 1, none⟩), .slice (As 0) ((ls.getD 0 []).length) (cs 0), .int .i64 (((ls.getD 0 []).length : Nat) : Int), .bool false, .bool false, .bool false, .slice A ls.length c, .pointer (some ⟨b10, o11 + 0 * 1, none⟩), .slice (As 0) ((ls.getD 0 []).length) (cs 0), .int .i64 (((ls.getD 0 []).length : Nat) : Int), .bool false, .bool false, .pointer (some ⟨g20, 0, none⟩), .slice A ls.length c, .int .i64 ((ls.length : Nat) : Int), .int .i64 ((i : Nat) : Int), .bool false, (u24 35), (u24 36), (u24 37), (u24 38), (u24 39), (u24 40), (u24 41), (u24 42), (u24 43), (u24 44), (u24 45), (u24 46), (u24 47), (u24 48), (u24 49), (u24 50), (u24 51), (u24 52), (u24 53), (u24 54), (u24 55), (u24 56), (u24 57), (u24 58), (u24 59), (u24 60), (u24 61), (u24 62), (u24 63), (u24 64), (u24 65), (u24 66), (u24 67), (u24 68), .slice A ls.length c, .int .i64 ((ls.length : Nat) : Int), .int .u8 ((ls.length : Nat) : Int), .slice A ls.length c, .pointer (some ⟨b82, o83 + 0 * 1, none⟩), .slice (As 0) ((ls.getD 0 []).length) (cs 0), .int .i64 (((ls.getD 0 []).length : Nat) : Int), .int .u8 (((ls.getD 0 []).length : Nat) : Int), .slice (some ⟨g85, 0, none⟩) 2 2, .slice (some ⟨g85, 0, none⟩) 2 2, .pointer (some ⟨g20, 0, none⟩), .slice A99 ((payload (blB ls ls.length)).length) cq100, .slice A108 (2 + ((payload (blB ls ls.length)).length)) cq109, .slice A120 m117 cq121], []⟩) (by kernel_rfl) ?_
          refine wp_ret ?_
          exact done2 2 3 (.slice A120 m117 cq121) (.int .i64 0) (by kernel_rfl) (by kernel_rfl) (by kernel_rfl) (by kernel_rfl) ⟨_, T113, rfl, ⟨_, m117, by rw [(pb_t hBP).2], by rw [(pb_t hBP).1]; unfold blkL; rw [summedB_len]; exact hm118, by rw [(pb_t hBP).1]; exact O119⟩, M123.sub (List.sublist_append_left T113 (T95 ++ (T1 ++ [])))⟩
  ·
    have hpn := ppB_not hpp
    refine st_callB M0 (.bool false) (by kernel_rfl) (args := #[.slice A ls.length c]) (run_value_call 42 #[(Operand.tmp 13)] _ rfl Try.func42 (by kernel_rfl) (by kernel_rfl) _ (by kernel_rfl)) ((by have := proper_walk w (.slice A ls.length c) ls As cs (hP.keep M0.keep (fun _ h => h)) (by omega); rw [hpp] at this; exact this)) ?_
    intro W124 M125
    refine st_val (.bool true) (by kernel_rfl) (by kernel_rfl) ?_
    refine st_val (.bool true) (by kernel_rfl) (by kernel_rfl) ?_
    refine st_skip (by kernel_rfl) ?_
    refine st_skip (by kernel_rfl) ?_
    refine st_skip (by kernel_rfl) ?_
    refine st_skip (by kernel_rfl) ?_
    refine st_skip (by kernel_rfl) ?_
    refine st_val (.bool true) (by kernel_rfl) (by kernel_rfl) ?_
    refine st_val (.bool true) (by kernel_rfl) (by kernel_rfl) ?_
    refine st_skip (by kernel_rfl) ?_
    refine st_skip (by kernel_rfl) ?_
    refine st_skip (by kernel_rfl) ?_
    refine st_skip (by kernel_rfl) ?_
    refine st_skip (by kernel_rfl) ?_
    refine st_val (.bool true) (by kernel_rfl) (by kernel_rfl) ?_
    refine wl_nil ?_
    refine hK3 _ _ ?_
    try clear hK3 K3
    refine wp_frame (a' := ⟨#[.slice A ls.length c, undef, (Go.Value.slice none 0 0), .int .i64 0, undef, undef, undef, undef, undef, undef, undef, undef, undef, .slice A ls.length c, .bool false, .bool true, .bool true, undef, undef, undef, undef, undef, .bool true, .bool true, undef, undef, undef, undef, undef, .bool true, undef, undef, undef, undef, undef, undef, undef, undef, undef, undef, undef, undef, undef, undef, undef, undef, undef, undef, undef, undef, undef, undef, undef, undef, undef, undef, undef, undef, undef, undef, undef, undef, undef, undef, undef, undef, undef, undef, undef, undef, undef, undef, undef, undef, undef, undef, undef, undef, undef, undef, undef, undef, undef], []⟩) (by kernel_rfl) ?_
    refine wp_cond_true (by kernel_rfl) ?_
    refine wp_seq_k (fun K126 hK126 => ?_)
    refine wl_region ?_
    refine st_val ((Go.Value.slice none 0 0)) (by kernel_rfl) (by kernel_rfl) ?_
    refine st_val (.int .i64 1) (by kernel_rfl) (by kernel_rfl) ?_
    refine wl_nil ?_
    refine hK126 _ _ ?_
    try clear hK126 K126
    refine wp_ret ?_
    refine th_ret ?_
    have hnb : ¬ BP ls := fun h => by first | exact hpn h.1 | (have := h.2.1; have := h.2.2; omega)
    exact done2 2 3 ((Go.Value.slice none 0 0)) (.int .i64 1) (by kernel_rfl) (by kernel_rfl) (by kernel_rfl) (by kernel_rfl) ⟨_, [], rfl, ⟨_, 0, by rw [(pb_f hnb).2], by rw [(pb_f hnb).1]; rfl, by rw [(pb_f hnb).1]; exact Own.nil _ _⟩, M125.sub (List.nil_sublist _)⟩
end Go.Proofs.Ytmimljaniliecaa
