/- The walk of VlcBack. -/
import Derived.Test.YtkmnnfmdjgpflaaVa
import Derived.Test.YtkmnnfmdjgpflaaLi
namespace Go.Proofs.Ytkmnnfmdjgpflaa
open Go.RowKit Bt

/-- the code of number i of a list -/
def codeAt (i : Nat) (x : Int) : List Nat := if i % 2 = 0 then codeU x else codeS x
theorem codeAt_le (i : Nat) (x : Int) : (codeAt i x).length ≤ 31 := by unfold codeAt; split; exact codeU_le x; exact codeS_le x
theorem codeAt_bin (i : Nat) (x : Int) : Bin (codeAt i x) := by unfold codeAt; split; exact codeU_bin x; exact codeS_bin x
/-- the codes of the first n numbers -/
def cum (l : List Int) : Nat → List Nat
  | 0 => []
  | n + 1 => cum l n ++ codeAt n (l.getD n 0)
theorem cum_len (l : List Int) (n : Nat) : (cum l n).length ≤ 31 * n := by
  induction n with
  | zero => exact Nat.le_refl _
  | succ n ih => show (cum l n ++ _).length ≤ _; rw [List.length_append]; have := codeAt_le n (l.getD n 0); omega
theorem cum_split (l : List Int) (k : Nat) : ∀ n, k ≤ n → ∃ s, cum l n = cum l k ++ s := by
  intro n h
  obtain ⟨d, rfl⟩ : ∃ d, n = k + d := ⟨n - k, by omega⟩
  clear h
  induction d with
  | zero => exact ⟨[], by rw [List.append_nil]; rfl⟩
  | succ d ih =>
    obtain ⟨s, hs⟩ := ih
    exact ⟨s ++ codeAt (k + d) (l.getD (k + d) 0), by show cum l (k + d) ++ codeAt (k + d) (l.getD (k + d) 0) = _; rw [hs, List.append_assoc]⟩
theorem cum_drop (l : List Int) (k n : Nat) (h : k < n) : ∃ s, (cum l n).drop (cum l k).length = codeAt k (l.getD k 0) ++ s := by
  obtain ⟨s, hs⟩ := cum_split l (k + 1) n h
  refine ⟨s, ?_⟩
  rw [hs]
  show ((cum l k ++ codeAt k (l.getD k 0)) ++ s).drop _ = _
  rw [List.append_assoc, List.drop_left]
theorem cum_next (l : List Int) (k : Nat) : (cum l (k + 1)).length = (cum l k).length + (codeAt k (l.getD k 0)).length := by
  show (cum l k ++ _).length = _; rw [List.length_append]
theorem bitsAt_U {i : Nat} {x : Int} (h : ((i : Nat) : Int) % 2 = 0) : codeAt i x = codeU x := if_pos (by omega)
theorem bitsAt_S {i : Nat} {x : Int} (h : ¬ ((i : Nat) : Int) % 2 = 0) : codeAt i x = codeS x := if_neg (by omega)
theorem errU_dec (x : Int) : decide (errU x = 0) = decide (mayU x) := by
  by_cases h : mayU x
  · rw [errU_t h, decide_eq_true h]; rfl
  · rw [errU_f h, decide_eq_false h]; rfl
theorem errS_dec (x : Int) : decide (errS x = 0) = decide (mayS x) := by
  by_cases h : mayS x
  · rw [errS_t h, decide_eq_true h]; rfl
  · rw [errS_f h, decide_eq_false h]; rfl
theorem bne_self {b c : Bool} (h : b = c) : (!(b == c)) = false := by subst h; cases b <;> rfl
set_option maxHeartbeats 4000000 in
set_option maxRecDepth 100000 in
theorem VlcBack_walk (w : World) (v : Value) (l : List Int) (hr : RdK w v l.length (i64s l)) (hb : ∀ x ∈ l, -9223372036854775808 ≤ x ∧ x ≤ 9223372036854775807) : Calls Try.prog 8 #[v] w fun e w' => e = .returned (.bool true) ∧ Below w.heap.size w w' := by
  obtain ⟨A, c, rfl, hc⟩ := hr.shape
  refine calls_of_wp Try.func8 rfl ?_
  refine wp_frame (a' := ⟨#[.slice A l.length c, undef, undef, undef, undef, undef, undef, undef, undef, undef, undef, undef, undef, undef, undef, undef, undef, undef, undef, undef, undef, undef, undef, undef, undef, undef, undef, undef, undef, undef, undef, undef, undef, undef, undef, undef, undef, undef, undef, undef, undef, undef, undef, undef, undef, undef, undef, undef, undef, undef, undef, undef, undef, undef, undef, undef, undef, undef, undef, undef, undef, undef, undef, undef, undef, undef, undef, undef, undef, undef, undef, undef, undef, undef, undef, undef, undef, undef, undef, undef, undef, undef, undef, undef, undef, undef, undef, undef, undef, undef, undef, undef, undef, undef, undef, undef, undef, undef, undef, undef, undef, undef, undef, undef, undef, undef, undef, undef, undef, undef, undef, undef, undef, undef, undef, undef, undef, undef, undef, undef, undef, undef, undef, undef, undef, undef, undef, undef, undef, undef, undef, undef, undef, undef, undef, undef, undef, undef, undef, undef, undef, undef, undef, undef, undef, undef], []⟩) (by kernel_rfl) ?_
  have M0 : Mem NoS w w [] := Mem.start _ _
  refine wp_seq_k (fun K1 hK1 => ?_)
  refine wl_region ?_
  refine st_val (.bool false) (by kernel_rfl) (by kernel_rfl) ?_
  refine wl_nil ?_
  refine hK1 _ _ ?_
  try clear hK1 K1
  refine wp_seq_k (fun K2 hK2 => ?_)
  refine wp_seq_k (fun K3 hK3 => ?_)
  refine wl_region ?_
  refine st_val (.slice A l.length c) (by kernel_rfl) (by kernel_rfl) ?_
  refine st_val (.int .i64 ((l.length : Nat) : Int)) (by kernel_rfl) (by kernel_rfl) ?_
  rcases Decidable.em ((((l.length : Nat) : Int) : Int) > 200) with c14 | c14
  ·
    refine st_val (.bool true) (by kernel_rfl) (bool_of (dec_t c14) (by kernel_rfl)) ?_
    refine wl_nil ?_
    refine hK3 _ _ ?_
    try clear hK3 K3
    refine wp_cond_true (by kernel_rfl) ?_
    refine wp_seq_k (fun K4 hK4 => ?_)
    refine wl_region ?_
    refine st_val (.bool true) (by kernel_rfl) (by kernel_rfl) ?_
    refine wl_nil ?_
    refine hK4 _ _ ?_
    try clear hK4 K4
    refine wp_ret ?_
    refine th_ret ?_
    exact done1 2 (.bool true) (by kernel_rfl) (by kernel_rfl) (by kernel_rfl) ⟨rfl, M0.toBelow⟩
  ·
    refine st_val (.bool false) (by kernel_rfl) (bool_of (dec_f c14) (by kernel_rfl)) ?_
    refine wl_nil ?_
    refine hK3 _ _ ?_
    try clear hK3 K3
    refine wp_cond_false (by kernel_rfl) ?_
    refine wp_skip ?_
    refine hK2 _ _ ?_
    try clear hK2 K2
    refine wp_seq_k (fun K5 hK5 => ?_)
    refine wl_region ?_
    refine st_callR (A := []) (B := []) M0 (by kernel_rfl) (run_value_call 12 #[] _ rfl Try.func12 (by kernel_rfl) (by kernel_rfl) _ (by kernel_rfl)) (newWriterM w) ?_
    intro v6 T7 W8 O9 M10
    have M10 : Mem NoS w W8 ((T7 ++ [])) := M10
    obtain ⟨g11, rfl, O12⟩ := O9
    refine st_val (.pointer (some ⟨g11, 0, none⟩)) (by kernel_rfl) (by kernel_rfl) ?_
    refine wl_nil ?_
    refine hK5 _ _ ?_
    try clear hK5 K5
    refine wp_seq_k (fun K13 hK13 => ?_)
    refine wl_region ?_
    refine st_val (.int .i64 0) (by kernel_rfl) (by kernel_rfl) ?_
    refine wl_nil ?_
    refine hK13 _ _ ?_
    try clear hK13 K13
    refine wp_seq_k (fun K14 hK14 => ?_)
    refine wp_seq_k (fun K15 hK15 => ?_)
    refine wl_region ?_
    refine st_val (.int .i64 0) (by kernel_rfl) (by kernel_rfl) ?_
    refine wl_nil ?_
    refine hK15 _ _ ?_
    try clear hK15 K15
    refine wp_block ?_
    refine wp_loop_ghost (fun gn a' w' => ∃ (i : Nat) (T1 : List (Nat × Obj)) (n : Int) (u16 : Nat → Value), ((i ≤ l.length ∧ OwnW g11 (cum l i) T1 ∧ n = (cum l i).length) ∧ Mem NoS w w' ((T1 ++ []))) ∧ gn = l.length - i ∧ a' = ⟨#[.slice A l.length c, undef, (u16 2), .pointer (some ⟨g11, 0, none⟩), .int .i64 n, .int .i64 ((i : Nat) : Int), (u16 6), undef, undef, undef, undef, undef, .slice A l.length c, .int .i64 ((l.length : Nat) : Int), .bool false, .pointer (some ⟨g11, 0, none⟩), (u16 16), (u16 17), (u16 18), (u16 19), (u16 20), (u16 21), (u16 22), (u16 23), (u16 24), (u16 25), (u16 26), (u16 27), (u16 28), (u16 29), (u16 30), (u16 31), (u16 32), (u16 33), (u16 34), (u16 35), (u16 36), (u16 37), (u16 38), (u16 39), (u16 40), (u16 41), (u16 42), (u16 43), (u16 44), (u16 45), (u16 46), (u16 47), (u16 48), (u16 49), (u16 50), (u16 51), (u16 52), (u16 53), (u16 54), (u16 55), (u16 56), (u16 57), (u16 58), (u16 59), (u16 60), (u16 61), (u16 62), (u16 63), (u16 64), (u16 65), (u16 66), (u16 67), (u16 68), (u16 69), (u16 70), (u16 71), (u16 72), (u16 73), (u16 74), (u16 75), (u16 76), (u16 77), (u16 78), (u16 79), (u16 80), (u16 81), undef, undef, undef, undef, undef, undef, undef, undef, undef, undef, undef, undef, undef, undef, undef, undef, undef, undef, undef, undef, undef, undef, undef, undef, undef, undef, undef, undef, undef, undef, undef, undef, undef, undef, undef, undef, undef, undef, undef, undef, undef, undef, undef, undef, undef, undef, undef, undef, undef, undef, undef, undef, undef, undef, undef, undef, undef, undef, undef, undef, undef, undef, undef, undef], []⟩) _ ⟨0, T7, 0, (fun zz => Array.getD #[.slice A l.length c, undef, .bool false, .pointer (some ⟨g11, 0, none⟩), .int .i64 0, .int .i64 0, undef, undef, undef, undef, undef, undef, .slice A l.length c, .int .i64 ((l.length : Nat) : Int), .bool false, .pointer (some ⟨g11, 0, none⟩), undef, undef, undef, undef, undef, undef, undef, undef, undef, undef, undef, undef, undef, undef, undef, undef, undef, undef, undef, undef, undef, undef, undef, undef, undef, undef, undef, undef, undef, undef, undef, undef, undef, undef, undef, undef, undef, undef, undef, undef, undef, undef, undef, undef, undef, undef, undef, undef, undef, undef, undef, undef, undef, undef, undef, undef, undef, undef, undef, undef, undef, undef, undef, undef, undef, undef, undef, undef, undef, undef, undef, undef, undef, undef, undef, undef, undef, undef, undef, undef, undef, undef, undef, undef, undef, undef, undef, undef, undef, undef, undef, undef, undef, undef, undef, undef, undef, undef, undef, undef, undef, undef, undef, undef, undef, undef, undef, undef, undef, undef, undef, undef, undef, undef, undef, undef, undef, undef, undef, undef, undef, undef, undef, undef, undef, undef, undef, undef, undef, undef] zz undef), ⟨⟨by omega, O12, rfl⟩, M10⟩, rfl, (by kernel_rfl)⟩ ?_
    rintro gn _ W17 ⟨i, T1, n, u16, ⟨⟨ri, O1, hn⟩, M18⟩, rfl, rfl⟩
    have hcl0 := cum_len l i
    refine wp_seq_k (fun K19 hK19 => ?_)
    refine wp_seq_k (fun K20 hK20 => ?_)
    refine wl_region ?_
    refine st_val (.int .i64 ((i : Nat) : Int)) (by kernel_rfl) (by kernel_rfl) ?_
    refine st_val (.slice A l.length c) (by kernel_rfl) (by kernel_rfl) ?_
    refine st_val (.int .i64 ((l.length : Nat) : Int)) (by kernel_rfl) (by kernel_rfl) ?_
    rcases Decidable.em ((((i : Nat) : Int) : Int) < ((l.length : Nat) : Int)) with c19 | c19
    ·
      refine st_val (.bool true) (by kernel_rfl) (bool_of (dec_t c19) (by kernel_rfl)) ?_
      refine wl_nil ?_
      refine hK20 _ _ ?_
      try clear hK20 K20
      refine wp_cond_true (by kernel_rfl) ?_
      refine wp_skip ?_
      refine hK19 _ _ ?_
      try clear hK19 K19
      refine wp_seq_k (fun K21 hK21 => ?_)
      refine wp_block ?_
      refine wp_seq_k (fun K22 hK22 => ?_)
      refine wl_region ?_
      refine st_val (.int .i64 0) (by kernel_rfl) (by kernel_rfl) ?_
      refine wl_nil ?_
      refine hK22 _ _ ?_
      try clear hK22 K22
      refine wp_seq_k (fun K23 hK23 => ?_)
      refine wp_seq_k (fun K24 hK24 => ?_)
      refine wl_region ?_
      refine st_val (.int .i64 ((i : Nat) : Int)) (by kernel_rfl) (by kernel_rfl) ?_
      refine st_val (.int .i64 (((i : Nat) : Int) % 2)) (by kernel_rfl) (int_of (rem_of ((i : Nat) : Int) 2 (by omega)) (by kernel_rfl)) ?_
      rcases Decidable.em ((((i : Nat) : Int) % 2 : Int) = 0) with c24 | c24
      ·
        refine st_val (.bool true) (by kernel_rfl) (bool_of (dec_t c24) (by kernel_rfl)) ?_
        refine wl_nil ?_
        refine hK24 _ _ ?_
        try clear hK24 K24
        refine wp_cond_true (by kernel_rfl) ?_
        refine wp_seq_k (fun K25 hK25 => ?_)
        refine wl_region ?_
        refine st_val (.pointer (some ⟨g11, 0, none⟩)) (by kernel_rfl) (by kernel_rfl) ?_
        refine st_val (.slice A l.length c) (by kernel_rfl) (by kernel_rfl) ?_
        refine st_val (.int .i64 ((i : Nat) : Int)) (by kernel_rfl) (by kernel_rfl) ?_
        obtain ⟨b26, o27, eA28⟩ := RdK.addr (hr.keep M18.keep (fun _ _ h => h)) (j := i * 1) (by rw [i64s_length]; omega)
        refine st_val (.pointer (some ⟨b26, o27 + i * 1, none⟩)) (by kernel_rfl) (run_indexSliceA 52 (.tmp 26) (.tmp 27) rfl A ⟨b26, o27, none⟩ eA28 l.length c .i64 i (by kernel_rfl) (by kernel_rfl) Try.underlying52 1 (by kernel_rfl) (by omega) ⟨b26, o27 + i * 1, none⟩ (addr_atK _ _ _ _)) ?_
        refine st_val (.int .i64 (l.getD i 0)) (by kernel_rfl) (run_load_cell 3 (.tmp 28) rfl ⟨b26, o27 + i * 1, none⟩ (by kernel_rfl) _ ((hr.keep M18.keep (fun _ _ h => h)).cellF eA28 (f := 0) (i64s_get l i (by omega))) (by kernel_rfl)) ?_
        refine st_callU (A := []) (T := T1) (B := []) M18 (by kernel_rfl) (run_value_call 13 #[(Operand.tmp 25), (Operand.tmp 29)] _ rfl Try.func13 (by kernel_rfl) (by kernel_rfl) _ (by kernel_rfl)) (putU_walk W17 O1 (Mem.part (A := []) (T := T1) (B := []) M18) (by have := cum_len l i; omega) (l.getD i 0) (i64s_rng hb _)) ?_
        intro v29 T30 W31 O32 M33
        obtain ⟨rfl, O34⟩ := O32
        have M35 : Mem NoS w W31 ((T30 ++ [])) := M33
        refine st_val (.int .i64 (errU (l.getD i 0))) (by kernel_rfl) (by kernel_rfl) ?_
        refine wl_nil ?_
        refine hK25 _ _ ?_
        try clear hK25 K25
        refine wp_frame (a' := ⟨#[.slice A l.length c, undef, (u16 2), .pointer (some ⟨g11, 0, none⟩), .int .i64 n, .int .i64 ((i : Nat) : Int), .int .i64 (errU (l.getD i 0)), undef, undef, undef, undef, undef, .slice A l.length c, .int .i64 ((l.length : Nat) : Int), .bool false, .pointer (some ⟨g11, 0, none⟩), .int .i64 ((i : Nat) : Int), .slice A l.length c, .int .i64 ((l.length : Nat) : Int), .bool true, (u16 20), (u16 21), .int .i64 ((i : Nat) : Int), .int .i64 (((i : Nat) : Int) % 2), .bool true, .pointer (some ⟨g11, 0, none⟩), .slice A l.length c, .int .i64 ((i : Nat) : Int), .pointer (some ⟨b26, o27 + i * 1, none⟩), .int .i64 (l.getD i 0), .int .i64 (errU (l.getD i 0)), (u16 31), (u16 32), (u16 33), (u16 34), (u16 35), (u16 36), (u16 37), (u16 38), (u16 39), (u16 40), (u16 41), (u16 42), (u16 43), (u16 44), (u16 45), (u16 46), (u16 47), (u16 48), (u16 49), (u16 50), (u16 51), (u16 52), (u16 53), (u16 54), (u16 55), (u16 56), (u16 57), (u16 58), (u16 59), (u16 60), (u16 61), (u16 62), (u16 63), (u16 64), (u16 65), (u16 66), (u16 67), (u16 68), (u16 69), (u16 70), (u16 71), (u16 72), (u16 73), (u16 74), (u16 75), (u16 76), (u16 77), (u16 78), (u16 79), (u16 80), (u16 81), undef, undef, undef, undef, undef, undef, undef, undef, undef, undef, undef, undef, undef, undef, undef, undef, undef, undef, undef, undef, undef, undef, undef, undef, undef, undef, undef, undef, undef, undef, undef, undef, undef, undef, undef, undef, undef, undef, undef, undef, undef, undef, undef, undef, undef, undef, undef, undef, undef, undef, undef, undef, undef, undef, undef, undef, undef, undef, undef, undef, undef, undef, undef, undef], []⟩) (by kernel_rfl) ?_
        have hbr := bitsU_rng (l.getD i 0)
        refine wl_region ?_
        refine st_val (.int .i64 n) (by kernel_rfl) (by kernel_rfl) ?_
        refine st_val (.slice A l.length c) (by kernel_rfl) (by kernel_rfl) ?_
        refine st_val (.int .i64 ((i : Nat) : Int)) (by kernel_rfl) (by kernel_rfl) ?_
        obtain ⟨b36, o37, eA38⟩ := RdK.addr (hr.keep M35.keep (fun _ _ h => h)) (j := i * 1) (by rw [i64s_length]; omega)
        refine st_val (.pointer (some ⟨b36, o37 + i * 1, none⟩)) (by kernel_rfl) (run_indexSliceA 52 (.tmp 32) (.tmp 33) rfl A ⟨b36, o37, none⟩ eA38 l.length c .i64 i (by kernel_rfl) (by kernel_rfl) Try.underlying52 1 (by kernel_rfl) (by omega) ⟨b36, o37 + i * 1, none⟩ (addr_atK _ _ _ _)) ?_
        refine st_val (.int .i64 (l.getD i 0)) (by kernel_rfl) (run_load_cell 3 (.tmp 34) rfl ⟨b36, o37 + i * 1, none⟩ (by kernel_rfl) _ ((hr.keep M35.keep (fun _ _ h => h)).cellF eA38 (f := 0) (i64s_get l i (by omega))) (by kernel_rfl)) ?_
        refine st_callB M35 (.int .i64 (bitsU (l.getD i 0))) (by kernel_rfl) (args := #[.int .i64 (l.getD i 0)]) (run_value_call 11 #[(Operand.tmp 35)] _ rfl Try.func11 (by kernel_rfl) (by kernel_rfl) _ (by kernel_rfl)) (bits_vlc W31 (l.getD i 0) (i64s_rng hb _)) ?_
        intro W39 M40
        refine st_val (.int .i64 (n + (bitsU (l.getD i 0)))) (by kernel_rfl) (i64_of (by omega) (by kernel_rfl)) ?_
        refine st_val (.int .i64 (n + (bitsU (l.getD i 0)))) (by kernel_rfl) (by kernel_rfl) ?_
        refine wl_nil ?_
        refine hK23 _ _ ?_
        try clear hK23 K23
        refine wp_seq_k (fun K41 hK41 => ?_)
        have hcl := codeU_len (l.getD i 0)
        refine wl_region ?_
        refine st_val (.int .i64 (errU (l.getD i 0))) (by kernel_rfl) (by kernel_rfl) ?_
        refine st_val (.bool (decide ((errU (l.getD i 0) : Int) = 0))) (by kernel_rfl) (by kernel_rfl) ?_
        refine st_val (.int .i64 ((i : Nat) : Int)) (by kernel_rfl) (by kernel_rfl) ?_
        refine st_val (.int .i64 (((i : Nat) : Int) % 2)) (by kernel_rfl) (int_of (rem_of ((i : Nat) : Int) 2 (by omega)) (by kernel_rfl)) ?_
        refine st_val (.bool true) (by kernel_rfl) (bool_of (dec_t (show (((i : Nat) : Int) % 2 : Int) = 0 by omega)) (by kernel_rfl)) ?_
        refine st_val (.bool true) (by kernel_rfl) (by kernel_rfl) ?_
        refine st_val (.slice A l.length c) (by kernel_rfl) (by kernel_rfl) ?_
        refine st_val (.int .i64 ((i : Nat) : Int)) (by kernel_rfl) (by kernel_rfl) ?_
        obtain ⟨b42, o43, eA44⟩ := RdK.addr (hr.keep M40.keep (fun _ _ h => h)) (j := i * 1) (by rw [i64s_length]; omega)
        refine st_val (.pointer (some ⟨b42, o43 + i * 1, none⟩)) (by kernel_rfl) (run_indexSliceA 52 (.tmp 57) (.tmp 58) rfl A ⟨b42, o43, none⟩ eA44 l.length c .i64 i (by kernel_rfl) (by kernel_rfl) Try.underlying52 1 (by kernel_rfl) (by omega) ⟨b42, o43 + i * 1, none⟩ (addr_atK _ _ _ _)) ?_
        refine st_val (.int .i64 (l.getD i 0)) (by kernel_rfl) (run_load_cell 3 (.tmp 59) rfl ⟨b42, o43 + i * 1, none⟩ (by kernel_rfl) _ ((hr.keep M40.keep (fun _ _ h => h)).cellF eA44 (f := 0) (i64s_get l i (by omega))) (by kernel_rfl)) ?_
        rcases Classical.em (mayU (l.getD i 0)) with hm | hm
        ·
          refine st_callB M40 (.bool true) (by kernel_rfl) (args := #[.int .i64 (l.getD i 0)]) (run_value_call 9 #[(Operand.tmp 60)] _ rfl Try.func9 (by kernel_rfl) (by kernel_rfl) _ (by kernel_rfl)) ((by have := may_ref W39 (l.getD i 0); rw [decide_eq_true hm] at this; exact this)) ?_
          intro W45 M46
          refine st_val (.bool true) (by kernel_rfl) (by kernel_rfl) ?_
          refine st_val (.bool true) (by kernel_rfl) (by kernel_rfl) ?_
          refine st_skip (by kernel_rfl) ?_
          refine st_skip (by kernel_rfl) ?_
          refine st_skip (by kernel_rfl) ?_
          refine st_skip (by kernel_rfl) ?_
          refine st_skip (by kernel_rfl) ?_
          refine st_skip (by kernel_rfl) ?_
          refine st_skip (by kernel_rfl) ?_
          refine st_skip (by kernel_rfl) ?_
          refine st_skip (by kernel_rfl) ?_
          refine st_skip (by kernel_rfl) ?_
          refine st_val (.bool true) (by kernel_rfl) (by kernel_rfl) ?_
          refine st_val (.bool false) (by kernel_rfl) (bool_of (show (!(decide (errU (l.getD i 0) = 0) == true)) = false from by rw [errU_dec, decide_eq_true hm]; rfl) (by kernel_rfl)) ?_
          refine st_val (.bool false) (by kernel_rfl) (by kernel_rfl) ?_
          refine st_val (.pointer (some ⟨g11, 0, none⟩)) (by kernel_rfl) (by kernel_rfl) ?_
          refine st_callE (.int .i64 (((cum l i ++ codeU (l.getD i 0)).length : Nat) : Int)) (by kernel_rfl) (args := #[.pointer (some ⟨g11, 0, none⟩)]) (run_value_call 15 #[(Operand.tmp 77)] _ rfl Try.func15 (by kernel_rfl) (by kernel_rfl) _ (by kernel_rfl)) (wLenM W45 O34 (Mem.part (A := []) (T := T30) (B := []) M46)) ?_
          refine st_val (.int .i64 (n + (bitsU (l.getD i 0)))) (by kernel_rfl) (by kernel_rfl) ?_
          refine st_val (.bool false) (by kernel_rfl) (bool_of (neq_f (show ((((cum l i ++ codeU (l.getD i 0)).length : Nat) : Int) : Int) = n + (bitsU (l.getD i 0)) from (by rw [List.length_append]; omega))) (by kernel_rfl)) ?_
          refine st_val (.bool false) (by kernel_rfl) (by kernel_rfl) ?_
          refine wl_nil ?_
          refine hK41 _ _ ?_
          try clear hK41 K41
          refine wp_frame (a' := ⟨#[.slice A l.length c, undef, (u16 2), .pointer (some ⟨g11, 0, none⟩), .int .i64 (n + (bitsU (l.getD i 0))), .int .i64 ((i : Nat) : Int), .int .i64 (errU (l.getD i 0)), undef, undef, undef, undef, undef, .slice A l.length c, .int .i64 ((l.length : Nat) : Int), .bool false, .pointer (some ⟨g11, 0, none⟩), .int .i64 ((i : Nat) : Int), .slice A l.length c, .int .i64 ((l.length : Nat) : Int), .bool true, (u16 20), (u16 21), .int .i64 ((i : Nat) : Int), .int .i64 (((i : Nat) : Int) % 2), .bool true, .pointer (some ⟨g11, 0, none⟩), .slice A l.length c, .int .i64 ((i : Nat) : Int), .pointer (some ⟨b26, o27 + i * 1, none⟩), .int .i64 (l.getD i 0), .int .i64 (errU (l.getD i 0)), .int .i64 n, .slice A l.length c, .int .i64 ((i : Nat) : Int), .pointer (some ⟨b36, o37 + i * 1, none⟩), .int .i64 (l.getD i 0), .int .i64 (bitsU (l.getD i 0)), .int .i64 (n + (bitsU (l.getD i 0))), (u16 38), (u16 39), (u16 40), (u16 41), (u16 42), (u16 43), (u16 44), (u16 45), (u16 46), (u16 47), (u16 48), (u16 49), (u16 50), .int .i64 (errU (l.getD i 0)), .bool (decide ((errU (l.getD i 0) : Int) = 0)), .int .i64 ((i : Nat) : Int), .int .i64 (((i : Nat) : Int) % 2), .bool true, .bool true, .slice A l.length c, .int .i64 ((i : Nat) : Int), .pointer (some ⟨b42, o43 + i * 1, none⟩), .int .i64 (l.getD i 0), .bool true, .bool true, .bool true, undef, undef, undef, undef, undef, undef, undef, undef, undef, undef, .bool true, .bool false, .bool false, .pointer (some ⟨g11, 0, none⟩), .int .i64 (((cum l i ++ codeU (l.getD i 0)).length : Nat) : Int), .int .i64 (n + (bitsU (l.getD i 0))), .bool false, .bool false, undef, undef, undef, undef, undef, undef, undef, undef, undef, undef, undef, undef, undef, undef, undef, undef, undef, undef, undef, undef, undef, undef, undef, undef, undef, undef, undef, undef, undef, undef, undef, undef, undef, undef, undef, undef, undef, undef, undef, undef, undef, undef, undef, undef, undef, undef, undef, undef, undef, undef, undef, undef, undef, undef, undef, undef, undef, undef, undef, undef, undef, undef, undef, undef], []⟩) (by kernel_rfl) ?_
          refine wp_cond_false (by kernel_rfl) ?_
          refine wp_skip ?_
          refine blk_normal ?_
          refine hK21 _ _ ?_
          try clear hK21 K21
          refine wl_region ?_
          refine st_val (.int .i64 ((i : Nat) : Int)) (by kernel_rfl) (by kernel_rfl) ?_
          refine st_val (.int .i64 (((i : Nat) : Int) + 1)) (by kernel_rfl) (i64_of (by omega) (by kernel_rfl)) ?_
          refine st_val (.int .i64 (((i : Nat) : Int) + 1)) (by kernel_rfl) (by kernel_rfl) ?_
          refine wl_nil ?_
          refine th_normal ?_
          exact ⟨_, by omega, (i + 1), T30, (n + (bitsU (l.getD i 0))), (fun zz => Array.getD #[.slice A l.length c, undef, (u16 2), .pointer (some ⟨g11, 0, none⟩), .int .i64 (n + (bitsU (l.getD i 0))), .int .i64 (((i : Nat) : Int) + 1), .int .i64 (errU (l.getD i 0)), undef, undef, undef, undef, undef, .slice A l.length c, .int .i64 ((l.length : Nat) : Int), .bool false, .pointer (some ⟨g11, 0, none⟩), .int .i64 ((i : Nat) : Int), .slice A l.length c, .int .i64 ((l.length : Nat) : Int), .bool true, .int .i64 ((i : Nat) : Int), .int .i64 (((i : Nat) : Int) + 1), .int .i64 ((i : Nat) : Int), .int .i64 (((i : Nat) : Int) % 2), .bool true, .pointer (some ⟨g11, 0, none⟩), .slice A l.length c, .int .i64 ((i : Nat) : Int), .pointer (some ⟨b26, o27 + i * 1, none⟩), .int .i64 (l.getD i 0), .int .i64 (errU (l.getD i 0)), .int .i64 n, .slice A l.length c, .int .i64 ((i : Nat) : Int), .pointer (some ⟨b36, o37 + i * 1, none⟩), .int .i64 (l.getD i 0), .int .i64 (bitsU (l.getD i 0)), .int .i64 (n + (bitsU (l.getD i 0))), (u16 38), (u16 39), (u16 40), (u16 41), (u16 42), (u16 43), (u16 44), (u16 45), (u16 46), (u16 47), (u16 48), (u16 49), (u16 50), .int .i64 (errU (l.getD i 0)), .bool (decide ((errU (l.getD i 0) : Int) = 0)), .int .i64 ((i : Nat) : Int), .int .i64 (((i : Nat) : Int) % 2), .bool true, .bool true, .slice A l.length c, .int .i64 ((i : Nat) : Int), .pointer (some ⟨b42, o43 + i * 1, none⟩), .int .i64 (l.getD i 0), .bool true, .bool true, .bool true, undef, undef, undef, undef, undef, undef, undef, undef, undef, undef, .bool true, .bool false, .bool false, .pointer (some ⟨g11, 0, none⟩), .int .i64 (((cum l i ++ codeU (l.getD i 0)).length : Nat) : Int), .int .i64 (n + (bitsU (l.getD i 0))), .bool false, .bool false, undef, undef, undef, undef, undef, undef, undef, undef, undef, undef, undef, undef, undef, undef, undef, undef, undef, undef, undef, undef, undef, undef, undef, undef, undef, undef, undef, undef, undef, undef, undef, undef, undef, undef, undef, undef, undef, undef, undef, undef, undef, undef, undef, undef, undef, undef, undef, undef, undef, undef, undef, undef, undef, undef, undef, undef, undef, undef, undef, undef, undef, undef, undef, undef] zz undef), ⟨⟨by omega, by show OwnW _ (cum l i ++ codeAt i (l.getD i 0)) _; rw [bitsAt_U c24]; exact O34, by rw [cum_next, bitsAt_U c24]; omega⟩, M46⟩, rfl, (by kernel_rfl)⟩
        ·
          refine st_callB M40 (.bool false) (by kernel_rfl) (args := #[.int .i64 (l.getD i 0)]) (run_value_call 9 #[(Operand.tmp 60)] _ rfl Try.func9 (by kernel_rfl) (by kernel_rfl) _ (by kernel_rfl)) ((by have := may_ref W39 (l.getD i 0); rw [decide_eq_false hm] at this; exact this)) ?_
          intro W47 M48
          refine st_val (.bool false) (by kernel_rfl) (by kernel_rfl) ?_
          refine st_val (.bool false) (by kernel_rfl) (by kernel_rfl) ?_
          refine st_val (.int .i64 ((i : Nat) : Int)) (by kernel_rfl) (by kernel_rfl) ?_
          refine st_val (.int .i64 (((i : Nat) : Int) % 2)) (by kernel_rfl) (int_of (rem_of ((i : Nat) : Int) 2 (by omega)) (by kernel_rfl)) ?_
          refine st_val (.bool false) (by kernel_rfl) (bool_of (dec_f (show ¬ ((((i : Nat) : Int) % 2 : Int) = 1) by omega)) (by kernel_rfl)) ?_
          refine st_val (.bool false) (by kernel_rfl) (by kernel_rfl) ?_
          refine st_skip (by kernel_rfl) ?_
          refine st_skip (by kernel_rfl) ?_
          refine st_skip (by kernel_rfl) ?_
          refine st_skip (by kernel_rfl) ?_
          refine st_skip (by kernel_rfl) ?_
          refine st_val (.bool false) (by kernel_rfl) (by kernel_rfl) ?_
          refine st_val (.bool false) (by kernel_rfl) (by kernel_rfl) ?_
          refine st_val (.bool false) (by kernel_rfl) (bool_of (show (!(decide (errU (l.getD i 0) = 0) == false)) = false from by rw [errU_dec, decide_eq_false hm]; rfl) (by kernel_rfl)) ?_
          refine st_val (.bool false) (by kernel_rfl) (by kernel_rfl) ?_
          refine st_val (.pointer (some ⟨g11, 0, none⟩)) (by kernel_rfl) (by kernel_rfl) ?_
          refine st_callE (.int .i64 (((cum l i ++ codeU (l.getD i 0)).length : Nat) : Int)) (by kernel_rfl) (args := #[.pointer (some ⟨g11, 0, none⟩)]) (run_value_call 15 #[(Operand.tmp 77)] _ rfl Try.func15 (by kernel_rfl) (by kernel_rfl) _ (by kernel_rfl)) (wLenM W47 O34 (Mem.part (A := []) (T := T30) (B := []) M48)) ?_
          refine st_val (.int .i64 (n + (bitsU (l.getD i 0)))) (by kernel_rfl) (by kernel_rfl) ?_
          refine st_val (.bool false) (by kernel_rfl) (bool_of (neq_f (show ((((cum l i ++ codeU (l.getD i 0)).length : Nat) : Int) : Int) = n + (bitsU (l.getD i 0)) from (by rw [List.length_append]; omega))) (by kernel_rfl)) ?_
          refine st_val (.bool false) (by kernel_rfl) (by kernel_rfl) ?_
          refine wl_nil ?_
          refine hK41 _ _ ?_
          try clear hK41 K41
          refine wp_frame (a' := ⟨#[.slice A l.length c, undef, (u16 2), .pointer (some ⟨g11, 0, none⟩), .int .i64 (n + (bitsU (l.getD i 0))), .int .i64 ((i : Nat) : Int), .int .i64 (errU (l.getD i 0)), undef, undef, undef, undef, undef, .slice A l.length c, .int .i64 ((l.length : Nat) : Int), .bool false, .pointer (some ⟨g11, 0, none⟩), .int .i64 ((i : Nat) : Int), .slice A l.length c, .int .i64 ((l.length : Nat) : Int), .bool true, (u16 20), (u16 21), .int .i64 ((i : Nat) : Int), .int .i64 (((i : Nat) : Int) % 2), .bool true, .pointer (some ⟨g11, 0, none⟩), .slice A l.length c, .int .i64 ((i : Nat) : Int), .pointer (some ⟨b26, o27 + i * 1, none⟩), .int .i64 (l.getD i 0), .int .i64 (errU (l.getD i 0)), .int .i64 n, .slice A l.length c, .int .i64 ((i : Nat) : Int), .pointer (some ⟨b36, o37 + i * 1, none⟩), .int .i64 (l.getD i 0), .int .i64 (bitsU (l.getD i 0)), .int .i64 (n + (bitsU (l.getD i 0))), (u16 38), (u16 39), (u16 40), (u16 41), (u16 42), (u16 43), (u16 44), (u16 45), (u16 46), (u16 47), (u16 48), (u16 49), (u16 50), .int .i64 (errU (l.getD i 0)), .bool (decide ((errU (l.getD i 0) : Int) = 0)), .int .i64 ((i : Nat) : Int), .int .i64 (((i : Nat) : Int) % 2), .bool true, .bool true, .slice A l.length c, .int .i64 ((i : Nat) : Int), .pointer (some ⟨b42, o43 + i * 1, none⟩), .int .i64 (l.getD i 0), .bool false, .bool false, .bool false, .int .i64 ((i : Nat) : Int), .int .i64 (((i : Nat) : Int) % 2), .bool false, .bool false, undef, undef, undef, undef, undef, .bool false, .bool false, .bool false, .bool false, .pointer (some ⟨g11, 0, none⟩), .int .i64 (((cum l i ++ codeU (l.getD i 0)).length : Nat) : Int), .int .i64 (n + (bitsU (l.getD i 0))), .bool false, .bool false, undef, undef, undef, undef, undef, undef, undef, undef, undef, undef, undef, undef, undef, undef, undef, undef, undef, undef, undef, undef, undef, undef, undef, undef, undef, undef, undef, undef, undef, undef, undef, undef, undef, undef, undef, undef, undef, undef, undef, undef, undef, undef, undef, undef, undef, undef, undef, undef, undef, undef, undef, undef, undef, undef, undef, undef, undef, undef, undef, undef, undef, undef, undef, undef], []⟩) (by kernel_rfl) ?_
          refine wp_cond_false (by kernel_rfl) ?_
          refine wp_skip ?_
          refine blk_normal ?_
          refine hK21 _ _ ?_
          try clear hK21 K21
          refine wl_region ?_
          refine st_val (.int .i64 ((i : Nat) : Int)) (by kernel_rfl) (by kernel_rfl) ?_
          refine st_val (.int .i64 (((i : Nat) : Int) + 1)) (by kernel_rfl) (i64_of (by omega) (by kernel_rfl)) ?_
          refine st_val (.int .i64 (((i : Nat) : Int) + 1)) (by kernel_rfl) (by kernel_rfl) ?_
          refine wl_nil ?_
          refine th_normal ?_
          exact ⟨_, by omega, (i + 1), T30, (n + (bitsU (l.getD i 0))), (fun zz => Array.getD #[.slice A l.length c, undef, (u16 2), .pointer (some ⟨g11, 0, none⟩), .int .i64 (n + (bitsU (l.getD i 0))), .int .i64 (((i : Nat) : Int) + 1), .int .i64 (errU (l.getD i 0)), undef, undef, undef, undef, undef, .slice A l.length c, .int .i64 ((l.length : Nat) : Int), .bool false, .pointer (some ⟨g11, 0, none⟩), .int .i64 ((i : Nat) : Int), .slice A l.length c, .int .i64 ((l.length : Nat) : Int), .bool true, .int .i64 ((i : Nat) : Int), .int .i64 (((i : Nat) : Int) + 1), .int .i64 ((i : Nat) : Int), .int .i64 (((i : Nat) : Int) % 2), .bool true, .pointer (some ⟨g11, 0, none⟩), .slice A l.length c, .int .i64 ((i : Nat) : Int), .pointer (some ⟨b26, o27 + i * 1, none⟩), .int .i64 (l.getD i 0), .int .i64 (errU (l.getD i 0)), .int .i64 n, .slice A l.length c, .int .i64 ((i : Nat) : Int), .pointer (some ⟨b36, o37 + i * 1, none⟩), .int .i64 (l.getD i 0), .int .i64 (bitsU (l.getD i 0)), .int .i64 (n + (bitsU (l.getD i 0))), (u16 38), (u16 39), (u16 40), (u16 41), (u16 42), (u16 43), (u16 44), (u16 45), (u16 46), (u16 47), (u16 48), (u16 49), (u16 50), .int .i64 (errU (l.getD i 0)), .bool (decide ((errU (l.getD i 0) : Int) = 0)), .int .i64 ((i : Nat) : Int), .int .i64 (((i : Nat) : Int) % 2), .bool true, .bool true, .slice A l.length c, .int .i64 ((i : Nat) : Int), .pointer (some ⟨b42, o43 + i * 1, none⟩), .int .i64 (l.getD i 0), .bool false, .bool false, .bool false, .int .i64 ((i : Nat) : Int), .int .i64 (((i : Nat) : Int) % 2), .bool false, .bool false, undef, undef, undef, undef, undef, .bool false, .bool false, .bool false, .bool false, .pointer (some ⟨g11, 0, none⟩), .int .i64 (((cum l i ++ codeU (l.getD i 0)).length : Nat) : Int), .int .i64 (n + (bitsU (l.getD i 0))), .bool false, .bool false, undef, undef, undef, undef, undef, undef, undef, undef, undef, undef, undef, undef, undef, undef, undef, undef, undef, undef, undef, undef, undef, undef, undef, undef, undef, undef, undef, undef, undef, undef, undef, undef, undef, undef, undef, undef, undef, undef, undef, undef, undef, undef, undef, undef, undef, undef, undef, undef, undef, undef, undef, undef, undef, undef, undef, undef, undef, undef, undef, undef, undef, undef, undef, undef] zz undef), ⟨⟨by omega, by show OwnW _ (cum l i ++ codeAt i (l.getD i 0)) _; rw [bitsAt_U c24]; exact O34, by rw [cum_next, bitsAt_U c24]; omega⟩, M48⟩, rfl, (by kernel_rfl)⟩
      ·
        refine st_val (.bool false) (by kernel_rfl) (bool_of (dec_f c24) (by kernel_rfl)) ?_
        refine wl_nil ?_
        refine hK24 _ _ ?_
        try clear hK24 K24
        refine wp_cond_false (by kernel_rfl) ?_
        refine wp_seq_k (fun K49 hK49 => ?_)
        refine wl_region ?_
        refine st_val (.pointer (some ⟨g11, 0, none⟩)) (by kernel_rfl) (by kernel_rfl) ?_
        refine st_val (.slice A l.length c) (by kernel_rfl) (by kernel_rfl) ?_
        refine st_val (.int .i64 ((i : Nat) : Int)) (by kernel_rfl) (by kernel_rfl) ?_
        obtain ⟨b50, o51, eA52⟩ := RdK.addr (hr.keep M18.keep (fun _ _ h => h)) (j := i * 1) (by rw [i64s_length]; omega)
        refine st_val (.pointer (some ⟨b50, o51 + i * 1, none⟩)) (by kernel_rfl) (run_indexSliceA 52 (.tmp 39) (.tmp 40) rfl A ⟨b50, o51, none⟩ eA52 l.length c .i64 i (by kernel_rfl) (by kernel_rfl) Try.underlying52 1 (by kernel_rfl) (by omega) ⟨b50, o51 + i * 1, none⟩ (addr_atK _ _ _ _)) ?_
        refine st_val (.int .i64 (l.getD i 0)) (by kernel_rfl) (run_load_cell 3 (.tmp 41) rfl ⟨b50, o51 + i * 1, none⟩ (by kernel_rfl) _ ((hr.keep M18.keep (fun _ _ h => h)).cellF eA52 (f := 0) (i64s_get l i (by omega))) (by kernel_rfl)) ?_
        refine st_callU (A := []) (T := T1) (B := []) M18 (by kernel_rfl) (run_value_call 20 #[(Operand.tmp 38), (Operand.tmp 42)] _ rfl Try.func20 (by kernel_rfl) (by kernel_rfl) _ (by kernel_rfl)) (putS_walk W17 O1 (Mem.part (A := []) (T := T1) (B := []) M18) (by have := cum_len l i; omega) (l.getD i 0) (i64s_rng hb _)) ?_
        intro v53 T54 W55 O56 M57
        obtain ⟨rfl, O58⟩ := O56
        have M59 : Mem NoS w W55 ((T54 ++ [])) := M57
        refine st_val (.int .i64 (errS (l.getD i 0))) (by kernel_rfl) (by kernel_rfl) ?_
        refine wl_nil ?_
        refine hK49 _ _ ?_
        try clear hK49 K49
        refine wp_frame (a' := ⟨#[.slice A l.length c, undef, (u16 2), .pointer (some ⟨g11, 0, none⟩), .int .i64 n, .int .i64 ((i : Nat) : Int), .int .i64 (errS (l.getD i 0)), undef, undef, undef, undef, undef, .slice A l.length c, .int .i64 ((l.length : Nat) : Int), .bool false, .pointer (some ⟨g11, 0, none⟩), .int .i64 ((i : Nat) : Int), .slice A l.length c, .int .i64 ((l.length : Nat) : Int), .bool true, (u16 20), (u16 21), .int .i64 ((i : Nat) : Int), .int .i64 (((i : Nat) : Int) % 2), .bool false, (u16 25), (u16 26), (u16 27), (u16 28), (u16 29), (u16 30), (u16 31), (u16 32), (u16 33), (u16 34), (u16 35), (u16 36), (u16 37), .pointer (some ⟨g11, 0, none⟩), .slice A l.length c, .int .i64 ((i : Nat) : Int), .pointer (some ⟨b50, o51 + i * 1, none⟩), .int .i64 (l.getD i 0), .int .i64 (errS (l.getD i 0)), (u16 44), (u16 45), (u16 46), (u16 47), (u16 48), (u16 49), (u16 50), (u16 51), (u16 52), (u16 53), (u16 54), (u16 55), (u16 56), (u16 57), (u16 58), (u16 59), (u16 60), (u16 61), (u16 62), (u16 63), (u16 64), (u16 65), (u16 66), (u16 67), (u16 68), (u16 69), (u16 70), (u16 71), (u16 72), (u16 73), (u16 74), (u16 75), (u16 76), (u16 77), (u16 78), (u16 79), (u16 80), (u16 81), undef, undef, undef, undef, undef, undef, undef, undef, undef, undef, undef, undef, undef, undef, undef, undef, undef, undef, undef, undef, undef, undef, undef, undef, undef, undef, undef, undef, undef, undef, undef, undef, undef, undef, undef, undef, undef, undef, undef, undef, undef, undef, undef, undef, undef, undef, undef, undef, undef, undef, undef, undef, undef, undef, undef, undef, undef, undef, undef, undef, undef, undef, undef, undef], []⟩) (by kernel_rfl) ?_
        have hbr := bitsS_rng (l.getD i 0)
        refine wl_region ?_
        refine st_val (.int .i64 n) (by kernel_rfl) (by kernel_rfl) ?_
        refine st_val (.slice A l.length c) (by kernel_rfl) (by kernel_rfl) ?_
        refine st_val (.int .i64 ((i : Nat) : Int)) (by kernel_rfl) (by kernel_rfl) ?_
        obtain ⟨b60, o61, eA62⟩ := RdK.addr (hr.keep M59.keep (fun _ _ h => h)) (j := i * 1) (by rw [i64s_length]; omega)
        refine st_val (.pointer (some ⟨b60, o61 + i * 1, none⟩)) (by kernel_rfl) (run_indexSliceA 52 (.tmp 45) (.tmp 46) rfl A ⟨b60, o61, none⟩ eA62 l.length c .i64 i (by kernel_rfl) (by kernel_rfl) Try.underlying52 1 (by kernel_rfl) (by omega) ⟨b60, o61 + i * 1, none⟩ (addr_atK _ _ _ _)) ?_
        refine st_val (.int .i64 (l.getD i 0)) (by kernel_rfl) (run_load_cell 3 (.tmp 47) rfl ⟨b60, o61 + i * 1, none⟩ (by kernel_rfl) _ ((hr.keep M59.keep (fun _ _ h => h)).cellF eA62 (f := 0) (i64s_get l i (by omega))) (by kernel_rfl)) ?_
        refine st_callB M59 (.int .i64 (bitsS (l.getD i 0))) (by kernel_rfl) (args := #[.int .i64 (l.getD i 0)]) (run_value_call 21 #[(Operand.tmp 48)] _ rfl Try.func21 (by kernel_rfl) (by kernel_rfl) _ (by kernel_rfl)) (sbits_vlc W55 (l.getD i 0) (i64s_rng hb _)) ?_
        intro W63 M64
        refine st_val (.int .i64 (n + (bitsS (l.getD i 0)))) (by kernel_rfl) (i64_of (by omega) (by kernel_rfl)) ?_
        refine st_val (.int .i64 (n + (bitsS (l.getD i 0)))) (by kernel_rfl) (by kernel_rfl) ?_
        refine wl_nil ?_
        refine hK23 _ _ ?_
        try clear hK23 K23
        refine wp_seq_k (fun K65 hK65 => ?_)
        have hcl := codeS_len (l.getD i 0)
        refine wl_region ?_
        refine st_val (.int .i64 (errS (l.getD i 0))) (by kernel_rfl) (by kernel_rfl) ?_
        refine st_val (.bool (decide ((errS (l.getD i 0) : Int) = 0))) (by kernel_rfl) (by kernel_rfl) ?_
        refine st_val (.int .i64 ((i : Nat) : Int)) (by kernel_rfl) (by kernel_rfl) ?_
        refine st_val (.int .i64 (((i : Nat) : Int) % 2)) (by kernel_rfl) (int_of (rem_of ((i : Nat) : Int) 2 (by omega)) (by kernel_rfl)) ?_
        refine st_val (.bool false) (by kernel_rfl) (bool_of (dec_f (show ¬ ((((i : Nat) : Int) % 2 : Int) = 0) by omega)) (by kernel_rfl)) ?_
        refine st_val (.bool false) (by kernel_rfl) (by kernel_rfl) ?_
        refine st_skip (by kernel_rfl) ?_
        refine st_skip (by kernel_rfl) ?_
        refine st_skip (by kernel_rfl) ?_
        refine st_skip (by kernel_rfl) ?_
        refine st_skip (by kernel_rfl) ?_
        refine st_val (.bool false) (by kernel_rfl) (by kernel_rfl) ?_
        refine st_val (.bool false) (by kernel_rfl) (by kernel_rfl) ?_
        refine st_val (.int .i64 ((i : Nat) : Int)) (by kernel_rfl) (by kernel_rfl) ?_
        refine st_val (.int .i64 (((i : Nat) : Int) % 2)) (by kernel_rfl) (int_of (rem_of ((i : Nat) : Int) 2 (by omega)) (by kernel_rfl)) ?_
        refine st_val (.bool true) (by kernel_rfl) (bool_of (dec_t (show (((i : Nat) : Int) % 2 : Int) = 1 by omega)) (by kernel_rfl)) ?_
        refine st_val (.bool true) (by kernel_rfl) (by kernel_rfl) ?_
        refine st_val (.slice A l.length c) (by kernel_rfl) (by kernel_rfl) ?_
        refine st_val (.int .i64 ((i : Nat) : Int)) (by kernel_rfl) (by kernel_rfl) ?_
        obtain ⟨b66, o67, eA68⟩ := RdK.addr (hr.keep M64.keep (fun _ _ h => h)) (j := i * 1) (by rw [i64s_length]; omega)
        refine st_val (.pointer (some ⟨b66, o67 + i * 1, none⟩)) (by kernel_rfl) (run_indexSliceA 52 (.tmp 68) (.tmp 69) rfl A ⟨b66, o67, none⟩ eA68 l.length c .i64 i (by kernel_rfl) (by kernel_rfl) Try.underlying52 1 (by kernel_rfl) (by omega) ⟨b66, o67 + i * 1, none⟩ (addr_atK _ _ _ _)) ?_
        refine st_val (.int .i64 (l.getD i 0)) (by kernel_rfl) (run_load_cell 3 (.tmp 70) rfl ⟨b66, o67 + i * 1, none⟩ (by kernel_rfl) _ ((hr.keep M64.keep (fun _ _ h => h)).cellF eA68 (f := 0) (i64s_get l i (by omega))) (by kernel_rfl)) ?_
        rcases Classical.em (mayS (l.getD i 0)) with hm | hm
        ·
          refine st_callB M64 (.bool true) (by kernel_rfl) (args := #[.int .i64 (l.getD i 0)]) (run_value_call 23 #[(Operand.tmp 71)] _ rfl Try.func23 (by kernel_rfl) (by kernel_rfl) _ (by kernel_rfl)) ((by have := mayS_ref W63 (l.getD i 0); rw [decide_eq_true hm] at this; exact this)) ?_
          intro W69 M70
          refine st_val (.bool true) (by kernel_rfl) (by kernel_rfl) ?_
          refine st_val (.bool true) (by kernel_rfl) (by kernel_rfl) ?_
          refine st_val (.bool false) (by kernel_rfl) (bool_of (show (!(decide (errS (l.getD i 0) = 0) == true)) = false from by rw [errS_dec, decide_eq_true hm]; rfl) (by kernel_rfl)) ?_
          refine st_val (.bool false) (by kernel_rfl) (by kernel_rfl) ?_
          refine st_val (.pointer (some ⟨g11, 0, none⟩)) (by kernel_rfl) (by kernel_rfl) ?_
          refine st_callE (.int .i64 (((cum l i ++ codeS (l.getD i 0)).length : Nat) : Int)) (by kernel_rfl) (args := #[.pointer (some ⟨g11, 0, none⟩)]) (run_value_call 15 #[(Operand.tmp 77)] _ rfl Try.func15 (by kernel_rfl) (by kernel_rfl) _ (by kernel_rfl)) (wLenM W69 O58 (Mem.part (A := []) (T := T54) (B := []) M70)) ?_
          refine st_val (.int .i64 (n + (bitsS (l.getD i 0)))) (by kernel_rfl) (by kernel_rfl) ?_
          refine st_val (.bool false) (by kernel_rfl) (bool_of (neq_f (show ((((cum l i ++ codeS (l.getD i 0)).length : Nat) : Int) : Int) = n + (bitsS (l.getD i 0)) from (by rw [List.length_append]; omega))) (by kernel_rfl)) ?_
          refine st_val (.bool false) (by kernel_rfl) (by kernel_rfl) ?_
          refine wl_nil ?_
          refine hK65 _ _ ?_
          try clear hK65 K65
          refine wp_frame (a' := ⟨#[.slice A l.length c, undef, (u16 2), .pointer (some ⟨g11, 0, none⟩), .int .i64 (n + (bitsS (l.getD i 0))), .int .i64 ((i : Nat) : Int), .int .i64 (errS (l.getD i 0)), undef, undef, undef, undef, undef, .slice A l.length c, .int .i64 ((l.length : Nat) : Int), .bool false, .pointer (some ⟨g11, 0, none⟩), .int .i64 ((i : Nat) : Int), .slice A l.length c, .int .i64 ((l.length : Nat) : Int), .bool true, (u16 20), (u16 21), .int .i64 ((i : Nat) : Int), .int .i64 (((i : Nat) : Int) % 2), .bool false, (u16 25), (u16 26), (u16 27), (u16 28), (u16 29), (u16 30), (u16 31), (u16 32), (u16 33), (u16 34), (u16 35), (u16 36), (u16 37), .pointer (some ⟨g11, 0, none⟩), .slice A l.length c, .int .i64 ((i : Nat) : Int), .pointer (some ⟨b50, o51 + i * 1, none⟩), .int .i64 (l.getD i 0), .int .i64 (errS (l.getD i 0)), .int .i64 n, .slice A l.length c, .int .i64 ((i : Nat) : Int), .pointer (some ⟨b60, o61 + i * 1, none⟩), .int .i64 (l.getD i 0), .int .i64 (bitsS (l.getD i 0)), .int .i64 (n + (bitsS (l.getD i 0))), .int .i64 (errS (l.getD i 0)), .bool (decide ((errS (l.getD i 0) : Int) = 0)), .int .i64 ((i : Nat) : Int), .int .i64 (((i : Nat) : Int) % 2), .bool false, .bool false, undef, undef, undef, undef, undef, .bool false, .bool false, .int .i64 ((i : Nat) : Int), .int .i64 (((i : Nat) : Int) % 2), .bool true, .bool true, .slice A l.length c, .int .i64 ((i : Nat) : Int), .pointer (some ⟨b66, o67 + i * 1, none⟩), .int .i64 (l.getD i 0), .bool true, .bool true, .bool true, .bool false, .bool false, .pointer (some ⟨g11, 0, none⟩), .int .i64 (((cum l i ++ codeS (l.getD i 0)).length : Nat) : Int), .int .i64 (n + (bitsS (l.getD i 0))), .bool false, .bool false, undef, undef, undef, undef, undef, undef, undef, undef, undef, undef, undef, undef, undef, undef, undef, undef, undef, undef, undef, undef, undef, undef, undef, undef, undef, undef, undef, undef, undef, undef, undef, undef, undef, undef, undef, undef, undef, undef, undef, undef, undef, undef, undef, undef, undef, undef, undef, undef, undef, undef, undef, undef, undef, undef, undef, undef, undef, undef, undef, undef, undef, undef, undef, undef], []⟩) (by kernel_rfl) ?_
          refine wp_cond_false (by kernel_rfl) ?_
          refine wp_skip ?_
          refine blk_normal ?_
          refine hK21 _ _ ?_
          try clear hK21 K21
          refine wl_region ?_
          refine st_val (.int .i64 ((i : Nat) : Int)) (by kernel_rfl) (by kernel_rfl) ?_
          refine st_val (.int .i64 (((i : Nat) : Int) + 1)) (by kernel_rfl) (i64_of (by omega) (by kernel_rfl)) ?_
          refine st_val (.int .i64 (((i : Nat) : Int) + 1)) (by kernel_rfl) (by kernel_rfl) ?_
          refine wl_nil ?_
          refine th_normal ?_
          exact ⟨_, by omega, (i + 1), T54, (n + (bitsS (l.getD i 0))), (fun zz => Array.getD #[.slice A l.length c, undef, (u16 2), .pointer (some ⟨g11, 0, none⟩), .int .i64 (n + (bitsS (l.getD i 0))), .int .i64 (((i : Nat) : Int) + 1), .int .i64 (errS (l.getD i 0)), undef, undef, undef, undef, undef, .slice A l.length c, .int .i64 ((l.length : Nat) : Int), .bool false, .pointer (some ⟨g11, 0, none⟩), .int .i64 ((i : Nat) : Int), .slice A l.length c, .int .i64 ((l.length : Nat) : Int), .bool true, .int .i64 ((i : Nat) : Int), .int .i64 (((i : Nat) : Int) + 1), .int .i64 ((i : Nat) : Int), .int .i64 (((i : Nat) : Int) % 2), .bool false, (u16 25), (u16 26), (u16 27), (u16 28), (u16 29), (u16 30), (u16 31), (u16 32), (u16 33), (u16 34), (u16 35), (u16 36), (u16 37), .pointer (some ⟨g11, 0, none⟩), .slice A l.length c, .int .i64 ((i : Nat) : Int), .pointer (some ⟨b50, o51 + i * 1, none⟩), .int .i64 (l.getD i 0), .int .i64 (errS (l.getD i 0)), .int .i64 n, .slice A l.length c, .int .i64 ((i : Nat) : Int), .pointer (some ⟨b60, o61 + i * 1, none⟩), .int .i64 (l.getD i 0), .int .i64 (bitsS (l.getD i 0)), .int .i64 (n + (bitsS (l.getD i 0))), .int .i64 (errS (l.getD i 0)), .bool (decide ((errS (l.getD i 0) : Int) = 0)), .int .i64 ((i : Nat) : Int), .int .i64 (((i : Nat) : Int) % 2), .bool false, .bool false, undef, undef, undef, undef, undef, .bool false, .bool false, .int .i64 ((i : Nat) : Int), .int .i64 (((i : Nat) : Int) % 2), .bool true, .bool true, .slice A l.length c, .int .i64 ((i : Nat) : Int), .pointer (some ⟨b66, o67 + i * 1, none⟩), .int .i64 (l.getD i 0), .bool true, .bool true, .bool true, .bool false, .bool false, .pointer (some ⟨g11, 0, none⟩), .int .i64 (((cum l i ++ codeS (l.getD i 0)).length : Nat) : Int), .int .i64 (n + (bitsS (l.getD i 0))), .bool false, .bool false, undef, undef, undef, undef, undef, undef, undef, undef, undef, undef, undef, undef, undef, undef, undef, undef, undef, undef, undef, undef, undef, undef, undef, undef, undef, undef, undef, undef, undef, undef, undef, undef, undef, undef, undef, undef, undef, undef, undef, undef, undef, undef, undef, undef, undef, undef, undef, undef, undef, undef, undef, undef, undef, undef, undef, undef, undef, undef, undef, undef, undef, undef, undef, undef] zz undef), ⟨⟨by omega, by show OwnW _ (cum l i ++ codeAt i (l.getD i 0)) _; rw [bitsAt_S c24]; exact O58, by rw [cum_next, bitsAt_S c24]; omega⟩, M70⟩, rfl, (by kernel_rfl)⟩
        ·
          refine st_callB M64 (.bool false) (by kernel_rfl) (args := #[.int .i64 (l.getD i 0)]) (run_value_call 23 #[(Operand.tmp 71)] _ rfl Try.func23 (by kernel_rfl) (by kernel_rfl) _ (by kernel_rfl)) ((by have := mayS_ref W63 (l.getD i 0); rw [decide_eq_false hm] at this; exact this)) ?_
          intro W71 M72
          refine st_val (.bool false) (by kernel_rfl) (by kernel_rfl) ?_
          refine st_val (.bool false) (by kernel_rfl) (by kernel_rfl) ?_
          refine st_val (.bool false) (by kernel_rfl) (bool_of (show (!(decide (errS (l.getD i 0) = 0) == false)) = false from by rw [errS_dec, decide_eq_false hm]; rfl) (by kernel_rfl)) ?_
          refine st_val (.bool false) (by kernel_rfl) (by kernel_rfl) ?_
          refine st_val (.pointer (some ⟨g11, 0, none⟩)) (by kernel_rfl) (by kernel_rfl) ?_
          refine st_callE (.int .i64 (((cum l i ++ codeS (l.getD i 0)).length : Nat) : Int)) (by kernel_rfl) (args := #[.pointer (some ⟨g11, 0, none⟩)]) (run_value_call 15 #[(Operand.tmp 77)] _ rfl Try.func15 (by kernel_rfl) (by kernel_rfl) _ (by kernel_rfl)) (wLenM W71 O58 (Mem.part (A := []) (T := T54) (B := []) M72)) ?_
          refine st_val (.int .i64 (n + (bitsS (l.getD i 0)))) (by kernel_rfl) (by kernel_rfl) ?_
          refine st_val (.bool false) (by kernel_rfl) (bool_of (neq_f (show ((((cum l i ++ codeS (l.getD i 0)).length : Nat) : Int) : Int) = n + (bitsS (l.getD i 0)) from (by rw [List.length_append]; omega))) (by kernel_rfl)) ?_
          refine st_val (.bool false) (by kernel_rfl) (by kernel_rfl) ?_
          refine wl_nil ?_
          refine hK65 _ _ ?_
          try clear hK65 K65
          refine wp_frame (a' := ⟨#[.slice A l.length c, undef, (u16 2), .pointer (some ⟨g11, 0, none⟩), .int .i64 (n + (bitsS (l.getD i 0))), .int .i64 ((i : Nat) : Int), .int .i64 (errS (l.getD i 0)), undef, undef, undef, undef, undef, .slice A l.length c, .int .i64 ((l.length : Nat) : Int), .bool false, .pointer (some ⟨g11, 0, none⟩), .int .i64 ((i : Nat) : Int), .slice A l.length c, .int .i64 ((l.length : Nat) : Int), .bool true, (u16 20), (u16 21), .int .i64 ((i : Nat) : Int), .int .i64 (((i : Nat) : Int) % 2), .bool false, (u16 25), (u16 26), (u16 27), (u16 28), (u16 29), (u16 30), (u16 31), (u16 32), (u16 33), (u16 34), (u16 35), (u16 36), (u16 37), .pointer (some ⟨g11, 0, none⟩), .slice A l.length c, .int .i64 ((i : Nat) : Int), .pointer (some ⟨b50, o51 + i * 1, none⟩), .int .i64 (l.getD i 0), .int .i64 (errS (l.getD i 0)), .int .i64 n, .slice A l.length c, .int .i64 ((i : Nat) : Int), .pointer (some ⟨b60, o61 + i * 1, none⟩), .int .i64 (l.getD i 0), .int .i64 (bitsS (l.getD i 0)), .int .i64 (n + (bitsS (l.getD i 0))), .int .i64 (errS (l.getD i 0)), .bool (decide ((errS (l.getD i 0) : Int) = 0)), .int .i64 ((i : Nat) : Int), .int .i64 (((i : Nat) : Int) % 2), .bool false, .bool false, undef, undef, undef, undef, undef, .bool false, .bool false, .int .i64 ((i : Nat) : Int), .int .i64 (((i : Nat) : Int) % 2), .bool true, .bool true, .slice A l.length c, .int .i64 ((i : Nat) : Int), .pointer (some ⟨b66, o67 + i * 1, none⟩), .int .i64 (l.getD i 0), .bool false, .bool false, .bool false, .bool false, .bool false, .pointer (some ⟨g11, 0, none⟩), .int .i64 (((cum l i ++ codeS (l.getD i 0)).length : Nat) : Int), .int .i64 (n + (bitsS (l.getD i 0))), .bool false, .bool false, undef, undef, undef, undef, undef, undef, undef, undef, undef, undef, undef, undef, undef, undef, undef, undef, undef, undef, undef, undef, undef, undef, undef, undef, undef, undef, undef, undef, undef, undef, undef, undef, undef, undef, undef, undef, undef, undef, undef, undef, undef, undef, undef, undef, undef, undef, undef, undef, undef, undef, undef, undef, undef, undef, undef, undef, undef, undef, undef, undef, undef, undef, undef, undef], []⟩) (by kernel_rfl) ?_
          refine wp_cond_false (by kernel_rfl) ?_
          refine wp_skip ?_
          refine blk_normal ?_
          refine hK21 _ _ ?_
          try clear hK21 K21
          refine wl_region ?_
          refine st_val (.int .i64 ((i : Nat) : Int)) (by kernel_rfl) (by kernel_rfl) ?_
          refine st_val (.int .i64 (((i : Nat) : Int) + 1)) (by kernel_rfl) (i64_of (by omega) (by kernel_rfl)) ?_
          refine st_val (.int .i64 (((i : Nat) : Int) + 1)) (by kernel_rfl) (by kernel_rfl) ?_
          refine wl_nil ?_
          refine th_normal ?_
          exact ⟨_, by omega, (i + 1), T54, (n + (bitsS (l.getD i 0))), (fun zz => Array.getD #[.slice A l.length c, undef, (u16 2), .pointer (some ⟨g11, 0, none⟩), .int .i64 (n + (bitsS (l.getD i 0))), .int .i64 (((i : Nat) : Int) + 1), .int .i64 (errS (l.getD i 0)), undef, undef, undef, undef, undef, .slice A l.length c, .int .i64 ((l.length : Nat) : Int), .bool false, .pointer (some ⟨g11, 0, none⟩), .int .i64 ((i : Nat) : Int), .slice A l.length c, .int .i64 ((l.length : Nat) : Int), .bool true, .int .i64 ((i : Nat) : Int), .int .i64 (((i : Nat) : Int) + 1), .int .i64 ((i : Nat) : Int), .int .i64 (((i : Nat) : Int) % 2), .bool false, (u16 25), (u16 26), (u16 27), (u16 28), (u16 29), (u16 30), (u16 31), (u16 32), (u16 33), (u16 34), (u16 35), (u16 36), (u16 37), .pointer (some ⟨g11, 0, none⟩), .slice A l.length c, .int .i64 ((i : Nat) : Int), .pointer (some ⟨b50, o51 + i * 1, none⟩), .int .i64 (l.getD i 0), .int .i64 (errS (l.getD i 0)), .int .i64 n, .slice A l.length c, .int .i64 ((i : Nat) : Int), .pointer (some ⟨b60, o61 + i * 1, none⟩), .int .i64 (l.getD i 0), .int .i64 (bitsS (l.getD i 0)), .int .i64 (n + (bitsS (l.getD i 0))), .int .i64 (errS (l.getD i 0)), .bool (decide ((errS (l.getD i 0) : Int) = 0)), .int .i64 ((i : Nat) : Int), .int .i64 (((i : Nat) : Int) % 2), .bool false, .bool false, undef, undef, undef, undef, undef, .bool false, .bool false, .int .i64 ((i : Nat) : Int), .int .i64 (((i : Nat) : Int) % 2), .bool true, .bool true, .slice A l.length c, .int .i64 ((i : Nat) : Int), .pointer (some ⟨b66, o67 + i * 1, none⟩), .int .i64 (l.getD i 0), .bool false, .bool false, .bool false, .bool false, .bool false, .pointer (some ⟨g11, 0, none⟩), .int .i64 (((cum l i ++ codeS (l.getD i 0)).length : Nat) : Int), .int .i64 (n + (bitsS (l.getD i 0))), .bool false, .bool false, undef, undef, undef, undef, undef, undef, undef, undef, undef, undef, undef, undef, undef, undef, undef, undef, undef, undef, undef, undef, undef, undef, undef, undef, undef, undef, undef, undef, undef, undef, undef, undef, undef, undef, undef, undef, undef, undef, undef, undef, undef, undef, undef, undef, undef, undef, undef, undef, undef, undef, undef, undef, undef, undef, undef, undef, undef, undef, undef, undef, undef, undef, undef, undef] zz undef), ⟨⟨by omega, by show OwnW _ (cum l i ++ codeAt i (l.getD i 0)) _; rw [bitsAt_S c24]; exact O58, by rw [cum_next, bitsAt_S c24]; omega⟩, M72⟩, rfl, (by kernel_rfl)⟩
    ·
      refine st_val (.bool false) (by kernel_rfl) (bool_of (dec_f c19) (by kernel_rfl)) ?_
      refine wl_nil ?_
      refine hK20 _ _ ?_
      try clear hK20 K20
      refine wp_cond_false (by kernel_rfl) ?_
      refine wp_exit ?_
      refine th_exit ?_
      refine th_exit ?_
      refine blk_exit ?_
      refine hK14 _ _ ?_
      try clear hK14 K14
      refine wp_seq_k (fun K73 hK73 => ?_)
      have hi0 : i = l.length := (by omega)
      have hpl := payload_length (cum l i)
      have hcl0 := cum_len l i
      have hend := end_payload _ O1.bin
      have htp := take_payload _ O1.bin
      refine wl_region ?_
      refine st_val (.pointer (some ⟨g11, 0, none⟩)) (by kernel_rfl) (by kernel_rfl) ?_
      refine st_callR (A := []) (B := (T1 ++ [])) M18 (by kernel_rfl) (run_value_call 17 #[(Operand.tmp 83)] _ rfl Try.func17 (by kernel_rfl) (by kernel_rfl) _ (by kernel_rfl)) (wPayM W17 O1 (Mem.part (A := []) (T := T1) (B := []) M18) (by have := cum_len l i; omega)) ?_
      intro v74 T75 W76 O77 M78
      have M78 : Mem NoS w W76 ((T75 ++ (T1 ++ []))) := M78
      obtain ⟨A79, cq80, rfl, hc81⟩ := O77.shape
      refine st_callR (A := []) (B := (T75 ++ (T1 ++ []))) M78 (by kernel_rfl) (run_value_call 26 #[(Operand.tmp 84)] _ rfl Try.func26 (by kernel_rfl) (by kernel_rfl) _ (by kernel_rfl)) (newReaderM W76 (.slice A79 ((payload (cum l i)).length) cq80) (payload (cum l i)) (O77.rd (fun p hp => M78.at_ p (List.mem_append_left _ hp))) (payload_lt _ O1.bin) (by rw [payload_length]; omega) (payload_ne _) (payload_last _ O1.bin)) ?_
      intro v82 T83 W84 O85 M86
      have M86 : Mem NoS w W84 ((T83 ++ (T75 ++ (T1 ++ [])))) := M86
      obtain ⟨g87, v88, TB89, rfl, rfl, F90⟩ := O85
      have M91 : Mem NoS w W84 (((rT g87 v88 (endOf (payload (cum l i))) 0 TB89) ++ (T75 ++ (T1 ++ [])))) := M86
      refine st_val (.tuple #[.pointer (some ⟨g87, 0, none⟩), .int .i64 0]) (by kernel_rfl) (by kernel_rfl) ?_
      refine st_val (.pointer (some ⟨g87, 0, none⟩)) (by kernel_rfl) (by kernel_rfl) ?_
      refine st_val (.int .i64 0) (by kernel_rfl) (by kernel_rfl) ?_
      refine st_val (.pointer (some ⟨g87, 0, none⟩)) (by kernel_rfl) (by kernel_rfl) ?_
      refine st_val (.int .i64 0) (by kernel_rfl) (by kernel_rfl) ?_
      refine wl_nil ?_
      refine hK73 _ _ ?_
      try clear hK73 K73
      refine wp_seq_k (fun K92 hK92 => ?_)
      refine wp_seq_k (fun K93 hK93 => ?_)
      refine wl_region ?_
      refine st_val (.int .i64 0) (by kernel_rfl) (by kernel_rfl) ?_
      refine st_val (.bool false) (by kernel_rfl) (by kernel_rfl) ?_
      refine wl_nil ?_
      refine hK93 _ _ ?_
      try clear hK93 K93
      refine wp_frame (a' := ⟨#[.slice A l.length c, undef, (u16 2), .pointer (some ⟨g11, 0, none⟩), .int .i64 n, .int .i64 ((i : Nat) : Int), (u16 6), .pointer (some ⟨g87, 0, none⟩), .int .i64 0, undef, undef, undef, .slice A l.length c, .int .i64 ((l.length : Nat) : Int), .bool false, .pointer (some ⟨g11, 0, none⟩), .int .i64 ((i : Nat) : Int), .slice A l.length c, .int .i64 ((l.length : Nat) : Int), .bool false, (u16 20), (u16 21), (u16 22), (u16 23), (u16 24), (u16 25), (u16 26), (u16 27), (u16 28), (u16 29), (u16 30), (u16 31), (u16 32), (u16 33), (u16 34), (u16 35), (u16 36), (u16 37), (u16 38), (u16 39), (u16 40), (u16 41), (u16 42), (u16 43), (u16 44), (u16 45), (u16 46), (u16 47), (u16 48), (u16 49), (u16 50), (u16 51), (u16 52), (u16 53), (u16 54), (u16 55), (u16 56), (u16 57), (u16 58), (u16 59), (u16 60), (u16 61), (u16 62), (u16 63), (u16 64), (u16 65), (u16 66), (u16 67), (u16 68), (u16 69), (u16 70), (u16 71), (u16 72), (u16 73), (u16 74), (u16 75), (u16 76), (u16 77), (u16 78), (u16 79), (u16 80), (u16 81), .tuple #[.pointer (some ⟨g87, 0, none⟩), .int .i64 0], .pointer (some ⟨g11, 0, none⟩), .slice A79 ((payload (cum l i)).length) cq80, .tuple #[.pointer (some ⟨g87, 0, none⟩), .int .i64 0], .pointer (some ⟨g87, 0, none⟩), .int .i64 0, .int .i64 0, .bool false, undef, undef, undef, undef, undef, undef, undef, undef, undef, undef, undef, undef, undef, undef, undef, undef, undef, undef, undef, undef, undef, undef, undef, undef, undef, undef, undef, undef, undef, undef, undef, undef, undef, undef, undef, undef, undef, undef, undef, undef, undef, undef, undef, undef, undef, undef, undef, undef, undef, undef, undef, undef, undef, undef, undef, undef], []⟩) (by kernel_rfl) ?_
      refine wp_cond_false (by kernel_rfl) ?_
      refine wp_skip ?_
      refine hK92 _ _ ?_
      try clear hK92 K92
      refine wp_seq_k (fun K94 hK94 => ?_)
      refine wp_seq_k (fun K95 hK95 => ?_)
      refine wl_region ?_
      refine st_val (.int .i64 0) (by kernel_rfl) (by kernel_rfl) ?_
      refine wl_nil ?_
      refine hK95 _ _ ?_
      try clear hK95 K95
      refine wp_block ?_
      have M96 : Mem NoS w W84 (((rT g87 v88 (endOf (payload (cum l i))) 0 TB89) ++ [])) := M91.sub ((((List.Sublist.refl []).trans (List.sublist_append_right T1 _)).trans (List.sublist_append_right T75 _)).append_left (rT g87 v88 (endOf (payload (cum l i))) 0 TB89))
      refine wp_loop_ghost (fun gn a' w' => ∃ (k : Nat) (a : Nat) (u97 : Nat → Value), ((k ≤ l.length ∧ a = (cum l k).length) ∧ Mem NoS w w' (((rT g87 v88 (endOf (payload (cum l i))) a TB89) ++ []))) ∧ gn = l.length - k ∧ a' = ⟨#[.slice A l.length c, undef, (u97 2), .pointer (some ⟨g11, 0, none⟩), .int .i64 n, .int .i64 ((i : Nat) : Int), (u16 6), .pointer (some ⟨g87, 0, none⟩), .int .i64 0, .int .i64 ((k : Nat) : Int), (u97 10), (u97 11), .slice A l.length c, .int .i64 ((l.length : Nat) : Int), .bool false, .pointer (some ⟨g11, 0, none⟩), .int .i64 ((i : Nat) : Int), .slice A l.length c, .int .i64 ((l.length : Nat) : Int), .bool false, (u16 20), (u16 21), (u16 22), (u16 23), (u16 24), (u16 25), (u16 26), (u16 27), (u16 28), (u16 29), (u16 30), (u16 31), (u16 32), (u16 33), (u16 34), (u16 35), (u16 36), (u16 37), (u16 38), (u16 39), (u16 40), (u16 41), (u16 42), (u16 43), (u16 44), (u16 45), (u16 46), (u16 47), (u16 48), (u16 49), (u16 50), (u16 51), (u16 52), (u16 53), (u16 54), (u16 55), (u16 56), (u16 57), (u16 58), (u16 59), (u16 60), (u16 61), (u16 62), (u16 63), (u16 64), (u16 65), (u16 66), (u16 67), (u16 68), (u16 69), (u16 70), (u16 71), (u16 72), (u16 73), (u16 74), (u16 75), (u16 76), (u16 77), (u16 78), (u16 79), (u16 80), (u16 81), .tuple #[.pointer (some ⟨g87, 0, none⟩), .int .i64 0], .pointer (some ⟨g11, 0, none⟩), .slice A79 ((payload (cum l i)).length) cq80, .tuple #[.pointer (some ⟨g87, 0, none⟩), .int .i64 0], .pointer (some ⟨g87, 0, none⟩), .int .i64 0, .int .i64 0, .bool false, (u97 90), (u97 91), (u97 92), (u97 93), (u97 94), (u97 95), (u97 96), (u97 97), (u97 98), (u97 99), (u97 100), (u97 101), (u97 102), (u97 103), (u97 104), (u97 105), (u97 106), (u97 107), (u97 108), (u97 109), (u97 110), (u97 111), (u97 112), (u97 113), (u97 114), (u97 115), (u97 116), (u97 117), (u97 118), (u97 119), (u97 120), (u97 121), (u97 122), (u97 123), (u97 124), (u97 125), (u97 126), (u97 127), (u97 128), (u97 129), (u97 130), (u97 131), (u97 132), (u97 133), (u97 134), (u97 135), (u97 136), (u97 137), (u97 138), (u97 139), undef, undef, undef, undef, undef, undef], []⟩) _ ⟨0, 0, (fun zz => Array.getD #[.slice A l.length c, undef, (u16 2), .pointer (some ⟨g11, 0, none⟩), .int .i64 n, .int .i64 ((i : Nat) : Int), (u16 6), .pointer (some ⟨g87, 0, none⟩), .int .i64 0, .int .i64 0, undef, undef, .slice A l.length c, .int .i64 ((l.length : Nat) : Int), .bool false, .pointer (some ⟨g11, 0, none⟩), .int .i64 ((i : Nat) : Int), .slice A l.length c, .int .i64 ((l.length : Nat) : Int), .bool false, (u16 20), (u16 21), (u16 22), (u16 23), (u16 24), (u16 25), (u16 26), (u16 27), (u16 28), (u16 29), (u16 30), (u16 31), (u16 32), (u16 33), (u16 34), (u16 35), (u16 36), (u16 37), (u16 38), (u16 39), (u16 40), (u16 41), (u16 42), (u16 43), (u16 44), (u16 45), (u16 46), (u16 47), (u16 48), (u16 49), (u16 50), (u16 51), (u16 52), (u16 53), (u16 54), (u16 55), (u16 56), (u16 57), (u16 58), (u16 59), (u16 60), (u16 61), (u16 62), (u16 63), (u16 64), (u16 65), (u16 66), (u16 67), (u16 68), (u16 69), (u16 70), (u16 71), (u16 72), (u16 73), (u16 74), (u16 75), (u16 76), (u16 77), (u16 78), (u16 79), (u16 80), (u16 81), .tuple #[.pointer (some ⟨g87, 0, none⟩), .int .i64 0], .pointer (some ⟨g11, 0, none⟩), .slice A79 ((payload (cum l i)).length) cq80, .tuple #[.pointer (some ⟨g87, 0, none⟩), .int .i64 0], .pointer (some ⟨g87, 0, none⟩), .int .i64 0, .int .i64 0, .bool false, undef, undef, undef, undef, undef, undef, undef, undef, undef, undef, undef, undef, undef, undef, undef, undef, undef, undef, undef, undef, undef, undef, undef, undef, undef, undef, undef, undef, undef, undef, undef, undef, undef, undef, undef, undef, undef, undef, undef, undef, undef, undef, undef, undef, undef, undef, undef, undef, undef, undef, undef, undef, undef, undef, undef, undef] zz undef), ⟨⟨by omega, rfl⟩, M96⟩, rfl, (by kernel_rfl)⟩ ?_
      rintro gn _ W98 ⟨k, a, u97, ⟨⟨rk, hla⟩, M99⟩, rfl, rfl⟩
      have hca : a ≤ (cum l i).length := by obtain ⟨s, hs⟩ := cum_split l k i (by omega); rw [hs, List.length_append, hla]; omega
      refine wp_seq_k (fun K100 hK100 => ?_)
      refine wp_seq_k (fun K101 hK101 => ?_)
      refine wl_region ?_
      refine st_val (.int .i64 ((k : Nat) : Int)) (by kernel_rfl) (by kernel_rfl) ?_
      refine st_val (.slice A l.length c) (by kernel_rfl) (by kernel_rfl) ?_
      refine st_val (.int .i64 ((l.length : Nat) : Int)) (by kernel_rfl) (by kernel_rfl) ?_
      rcases Decidable.em ((((k : Nat) : Int) : Int) < ((l.length : Nat) : Int)) with c93 | c93
      ·
        refine st_val (.bool true) (by kernel_rfl) (bool_of (dec_t c93) (by kernel_rfl)) ?_
        refine wl_nil ?_
        refine hK101 _ _ ?_
        try clear hK101 K101
        refine wp_cond_true (by kernel_rfl) ?_
        refine wp_skip ?_
        refine hK100 _ _ ?_
        try clear hK100 K100
        refine wp_seq_k (fun K102 hK102 => ?_)
        refine wp_block ?_
        refine wp_seq_k (fun K103 hK103 => ?_)
        refine wl_region ?_
        refine st_val (.slice A l.length c) (by kernel_rfl) (by kernel_rfl) ?_
        refine st_val (.int .i64 ((k : Nat) : Int)) (by kernel_rfl) (by kernel_rfl) ?_
        obtain ⟨b104, o105, eA106⟩ := RdK.addr (hr.keep M99.keep (fun _ _ h => h)) (j := k * 1) (by rw [i64s_length]; omega)
        refine st_val (.pointer (some ⟨b104, o105 + k * 1, none⟩)) (by kernel_rfl) (run_indexSliceA 52 (.tmp 96) (.tmp 97) rfl A ⟨b104, o105, none⟩ eA106 l.length c .i64 k (by kernel_rfl) (by kernel_rfl) Try.underlying52 1 (by kernel_rfl) (by omega) ⟨b104, o105 + k * 1, none⟩ (addr_atK _ _ _ _)) ?_
        refine st_val (.int .i64 (l.getD k 0)) (by kernel_rfl) (run_load_cell 3 (.tmp 98) rfl ⟨b104, o105 + k * 1, none⟩ (by kernel_rfl) _ ((hr.keep M99.keep (fun _ _ h => h)).cellF eA106 (f := 0) (i64s_get l k (by omega))) (by kernel_rfl)) ?_
        refine st_val (.int .i64 (l.getD k 0)) (by kernel_rfl) (by kernel_rfl) ?_
        refine st_val (.int .i64 0) (by kernel_rfl) (by kernel_rfl) ?_
        refine wl_nil ?_
        refine hK103 _ _ ?_
        try clear hK103 K103
        refine wp_seq_k (fun K107 hK107 => ?_)
        refine wp_seq_k (fun K108 hK108 => ?_)
        refine wl_region ?_
        refine st_val (.int .i64 ((k : Nat) : Int)) (by kernel_rfl) (by kernel_rfl) ?_
        refine st_val (.int .i64 (((k : Nat) : Int) % 2)) (by kernel_rfl) (int_of (rem_of ((k : Nat) : Int) 2 (by omega)) (by kernel_rfl)) ?_
        rcases Decidable.em ((((k : Nat) : Int) % 2 : Int) = 0) with c102 | c102
        ·
          refine st_val (.bool true) (by kernel_rfl) (bool_of (dec_t c102) (by kernel_rfl)) ?_
          refine st_val (.bool true) (by kernel_rfl) (by kernel_rfl) ?_
          refine st_val (.slice A l.length c) (by kernel_rfl) (by kernel_rfl) ?_
          refine st_val (.int .i64 ((k : Nat) : Int)) (by kernel_rfl) (by kernel_rfl) ?_
          obtain ⟨b109, o110, eA111⟩ := RdK.addr (hr.keep M99.keep (fun _ _ h => h)) (j := k * 1) (by rw [i64s_length]; omega)
          refine st_val (.pointer (some ⟨b109, o110 + k * 1, none⟩)) (by kernel_rfl) (run_indexSliceA 52 (.tmp 104) (.tmp 105) rfl A ⟨b109, o110, none⟩ eA111 l.length c .i64 k (by kernel_rfl) (by kernel_rfl) Try.underlying52 1 (by kernel_rfl) (by omega) ⟨b109, o110 + k * 1, none⟩ (addr_atK _ _ _ _)) ?_
          refine st_val (.int .i64 (l.getD k 0)) (by kernel_rfl) (run_load_cell 3 (.tmp 106) rfl ⟨b109, o110 + k * 1, none⟩ (by kernel_rfl) _ ((hr.keep M99.keep (fun _ _ h => h)).cellF eA111 (f := 0) (i64s_get l k (by omega))) (by kernel_rfl)) ?_
          rcases Classical.em (mayU (l.getD k 0)) with hm | hm
          ·
            refine st_callB M99 (.bool true) (by kernel_rfl) (args := #[.int .i64 (l.getD k 0)]) (run_value_call 9 #[(Operand.tmp 107)] _ rfl Try.func9 (by kernel_rfl) (by kernel_rfl) _ (by kernel_rfl)) ((by have := may_ref W98 (l.getD k 0); rw [decide_eq_true hm] at this; exact this)) ?_
            intro W112 M113
            refine st_val (.bool true) (by kernel_rfl) (by kernel_rfl) ?_
            refine wl_nil ?_
            refine hK108 _ _ ?_
            try clear hK108 K108
            refine wp_frame (a' := ⟨#[.slice A l.length c, undef, (u97 2), .pointer (some ⟨g11, 0, none⟩), .int .i64 n, .int .i64 ((i : Nat) : Int), (u16 6), .pointer (some ⟨g87, 0, none⟩), .int .i64 0, .int .i64 ((k : Nat) : Int), .int .i64 (l.getD k 0), .int .i64 0, .slice A l.length c, .int .i64 ((l.length : Nat) : Int), .bool false, .pointer (some ⟨g11, 0, none⟩), .int .i64 ((i : Nat) : Int), .slice A l.length c, .int .i64 ((l.length : Nat) : Int), .bool false, (u16 20), (u16 21), (u16 22), (u16 23), (u16 24), (u16 25), (u16 26), (u16 27), (u16 28), (u16 29), (u16 30), (u16 31), (u16 32), (u16 33), (u16 34), (u16 35), (u16 36), (u16 37), (u16 38), (u16 39), (u16 40), (u16 41), (u16 42), (u16 43), (u16 44), (u16 45), (u16 46), (u16 47), (u16 48), (u16 49), (u16 50), (u16 51), (u16 52), (u16 53), (u16 54), (u16 55), (u16 56), (u16 57), (u16 58), (u16 59), (u16 60), (u16 61), (u16 62), (u16 63), (u16 64), (u16 65), (u16 66), (u16 67), (u16 68), (u16 69), (u16 70), (u16 71), (u16 72), (u16 73), (u16 74), (u16 75), (u16 76), (u16 77), (u16 78), (u16 79), (u16 80), (u16 81), .tuple #[.pointer (some ⟨g87, 0, none⟩), .int .i64 0], .pointer (some ⟨g11, 0, none⟩), .slice A79 ((payload (cum l i)).length) cq80, .tuple #[.pointer (some ⟨g87, 0, none⟩), .int .i64 0], .pointer (some ⟨g87, 0, none⟩), .int .i64 0, .int .i64 0, .bool false, .int .i64 ((k : Nat) : Int), .slice A l.length c, .int .i64 ((l.length : Nat) : Int), .bool true, (u97 94), (u97 95), .slice A l.length c, .int .i64 ((k : Nat) : Int), .pointer (some ⟨b104, o105 + k * 1, none⟩), .int .i64 (l.getD k 0), .int .i64 ((k : Nat) : Int), .int .i64 (((k : Nat) : Int) % 2), .bool true, .bool true, .slice A l.length c, .int .i64 ((k : Nat) : Int), .pointer (some ⟨b109, o110 + k * 1, none⟩), .int .i64 (l.getD k 0), .bool true, .bool true, (u97 110), (u97 111), (u97 112), (u97 113), (u97 114), (u97 115), (u97 116), (u97 117), (u97 118), (u97 119), (u97 120), (u97 121), (u97 122), (u97 123), (u97 124), (u97 125), (u97 126), (u97 127), (u97 128), (u97 129), (u97 130), (u97 131), (u97 132), (u97 133), (u97 134), (u97 135), (u97 136), (u97 137), (u97 138), (u97 139), undef, undef, undef, undef, undef, undef], []⟩) (by kernel_rfl) ?_
            refine wp_cond_true (by kernel_rfl) ?_
            obtain ⟨s, hs⟩ := cum_drop l k i (by omega)
            have htk : tk (((unpack (payload (cum l i))).take (endOf (payload (cum l i)))).drop a) = (l.getD k 0, 0, (codeU (l.getD k 0)).length) := by rw [hend, htp, hla, hs, bitsAt_U c102]; exact tk_codeU hm _
            refine wl_region ?_
            refine st_val (.pointer (some ⟨g87, 0, none⟩)) (by kernel_rfl) (by kernel_rfl) ?_
            refine st_callU (A := []) (T := (rT g87 v88 (endOf (payload (cum l i))) a TB89)) (B := []) M113 (by kernel_rfl) (run_value_call 27 #[(Operand.tmp 111)] _ rfl Try.func27 (by kernel_rfl) (by kernel_rfl) _ (by kernel_rfl)) (takeU_walk W112 F90 (by rw [hend]; omega) (Mem.part (A := []) (T := (rT g87 v88 (endOf (payload (cum l i))) a TB89)) (B := []) M113)) ?_
            intro v114 T115 W116 O117 M118
            obtain ⟨rfl, rfl⟩ := O117
            have M119 : Mem NoS w W116 (((rT g87 v88 (endOf (payload (cum l i))) (a + (tk (((unpack (payload (cum l i))).take (endOf (payload (cum l i)))).drop a)).2.2) TB89) ++ [])) := M118
            refine st_val (.tuple #[.int .i64 ((tk (((unpack (payload (cum l i))).take (endOf (payload (cum l i)))).drop a)).1), .int .i64 ((tk (((unpack (payload (cum l i))).take (endOf (payload (cum l i)))).drop a)).2.1)]) (by kernel_rfl) (by kernel_rfl) ?_
            refine st_val (.int .i64 ((tk (((unpack (payload (cum l i))).take (endOf (payload (cum l i)))).drop a)).1)) (by kernel_rfl) (by kernel_rfl) ?_
            refine st_val (.int .i64 ((tk (((unpack (payload (cum l i))).take (endOf (payload (cum l i)))).drop a)).2.1)) (by kernel_rfl) (by kernel_rfl) ?_
            refine st_val (.int .i64 ((tk (((unpack (payload (cum l i))).take (endOf (payload (cum l i)))).drop a)).1)) (by kernel_rfl) (by kernel_rfl) ?_
            refine st_val (.int .i64 ((tk (((unpack (payload (cum l i))).take (endOf (payload (cum l i)))).drop a)).2.1)) (by kernel_rfl) (by kernel_rfl) ?_
            refine wl_nil ?_
            refine hK107 _ _ ?_
            try clear hK107 K107
            refine wp_seq_k (fun K120 hK120 => ?_)
            refine wp_seq_k (fun K121 hK121 => ?_)
            refine wl_region ?_
            refine st_val (.int .i64 ((k : Nat) : Int)) (by kernel_rfl) (by kernel_rfl) ?_
            refine st_val (.int .i64 (((k : Nat) : Int) % 2)) (by kernel_rfl) (int_of (rem_of ((k : Nat) : Int) 2 (by omega)) (by kernel_rfl)) ?_
            refine st_val (.bool false) (by kernel_rfl) (bool_of (dec_f (show ¬ ((((k : Nat) : Int) % 2 : Int) = 1) by omega)) (by kernel_rfl)) ?_
            refine st_val (.bool false) (by kernel_rfl) (by kernel_rfl) ?_
            refine st_skip (by kernel_rfl) ?_
            refine st_skip (by kernel_rfl) ?_
            refine st_skip (by kernel_rfl) ?_
            refine st_skip (by kernel_rfl) ?_
            refine st_skip (by kernel_rfl) ?_
            refine st_val (.bool false) (by kernel_rfl) (by kernel_rfl) ?_
            refine wl_nil ?_
            refine hK121 _ _ ?_
            try clear hK121 K121
            refine wp_frame (a' := ⟨#[.slice A l.length c, undef, (u97 2), .pointer (some ⟨g11, 0, none⟩), .int .i64 n, .int .i64 ((i : Nat) : Int), (u16 6), .pointer (some ⟨g87, 0, none⟩), .int .i64 0, .int .i64 ((k : Nat) : Int), .int .i64 ((tk (((unpack (payload (cum l i))).take (endOf (payload (cum l i)))).drop a)).1), .int .i64 ((tk (((unpack (payload (cum l i))).take (endOf (payload (cum l i)))).drop a)).2.1), .slice A l.length c, .int .i64 ((l.length : Nat) : Int), .bool false, .pointer (some ⟨g11, 0, none⟩), .int .i64 ((i : Nat) : Int), .slice A l.length c, .int .i64 ((l.length : Nat) : Int), .bool false, (u16 20), (u16 21), (u16 22), (u16 23), (u16 24), (u16 25), (u16 26), (u16 27), (u16 28), (u16 29), (u16 30), (u16 31), (u16 32), (u16 33), (u16 34), (u16 35), (u16 36), (u16 37), (u16 38), (u16 39), (u16 40), (u16 41), (u16 42), (u16 43), (u16 44), (u16 45), (u16 46), (u16 47), (u16 48), (u16 49), (u16 50), (u16 51), (u16 52), (u16 53), (u16 54), (u16 55), (u16 56), (u16 57), (u16 58), (u16 59), (u16 60), (u16 61), (u16 62), (u16 63), (u16 64), (u16 65), (u16 66), (u16 67), (u16 68), (u16 69), (u16 70), (u16 71), (u16 72), (u16 73), (u16 74), (u16 75), (u16 76), (u16 77), (u16 78), (u16 79), (u16 80), (u16 81), .tuple #[.pointer (some ⟨g87, 0, none⟩), .int .i64 0], .pointer (some ⟨g11, 0, none⟩), .slice A79 ((payload (cum l i)).length) cq80, .tuple #[.pointer (some ⟨g87, 0, none⟩), .int .i64 0], .pointer (some ⟨g87, 0, none⟩), .int .i64 0, .int .i64 0, .bool false, .int .i64 ((k : Nat) : Int), .slice A l.length c, .int .i64 ((l.length : Nat) : Int), .bool true, (u97 94), (u97 95), .slice A l.length c, .int .i64 ((k : Nat) : Int), .pointer (some ⟨b104, o105 + k * 1, none⟩), .int .i64 (l.getD k 0), .int .i64 ((k : Nat) : Int), .int .i64 (((k : Nat) : Int) % 2), .bool true, .bool true, .slice A l.length c, .int .i64 ((k : Nat) : Int), .pointer (some ⟨b109, o110 + k * 1, none⟩), .int .i64 (l.getD k 0), .bool true, .bool true, .tuple #[.int .i64 ((tk (((unpack (payload (cum l i))).take (endOf (payload (cum l i)))).drop a)).1), .int .i64 ((tk (((unpack (payload (cum l i))).take (endOf (payload (cum l i)))).drop a)).2.1)], .pointer (some ⟨g87, 0, none⟩), .tuple #[.int .i64 ((tk (((unpack (payload (cum l i))).take (endOf (payload (cum l i)))).drop a)).1), .int .i64 ((tk (((unpack (payload (cum l i))).take (endOf (payload (cum l i)))).drop a)).2.1)], .int .i64 ((tk (((unpack (payload (cum l i))).take (endOf (payload (cum l i)))).drop a)).1), .int .i64 ((tk (((unpack (payload (cum l i))).take (endOf (payload (cum l i)))).drop a)).2.1), .int .i64 ((k : Nat) : Int), .int .i64 (((k : Nat) : Int) % 2), .bool false, .bool false, undef, undef, undef, undef, undef, .bool false, (u97 125), (u97 126), (u97 127), (u97 128), (u97 129), (u97 130), (u97 131), (u97 132), (u97 133), (u97 134), (u97 135), (u97 136), (u97 137), (u97 138), (u97 139), undef, undef, undef, undef, undef, undef], []⟩) (by kernel_rfl) ?_
            refine wp_cond_false (by kernel_rfl) ?_
            refine wp_skip ?_
            refine hK120 _ _ ?_
            try clear hK120 K120
            refine wp_seq_k (fun K122 hK122 => ?_)
            refine wl_region ?_
            refine st_val (.int .i64 ((tk (((unpack (payload (cum l i))).take (endOf (payload (cum l i)))).drop a)).1)) (by kernel_rfl) (by kernel_rfl) ?_
            refine st_val (.slice A l.length c) (by kernel_rfl) (by kernel_rfl) ?_
            refine st_val (.int .i64 ((k : Nat) : Int)) (by kernel_rfl) (by kernel_rfl) ?_
            obtain ⟨b123, o124, eA125⟩ := RdK.addr (hr.keep M119.keep (fun _ _ h => h)) (j := k * 1) (by rw [i64s_length]; omega)
            refine st_val (.pointer (some ⟨b123, o124 + k * 1, none⟩)) (by kernel_rfl) (run_indexSliceA 52 (.tmp 131) (.tmp 132) rfl A ⟨b123, o124, none⟩ eA125 l.length c .i64 k (by kernel_rfl) (by kernel_rfl) Try.underlying52 1 (by kernel_rfl) (by omega) ⟨b123, o124 + k * 1, none⟩ (addr_atK _ _ _ _)) ?_
            refine st_val (.int .i64 (l.getD k 0)) (by kernel_rfl) (run_load_cell 3 (.tmp 133) rfl ⟨b123, o124 + k * 1, none⟩ (by kernel_rfl) _ ((hr.keep M119.keep (fun _ _ h => h)).cellF eA125 (f := 0) (i64s_get l k (by omega))) (by kernel_rfl)) ?_
            refine st_val (.bool false) (by kernel_rfl) (bool_of (neq_f (show ((tk (((unpack (payload (cum l i))).take (endOf (payload (cum l i)))).drop a)).1 : Int) = l.getD k 0 from (by rw [htk]))) (by kernel_rfl)) ?_
            refine st_val (.bool false) (by kernel_rfl) (by kernel_rfl) ?_
            refine st_val (.int .i64 ((tk (((unpack (payload (cum l i))).take (endOf (payload (cum l i)))).drop a)).2.1)) (by kernel_rfl) (by kernel_rfl) ?_
            refine st_val (.bool false) (by kernel_rfl) (bool_of (neq_f (show ((tk (((unpack (payload (cum l i))).take (endOf (payload (cum l i)))).drop a)).2.1 : Int) = 0 from (by rw [htk]))) (by kernel_rfl)) ?_
            refine st_val (.bool false) (by kernel_rfl) (by kernel_rfl) ?_
            refine wl_nil ?_
            refine hK122 _ _ ?_
            try clear hK122 K122
            refine wp_cond_false (by kernel_rfl) ?_
            refine wp_skip ?_
            refine blk_normal ?_
            refine hK102 _ _ ?_
            try clear hK102 K102
            refine wl_region ?_
            refine st_val (.int .i64 ((k : Nat) : Int)) (by kernel_rfl) (by kernel_rfl) ?_
            refine st_val (.int .i64 (((k : Nat) : Int) + 1)) (by kernel_rfl) (i64_of (by omega) (by kernel_rfl)) ?_
            refine st_val (.int .i64 (((k : Nat) : Int) + 1)) (by kernel_rfl) (by kernel_rfl) ?_
            refine wl_nil ?_
            refine th_normal ?_
            exact ⟨_, by omega, (k + 1), (a + (tk (((unpack (payload (cum l i))).take (endOf (payload (cum l i)))).drop a)).2.2), (fun zz => Array.getD #[.slice A l.length c, undef, (u97 2), .pointer (some ⟨g11, 0, none⟩), .int .i64 n, .int .i64 ((i : Nat) : Int), (u16 6), .pointer (some ⟨g87, 0, none⟩), .int .i64 0, .int .i64 (((k : Nat) : Int) + 1), .int .i64 ((tk (((unpack (payload (cum l i))).take (endOf (payload (cum l i)))).drop a)).1), .int .i64 ((tk (((unpack (payload (cum l i))).take (endOf (payload (cum l i)))).drop a)).2.1), .slice A l.length c, .int .i64 ((l.length : Nat) : Int), .bool false, .pointer (some ⟨g11, 0, none⟩), .int .i64 ((i : Nat) : Int), .slice A l.length c, .int .i64 ((l.length : Nat) : Int), .bool false, (u16 20), (u16 21), (u16 22), (u16 23), (u16 24), (u16 25), (u16 26), (u16 27), (u16 28), (u16 29), (u16 30), (u16 31), (u16 32), (u16 33), (u16 34), (u16 35), (u16 36), (u16 37), (u16 38), (u16 39), (u16 40), (u16 41), (u16 42), (u16 43), (u16 44), (u16 45), (u16 46), (u16 47), (u16 48), (u16 49), (u16 50), (u16 51), (u16 52), (u16 53), (u16 54), (u16 55), (u16 56), (u16 57), (u16 58), (u16 59), (u16 60), (u16 61), (u16 62), (u16 63), (u16 64), (u16 65), (u16 66), (u16 67), (u16 68), (u16 69), (u16 70), (u16 71), (u16 72), (u16 73), (u16 74), (u16 75), (u16 76), (u16 77), (u16 78), (u16 79), (u16 80), (u16 81), .tuple #[.pointer (some ⟨g87, 0, none⟩), .int .i64 0], .pointer (some ⟨g11, 0, none⟩), .slice A79 ((payload (cum l i)).length) cq80, .tuple #[.pointer (some ⟨g87, 0, none⟩), .int .i64 0], .pointer (some ⟨g87, 0, none⟩), .int .i64 0, .int .i64 0, .bool false, .int .i64 ((k : Nat) : Int), .slice A l.length c, .int .i64 ((l.length : Nat) : Int), .bool true, .int .i64 ((k : Nat) : Int), .int .i64 (((k : Nat) : Int) + 1), .slice A l.length c, .int .i64 ((k : Nat) : Int), .pointer (some ⟨b104, o105 + k * 1, none⟩), .int .i64 (l.getD k 0), .int .i64 ((k : Nat) : Int), .int .i64 (((k : Nat) : Int) % 2), .bool true, .bool true, .slice A l.length c, .int .i64 ((k : Nat) : Int), .pointer (some ⟨b109, o110 + k * 1, none⟩), .int .i64 (l.getD k 0), .bool true, .bool true, .tuple #[.int .i64 ((tk (((unpack (payload (cum l i))).take (endOf (payload (cum l i)))).drop a)).1), .int .i64 ((tk (((unpack (payload (cum l i))).take (endOf (payload (cum l i)))).drop a)).2.1)], .pointer (some ⟨g87, 0, none⟩), .tuple #[.int .i64 ((tk (((unpack (payload (cum l i))).take (endOf (payload (cum l i)))).drop a)).1), .int .i64 ((tk (((unpack (payload (cum l i))).take (endOf (payload (cum l i)))).drop a)).2.1)], .int .i64 ((tk (((unpack (payload (cum l i))).take (endOf (payload (cum l i)))).drop a)).1), .int .i64 ((tk (((unpack (payload (cum l i))).take (endOf (payload (cum l i)))).drop a)).2.1), .int .i64 ((k : Nat) : Int), .int .i64 (((k : Nat) : Int) % 2), .bool false, .bool false, undef, undef, undef, undef, undef, .bool false, (u97 125), (u97 126), (u97 127), (u97 128), (u97 129), .int .i64 ((tk (((unpack (payload (cum l i))).take (endOf (payload (cum l i)))).drop a)).1), .slice A l.length c, .int .i64 ((k : Nat) : Int), .pointer (some ⟨b123, o124 + k * 1, none⟩), .int .i64 (l.getD k 0), .bool false, .bool false, .int .i64 ((tk (((unpack (payload (cum l i))).take (endOf (payload (cum l i)))).drop a)).2.1), .bool false, .bool false, undef, undef, undef, undef, undef, undef] zz undef), ⟨⟨by omega, by rw [cum_next, bitsAt_U c102, htk, hla]⟩, M119⟩, rfl, (by kernel_rfl)⟩
          ·
            refine st_callB M99 (.bool false) (by kernel_rfl) (args := #[.int .i64 (l.getD k 0)]) (run_value_call 9 #[(Operand.tmp 107)] _ rfl Try.func9 (by kernel_rfl) (by kernel_rfl) _ (by kernel_rfl)) ((by have := may_ref W98 (l.getD k 0); rw [decide_eq_false hm] at this; exact this)) ?_
            intro W126 M127
            refine st_val (.bool false) (by kernel_rfl) (by kernel_rfl) ?_
            refine wl_nil ?_
            refine hK108 _ _ ?_
            try clear hK108 K108
            refine wp_frame (a' := ⟨#[.slice A l.length c, undef, (u97 2), .pointer (some ⟨g11, 0, none⟩), .int .i64 n, .int .i64 ((i : Nat) : Int), (u16 6), .pointer (some ⟨g87, 0, none⟩), .int .i64 0, .int .i64 ((k : Nat) : Int), .int .i64 (l.getD k 0), .int .i64 0, .slice A l.length c, .int .i64 ((l.length : Nat) : Int), .bool false, .pointer (some ⟨g11, 0, none⟩), .int .i64 ((i : Nat) : Int), .slice A l.length c, .int .i64 ((l.length : Nat) : Int), .bool false, (u16 20), (u16 21), (u16 22), (u16 23), (u16 24), (u16 25), (u16 26), (u16 27), (u16 28), (u16 29), (u16 30), (u16 31), (u16 32), (u16 33), (u16 34), (u16 35), (u16 36), (u16 37), (u16 38), (u16 39), (u16 40), (u16 41), (u16 42), (u16 43), (u16 44), (u16 45), (u16 46), (u16 47), (u16 48), (u16 49), (u16 50), (u16 51), (u16 52), (u16 53), (u16 54), (u16 55), (u16 56), (u16 57), (u16 58), (u16 59), (u16 60), (u16 61), (u16 62), (u16 63), (u16 64), (u16 65), (u16 66), (u16 67), (u16 68), (u16 69), (u16 70), (u16 71), (u16 72), (u16 73), (u16 74), (u16 75), (u16 76), (u16 77), (u16 78), (u16 79), (u16 80), (u16 81), .tuple #[.pointer (some ⟨g87, 0, none⟩), .int .i64 0], .pointer (some ⟨g11, 0, none⟩), .slice A79 ((payload (cum l i)).length) cq80, .tuple #[.pointer (some ⟨g87, 0, none⟩), .int .i64 0], .pointer (some ⟨g87, 0, none⟩), .int .i64 0, .int .i64 0, .bool false, .int .i64 ((k : Nat) : Int), .slice A l.length c, .int .i64 ((l.length : Nat) : Int), .bool true, (u97 94), (u97 95), .slice A l.length c, .int .i64 ((k : Nat) : Int), .pointer (some ⟨b104, o105 + k * 1, none⟩), .int .i64 (l.getD k 0), .int .i64 ((k : Nat) : Int), .int .i64 (((k : Nat) : Int) % 2), .bool true, .bool true, .slice A l.length c, .int .i64 ((k : Nat) : Int), .pointer (some ⟨b109, o110 + k * 1, none⟩), .int .i64 (l.getD k 0), .bool false, .bool false, (u97 110), (u97 111), (u97 112), (u97 113), (u97 114), (u97 115), (u97 116), (u97 117), (u97 118), (u97 119), (u97 120), (u97 121), (u97 122), (u97 123), (u97 124), (u97 125), (u97 126), (u97 127), (u97 128), (u97 129), (u97 130), (u97 131), (u97 132), (u97 133), (u97 134), (u97 135), (u97 136), (u97 137), (u97 138), (u97 139), undef, undef, undef, undef, undef, undef], []⟩) (by kernel_rfl) ?_
            refine wp_cond_false (by kernel_rfl) ?_
            refine wp_skip ?_
            refine hK107 _ _ ?_
            try clear hK107 K107
            refine wp_seq_k (fun K128 hK128 => ?_)
            refine wp_seq_k (fun K129 hK129 => ?_)
            refine wl_region ?_
            refine st_val (.int .i64 ((k : Nat) : Int)) (by kernel_rfl) (by kernel_rfl) ?_
            refine st_val (.int .i64 (((k : Nat) : Int) % 2)) (by kernel_rfl) (int_of (rem_of ((k : Nat) : Int) 2 (by omega)) (by kernel_rfl)) ?_
            refine st_val (.bool false) (by kernel_rfl) (bool_of (dec_f (show ¬ ((((k : Nat) : Int) % 2 : Int) = 1) by omega)) (by kernel_rfl)) ?_
            refine st_val (.bool false) (by kernel_rfl) (by kernel_rfl) ?_
            refine st_skip (by kernel_rfl) ?_
            refine st_skip (by kernel_rfl) ?_
            refine st_skip (by kernel_rfl) ?_
            refine st_skip (by kernel_rfl) ?_
            refine st_skip (by kernel_rfl) ?_
            refine st_val (.bool false) (by kernel_rfl) (by kernel_rfl) ?_
            refine wl_nil ?_
            refine hK129 _ _ ?_
            try clear hK129 K129
            refine wp_cond_false (by kernel_rfl) ?_
            refine wp_skip ?_
            refine hK128 _ _ ?_
            try clear hK128 K128
            refine wp_seq_k (fun K130 hK130 => ?_)
            refine wl_region ?_
            refine st_val (.int .i64 (l.getD k 0)) (by kernel_rfl) (by kernel_rfl) ?_
            refine st_val (.slice A l.length c) (by kernel_rfl) (by kernel_rfl) ?_
            refine st_val (.int .i64 ((k : Nat) : Int)) (by kernel_rfl) (by kernel_rfl) ?_
            obtain ⟨b131, o132, eA133⟩ := RdK.addr (hr.keep M127.keep (fun _ _ h => h)) (j := k * 1) (by rw [i64s_length]; omega)
            refine st_val (.pointer (some ⟨b131, o132 + k * 1, none⟩)) (by kernel_rfl) (run_indexSliceA 52 (.tmp 131) (.tmp 132) rfl A ⟨b131, o132, none⟩ eA133 l.length c .i64 k (by kernel_rfl) (by kernel_rfl) Try.underlying52 1 (by kernel_rfl) (by omega) ⟨b131, o132 + k * 1, none⟩ (addr_atK _ _ _ _)) ?_
            refine st_val (.int .i64 (l.getD k 0)) (by kernel_rfl) (run_load_cell 3 (.tmp 133) rfl ⟨b131, o132 + k * 1, none⟩ (by kernel_rfl) _ ((hr.keep M127.keep (fun _ _ h => h)).cellF eA133 (f := 0) (i64s_get l k (by omega))) (by kernel_rfl)) ?_
            refine st_val (.bool false) (by kernel_rfl) (bool_of (neq_f (show (l.getD k 0 : Int) = l.getD k 0 from rfl)) (by kernel_rfl)) ?_
            refine st_val (.bool false) (by kernel_rfl) (by kernel_rfl) ?_
            refine st_val (.int .i64 0) (by kernel_rfl) (by kernel_rfl) ?_
            refine st_val (.bool false) (by kernel_rfl) (by kernel_rfl) ?_
            refine st_val (.bool false) (by kernel_rfl) (by kernel_rfl) ?_
            refine wl_nil ?_
            refine hK130 _ _ ?_
            try clear hK130 K130
            refine wp_frame (a' := ⟨#[.slice A l.length c, undef, (u97 2), .pointer (some ⟨g11, 0, none⟩), .int .i64 n, .int .i64 ((i : Nat) : Int), (u16 6), .pointer (some ⟨g87, 0, none⟩), .int .i64 0, .int .i64 ((k : Nat) : Int), .int .i64 (l.getD k 0), .int .i64 0, .slice A l.length c, .int .i64 ((l.length : Nat) : Int), .bool false, .pointer (some ⟨g11, 0, none⟩), .int .i64 ((i : Nat) : Int), .slice A l.length c, .int .i64 ((l.length : Nat) : Int), .bool false, (u16 20), (u16 21), (u16 22), (u16 23), (u16 24), (u16 25), (u16 26), (u16 27), (u16 28), (u16 29), (u16 30), (u16 31), (u16 32), (u16 33), (u16 34), (u16 35), (u16 36), (u16 37), (u16 38), (u16 39), (u16 40), (u16 41), (u16 42), (u16 43), (u16 44), (u16 45), (u16 46), (u16 47), (u16 48), (u16 49), (u16 50), (u16 51), (u16 52), (u16 53), (u16 54), (u16 55), (u16 56), (u16 57), (u16 58), (u16 59), (u16 60), (u16 61), (u16 62), (u16 63), (u16 64), (u16 65), (u16 66), (u16 67), (u16 68), (u16 69), (u16 70), (u16 71), (u16 72), (u16 73), (u16 74), (u16 75), (u16 76), (u16 77), (u16 78), (u16 79), (u16 80), (u16 81), .tuple #[.pointer (some ⟨g87, 0, none⟩), .int .i64 0], .pointer (some ⟨g11, 0, none⟩), .slice A79 ((payload (cum l i)).length) cq80, .tuple #[.pointer (some ⟨g87, 0, none⟩), .int .i64 0], .pointer (some ⟨g87, 0, none⟩), .int .i64 0, .int .i64 0, .bool false, .int .i64 ((k : Nat) : Int), .slice A l.length c, .int .i64 ((l.length : Nat) : Int), .bool true, (u97 94), (u97 95), .slice A l.length c, .int .i64 ((k : Nat) : Int), .pointer (some ⟨b104, o105 + k * 1, none⟩), .int .i64 (l.getD k 0), .int .i64 ((k : Nat) : Int), .int .i64 (((k : Nat) : Int) % 2), .bool true, .bool true, .slice A l.length c, .int .i64 ((k : Nat) : Int), .pointer (some ⟨b109, o110 + k * 1, none⟩), .int .i64 (l.getD k 0), .bool false, .bool false, (u97 110), (u97 111), (u97 112), (u97 113), (u97 114), .int .i64 ((k : Nat) : Int), .int .i64 (((k : Nat) : Int) % 2), .bool false, .bool false, undef, undef, undef, undef, undef, .bool false, (u97 125), (u97 126), (u97 127), (u97 128), (u97 129), .int .i64 (l.getD k 0), .slice A l.length c, .int .i64 ((k : Nat) : Int), .pointer (some ⟨b131, o132 + k * 1, none⟩), .int .i64 (l.getD k 0), .bool false, .bool false, .int .i64 0, .bool false, .bool false, undef, undef, undef, undef, undef, undef], []⟩) (by kernel_rfl) ?_
            refine wp_cond_false (by kernel_rfl) ?_
            refine wp_skip ?_
            refine blk_normal ?_
            refine hK102 _ _ ?_
            try clear hK102 K102
            refine wl_region ?_
            refine st_val (.int .i64 ((k : Nat) : Int)) (by kernel_rfl) (by kernel_rfl) ?_
            refine st_val (.int .i64 (((k : Nat) : Int) + 1)) (by kernel_rfl) (i64_of (by omega) (by kernel_rfl)) ?_
            refine st_val (.int .i64 (((k : Nat) : Int) + 1)) (by kernel_rfl) (by kernel_rfl) ?_
            refine wl_nil ?_
            refine th_normal ?_
            exact ⟨_, by omega, (k + 1), a, (fun zz => Array.getD #[.slice A l.length c, undef, (u97 2), .pointer (some ⟨g11, 0, none⟩), .int .i64 n, .int .i64 ((i : Nat) : Int), (u16 6), .pointer (some ⟨g87, 0, none⟩), .int .i64 0, .int .i64 (((k : Nat) : Int) + 1), .int .i64 (l.getD k 0), .int .i64 0, .slice A l.length c, .int .i64 ((l.length : Nat) : Int), .bool false, .pointer (some ⟨g11, 0, none⟩), .int .i64 ((i : Nat) : Int), .slice A l.length c, .int .i64 ((l.length : Nat) : Int), .bool false, (u16 20), (u16 21), (u16 22), (u16 23), (u16 24), (u16 25), (u16 26), (u16 27), (u16 28), (u16 29), (u16 30), (u16 31), (u16 32), (u16 33), (u16 34), (u16 35), (u16 36), (u16 37), (u16 38), (u16 39), (u16 40), (u16 41), (u16 42), (u16 43), (u16 44), (u16 45), (u16 46), (u16 47), (u16 48), (u16 49), (u16 50), (u16 51), (u16 52), (u16 53), (u16 54), (u16 55), (u16 56), (u16 57), (u16 58), (u16 59), (u16 60), (u16 61), (u16 62), (u16 63), (u16 64), (u16 65), (u16 66), (u16 67), (u16 68), (u16 69), (u16 70), (u16 71), (u16 72), (u16 73), (u16 74), (u16 75), (u16 76), (u16 77), (u16 78), (u16 79), (u16 80), (u16 81), .tuple #[.pointer (some ⟨g87, 0, none⟩), .int .i64 0], .pointer (some ⟨g11, 0, none⟩), .slice A79 ((payload (cum l i)).length) cq80, .tuple #[.pointer (some ⟨g87, 0, none⟩), .int .i64 0], .pointer (some ⟨g87, 0, none⟩), .int .i64 0, .int .i64 0, .bool false, .int .i64 ((k : Nat) : Int), .slice A l.length c, .int .i64 ((l.length : Nat) : Int), .bool true, .int .i64 ((k : Nat) : Int), .int .i64 (((k : Nat) : Int) + 1), .slice A l.length c, .int .i64 ((k : Nat) : Int), .pointer (some ⟨b104, o105 + k * 1, none⟩), .int .i64 (l.getD k 0), .int .i64 ((k : Nat) : Int), .int .i64 (((k : Nat) : Int) % 2), .bool true, .bool true, .slice A l.length c, .int .i64 ((k : Nat) : Int), .pointer (some ⟨b109, o110 + k * 1, none⟩), .int .i64 (l.getD k 0), .bool false, .bool false, (u97 110), (u97 111), (u97 112), (u97 113), (u97 114), .int .i64 ((k : Nat) : Int), .int .i64 (((k : Nat) : Int) % 2), .bool false, .bool false, undef, undef, undef, undef, undef, .bool false, (u97 125), (u97 126), (u97 127), (u97 128), (u97 129), .int .i64 (l.getD k 0), .slice A l.length c, .int .i64 ((k : Nat) : Int), .pointer (some ⟨b131, o132 + k * 1, none⟩), .int .i64 (l.getD k 0), .bool false, .bool false, .int .i64 0, .bool false, .bool false, undef, undef, undef, undef, undef, undef] zz undef), ⟨⟨by omega, by rw [cum_next, bitsAt_U c102, codeU_f hm]; simpa using hla⟩, M127⟩, rfl, (by kernel_rfl)⟩
        ·
          refine st_val (.bool false) (by kernel_rfl) (bool_of (dec_f c102) (by kernel_rfl)) ?_
          refine st_val (.bool false) (by kernel_rfl) (by kernel_rfl) ?_
          refine st_skip (by kernel_rfl) ?_
          refine st_skip (by kernel_rfl) ?_
          refine st_skip (by kernel_rfl) ?_
          refine st_skip (by kernel_rfl) ?_
          refine st_skip (by kernel_rfl) ?_
          refine st_val (.bool false) (by kernel_rfl) (by kernel_rfl) ?_
          refine wl_nil ?_
          refine hK108 _ _ ?_
          try clear hK108 K108
          refine wp_frame (a' := ⟨#[.slice A l.length c, undef, (u97 2), .pointer (some ⟨g11, 0, none⟩), .int .i64 n, .int .i64 ((i : Nat) : Int), (u16 6), .pointer (some ⟨g87, 0, none⟩), .int .i64 0, .int .i64 ((k : Nat) : Int), .int .i64 (l.getD k 0), .int .i64 0, .slice A l.length c, .int .i64 ((l.length : Nat) : Int), .bool false, .pointer (some ⟨g11, 0, none⟩), .int .i64 ((i : Nat) : Int), .slice A l.length c, .int .i64 ((l.length : Nat) : Int), .bool false, (u16 20), (u16 21), (u16 22), (u16 23), (u16 24), (u16 25), (u16 26), (u16 27), (u16 28), (u16 29), (u16 30), (u16 31), (u16 32), (u16 33), (u16 34), (u16 35), (u16 36), (u16 37), (u16 38), (u16 39), (u16 40), (u16 41), (u16 42), (u16 43), (u16 44), (u16 45), (u16 46), (u16 47), (u16 48), (u16 49), (u16 50), (u16 51), (u16 52), (u16 53), (u16 54), (u16 55), (u16 56), (u16 57), (u16 58), (u16 59), (u16 60), (u16 61), (u16 62), (u16 63), (u16 64), (u16 65), (u16 66), (u16 67), (u16 68), (u16 69), (u16 70), (u16 71), (u16 72), (u16 73), (u16 74), (u16 75), (u16 76), (u16 77), (u16 78), (u16 79), (u16 80), (u16 81), .tuple #[.pointer (some ⟨g87, 0, none⟩), .int .i64 0], .pointer (some ⟨g11, 0, none⟩), .slice A79 ((payload (cum l i)).length) cq80, .tuple #[.pointer (some ⟨g87, 0, none⟩), .int .i64 0], .pointer (some ⟨g87, 0, none⟩), .int .i64 0, .int .i64 0, .bool false, .int .i64 ((k : Nat) : Int), .slice A l.length c, .int .i64 ((l.length : Nat) : Int), .bool true, (u97 94), (u97 95), .slice A l.length c, .int .i64 ((k : Nat) : Int), .pointer (some ⟨b104, o105 + k * 1, none⟩), .int .i64 (l.getD k 0), .int .i64 ((k : Nat) : Int), .int .i64 (((k : Nat) : Int) % 2), .bool false, .bool false, undef, undef, undef, undef, undef, .bool false, (u97 110), (u97 111), (u97 112), (u97 113), (u97 114), (u97 115), (u97 116), (u97 117), (u97 118), (u97 119), (u97 120), (u97 121), (u97 122), (u97 123), (u97 124), (u97 125), (u97 126), (u97 127), (u97 128), (u97 129), (u97 130), (u97 131), (u97 132), (u97 133), (u97 134), (u97 135), (u97 136), (u97 137), (u97 138), (u97 139), undef, undef, undef, undef, undef, undef], []⟩) (by kernel_rfl) ?_
          refine wp_cond_false (by kernel_rfl) ?_
          refine wp_skip ?_
          refine hK107 _ _ ?_
          try clear hK107 K107
          refine wp_seq_k (fun K134 hK134 => ?_)
          refine wp_seq_k (fun K135 hK135 => ?_)
          refine wl_region ?_
          refine st_val (.int .i64 ((k : Nat) : Int)) (by kernel_rfl) (by kernel_rfl) ?_
          refine st_val (.int .i64 (((k : Nat) : Int) % 2)) (by kernel_rfl) (int_of (rem_of ((k : Nat) : Int) 2 (by omega)) (by kernel_rfl)) ?_
          refine st_val (.bool true) (by kernel_rfl) (bool_of (dec_t (show (((k : Nat) : Int) % 2 : Int) = 1 by omega)) (by kernel_rfl)) ?_
          refine st_val (.bool true) (by kernel_rfl) (by kernel_rfl) ?_
          refine st_val (.slice A l.length c) (by kernel_rfl) (by kernel_rfl) ?_
          refine st_val (.int .i64 ((k : Nat) : Int)) (by kernel_rfl) (by kernel_rfl) ?_
          obtain ⟨b136, o137, eA138⟩ := RdK.addr (hr.keep M99.keep (fun _ _ h => h)) (j := k * 1) (by rw [i64s_length]; omega)
          refine st_val (.pointer (some ⟨b136, o137 + k * 1, none⟩)) (by kernel_rfl) (run_indexSliceA 52 (.tmp 119) (.tmp 120) rfl A ⟨b136, o137, none⟩ eA138 l.length c .i64 k (by kernel_rfl) (by kernel_rfl) Try.underlying52 1 (by kernel_rfl) (by omega) ⟨b136, o137 + k * 1, none⟩ (addr_atK _ _ _ _)) ?_
          refine st_val (.int .i64 (l.getD k 0)) (by kernel_rfl) (run_load_cell 3 (.tmp 121) rfl ⟨b136, o137 + k * 1, none⟩ (by kernel_rfl) _ ((hr.keep M99.keep (fun _ _ h => h)).cellF eA138 (f := 0) (i64s_get l k (by omega))) (by kernel_rfl)) ?_
          rcases Classical.em (mayS (l.getD k 0)) with hm | hm
          ·
            refine st_callB M99 (.bool true) (by kernel_rfl) (args := #[.int .i64 (l.getD k 0)]) (run_value_call 23 #[(Operand.tmp 122)] _ rfl Try.func23 (by kernel_rfl) (by kernel_rfl) _ (by kernel_rfl)) ((by have := mayS_ref W98 (l.getD k 0); rw [decide_eq_true hm] at this; exact this)) ?_
            intro W139 M140
            refine st_val (.bool true) (by kernel_rfl) (by kernel_rfl) ?_
            refine wl_nil ?_
            refine hK135 _ _ ?_
            try clear hK135 K135
            refine wp_cond_true (by kernel_rfl) ?_
            obtain ⟨s, hs⟩ := cum_drop l k i (by omega)
            have htk : tks (((unpack (payload (cum l i))).take (endOf (payload (cum l i)))).drop a) = l.getD k 0 ∧ (tk (((unpack (payload (cum l i))).take (endOf (payload (cum l i)))).drop a)).2 = (0, (codeS (l.getD k 0)).length) := by rw [hend, htp, hla, hs, bitsAt_S c102]; exact tk_codeS hm _
            refine wl_region ?_
            refine st_val (.pointer (some ⟨g87, 0, none⟩)) (by kernel_rfl) (by kernel_rfl) ?_
            refine st_callU (A := []) (T := (rT g87 v88 (endOf (payload (cum l i))) a TB89)) (B := []) M140 (by kernel_rfl) (run_value_call 30 #[(Operand.tmp 126)] _ rfl Try.func30 (by kernel_rfl) (by kernel_rfl) _ (by kernel_rfl)) (takeS_walk W139 F90 (by rw [hend]; omega) (Mem.part (A := []) (T := (rT g87 v88 (endOf (payload (cum l i))) a TB89)) (B := []) M140)) ?_
            intro v141 T142 W143 O144 M145
            obtain ⟨rfl, rfl⟩ := O144
            have M146 : Mem NoS w W143 (((rT g87 v88 (endOf (payload (cum l i))) (a + (tk (((unpack (payload (cum l i))).take (endOf (payload (cum l i)))).drop a)).2.2) TB89) ++ [])) := M145
            refine st_val (.tuple #[.int .i64 (tks (((unpack (payload (cum l i))).take (endOf (payload (cum l i)))).drop a)), .int .i64 ((tk (((unpack (payload (cum l i))).take (endOf (payload (cum l i)))).drop a)).2.1)]) (by kernel_rfl) (by kernel_rfl) ?_
            refine st_val (.int .i64 (tks (((unpack (payload (cum l i))).take (endOf (payload (cum l i)))).drop a))) (by kernel_rfl) (by kernel_rfl) ?_
            refine st_val (.int .i64 ((tk (((unpack (payload (cum l i))).take (endOf (payload (cum l i)))).drop a)).2.1)) (by kernel_rfl) (by kernel_rfl) ?_
            refine st_val (.int .i64 (tks (((unpack (payload (cum l i))).take (endOf (payload (cum l i)))).drop a))) (by kernel_rfl) (by kernel_rfl) ?_
            refine st_val (.int .i64 ((tk (((unpack (payload (cum l i))).take (endOf (payload (cum l i)))).drop a)).2.1)) (by kernel_rfl) (by kernel_rfl) ?_
            refine wl_nil ?_
            refine hK134 _ _ ?_
            try clear hK134 K134
            refine wp_frame (a' := ⟨#[.slice A l.length c, undef, (u97 2), .pointer (some ⟨g11, 0, none⟩), .int .i64 n, .int .i64 ((i : Nat) : Int), (u16 6), .pointer (some ⟨g87, 0, none⟩), .int .i64 0, .int .i64 ((k : Nat) : Int), .int .i64 (tks (((unpack (payload (cum l i))).take (endOf (payload (cum l i)))).drop a)), .int .i64 ((tk (((unpack (payload (cum l i))).take (endOf (payload (cum l i)))).drop a)).2.1), .slice A l.length c, .int .i64 ((l.length : Nat) : Int), .bool false, .pointer (some ⟨g11, 0, none⟩), .int .i64 ((i : Nat) : Int), .slice A l.length c, .int .i64 ((l.length : Nat) : Int), .bool false, (u16 20), (u16 21), (u16 22), (u16 23), (u16 24), (u16 25), (u16 26), (u16 27), (u16 28), (u16 29), (u16 30), (u16 31), (u16 32), (u16 33), (u16 34), (u16 35), (u16 36), (u16 37), (u16 38), (u16 39), (u16 40), (u16 41), (u16 42), (u16 43), (u16 44), (u16 45), (u16 46), (u16 47), (u16 48), (u16 49), (u16 50), (u16 51), (u16 52), (u16 53), (u16 54), (u16 55), (u16 56), (u16 57), (u16 58), (u16 59), (u16 60), (u16 61), (u16 62), (u16 63), (u16 64), (u16 65), (u16 66), (u16 67), (u16 68), (u16 69), (u16 70), (u16 71), (u16 72), (u16 73), (u16 74), (u16 75), (u16 76), (u16 77), (u16 78), (u16 79), (u16 80), (u16 81), .tuple #[.pointer (some ⟨g87, 0, none⟩), .int .i64 0], .pointer (some ⟨g11, 0, none⟩), .slice A79 ((payload (cum l i)).length) cq80, .tuple #[.pointer (some ⟨g87, 0, none⟩), .int .i64 0], .pointer (some ⟨g87, 0, none⟩), .int .i64 0, .int .i64 0, .bool false, .int .i64 ((k : Nat) : Int), .slice A l.length c, .int .i64 ((l.length : Nat) : Int), .bool true, (u97 94), (u97 95), .slice A l.length c, .int .i64 ((k : Nat) : Int), .pointer (some ⟨b104, o105 + k * 1, none⟩), .int .i64 (l.getD k 0), .int .i64 ((k : Nat) : Int), .int .i64 (((k : Nat) : Int) % 2), .bool false, .bool false, undef, undef, undef, undef, undef, .bool false, (u97 110), (u97 111), (u97 112), (u97 113), (u97 114), .int .i64 ((k : Nat) : Int), .int .i64 (((k : Nat) : Int) % 2), .bool true, .bool true, .slice A l.length c, .int .i64 ((k : Nat) : Int), .pointer (some ⟨b136, o137 + k * 1, none⟩), .int .i64 (l.getD k 0), .bool true, .bool true, .tuple #[.int .i64 (tks (((unpack (payload (cum l i))).take (endOf (payload (cum l i)))).drop a)), .int .i64 ((tk (((unpack (payload (cum l i))).take (endOf (payload (cum l i)))).drop a)).2.1)], .pointer (some ⟨g87, 0, none⟩), .tuple #[.int .i64 (tks (((unpack (payload (cum l i))).take (endOf (payload (cum l i)))).drop a)), .int .i64 ((tk (((unpack (payload (cum l i))).take (endOf (payload (cum l i)))).drop a)).2.1)], .int .i64 (tks (((unpack (payload (cum l i))).take (endOf (payload (cum l i)))).drop a)), .int .i64 ((tk (((unpack (payload (cum l i))).take (endOf (payload (cum l i)))).drop a)).2.1), (u97 130), (u97 131), (u97 132), (u97 133), (u97 134), (u97 135), (u97 136), (u97 137), (u97 138), (u97 139), undef, undef, undef, undef, undef, undef], []⟩) (by kernel_rfl) ?_
            refine wp_seq_k (fun K147 hK147 => ?_)
            refine wl_region ?_
            refine st_val (.int .i64 (tks (((unpack (payload (cum l i))).take (endOf (payload (cum l i)))).drop a))) (by kernel_rfl) (by kernel_rfl) ?_
            refine st_val (.slice A l.length c) (by kernel_rfl) (by kernel_rfl) ?_
            refine st_val (.int .i64 ((k : Nat) : Int)) (by kernel_rfl) (by kernel_rfl) ?_
            obtain ⟨b148, o149, eA150⟩ := RdK.addr (hr.keep M146.keep (fun _ _ h => h)) (j := k * 1) (by rw [i64s_length]; omega)
            refine st_val (.pointer (some ⟨b148, o149 + k * 1, none⟩)) (by kernel_rfl) (run_indexSliceA 52 (.tmp 131) (.tmp 132) rfl A ⟨b148, o149, none⟩ eA150 l.length c .i64 k (by kernel_rfl) (by kernel_rfl) Try.underlying52 1 (by kernel_rfl) (by omega) ⟨b148, o149 + k * 1, none⟩ (addr_atK _ _ _ _)) ?_
            refine st_val (.int .i64 (l.getD k 0)) (by kernel_rfl) (run_load_cell 3 (.tmp 133) rfl ⟨b148, o149 + k * 1, none⟩ (by kernel_rfl) _ ((hr.keep M146.keep (fun _ _ h => h)).cellF eA150 (f := 0) (i64s_get l k (by omega))) (by kernel_rfl)) ?_
            refine st_val (.bool false) (by kernel_rfl) (bool_of (neq_f (show (tks (((unpack (payload (cum l i))).take (endOf (payload (cum l i)))).drop a) : Int) = l.getD k 0 from htk.1)) (by kernel_rfl)) ?_
            refine st_val (.bool false) (by kernel_rfl) (by kernel_rfl) ?_
            refine st_val (.int .i64 ((tk (((unpack (payload (cum l i))).take (endOf (payload (cum l i)))).drop a)).2.1)) (by kernel_rfl) (by kernel_rfl) ?_
            refine st_val (.bool false) (by kernel_rfl) (bool_of (neq_f (show ((tk (((unpack (payload (cum l i))).take (endOf (payload (cum l i)))).drop a)).2.1 : Int) = 0 from (by rw [htk.2]))) (by kernel_rfl)) ?_
            refine st_val (.bool false) (by kernel_rfl) (by kernel_rfl) ?_
            refine wl_nil ?_
            refine hK147 _ _ ?_
            try clear hK147 K147
            refine wp_cond_false (by kernel_rfl) ?_
            refine wp_skip ?_
            refine blk_normal ?_
            refine hK102 _ _ ?_
            try clear hK102 K102
            refine wl_region ?_
            refine st_val (.int .i64 ((k : Nat) : Int)) (by kernel_rfl) (by kernel_rfl) ?_
            refine st_val (.int .i64 (((k : Nat) : Int) + 1)) (by kernel_rfl) (i64_of (by omega) (by kernel_rfl)) ?_
            refine st_val (.int .i64 (((k : Nat) : Int) + 1)) (by kernel_rfl) (by kernel_rfl) ?_
            refine wl_nil ?_
            refine th_normal ?_
            exact ⟨_, by omega, (k + 1), (a + (tk (((unpack (payload (cum l i))).take (endOf (payload (cum l i)))).drop a)).2.2), (fun zz => Array.getD #[.slice A l.length c, undef, (u97 2), .pointer (some ⟨g11, 0, none⟩), .int .i64 n, .int .i64 ((i : Nat) : Int), (u16 6), .pointer (some ⟨g87, 0, none⟩), .int .i64 0, .int .i64 (((k : Nat) : Int) + 1), .int .i64 (tks (((unpack (payload (cum l i))).take (endOf (payload (cum l i)))).drop a)), .int .i64 ((tk (((unpack (payload (cum l i))).take (endOf (payload (cum l i)))).drop a)).2.1), .slice A l.length c, .int .i64 ((l.length : Nat) : Int), .bool false, .pointer (some ⟨g11, 0, none⟩), .int .i64 ((i : Nat) : Int), .slice A l.length c, .int .i64 ((l.length : Nat) : Int), .bool false, (u16 20), (u16 21), (u16 22), (u16 23), (u16 24), (u16 25), (u16 26), (u16 27), (u16 28), (u16 29), (u16 30), (u16 31), (u16 32), (u16 33), (u16 34), (u16 35), (u16 36), (u16 37), (u16 38), (u16 39), (u16 40), (u16 41), (u16 42), (u16 43), (u16 44), (u16 45), (u16 46), (u16 47), (u16 48), (u16 49), (u16 50), (u16 51), (u16 52), (u16 53), (u16 54), (u16 55), (u16 56), (u16 57), (u16 58), (u16 59), (u16 60), (u16 61), (u16 62), (u16 63), (u16 64), (u16 65), (u16 66), (u16 67), (u16 68), (u16 69), (u16 70), (u16 71), (u16 72), (u16 73), (u16 74), (u16 75), (u16 76), (u16 77), (u16 78), (u16 79), (u16 80), (u16 81), .tuple #[.pointer (some ⟨g87, 0, none⟩), .int .i64 0], .pointer (some ⟨g11, 0, none⟩), .slice A79 ((payload (cum l i)).length) cq80, .tuple #[.pointer (some ⟨g87, 0, none⟩), .int .i64 0], .pointer (some ⟨g87, 0, none⟩), .int .i64 0, .int .i64 0, .bool false, .int .i64 ((k : Nat) : Int), .slice A l.length c, .int .i64 ((l.length : Nat) : Int), .bool true, .int .i64 ((k : Nat) : Int), .int .i64 (((k : Nat) : Int) + 1), .slice A l.length c, .int .i64 ((k : Nat) : Int), .pointer (some ⟨b104, o105 + k * 1, none⟩), .int .i64 (l.getD k 0), .int .i64 ((k : Nat) : Int), .int .i64 (((k : Nat) : Int) % 2), .bool false, .bool false, undef, undef, undef, undef, undef, .bool false, (u97 110), (u97 111), (u97 112), (u97 113), (u97 114), .int .i64 ((k : Nat) : Int), .int .i64 (((k : Nat) : Int) % 2), .bool true, .bool true, .slice A l.length c, .int .i64 ((k : Nat) : Int), .pointer (some ⟨b136, o137 + k * 1, none⟩), .int .i64 (l.getD k 0), .bool true, .bool true, .tuple #[.int .i64 (tks (((unpack (payload (cum l i))).take (endOf (payload (cum l i)))).drop a)), .int .i64 ((tk (((unpack (payload (cum l i))).take (endOf (payload (cum l i)))).drop a)).2.1)], .pointer (some ⟨g87, 0, none⟩), .tuple #[.int .i64 (tks (((unpack (payload (cum l i))).take (endOf (payload (cum l i)))).drop a)), .int .i64 ((tk (((unpack (payload (cum l i))).take (endOf (payload (cum l i)))).drop a)).2.1)], .int .i64 (tks (((unpack (payload (cum l i))).take (endOf (payload (cum l i)))).drop a)), .int .i64 ((tk (((unpack (payload (cum l i))).take (endOf (payload (cum l i)))).drop a)).2.1), .int .i64 (tks (((unpack (payload (cum l i))).take (endOf (payload (cum l i)))).drop a)), .slice A l.length c, .int .i64 ((k : Nat) : Int), .pointer (some ⟨b148, o149 + k * 1, none⟩), .int .i64 (l.getD k 0), .bool false, .bool false, .int .i64 ((tk (((unpack (payload (cum l i))).take (endOf (payload (cum l i)))).drop a)).2.1), .bool false, .bool false, undef, undef, undef, undef, undef, undef] zz undef), ⟨⟨by omega, by rw [cum_next, bitsAt_S c102, htk.2, hla]⟩, M146⟩, rfl, (by kernel_rfl)⟩
          ·
            refine st_callB M99 (.bool false) (by kernel_rfl) (args := #[.int .i64 (l.getD k 0)]) (run_value_call 23 #[(Operand.tmp 122)] _ rfl Try.func23 (by kernel_rfl) (by kernel_rfl) _ (by kernel_rfl)) ((by have := mayS_ref W98 (l.getD k 0); rw [decide_eq_false hm] at this; exact this)) ?_
            intro W151 M152
            refine st_val (.bool false) (by kernel_rfl) (by kernel_rfl) ?_
            refine wl_nil ?_
            refine hK135 _ _ ?_
            try clear hK135 K135
            refine wp_cond_false (by kernel_rfl) ?_
            refine wp_skip ?_
            refine hK134 _ _ ?_
            try clear hK134 K134
            refine wp_seq_k (fun K153 hK153 => ?_)
            refine wl_region ?_
            refine st_val (.int .i64 (l.getD k 0)) (by kernel_rfl) (by kernel_rfl) ?_
            refine st_val (.slice A l.length c) (by kernel_rfl) (by kernel_rfl) ?_
            refine st_val (.int .i64 ((k : Nat) : Int)) (by kernel_rfl) (by kernel_rfl) ?_
            obtain ⟨b154, o155, eA156⟩ := RdK.addr (hr.keep M152.keep (fun _ _ h => h)) (j := k * 1) (by rw [i64s_length]; omega)
            refine st_val (.pointer (some ⟨b154, o155 + k * 1, none⟩)) (by kernel_rfl) (run_indexSliceA 52 (.tmp 131) (.tmp 132) rfl A ⟨b154, o155, none⟩ eA156 l.length c .i64 k (by kernel_rfl) (by kernel_rfl) Try.underlying52 1 (by kernel_rfl) (by omega) ⟨b154, o155 + k * 1, none⟩ (addr_atK _ _ _ _)) ?_
            refine st_val (.int .i64 (l.getD k 0)) (by kernel_rfl) (run_load_cell 3 (.tmp 133) rfl ⟨b154, o155 + k * 1, none⟩ (by kernel_rfl) _ ((hr.keep M152.keep (fun _ _ h => h)).cellF eA156 (f := 0) (i64s_get l k (by omega))) (by kernel_rfl)) ?_
            refine st_val (.bool false) (by kernel_rfl) (bool_of (neq_f (show (l.getD k 0 : Int) = l.getD k 0 from rfl)) (by kernel_rfl)) ?_
            refine st_val (.bool false) (by kernel_rfl) (by kernel_rfl) ?_
            refine st_val (.int .i64 0) (by kernel_rfl) (by kernel_rfl) ?_
            refine st_val (.bool false) (by kernel_rfl) (by kernel_rfl) ?_
            refine st_val (.bool false) (by kernel_rfl) (by kernel_rfl) ?_
            refine wl_nil ?_
            refine hK153 _ _ ?_
            try clear hK153 K153
            refine wp_frame (a' := ⟨#[.slice A l.length c, undef, (u97 2), .pointer (some ⟨g11, 0, none⟩), .int .i64 n, .int .i64 ((i : Nat) : Int), (u16 6), .pointer (some ⟨g87, 0, none⟩), .int .i64 0, .int .i64 ((k : Nat) : Int), .int .i64 (l.getD k 0), .int .i64 0, .slice A l.length c, .int .i64 ((l.length : Nat) : Int), .bool false, .pointer (some ⟨g11, 0, none⟩), .int .i64 ((i : Nat) : Int), .slice A l.length c, .int .i64 ((l.length : Nat) : Int), .bool false, (u16 20), (u16 21), (u16 22), (u16 23), (u16 24), (u16 25), (u16 26), (u16 27), (u16 28), (u16 29), (u16 30), (u16 31), (u16 32), (u16 33), (u16 34), (u16 35), (u16 36), (u16 37), (u16 38), (u16 39), (u16 40), (u16 41), (u16 42), (u16 43), (u16 44), (u16 45), (u16 46), (u16 47), (u16 48), (u16 49), (u16 50), (u16 51), (u16 52), (u16 53), (u16 54), (u16 55), (u16 56), (u16 57), (u16 58), (u16 59), (u16 60), (u16 61), (u16 62), (u16 63), (u16 64), (u16 65), (u16 66), (u16 67), (u16 68), (u16 69), (u16 70), (u16 71), (u16 72), (u16 73), (u16 74), (u16 75), (u16 76), (u16 77), (u16 78), (u16 79), (u16 80), (u16 81), .tuple #[.pointer (some ⟨g87, 0, none⟩), .int .i64 0], .pointer (some ⟨g11, 0, none⟩), .slice A79 ((payload (cum l i)).length) cq80, .tuple #[.pointer (some ⟨g87, 0, none⟩), .int .i64 0], .pointer (some ⟨g87, 0, none⟩), .int .i64 0, .int .i64 0, .bool false, .int .i64 ((k : Nat) : Int), .slice A l.length c, .int .i64 ((l.length : Nat) : Int), .bool true, (u97 94), (u97 95), .slice A l.length c, .int .i64 ((k : Nat) : Int), .pointer (some ⟨b104, o105 + k * 1, none⟩), .int .i64 (l.getD k 0), .int .i64 ((k : Nat) : Int), .int .i64 (((k : Nat) : Int) % 2), .bool false, .bool false, undef, undef, undef, undef, undef, .bool false, (u97 110), (u97 111), (u97 112), (u97 113), (u97 114), .int .i64 ((k : Nat) : Int), .int .i64 (((k : Nat) : Int) % 2), .bool true, .bool true, .slice A l.length c, .int .i64 ((k : Nat) : Int), .pointer (some ⟨b136, o137 + k * 1, none⟩), .int .i64 (l.getD k 0), .bool false, .bool false, (u97 125), (u97 126), (u97 127), (u97 128), (u97 129), .int .i64 (l.getD k 0), .slice A l.length c, .int .i64 ((k : Nat) : Int), .pointer (some ⟨b154, o155 + k * 1, none⟩), .int .i64 (l.getD k 0), .bool false, .bool false, .int .i64 0, .bool false, .bool false, undef, undef, undef, undef, undef, undef], []⟩) (by kernel_rfl) ?_
            refine wp_cond_false (by kernel_rfl) ?_
            refine wp_skip ?_
            refine blk_normal ?_
            refine hK102 _ _ ?_
            try clear hK102 K102
            refine wl_region ?_
            refine st_val (.int .i64 ((k : Nat) : Int)) (by kernel_rfl) (by kernel_rfl) ?_
            refine st_val (.int .i64 (((k : Nat) : Int) + 1)) (by kernel_rfl) (i64_of (by omega) (by kernel_rfl)) ?_
            refine st_val (.int .i64 (((k : Nat) : Int) + 1)) (by kernel_rfl) (by kernel_rfl) ?_
            refine wl_nil ?_
            refine th_normal ?_
            exact ⟨_, by omega, (k + 1), a, (fun zz => Array.getD #[.slice A l.length c, undef, (u97 2), .pointer (some ⟨g11, 0, none⟩), .int .i64 n, .int .i64 ((i : Nat) : Int), (u16 6), .pointer (some ⟨g87, 0, none⟩), .int .i64 0, .int .i64 (((k : Nat) : Int) + 1), .int .i64 (l.getD k 0), .int .i64 0, .slice A l.length c, .int .i64 ((l.length : Nat) : Int), .bool false, .pointer (some ⟨g11, 0, none⟩), .int .i64 ((i : Nat) : Int), .slice A l.length c, .int .i64 ((l.length : Nat) : Int), .bool false, (u16 20), (u16 21), (u16 22), (u16 23), (u16 24), (u16 25), (u16 26), (u16 27), (u16 28), (u16 29), (u16 30), (u16 31), (u16 32), (u16 33), (u16 34), (u16 35), (u16 36), (u16 37), (u16 38), (u16 39), (u16 40), (u16 41), (u16 42), (u16 43), (u16 44), (u16 45), (u16 46), (u16 47), (u16 48), (u16 49), (u16 50), (u16 51), (u16 52), (u16 53), (u16 54), (u16 55), (u16 56), (u16 57), (u16 58), (u16 59), (u16 60), (u16 61), (u16 62), (u16 63), (u16 64), (u16 65), (u16 66), (u16 67), (u16 68), (u16 69), (u16 70), (u16 71), (u16 72), (u16 73), (u16 74), (u16 75), (u16 76), (u16 77), (u16 78), (u16 79), (u16 80), (u16 81), .tuple #[.pointer (some ⟨g87, 0, none⟩), .int .i64 0], .pointer (some ⟨g11, 0, none⟩), .slice A79 ((payload (cum l i)).length) cq80, .tuple #[.pointer (some ⟨g87, 0, none⟩), .int .i64 0], .pointer (some ⟨g87, 0, none⟩), .int .i64 0, .int .i64 0, .bool false, .int .i64 ((k : Nat) : Int), .slice A l.length c, .int .i64 ((l.length : Nat) : Int), .bool true, .int .i64 ((k : Nat) : Int), .int .i64 (((k : Nat) : Int) + 1), .slice A l.length c, .int .i64 ((k : Nat) : Int), .pointer (some ⟨b104, o105 + k * 1, none⟩), .int .i64 (l.getD k 0), .int .i64 ((k : Nat) : Int), .int .i64 (((k : Nat) : Int) % 2), .bool false, .bool false, undef, undef, undef, undef, undef, .bool false, (u97 110), (u97 111), (u97 112), (u97 113), (u97 114), .int .i64 ((k : Nat) : Int), .int .i64 (((k : Nat) : Int) % 2), .bool true, .bool true, .slice A l.length c, .int .i64 ((k : Nat) : Int), .pointer (some ⟨b136, o137 + k * 1, none⟩), .int .i64 (l.getD k 0), .bool false, .bool false, (u97 125), (u97 126), (u97 127), (u97 128), (u97 129), .int .i64 (l.getD k 0), .slice A l.length c, .int .i64 ((k : Nat) : Int), .pointer (some ⟨b154, o155 + k * 1, none⟩), .int .i64 (l.getD k 0), .bool false, .bool false, .int .i64 0, .bool false, .bool false, undef, undef, undef, undef, undef, undef] zz undef), ⟨⟨by omega, by rw [cum_next, bitsAt_S c102, codeS_f hm]; simpa using hla⟩, M152⟩, rfl, (by kernel_rfl)⟩
      ·
        refine st_val (.bool false) (by kernel_rfl) (bool_of (dec_f c93) (by kernel_rfl)) ?_
        refine wl_nil ?_
        refine hK101 _ _ ?_
        try clear hK101 K101
        refine wp_cond_false (by kernel_rfl) ?_
        refine wp_exit ?_
        refine th_exit ?_
        refine th_exit ?_
        refine blk_exit ?_
        refine hK94 _ _ ?_
        try clear hK94 K94
        refine wp_seq_k (fun K157 hK157 => ?_)
        have hki : k = i := (by omega)
        rw [hki] at hla
        refine wl_region ?_
        refine st_callB M99 (.bool true) (by kernel_rfl) (args := #[]) (run_value_call 10 #[] _ rfl Try.func10 (by kernel_rfl) (by kernel_rfl) _ (by kernel_rfl)) (awake_walk W98) ?_
        intro W158 M159
        refine st_val (.bool true) (by kernel_rfl) (by kernel_rfl) ?_
        refine st_val (.pointer (some ⟨g87, 0, none⟩)) (by kernel_rfl) (by kernel_rfl) ?_
        refine st_callB M159 (.int .i64 (((endOf (payload (cum l i))) - a : Nat) : Int)) (by kernel_rfl) (args := #[.pointer (some ⟨g87, 0, none⟩)]) (run_value_call 28 #[(Operand.tmp 142)] _ rfl Try.func28 (by kernel_rfl) (by kernel_rfl) _ (by kernel_rfl)) (rLeftM W158 F90 (by rw [hend]; omega) (Mem.part (A := []) (T := (rT g87 v88 (endOf (payload (cum l i))) a TB89)) (B := []) M159)) ?_
        intro W160 M161
        refine st_val (.bool true) (by kernel_rfl) (bool_of (dec_t (show ((((endOf (payload (cum l i))) - a : Nat) : Int) : Int) = 0 from (by rw [hend]; omega))) (by kernel_rfl)) ?_
        refine st_val (.bool true) (by kernel_rfl) (by kernel_rfl) ?_
        refine st_val (.bool true) (by kernel_rfl) (by kernel_rfl) ?_
        refine wl_nil ?_
        refine hK157 _ _ ?_
        try clear hK157 K157
        refine wp_ret ?_
        exact done1 2 (.bool true) (by kernel_rfl) (by kernel_rfl) (by kernel_rfl) ⟨rfl, M161.toBelow⟩
end Go.Proofs.Ytkmnnfmdjgpflaa
