/- Codes are read. -/
import Derived.Test.YtmchfkkifeioeaaVc
namespace Go.Proofs.Ytmchfkkifeioeaa
open Go.RowKit Bt

theorem drop_get (l : List Nat) (a i : Nat) : (l.drop a).getD i 0 = l.getD (a + i) 0 := by
  rw [List.getD_eq_getElem?_getD, List.getElem?_drop, ← List.getD_eq_getElem?_getD]
section
variable {l : List Nat} {a k : Nat}
theorem tkz_end (ha : a + k = l.length) (hk : k < 16) (hz : ∀ i, i < k → l.getD (a + i) 0 = 0) : tk (l.drop a) = (0, 4, 0) := by
  have h : zeros0 (l.drop a) = k := zeros0_of _ k (fun i hi => by rw [drop_get]; exact hz i hi) (by rw [List.length_drop]; omega) (.inl (by rw [List.length_drop]; omega))
  exact tk_short (by omega) (by rw [List.length_drop, h]; omega)
theorem tkz_16 (ha : a + 16 ≤ l.length) (hz : ∀ i, i < 16 → l.getD (a + i) 0 = 0) : tk (l.drop a) = (0, 3, 0) :=
  tk_form (zeros0_ge _ 16 (fun i hi => by rw [drop_get]; exact hz i hi) (by rw [List.length_drop]; omega))
theorem tkz_mid (ha : a + k < l.length) (hz : ∀ i, i < k → l.getD (a + i) 0 = 0) (h1 : ¬ l.getD (a + k) 0 = 0) : zeros0 (l.drop a) = k :=
  zeros0_of _ k (fun i hi => by rw [drop_get]; exact hz i hi) (by rw [List.length_drop]; omega) (.inr (by rw [drop_get]; exact h1))
theorem tkz_short (hm : zeros0 (l.drop a) = k) (hk : k < 16) (hs : l.length < a + (2 * k + 1)) : tk (l.drop a) = (0, 4, 0) :=
  tk_short (by omega) (by rw [List.length_drop, hm]; omega)
theorem tkz_ok (hm : zeros0 (l.drop a) = k) (hk : k < 16) (hs : a + (2 * k + 1) ≤ l.length) : tk (l.drop a) = (((valueOf ((l.drop a).take (2 * k + 1)) : Nat) : Int) - 1, 0, 2 * k + 1) := by
  rw [tk_ok (by omega) (by rw [List.length_drop, hm]; omega), hm]
theorem tkz_val (hb : Bin l) (hm : zeros0 (l.drop a) = k) (hs : a + (2 * k + 1) ≤ l.length) : valueOf ((l.drop a).take (2 * k + 1)) = 2 ^ k + valueOf ((l.drop (a + k + 1)).take k) ∧ valueOf ((l.drop (a + k + 1)).take k) < 2 ^ k := by
  have := val_code (r := l.drop a) (fun x hx => hb x (List.mem_of_mem_drop hx)) (by rw [hm, List.length_drop]; omega)
  rw [hm, List.drop_drop] at this
  exact this
end
theorem tk_drop_lt {l : List Nat} (hb : Bin l) (a : Nat) : 0 ≤ (tk (l.drop a)).1 ∧ (tk (l.drop a)).1 ≤ 65534 := tk_val_lt (fun x hx => hb x (List.mem_of_mem_drop hx))
theorem tk_drop_le {l : List Nat} {a : Nat} (h : a ≤ l.length) : a + (tk (l.drop a)).2.2 ≤ l.length := by have := tk_le (l.drop a); rw [List.length_drop] at this; omega
namespace RF
variable {v : Value} {p : List Nat} {en : Nat} {TB : List (Nat × Obj)}
theorem llen (F : RF v p en TB) : ((unpack p).take en).length = en := by have := F.en; rw [List.length_take, unpack_length]; omega
theorem bin (_ : RF v p en TB) : Bin ((unpack p).take en) := fun x hx => unpack_bin p x (List.mem_of_mem_take hx)
theorem rval (F : RF v p en TB) {a n : Nat} (h : a + n ≤ en) : valueOf (((unpack p).drop a).take n) = valueOf ((((unpack p).take en).drop a).take n) := by
  rw [List.drop_take, List.take_take, show min n (en - a) = n by omega]
theorem rbit (F : RF v p en TB) {a : Nat} (h : a + 1 ≤ en) : valueOf (((unpack p).drop a).take 1) = ((unpack p).take en).getD a 0 := by
  rw [F.rval h]
  have := take_value' ((unpack p).take en) a 0 (by rw [F.llen]; omega)
  simpa [valueOf] using this
theorem bit_le (F : RF v p en TB) (a : Nat) : ((unpack p).take en).getD a 0 ≤ 1 := bin_getD F.bin a
end RF
set_option maxHeartbeats 4000000 in
set_option maxRecDepth 100000 in
theorem take_walk (w : World) {g : Nat} {v : Value} {p : List Nat} {en at_ : Nat} {TB : List (Nat × Obj)} (F : RF v p en TB) (ha : at_ ≤ en) (hT : Mem (fun k => k ∈ (rT g v en at_ TB).map (·.1)) w w (rT g v en at_ TB)) : UpdRow Try.prog 47 #[.pointer (some ⟨g, 0, none⟩)] w (rT g v en at_ TB) (fun r T' => ∃ (x : Int) (a2 : Nat), a2 ≤ en ∧ r = .tuple #[.int .i64 x, .int .i64 (tk (((unpack p).take en).drop at_)).2.1] ∧ T' = rT g v en a2 TB ∧ ((tk (((unpack p).take en).drop at_)).2.1 = 0 → x = (tk (((unpack p).take en).drop at_)).1 ∧ a2 = at_ + (tk (((unpack p).take en).drop at_)).2.2)) := by
  unfold UpdRow
  have M0 : Mem (fun k => k ∈ (rT g v en at_ TB).map (·.1)) w w (rT g v en at_ TB ++ []) := by rw [List.append_nil]; exact hT
  refine calls_of_wp Try.func47 rfl ?_
  refine wp_frame (a' := ⟨#[.pointer (some ⟨g, 0, none⟩), undef, undef, undef, undef, undef, undef, undef, undef, undef, undef, undef, undef, undef, undef, undef, undef, undef, undef, undef, undef, undef, undef, undef, undef, undef, undef, undef, undef, undef, undef, undef, undef, undef, undef, undef], []⟩) (by kernel_rfl) ?_
  refine wp_seq_k (fun K1 hK1 => ?_)
  refine wl_region ?_
  refine st_val (.int .i64 0) (by kernel_rfl) (by kernel_rfl) ?_
  refine st_val (.int .i64 0) (by kernel_rfl) (by kernel_rfl) ?_
  refine wl_nil ?_
  refine hK1 _ _ ?_
  try clear hK1 K1
  refine wp_seq_k (fun K2 hK2 => ?_)
  refine wl_region ?_
  refine st_val (.int .i64 0) (by kernel_rfl) (by kernel_rfl) ?_
  refine wl_nil ?_
  refine hK2 _ _ ?_
  try clear hK2 K2
  refine wp_seq_k (fun K3 hK3 => ?_)
  refine wp_block ?_
  refine wp_loop_ghost (fun gn a' w' => ∃ (k : Nat) (u4 : Nat → Value), ((k < 16 ∧ at_ + k ≤ en ∧ ∀ i, i < k → ((unpack p).take en).getD (at_ + i) 0 = 0) ∧ Mem (fun k => k ∈ (rT g v en at_ TB).map (·.1)) w w' (((rT g v en (at_ + k) TB) ++ []))) ∧ gn = 17 - k ∧ a' = ⟨#[.pointer (some ⟨g, 0, none⟩), undef, (u4 2), (u4 3), .int .i64 ((k : Nat) : Int), (u4 5), (u4 6), undef, undef, (u4 9), (u4 10), (u4 11), (u4 12), (u4 13), (u4 14), (u4 15), (u4 16), (u4 17), (u4 18), (u4 19), (u4 20), (u4 21), (u4 22), undef, undef, undef, undef, undef, undef, undef, undef, undef, undef, undef, undef, undef], []⟩) _ ⟨0, (fun zz => Array.getD #[.pointer (some ⟨g, 0, none⟩), undef, .int .i64 0, .int .i64 0, .int .i64 0, undef, undef, undef, undef, undef, undef, undef, undef, undef, undef, undef, undef, undef, undef, undef, undef, undef, undef, undef, undef, undef, undef, undef, undef, undef, undef, undef, undef, undef, undef, undef] zz undef), ⟨⟨by omega, by omega, fun i hi => by omega⟩, M0⟩, rfl, (by kernel_rfl)⟩ ?_
  rintro gn _ W5 ⟨k, u4, ⟨⟨rk, rk2, hz⟩, M6⟩, rfl, rfl⟩
  refine wp_block ?_
  refine wp_seq_k (fun K7 hK7 => ?_)
  refine wl_region ?_
  refine st_val (.pointer (some ⟨g, 0, none⟩)) (by kernel_rfl) (by kernel_rfl) ?_
  rcases Nat.lt_or_ge en ((at_ + k) + 1) with hsh | hsh
  ·
    refine st_callB M6 (.tuple #[.int .u32 0, .int .i64 4]) (by kernel_rfl) (args := #[.pointer (some ⟨g, 0, none⟩), .int .i64 1]) (run_value_call 23 #[(Operand.tmp 10), (Operand.const (Value.int IntKind.i64 1))] _ rfl Try.func23 (by kernel_rfl) (by kernel_rfl) _ (by kernel_rfl)) (rTakeShortM W5 F (by omega) (Mem.part (A := []) (T := (rT g v en (at_ + k) TB)) (B := []) M6) 1 (by omega) hsh) ?_
    intro W8 M9
    refine st_val (.tuple #[.int .u32 0, .int .i64 4]) (by kernel_rfl) (by kernel_rfl) ?_
    refine st_val (.int .u32 0) (by kernel_rfl) (by kernel_rfl) ?_
    refine st_val (.int .i64 4) (by kernel_rfl) (by kernel_rfl) ?_
    refine st_val (.int .u32 0) (by kernel_rfl) (by kernel_rfl) ?_
    refine st_val (.int .i64 4) (by kernel_rfl) (by kernel_rfl) ?_
    refine wl_nil ?_
    refine hK7 _ _ ?_
    try clear hK7 K7
    refine wp_seq_k (fun K10 hK10 => ?_)
    refine wp_seq_k (fun K11 hK11 => ?_)
    refine wl_region ?_
    refine st_val (.int .i64 4) (by kernel_rfl) (by kernel_rfl) ?_
    refine st_val (.bool true) (by kernel_rfl) (by kernel_rfl) ?_
    refine wl_nil ?_
    refine hK11 _ _ ?_
    try clear hK11 K11
    refine wp_cond_true (by kernel_rfl) ?_
    refine wp_seq_k (fun K12 hK12 => ?_)
    refine wl_region ?_
    refine st_val (.int .i64 4) (by kernel_rfl) (by kernel_rfl) ?_
    refine st_val (.int .i64 0) (by kernel_rfl) (by kernel_rfl) ?_
    refine st_val (.int .i64 4) (by kernel_rfl) (by kernel_rfl) ?_
    refine wl_nil ?_
    refine hK12 _ _ ?_
    try clear hK12 K12
    refine wp_ret ?_
    refine th_ret ?_
    refine blk_ret ?_
    refine th_ret ?_
    refine blk_ret ?_
    refine th_ret ?_
    have h := tkz_end (l := ((unpack p).take en)) (a := at_) (k := k) (by rw [F.llen]; omega) (by omega) hz
    exact done2 2 3 (.int .i64 0) (.int .i64 4) (by kernel_rfl) (by kernel_rfl) (by kernel_rfl) (by kernel_rfl) ⟨_, (rT g v en (at_ + k) TB), rfl, ⟨0, (at_ + k), by omega, by rw [h], rfl, fun h2 => by rw [h] at h2; exact absurd h2 (by decide)⟩, M9.sub (List.sublist_append_left (rT g v en (at_ + k) TB) [])⟩
  ·
    refine st_callU (A := []) (T := (rT g v en (at_ + k) TB)) (B := []) M6 (by kernel_rfl) (run_value_call 23 #[(Operand.tmp 10), (Operand.const (Value.int IntKind.i64 1))] _ rfl Try.func23 (by kernel_rfl) (by kernel_rfl) _ (by kernel_rfl)) (rTakeM W5 F (Mem.part (A := []) (T := (rT g v en (at_ + k) TB)) (B := []) M6) 1 (by omega) (by omega)) ?_
    intro v13 T14 W15 O16 M17
    obtain ⟨rfl, rfl⟩ := O16
    have M18 : Mem (fun k => k ∈ (rT g v en at_ TB).map (·.1)) w W15 (((rT g v en (at_ + k + 1) TB) ++ [])) := M17
    refine st_val (.tuple #[.int .u32 ((valueOf (((unpack p).drop (at_ + k)).take 1) : Nat) : Int), .int .i64 0]) (by kernel_rfl) (by kernel_rfl) ?_
    refine st_val (.int .u32 ((((unpack p).take en).getD (at_ + k) 0 : Nat) : Int)) (by kernel_rfl) (int_of (show ((valueOf (((unpack p).drop (at_ + k)).take 1) : Nat) : Int) = ((((unpack p).take en).getD (at_ + k) 0 : Nat) : Int) by rw [F.rbit (by omega)]) (by kernel_rfl)) ?_
    refine st_val (.int .i64 0) (by kernel_rfl) (by kernel_rfl) ?_
    refine st_val (.int .u32 ((((unpack p).take en).getD (at_ + k) 0 : Nat) : Int)) (by kernel_rfl) (by kernel_rfl) ?_
    refine st_val (.int .i64 0) (by kernel_rfl) (by kernel_rfl) ?_
    refine wl_nil ?_
    refine hK7 _ _ ?_
    try clear hK7 K7
    refine wp_seq_k (fun K19 hK19 => ?_)
    refine wp_seq_k (fun K20 hK20 => ?_)
    refine wl_region ?_
    refine st_val (.int .i64 0) (by kernel_rfl) (by kernel_rfl) ?_
    refine st_val (.bool false) (by kernel_rfl) (by kernel_rfl) ?_
    refine wl_nil ?_
    refine hK20 _ _ ?_
    try clear hK20 K20
    refine wp_cond_false (by kernel_rfl) ?_
    refine wp_skip ?_
    refine hK19 _ _ ?_
    try clear hK19 K19
    refine wp_seq_k (fun K21 hK21 => ?_)
    refine wp_seq_k (fun K22 hK22 => ?_)
    refine wl_region ?_
    refine st_val (.int .u32 ((((unpack p).take en).getD (at_ + k) 0 : Nat) : Int)) (by kernel_rfl) (by kernel_rfl) ?_
    rcases Decidable.em ((((((unpack p).take en).getD (at_ + k) 0 : Nat) : Int) : Int) = 1) with c18 | c18
    ·
      refine st_val (.bool true) (by kernel_rfl) (bool_of (dec_t c18) (by kernel_rfl)) ?_
      refine wl_nil ?_
      refine hK22 _ _ ?_
      try clear hK22 K22
      refine wp_cond_true (by kernel_rfl) ?_
      refine wp_exit ?_
      refine th_exit ?_
      refine blk_other (by decide) ?_
      refine th_exit ?_
      refine blk_exit ?_
      refine hK3 _ _ ?_
      try clear hK3 K3
      refine wp_seq_k (fun K23 hK23 => ?_)
      have hmid := tkz_mid (l := ((unpack p).take en)) (a := at_) (k := k) (by rw [F.llen]; omega) hz (by omega)
      refine wl_region ?_
      refine st_val (.pointer (some ⟨g, 0, none⟩)) (by kernel_rfl) (by kernel_rfl) ?_
      refine st_val (.int .i64 ((k : Nat) : Int)) (by kernel_rfl) (by kernel_rfl) ?_
      rcases Nat.lt_or_ge en ((at_ + k + 1) + k) with hsh | hsh
      ·
        refine st_callB M18 (.tuple #[.int .u32 0, .int .i64 4]) (by kernel_rfl) (args := #[.pointer (some ⟨g, 0, none⟩), .int .i64 ((k : Nat) : Int)]) (run_value_call 23 #[(Operand.tmp 24), (Operand.tmp 25)] _ rfl Try.func23 (by kernel_rfl) (by kernel_rfl) _ (by kernel_rfl)) (rTakeShortM W15 F (by omega) (Mem.part (A := []) (T := (rT g v en (at_ + k + 1) TB)) (B := []) M18) k (by omega) hsh) ?_
        intro W24 M25
        refine st_val (.tuple #[.int .u32 0, .int .i64 4]) (by kernel_rfl) (by kernel_rfl) ?_
        refine st_val (.int .u32 0) (by kernel_rfl) (by kernel_rfl) ?_
        refine st_val (.int .i64 4) (by kernel_rfl) (by kernel_rfl) ?_
        refine st_val (.int .u32 0) (by kernel_rfl) (by kernel_rfl) ?_
        refine st_val (.int .i64 4) (by kernel_rfl) (by kernel_rfl) ?_
        refine wl_nil ?_
        refine hK23 _ _ ?_
        try clear hK23 K23
        refine wp_frame (a' := ⟨#[.pointer (some ⟨g, 0, none⟩), undef, (u4 2), (u4 3), .int .i64 ((k : Nat) : Int), .int .u32 ((((unpack p).take en).getD (at_ + k) 0 : Nat) : Int), .int .i64 0, .int .u32 0, .int .i64 4, .tuple #[.int .u32 ((valueOf (((unpack p).drop (at_ + k)).take 1) : Nat) : Int), .int .i64 0], .pointer (some ⟨g, 0, none⟩), .tuple #[.int .u32 ((valueOf (((unpack p).drop (at_ + k)).take 1) : Nat) : Int), .int .i64 0], .int .u32 ((((unpack p).take en).getD (at_ + k) 0 : Nat) : Int), .int .i64 0, .int .i64 0, .bool false, (u4 16), .int .u32 ((((unpack p).take en).getD (at_ + k) 0 : Nat) : Int), .bool true, (u4 19), (u4 20), (u4 21), (u4 22), .tuple #[.int .u32 0, .int .i64 4], .pointer (some ⟨g, 0, none⟩), .int .i64 ((k : Nat) : Int), .tuple #[.int .u32 0, .int .i64 4], .int .u32 0, .int .i64 4, undef, undef, undef, undef, undef, undef, undef], []⟩) (by kernel_rfl) ?_
        refine wp_seq_k (fun K26 hK26 => ?_)
        have h2k : (2 : Nat) ^ k ≤ 2 ^ 16 := Nat.pow_le_pow_right (by decide) (by omega)
        have h2p := two_pos k
        refine wl_region ?_
        refine st_val (.int .i64 ((k : Nat) : Int)) (by kernel_rfl) (by kernel_rfl) ?_
        refine st_val (.int .i64 ((2 ^ k : Nat) : Int)) (by kernel_rfl) (run_value_bin .shl 3 3 _ (.tmp 29) rfl (.int .i64 1) (.int .i64 ((k : Nat) : Int)) _ (by kernel_rfl) (by kernel_rfl) (by kernel_rfl) (bin_shl (n := k) (by show _ ≤ 64; omega) (show IntKind.i64.wrap (1 * 2 ^ k) = ((2 ^ k : Nat) : Int) from wrap_k1 k (by omega)))) ?_
        refine st_val (.int .u32 0) (by kernel_rfl) (by kernel_rfl) ?_
        refine st_val (.int .i64 0) (by kernel_rfl) (by kernel_rfl) ?_
        refine st_val (.int .i64 ((2 ^ k + 0 : Nat) : Int)) (by kernel_rfl) (run_value_bin .or 3 3 (.tmp 30) (.tmp 32) rfl (.int .i64 ((2 ^ k : Nat) : Int)) (.int .i64 0) _ (by kernel_rfl) (by kernel_rfl) (by kernel_rfl) (bin_bits (by simp) (show bits .or .i64 ((2 ^ k : Nat) : Int) 0 = ((2 ^ k + 0 : Nat) : Int) from or_low k _ (by omega) (by omega)))) ?_
        refine st_val (.int .i64 (((2 ^ k + 0 : Nat) : Int) - 1)) (by kernel_rfl) (i64_of (by omega) (by kernel_rfl)) ?_
        refine st_val (.int .i64 4) (by kernel_rfl) (by kernel_rfl) ?_
        refine st_val (.int .i64 (((2 ^ k + 0 : Nat) : Int) - 1)) (by kernel_rfl) (by kernel_rfl) ?_
        refine st_val (.int .i64 4) (by kernel_rfl) (by kernel_rfl) ?_
        refine wl_nil ?_
        refine hK26 _ _ ?_
        try clear hK26 K26
        refine wp_ret ?_
        have h := tkz_short hmid (by omega) (by rw [F.llen]; omega)
        exact done2 2 3 (.int .i64 (((2 ^ k + 0 : Nat) : Int) - 1)) (.int .i64 4) (by kernel_rfl) (by kernel_rfl) (by kernel_rfl) (by kernel_rfl) ⟨_, (rT g v en (at_ + k + 1) TB), rfl, ⟨(((2 ^ k + 0 : Nat) : Int) - 1), (at_ + k + 1), by omega, by rw [h], rfl, fun h2 => by rw [h] at h2; exact absurd h2 (by decide)⟩, M25.sub (List.sublist_append_left (rT g v en (at_ + k + 1) TB) [])⟩
      ·
        refine st_callU (A := []) (T := (rT g v en (at_ + k + 1) TB)) (B := []) M18 (by kernel_rfl) (run_value_call 23 #[(Operand.tmp 24), (Operand.tmp 25)] _ rfl Try.func23 (by kernel_rfl) (by kernel_rfl) _ (by kernel_rfl)) (rTakeM W15 F (Mem.part (A := []) (T := (rT g v en (at_ + k + 1) TB)) (B := []) M18) k (by omega) (by omega)) ?_
        intro v27 T28 W29 O30 M31
        obtain ⟨rfl, rfl⟩ := O30
        have M32 : Mem (fun k => k ∈ (rT g v en at_ TB).map (·.1)) w W29 (((rT g v en (at_ + k + 1 + k) TB) ++ [])) := M31
        refine st_val (.tuple #[.int .u32 ((valueOf (((unpack p).drop (at_ + k + 1)).take k) : Nat) : Int), .int .i64 0]) (by kernel_rfl) (by kernel_rfl) ?_
        refine st_val (.int .u32 ((valueOf (((unpack p).drop (at_ + k + 1)).take k) : Nat) : Int)) (by kernel_rfl) (by kernel_rfl) ?_
        refine st_val (.int .i64 0) (by kernel_rfl) (by kernel_rfl) ?_
        refine st_val (.int .u32 ((valueOf (((unpack p).drop (at_ + k + 1)).take k) : Nat) : Int)) (by kernel_rfl) (by kernel_rfl) ?_
        refine st_val (.int .i64 0) (by kernel_rfl) (by kernel_rfl) ?_
        refine wl_nil ?_
        refine hK23 _ _ ?_
        try clear hK23 K23
        refine wp_frame (a' := ⟨#[.pointer (some ⟨g, 0, none⟩), undef, (u4 2), (u4 3), .int .i64 ((k : Nat) : Int), .int .u32 ((((unpack p).take en).getD (at_ + k) 0 : Nat) : Int), .int .i64 0, .int .u32 ((valueOf (((unpack p).drop (at_ + k + 1)).take k) : Nat) : Int), .int .i64 0, .tuple #[.int .u32 ((valueOf (((unpack p).drop (at_ + k)).take 1) : Nat) : Int), .int .i64 0], .pointer (some ⟨g, 0, none⟩), .tuple #[.int .u32 ((valueOf (((unpack p).drop (at_ + k)).take 1) : Nat) : Int), .int .i64 0], .int .u32 ((((unpack p).take en).getD (at_ + k) 0 : Nat) : Int), .int .i64 0, .int .i64 0, .bool false, (u4 16), .int .u32 ((((unpack p).take en).getD (at_ + k) 0 : Nat) : Int), .bool true, (u4 19), (u4 20), (u4 21), (u4 22), .tuple #[.int .u32 ((valueOf (((unpack p).drop (at_ + k + 1)).take k) : Nat) : Int), .int .i64 0], .pointer (some ⟨g, 0, none⟩), .int .i64 ((k : Nat) : Int), .tuple #[.int .u32 ((valueOf (((unpack p).drop (at_ + k + 1)).take k) : Nat) : Int), .int .i64 0], .int .u32 ((valueOf (((unpack p).drop (at_ + k + 1)).take k) : Nat) : Int), .int .i64 0, undef, undef, undef, undef, undef, undef, undef], []⟩) (by kernel_rfl) ?_
        refine wp_seq_k (fun K33 hK33 => ?_)
        have hval := tkz_val F.bin hmid (by rw [F.llen]; omega)
        have hrv := F.rval (a := at_ + k + 1) (n := k) (by omega)
        rw [← hrv] at hval
        have h2k : (2 : Nat) ^ k ≤ 2 ^ 16 := Nat.pow_le_pow_right (by decide) (by omega)
        obtain ⟨hval1, hval2⟩ := hval
        refine wl_region ?_
        refine st_val (.int .i64 ((k : Nat) : Int)) (by kernel_rfl) (by kernel_rfl) ?_
        refine st_val (.int .i64 ((2 ^ k : Nat) : Int)) (by kernel_rfl) (run_value_bin .shl 3 3 _ (.tmp 29) rfl (.int .i64 1) (.int .i64 ((k : Nat) : Int)) _ (by kernel_rfl) (by kernel_rfl) (by kernel_rfl) (bin_shl (n := k) (by show _ ≤ 64; omega) (show IntKind.i64.wrap (1 * 2 ^ k) = ((2 ^ k : Nat) : Int) from wrap_k1 k (by omega)))) ?_
        refine st_val (.int .u32 ((valueOf (((unpack p).drop (at_ + k + 1)).take k) : Nat) : Int)) (by kernel_rfl) (by kernel_rfl) ?_
        refine st_val (.int .i64 ((valueOf (((unpack p).drop (at_ + k + 1)).take k) : Nat) : Int)) (by kernel_rfl) (i64_of (by omega) (by kernel_rfl)) ?_
        refine st_val (.int .i64 ((2 ^ k + valueOf (((unpack p).drop (at_ + k + 1)).take k) : Nat) : Int)) (by kernel_rfl) (run_value_bin .or 3 3 (.tmp 30) (.tmp 32) rfl (.int .i64 ((2 ^ k : Nat) : Int)) (.int .i64 ((valueOf (((unpack p).drop (at_ + k + 1)).take k) : Nat) : Int)) _ (by kernel_rfl) (by kernel_rfl) (by kernel_rfl) (bin_bits (by simp) (show bits .or .i64 ((2 ^ k : Nat) : Int) ((valueOf (((unpack p).drop (at_ + k + 1)).take k) : Nat) : Int) = ((2 ^ k + valueOf (((unpack p).drop (at_ + k + 1)).take k) : Nat) : Int) from or_low k _ (by omega) (by omega)))) ?_
        refine st_val (.int .i64 (((2 ^ k + valueOf (((unpack p).drop (at_ + k + 1)).take k) : Nat) : Int) - 1)) (by kernel_rfl) (i64_of (by omega) (by kernel_rfl)) ?_
        refine st_val (.int .i64 0) (by kernel_rfl) (by kernel_rfl) ?_
        refine st_val (.int .i64 (((2 ^ k + valueOf (((unpack p).drop (at_ + k + 1)).take k) : Nat) : Int) - 1)) (by kernel_rfl) (by kernel_rfl) ?_
        refine st_val (.int .i64 0) (by kernel_rfl) (by kernel_rfl) ?_
        refine wl_nil ?_
        refine hK33 _ _ ?_
        try clear hK33 K33
        refine wp_ret ?_
        have h := tkz_ok hmid (by omega) (by rw [F.llen]; omega)
        exact done2 2 3 (.int .i64 (((2 ^ k + valueOf (((unpack p).drop (at_ + k + 1)).take k) : Nat) : Int) - 1)) (.int .i64 0) (by kernel_rfl) (by kernel_rfl) (by kernel_rfl) (by kernel_rfl) ⟨_, (rT g v en (at_ + k + 1 + k) TB), rfl, ⟨(((2 ^ k + valueOf (((unpack p).drop (at_ + k + 1)).take k) : Nat) : Int) - 1), (at_ + k + 1 + k), by omega, by rw [h], rfl, fun _ => ⟨by rw [h, hval1], by rw [h]; show _ = at_ + (2 * k + 1); omega⟩⟩, M32.sub (List.sublist_append_left (rT g v en (at_ + k + 1 + k) TB) [])⟩
    ·
      refine st_val (.bool false) (by kernel_rfl) (bool_of (dec_f c18) (by kernel_rfl)) ?_
      refine wl_nil ?_
      refine hK22 _ _ ?_
      try clear hK22 K22
      refine wp_cond_false (by kernel_rfl) ?_
      refine wp_skip ?_
      refine hK21 _ _ ?_
      try clear hK21 K21
      refine wp_seq_k (fun K34 hK34 => ?_)
      refine wl_region ?_
      refine st_val (.int .i64 ((k : Nat) : Int)) (by kernel_rfl) (by kernel_rfl) ?_
      refine st_val (.int .i64 (((k : Nat) : Int) + 1)) (by kernel_rfl) (i64_of (by omega) (by kernel_rfl)) ?_
      refine st_val (.int .i64 (((k : Nat) : Int) + 1)) (by kernel_rfl) (by kernel_rfl) ?_
      refine wl_nil ?_
      refine hK34 _ _ ?_
      try clear hK34 K34
      refine wp_frame (a' := ⟨#[.pointer (some ⟨g, 0, none⟩), undef, (u4 2), (u4 3), .int .i64 (((k : Nat) : Int) + 1), .int .u32 ((((unpack p).take en).getD (at_ + k) 0 : Nat) : Int), .int .i64 0, undef, undef, .tuple #[.int .u32 ((valueOf (((unpack p).drop (at_ + k)).take 1) : Nat) : Int), .int .i64 0], .pointer (some ⟨g, 0, none⟩), .tuple #[.int .u32 ((valueOf (((unpack p).drop (at_ + k)).take 1) : Nat) : Int), .int .i64 0], .int .u32 ((((unpack p).take en).getD (at_ + k) 0 : Nat) : Int), .int .i64 0, .int .i64 0, .bool false, (u4 16), .int .u32 ((((unpack p).take en).getD (at_ + k) 0 : Nat) : Int), .bool false, .int .i64 ((k : Nat) : Int), .int .i64 (((k : Nat) : Int) + 1), (u4 21), (u4 22), undef, undef, undef, undef, undef, undef, undef, undef, undef, undef, undef, undef, undef], []⟩) (by kernel_rfl) ?_
      refine wp_seq_k (fun K35 hK35 => ?_)
      refine wl_region ?_
      refine st_val (.int .i64 (((k : Nat) : Int) + 1)) (by kernel_rfl) (by kernel_rfl) ?_
      rcases Decidable.em ((((k : Nat) : Int) + 1 : Int) = 16) with c22 | c22
      ·
        refine st_val (.bool true) (by kernel_rfl) (bool_of (dec_t c22) (by kernel_rfl)) ?_
        refine wl_nil ?_
        refine hK35 _ _ ?_
        try clear hK35 K35
        refine wp_cond_true (by kernel_rfl) ?_
        refine wp_seq_k (fun K36 hK36 => ?_)
        refine wl_region ?_
        refine st_val (.int .i64 0) (by kernel_rfl) (by kernel_rfl) ?_
        refine st_val (.int .i64 3) (by kernel_rfl) (by kernel_rfl) ?_
        refine wl_nil ?_
        refine hK36 _ _ ?_
        try clear hK36 K36
        refine wp_ret ?_
        refine blk_ret ?_
        refine th_ret ?_
        refine blk_ret ?_
        refine th_ret ?_
        have h := tkz_16 (l := ((unpack p).take en)) (a := at_) (by rw [F.llen]; omega) (fun i hi => by by_cases e : i = k; subst e; have := F.bit_le (at_ + i); omega; exact hz i (by omega))
        exact done2 2 3 (.int .i64 0) (.int .i64 3) (by kernel_rfl) (by kernel_rfl) (by kernel_rfl) (by kernel_rfl) ⟨_, (rT g v en (at_ + k + 1) TB), rfl, ⟨0, (at_ + k + 1), by omega, by rw [h], rfl, fun h2 => by rw [h] at h2; exact absurd h2 (by decide)⟩, M18.sub (List.sublist_append_left (rT g v en (at_ + k + 1) TB) [])⟩
      ·
        refine st_val (.bool false) (by kernel_rfl) (bool_of (dec_f c22) (by kernel_rfl)) ?_
        refine wl_nil ?_
        refine hK35 _ _ ?_
        try clear hK35 K35
        refine wp_cond_false (by kernel_rfl) ?_
        refine wp_skip ?_
        refine blk_normal ?_
        refine th_normal ?_
        exact ⟨_, (by omega), (k + 1), (fun zz => Array.getD #[.pointer (some ⟨g, 0, none⟩), undef, (u4 2), (u4 3), .int .i64 (((k : Nat) : Int) + 1), .int .u32 ((((unpack p).take en).getD (at_ + k) 0 : Nat) : Int), .int .i64 0, undef, undef, .tuple #[.int .u32 ((valueOf (((unpack p).drop (at_ + k)).take 1) : Nat) : Int), .int .i64 0], .pointer (some ⟨g, 0, none⟩), .tuple #[.int .u32 ((valueOf (((unpack p).drop (at_ + k)).take 1) : Nat) : Int), .int .i64 0], .int .u32 ((((unpack p).take en).getD (at_ + k) 0 : Nat) : Int), .int .i64 0, .int .i64 0, .bool false, (u4 16), .int .u32 ((((unpack p).take en).getD (at_ + k) 0 : Nat) : Int), .bool false, .int .i64 ((k : Nat) : Int), .int .i64 (((k : Nat) : Int) + 1), .int .i64 (((k : Nat) : Int) + 1), .bool false, undef, undef, undef, undef, undef, undef, undef, undef, undef, undef, undef, undef, undef] zz undef), ⟨⟨by omega, by omega, fun i hi => by by_cases e : i = k; subst e; have := F.bit_le (at_ + i); omega; exact hz i (by omega)⟩, M18⟩, rfl, (by kernel_rfl)⟩
set_option maxHeartbeats 4000000 in
set_option maxRecDepth 100000 in
theorem takeU_nil (w : World) : Calls Try.prog 36 #[.pointer none] w fun e w' => e = .returned (.tuple #[.int .i64 0, .int .i64 1]) ∧ Below w.heap.size w w' := by
  refine calls_of_wp Try.func36 rfl ?_
  refine wp_frame (a' := ⟨#[.pointer none, undef, undef, undef, undef, undef, undef, undef, undef, undef, undef, undef, undef, undef, undef, undef, undef, undef, undef, undef, undef, undef, undef, undef], []⟩) (by kernel_rfl) ?_
  have M0 : Mem NoS w w [] := Mem.start _ _
  refine wp_seq_k (fun K1 hK1 => ?_)
  refine wl_region ?_
  refine st_val (.int .i64 0) (by kernel_rfl) (by kernel_rfl) ?_
  refine st_val (.int .i64 0) (by kernel_rfl) (by kernel_rfl) ?_
  refine wl_nil ?_
  refine hK1 _ _ ?_
  try clear hK1 K1
  refine wp_seq_k (fun K2 hK2 => ?_)
  refine wp_seq_k (fun K3 hK3 => ?_)
  refine wl_region ?_
  refine st_val (.pointer none) (by kernel_rfl) (by kernel_rfl) ?_
  refine st_val (.bool true) (by kernel_rfl) (by kernel_rfl) ?_
  refine wl_nil ?_
  refine hK3 _ _ ?_
  try clear hK3 K3
  refine wp_cond_true (by kernel_rfl) ?_
  refine wp_seq_k (fun K4 hK4 => ?_)
  refine wl_region ?_
  refine st_val (.int .i64 0) (by kernel_rfl) (by kernel_rfl) ?_
  refine st_val (.int .i64 1) (by kernel_rfl) (by kernel_rfl) ?_
  refine wl_nil ?_
  refine hK4 _ _ ?_
  try clear hK4 K4
  refine wp_ret ?_
  refine th_ret ?_
  exact done2 2 3 (.int .i64 0) (.int .i64 1) (by kernel_rfl) (by kernel_rfl) (by kernel_rfl) (by kernel_rfl) ⟨rfl, M0.toBelow⟩
set_option maxHeartbeats 4000000 in
set_option maxRecDepth 100000 in
theorem takeU_walk (w : World) {g : Nat} {v : Value} {p : List Nat} {en at_ : Nat} {TB : List (Nat × Obj)} (F : RF v p en TB) (ha : at_ ≤ en) (hT : Mem (fun k => k ∈ (rT g v en at_ TB).map (·.1)) w w (rT g v en at_ TB)) : UpdRow Try.prog 36 #[.pointer (some ⟨g, 0, none⟩)] w (rT g v en at_ TB) (fun r T' => r = .tuple #[.int .i64 (tk (((unpack p).take en).drop at_)).1, .int .i64 (tk (((unpack p).take en).drop at_)).2.1] ∧ T' = rT g v en (at_ + (tk (((unpack p).take en).drop at_)).2.2) TB) := by
  unfold UpdRow
  obtain ⟨A, c, rfl, hc⟩ := F.own.shape
  have M0 : Mem (fun k => k ∈ (rT g (.slice A p.length c) en at_ TB).map (·.1)) w w ((g, .cells #[.slice A p.length c, .int .i64 ((at_ : Nat) : Int), .int .i64 ((en : Nat) : Int)] 65 (0, 0)) :: (TB ++ [])) := by rw [List.append_nil]; exact hT
  refine calls_of_wp Try.func36 rfl ?_
  refine wp_frame (a' := ⟨#[.pointer (some ⟨g, 0, none⟩), undef, undef, undef, undef, undef, undef, undef, undef, undef, undef, undef, undef, undef, undef, undef, undef, undef, undef, undef, undef, undef, undef, undef], []⟩) (by kernel_rfl) ?_
  refine wp_seq_k (fun K1 hK1 => ?_)
  refine wl_region ?_
  refine st_val (.int .i64 0) (by kernel_rfl) (by kernel_rfl) ?_
  refine st_val (.int .i64 0) (by kernel_rfl) (by kernel_rfl) ?_
  refine wl_nil ?_
  refine hK1 _ _ ?_
  try clear hK1 K1
  refine wp_seq_k (fun K2 hK2 => ?_)
  refine wp_seq_k (fun K3 hK3 => ?_)
  refine wl_region ?_
  refine st_val (.pointer (some ⟨g, 0, none⟩)) (by kernel_rfl) (by kernel_rfl) ?_
  refine st_val (.bool false) (by kernel_rfl) (by kernel_rfl) ?_
  refine wl_nil ?_
  refine hK3 _ _ ?_
  try clear hK3 K3
  refine wp_cond_false (by kernel_rfl) ?_
  refine wp_skip ?_
  refine hK2 _ _ ?_
  try clear hK2 K2
  refine wp_seq_k (fun K4 hK4 => ?_)
  refine wl_region ?_
  refine st_val (.pointer (some ⟨g, 0, none⟩)) (by kernel_rfl) (by kernel_rfl) ?_
  refine st_val (.pointer (some ⟨g, 0, none⟩)) (by kernel_rfl) (by kernel_rfl) ?_
  refine st_val (.agg #[.slice A p.length c, .int .i64 ((at_ : Nat) : Int), .int .i64 ((en : Nat) : Int)]) (by kernel_rfl) (run_load_row 65 (.tmp 10) rfl g (by kernel_rfl) 65 (#[.slice A p.length c, .int .i64 ((at_ : Nat) : Int), .int .i64 ((en : Nat) : Int)]) (0, 0) _ (M0.get 0 rfl) Try.underlying65 rfl (by kernel_rfl)) ?_
  refine st_alloc M0 (.cells #[.slice none 0 0, .int .i64 0, .int .i64 0] 65 (0, 0)) (by kernel_rfl) (by kernel_rfl) ?_
  intro g5 W6 M7
  refine st_storeRow M7 0 rfl 65 (.tmp 4) (.tmp 11) (by rfl) #[.slice A p.length c, .int .i64 ((at_ : Nat) : Int), .int .i64 ((en : Nat) : Int)] (by kernel_rfl) (by kernel_rfl) (by kernel_rfl) (by rfl) (by kernel_rfl) (by kernel_rfl) ((g5, .cells #[.slice A p.length c, .int .i64 ((at_ : Nat) : Int), .int .i64 ((en : Nat) : Int)] 65 (0, 0)) :: (g, .cells #[.slice A p.length c, .int .i64 ((at_ : Nat) : Int), .int .i64 ((en : Nat) : Int)] 65 (0, 0)) :: (TB ++ [])) rfl ?_
  intro W8 M9
  refine wl_nil ?_
  refine hK4 _ _ ?_
  try clear hK4 K4
  refine wp_seq_k (fun K10 hK10 => ?_)
  refine wl_region ?_
  refine st_val (.pointer (some ⟨g, 0, none⟩)) (by kernel_rfl) (by kernel_rfl) ?_
  have M11 : Mem (fun k => k ∈ (rT g (.slice A p.length c) en at_ TB).map (·.1)) w W8 ((g5, .cells #[.slice A p.length c, .int .i64 ((at_ : Nat) : Int), .int .i64 ((en : Nat) : Int)] 65 (0, 0)) :: ((rT g (.slice A p.length c) en at_ TB) ++ [])) := M9
  refine st_callU (A := [(g5, .cells #[.slice A p.length c, .int .i64 ((at_ : Nat) : Int), .int .i64 ((en : Nat) : Int)] 65 (0, 0))]) (T := (rT g (.slice A p.length c) en at_ TB)) (B := []) M11 (by kernel_rfl) (run_value_call 47 #[(Operand.tmp 13)] _ rfl Try.func47 (by kernel_rfl) (by kernel_rfl) _ (by kernel_rfl)) (take_walk W8 F ha (Mem.part (A := [(g5, .cells #[.slice A p.length c, .int .i64 ((at_ : Nat) : Int), .int .i64 ((en : Nat) : Int)] 65 (0, 0))]) (T := (rT g (.slice A p.length c) en at_ TB)) (B := []) M11)) ?_
  intro v12 T13 W14 O15 M16
  obtain ⟨x17, a18, h19, rfl, rfl, h20⟩ := O15
  have M21 : Mem (fun k => k ∈ (rT g (.slice A p.length c) en at_ TB).map (·.1)) w W14 ((g5, .cells #[.slice A p.length c, .int .i64 ((at_ : Nat) : Int), .int .i64 ((en : Nat) : Int)] 65 (0, 0)) :: ((rT g (.slice A p.length c) en a18 TB) ++ [])) := M16
  refine st_val (.tuple #[.int .i64 x17, .int .i64 ((tk (((unpack p).take en).drop at_)).2.1)]) (by kernel_rfl) (by kernel_rfl) ?_
  refine st_val (.int .i64 x17) (by kernel_rfl) (by kernel_rfl) ?_
  refine st_val (.int .i64 ((tk (((unpack p).take en).drop at_)).2.1)) (by kernel_rfl) (by kernel_rfl) ?_
  refine st_val (.int .i64 x17) (by kernel_rfl) (by kernel_rfl) ?_
  refine st_val (.int .i64 ((tk (((unpack p).take en).drop at_)).2.1)) (by kernel_rfl) (by kernel_rfl) ?_
  refine wl_nil ?_
  refine hK10 _ _ ?_
  try clear hK10 K10
  refine wp_frame (a' := ⟨#[.pointer (some ⟨g, 0, none⟩), undef, .int .i64 0, .int .i64 0, .pointer (some ⟨g5, 0, none⟩), .int .i64 x17, .int .i64 ((tk (((unpack p).take en).drop at_)).2.1), .pointer (some ⟨g, 0, none⟩), .bool false, .pointer (some ⟨g, 0, none⟩), .pointer (some ⟨g, 0, none⟩), .agg #[.slice A p.length c, .int .i64 ((at_ : Nat) : Int), .int .i64 ((en : Nat) : Int)], .tuple #[.int .i64 x17, .int .i64 ((tk (((unpack p).take en).drop at_)).2.1)], .pointer (some ⟨g, 0, none⟩), .tuple #[.int .i64 x17, .int .i64 ((tk (((unpack p).take en).drop at_)).2.1)], .int .i64 x17, .int .i64 ((tk (((unpack p).take en).drop at_)).2.1), undef, undef, undef, undef, undef, undef, undef], []⟩) (by kernel_rfl) ?_
  refine wp_seq_k (fun K22 hK22 => ?_)
  refine wp_seq_k (fun K23 hK23 => ?_)
  refine wl_region ?_
  refine st_val (.int .i64 ((tk (((unpack p).take en).drop at_)).2.1)) (by kernel_rfl) (by kernel_rfl) ?_
  rcases Decidable.em (((tk (((unpack p).take en).drop at_)).2.1 : Int) = 0) with c18 | c18
  ·
    refine st_val (.bool false) (by kernel_rfl) (bool_of (neq_f c18) (by kernel_rfl)) ?_
    refine wl_nil ?_
    refine hK23 _ _ ?_
    try clear hK23 K23
    refine wp_cond_false (by kernel_rfl) ?_
    refine wp_skip ?_
    refine hK22 _ _ ?_
    try clear hK22 K22
    refine wp_seq_k (fun K24 hK24 => ?_)
    refine wl_region ?_
    refine st_val (.int .i64 x17) (by kernel_rfl) (by kernel_rfl) ?_
    refine st_val (.int .i64 x17) (by kernel_rfl) (by kernel_rfl) ?_
    refine st_val (.int .i64 0) (by kernel_rfl) (by kernel_rfl) ?_
    refine wl_nil ?_
    refine hK24 _ _ ?_
    try clear hK24 K24
    refine wp_ret ?_
    exact done2 2 3 (.int .i64 x17) (.int .i64 0) (by kernel_rfl) (by kernel_rfl) (by kernel_rfl) (by kernel_rfl) ⟨_, (rT g (.slice A p.length c) en a18 TB), rfl, ⟨by rw [c18, (h20 c18).1], by rw [(h20 c18).2]⟩, M21.sub (((List.sublist_append_left (rT g (.slice A p.length c) en a18 TB) [])).cons _)⟩
  ·
    refine st_val (.bool true) (by kernel_rfl) (bool_of (neq_t c18) (by kernel_rfl)) ?_
    refine wl_nil ?_
    refine hK23 _ _ ?_
    try clear hK23 K23
    refine wp_cond_true (by kernel_rfl) ?_
    refine wp_seq_k (fun K25 hK25 => ?_)
    have M26 : Mem (fun k => k ∈ (rT g (.slice A p.length c) en at_ TB).map (·.1)) w W14 ((g5, .cells #[.slice A p.length c, .int .i64 ((at_ : Nat) : Int), .int .i64 ((en : Nat) : Int)] 65 (0, 0)) :: (g, .cells #[.slice A p.length c, .int .i64 ((a18 : Nat) : Int), .int .i64 ((en : Nat) : Int)] 65 (0, 0)) :: (TB ++ [])) := M21
    refine wl_region ?_
    refine st_val (.pointer (some ⟨g, 0, none⟩)) (by kernel_rfl) (by kernel_rfl) ?_
    refine st_val (.agg #[.slice A p.length c, .int .i64 ((at_ : Nat) : Int), .int .i64 ((en : Nat) : Int)]) (by kernel_rfl) (run_load_row 65 (.tmp 4) rfl g5 (by kernel_rfl) 65 (#[.slice A p.length c, .int .i64 ((at_ : Nat) : Int), .int .i64 ((en : Nat) : Int)]) (0, 0) _ (M26.get 0 rfl) Try.underlying65 rfl (by kernel_rfl)) ?_
    refine st_val (.pointer (some ⟨g, 0, none⟩)) (by kernel_rfl) (by kernel_rfl) ?_
    refine st_storeRow M26 1 rfl 65 (.tmp 21) (.tmp 20) (by rfl) #[.slice A p.length c, .int .i64 ((at_ : Nat) : Int), .int .i64 ((en : Nat) : Int)] (by kernel_rfl) (by kernel_rfl) (by kernel_rfl) (by rfl) (by kernel_rfl) (by kernel_rfl) ((g5, .cells #[.slice A p.length c, .int .i64 ((at_ : Nat) : Int), .int .i64 ((en : Nat) : Int)] 65 (0, 0)) :: (g, .cells #[.slice A p.length c, .int .i64 ((at_ : Nat) : Int), .int .i64 ((en : Nat) : Int)] 65 (0, 0)) :: (TB ++ [])) rfl ?_
    intro W27 M28
    refine wl_nil ?_
    refine hK25 _ _ ?_
    try clear hK25 K25
    refine wp_seq_k (fun K29 hK29 => ?_)
    refine wl_region ?_
    refine st_val (.int .i64 ((tk (((unpack p).take en).drop at_)).2.1)) (by kernel_rfl) (by kernel_rfl) ?_
    refine st_val (.int .i64 0) (by kernel_rfl) (by kernel_rfl) ?_
    refine st_val (.int .i64 ((tk (((unpack p).take en).drop at_)).2.1)) (by kernel_rfl) (by kernel_rfl) ?_
    refine wl_nil ?_
    refine hK29 _ _ ?_
    try clear hK29 K29
    refine wp_ret ?_
    refine th_ret ?_
    have M30 : Mem (fun k => k ∈ (rT g (.slice A p.length c) en at_ TB).map (·.1)) w W27 ((g, .cells #[.slice A p.length c, .int .i64 ((at_ : Nat) : Int), .int .i64 ((en : Nat) : Int)] 65 (0, 0)) :: (TB ++ [])) := M28.sub ((((List.Sublist.refl []).append_left TB).cons_cons _).cons _)
    exact done2 2 3 (.int .i64 0) (.int .i64 ((tk (((unpack p).take en).drop at_)).2.1)) (by kernel_rfl) (by kernel_rfl) (by kernel_rfl) (by kernel_rfl) ⟨_, (rT g (.slice A p.length c) en at_ TB), rfl, ⟨by rw [(tk_bad c18).1], by rw [(tk_bad c18).2]; rfl⟩, (show Mem _ w _ ((rT g (.slice A p.length c) en at_ TB) ++ []) from M30).sub (List.sublist_append_left _ [])⟩
set_option maxHeartbeats 4000000 in
set_option maxRecDepth 100000 in
theorem takeS_nil (w : World) : Calls Try.prog 38 #[.pointer none] w fun e w' => e = .returned (.tuple #[.int .i64 0, .int .i64 1]) ∧ Below w.heap.size w w' := by
  refine calls_of_wp Try.func38 rfl ?_
  refine wp_frame (a' := ⟨#[.pointer none, undef, undef, undef, undef, undef, undef, undef, undef, undef, undef, undef, undef, undef, undef, undef, undef, undef, undef, undef, undef, undef, undef], []⟩) (by kernel_rfl) ?_
  have M0 : Mem NoS w w [] := Mem.start _ _
  refine wp_seq_k (fun K1 hK1 => ?_)
  refine wl_region ?_
  refine st_val (.int .i64 0) (by kernel_rfl) (by kernel_rfl) ?_
  refine st_val (.int .i64 0) (by kernel_rfl) (by kernel_rfl) ?_
  refine wl_nil ?_
  refine hK1 _ _ ?_
  try clear hK1 K1
  refine wp_seq_k (fun K2 hK2 => ?_)
  refine wl_region ?_
  refine st_val (.pointer none) (by kernel_rfl) (by kernel_rfl) ?_
  refine st_callB M0 (.tuple #[.int .i64 0, .int .i64 1]) (by kernel_rfl) (args := #[.pointer none]) (run_value_call 36 #[(Operand.tmp 7)] _ rfl Try.func36 (by kernel_rfl) (by kernel_rfl) _ (by kernel_rfl)) (takeU_nil w) ?_
  intro W3 M4
  refine st_val (.tuple #[.int .i64 0, .int .i64 1]) (by kernel_rfl) (by kernel_rfl) ?_
  refine st_val (.int .i64 0) (by kernel_rfl) (by kernel_rfl) ?_
  refine st_val (.int .i64 1) (by kernel_rfl) (by kernel_rfl) ?_
  refine st_val (.int .i64 0) (by kernel_rfl) (by kernel_rfl) ?_
  refine st_val (.int .i64 1) (by kernel_rfl) (by kernel_rfl) ?_
  refine wl_nil ?_
  refine hK2 _ _ ?_
  try clear hK2 K2
  refine wp_seq_k (fun K5 hK5 => ?_)
  refine wp_seq_k (fun K6 hK6 => ?_)
  refine wl_region ?_
  refine st_val (.int .i64 1) (by kernel_rfl) (by kernel_rfl) ?_
  refine st_val (.bool true) (by kernel_rfl) (by kernel_rfl) ?_
  refine wl_nil ?_
  refine hK6 _ _ ?_
  try clear hK6 K6
  refine wp_cond_true (by kernel_rfl) ?_
  refine wp_seq_k (fun K7 hK7 => ?_)
  refine wl_region ?_
  refine st_val (.int .i64 1) (by kernel_rfl) (by kernel_rfl) ?_
  refine st_val (.int .i64 0) (by kernel_rfl) (by kernel_rfl) ?_
  refine st_val (.int .i64 1) (by kernel_rfl) (by kernel_rfl) ?_
  refine wl_nil ?_
  refine hK7 _ _ ?_
  try clear hK7 K7
  refine wp_frame (a' := ⟨#[.pointer none, undef, .int .i64 0, .int .i64 1, .int .i64 0, .int .i64 1, .tuple #[.int .i64 0, .int .i64 1], .pointer none, .tuple #[.int .i64 0, .int .i64 1], .int .i64 0, .int .i64 1, .int .i64 1, .bool true, .int .i64 1, undef, undef, undef, undef, undef, undef, undef, undef, undef], []⟩) (by kernel_rfl) ?_
  refine wp_ret ?_
  refine th_ret ?_
  exact done2 2 3 (.int .i64 0) (.int .i64 1) (by kernel_rfl) (by kernel_rfl) (by kernel_rfl) (by kernel_rfl) ⟨rfl, M4.toBelow⟩
set_option maxHeartbeats 4000000 in
set_option maxRecDepth 100000 in
theorem takeS_walk (w : World) {g : Nat} {v : Value} {p : List Nat} {en at_ : Nat} {TB : List (Nat × Obj)} (F : RF v p en TB) (ha : at_ ≤ en) (hT : Mem (fun k => k ∈ (rT g v en at_ TB).map (·.1)) w w (rT g v en at_ TB)) : UpdRow Try.prog 38 #[.pointer (some ⟨g, 0, none⟩)] w (rT g v en at_ TB) (fun r T' => r = .tuple #[.int .i64 (tks (((unpack p).take en).drop at_)), .int .i64 (tk (((unpack p).take en).drop at_)).2.1] ∧ T' = rT g v en (at_ + (tk (((unpack p).take en).drop at_)).2.2) TB) := by
  unfold UpdRow
  have M0 : Mem (fun k => k ∈ (rT g v en at_ TB).map (·.1)) w w (rT g v en at_ TB ++ []) := by rw [List.append_nil]; exact hT
  refine calls_of_wp Try.func38 rfl ?_
  refine wp_frame (a' := ⟨#[.pointer (some ⟨g, 0, none⟩), undef, undef, undef, undef, undef, undef, undef, undef, undef, undef, undef, undef, undef, undef, undef, undef, undef, undef, undef, undef, undef, undef], []⟩) (by kernel_rfl) ?_
  refine wp_seq_k (fun K1 hK1 => ?_)
  refine wl_region ?_
  refine st_val (.int .i64 0) (by kernel_rfl) (by kernel_rfl) ?_
  refine st_val (.int .i64 0) (by kernel_rfl) (by kernel_rfl) ?_
  refine wl_nil ?_
  refine hK1 _ _ ?_
  try clear hK1 K1
  refine wp_seq_k (fun K2 hK2 => ?_)
  refine wl_region ?_
  refine st_val (.pointer (some ⟨g, 0, none⟩)) (by kernel_rfl) (by kernel_rfl) ?_
  refine st_callU (A := []) (T := (rT g v en at_ TB)) (B := []) M0 (by kernel_rfl) (run_value_call 36 #[(Operand.tmp 7)] _ rfl Try.func36 (by kernel_rfl) (by kernel_rfl) _ (by kernel_rfl)) (takeU_walk w F (by omega) (Mem.part (A := []) (T := (rT g v en at_ TB)) (B := []) M0)) ?_
  intro v3 T4 W5 O6 M7
  obtain ⟨rfl, rfl⟩ := O6
  have M8 : Mem (fun k => k ∈ (rT g v en at_ TB).map (·.1)) w W5 (((rT g v en (at_ + (tk (((unpack p).take en).drop at_)).2.2) TB) ++ [])) := M7
  refine st_val (.tuple #[.int .i64 ((tk (((unpack p).take en).drop at_)).1), .int .i64 ((tk (((unpack p).take en).drop at_)).2.1)]) (by kernel_rfl) (by kernel_rfl) ?_
  refine st_val (.int .i64 ((tk (((unpack p).take en).drop at_)).1)) (by kernel_rfl) (by kernel_rfl) ?_
  refine st_val (.int .i64 ((tk (((unpack p).take en).drop at_)).2.1)) (by kernel_rfl) (by kernel_rfl) ?_
  refine st_val (.int .i64 ((tk (((unpack p).take en).drop at_)).1)) (by kernel_rfl) (by kernel_rfl) ?_
  refine st_val (.int .i64 ((tk (((unpack p).take en).drop at_)).2.1)) (by kernel_rfl) (by kernel_rfl) ?_
  refine wl_nil ?_
  refine hK2 _ _ ?_
  try clear hK2 K2
  refine wp_seq_k (fun K9 hK9 => ?_)
  refine wp_seq_k (fun K10 hK10 => ?_)
  refine wl_region ?_
  refine st_val (.int .i64 ((tk (((unpack p).take en).drop at_)).2.1)) (by kernel_rfl) (by kernel_rfl) ?_
  rcases Decidable.em (((tk (((unpack p).take en).drop at_)).2.1 : Int) = 0) with c12 | c12
  ·
    refine st_val (.bool false) (by kernel_rfl) (bool_of (neq_f c12) (by kernel_rfl)) ?_
    refine wl_nil ?_
    refine hK10 _ _ ?_
    try clear hK10 K10
    refine wp_cond_false (by kernel_rfl) ?_
    refine wp_skip ?_
    refine hK9 _ _ ?_
    try clear hK9 K9
    refine wp_seq_k (fun K11 hK11 => ?_)
    refine wp_seq_k (fun K12 hK12 => ?_)
    have htl := tk_drop_lt F.bin at_
    refine wl_region ?_
    refine st_val (.int .i64 ((tk (((unpack p).take en).drop at_)).1)) (by kernel_rfl) (by kernel_rfl) ?_
    refine st_val (.int .i64 (((tk (((unpack p).take en).drop at_)).1) % 2)) (by kernel_rfl) (int_of (rem_of ((tk (((unpack p).take en).drop at_)).1) 2 (by omega)) (by kernel_rfl)) ?_
    rcases Decidable.em ((((tk (((unpack p).take en).drop at_)).1) % 2 : Int) = 1) with c16 | c16
    ·
      refine st_val (.bool true) (by kernel_rfl) (bool_of (dec_t c16) (by kernel_rfl)) ?_
      refine wl_nil ?_
      refine hK12 _ _ ?_
      try clear hK12 K12
      refine wp_frame (a' := ⟨#[.pointer (some ⟨g, 0, none⟩), undef, .int .i64 0, .int .i64 0, .int .i64 ((tk (((unpack p).take en).drop at_)).1), .int .i64 ((tk (((unpack p).take en).drop at_)).2.1), .tuple #[.int .i64 ((tk (((unpack p).take en).drop at_)).1), .int .i64 ((tk (((unpack p).take en).drop at_)).2.1)], .pointer (some ⟨g, 0, none⟩), .tuple #[.int .i64 ((tk (((unpack p).take en).drop at_)).1), .int .i64 ((tk (((unpack p).take en).drop at_)).2.1)], .int .i64 ((tk (((unpack p).take en).drop at_)).1), .int .i64 ((tk (((unpack p).take en).drop at_)).2.1), .int .i64 ((tk (((unpack p).take en).drop at_)).2.1), .bool false, undef, .int .i64 ((tk (((unpack p).take en).drop at_)).1), .int .i64 (((tk (((unpack p).take en).drop at_)).1) % 2), .bool true, undef, undef, undef, undef, undef, undef], []⟩) (by kernel_rfl) ?_
      refine wp_cond_true (by kernel_rfl) ?_
      refine wp_seq_k (fun K13 hK13 => ?_)
      refine wl_region ?_
      refine st_val (.int .i64 ((tk (((unpack p).take en).drop at_)).1)) (by kernel_rfl) (by kernel_rfl) ?_
      refine st_val (.int .i64 (((tk (((unpack p).take en).drop at_)).1) + 1)) (by kernel_rfl) (i64_of (by omega) (by kernel_rfl)) ?_
      refine st_val (.int .i64 ((((tk (((unpack p).take en).drop at_)).1) + 1) / 2)) (by kernel_rfl) (int_of (quo_of (((tk (((unpack p).take en).drop at_)).1) + 1) 2 (by omega) (by omega) (by omega)) (by kernel_rfl)) ?_
      refine st_val (.int .i64 ((((tk (((unpack p).take en).drop at_)).1) + 1) / 2)) (by kernel_rfl) (by kernel_rfl) ?_
      refine st_val (.int .i64 0) (by kernel_rfl) (by kernel_rfl) ?_
      refine wl_nil ?_
      refine hK13 _ _ ?_
      try clear hK13 K13
      refine wp_ret ?_
      refine th_ret ?_
      exact done2 2 3 (.int .i64 ((((tk (((unpack p).take en).drop at_)).1) + 1) / 2)) (.int .i64 0) (by kernel_rfl) (by kernel_rfl) (by kernel_rfl) (by kernel_rfl) ⟨_, (rT g v en (at_ + (tk (((unpack p).take en).drop at_)).2.2) TB), rfl, ⟨by rw [tks, if_pos c12, sgn, if_pos c16, c12], rfl⟩, M8.sub (List.sublist_append_left (rT g v en (at_ + (tk (((unpack p).take en).drop at_)).2.2) TB) [])⟩
    ·
      refine st_val (.bool false) (by kernel_rfl) (bool_of (dec_f c16) (by kernel_rfl)) ?_
      refine wl_nil ?_
      refine hK12 _ _ ?_
      try clear hK12 K12
      refine wp_frame (a' := ⟨#[.pointer (some ⟨g, 0, none⟩), undef, .int .i64 0, .int .i64 0, .int .i64 ((tk (((unpack p).take en).drop at_)).1), .int .i64 ((tk (((unpack p).take en).drop at_)).2.1), .tuple #[.int .i64 ((tk (((unpack p).take en).drop at_)).1), .int .i64 ((tk (((unpack p).take en).drop at_)).2.1)], .pointer (some ⟨g, 0, none⟩), .tuple #[.int .i64 ((tk (((unpack p).take en).drop at_)).1), .int .i64 ((tk (((unpack p).take en).drop at_)).2.1)], .int .i64 ((tk (((unpack p).take en).drop at_)).1), .int .i64 ((tk (((unpack p).take en).drop at_)).2.1), .int .i64 ((tk (((unpack p).take en).drop at_)).2.1), .bool false, undef, .int .i64 ((tk (((unpack p).take en).drop at_)).1), .int .i64 (((tk (((unpack p).take en).drop at_)).1) % 2), .bool false, undef, undef, undef, undef, undef, undef], []⟩) (by kernel_rfl) ?_
      refine wp_cond_false (by kernel_rfl) ?_
      refine wp_skip ?_
      refine hK11 _ _ ?_
      try clear hK11 K11
      refine wp_seq_k (fun K14 hK14 => ?_)
      refine wl_region ?_
      refine st_val (.int .i64 ((tk (((unpack p).take en).drop at_)).1)) (by kernel_rfl) (by kernel_rfl) ?_
      refine st_val (.int .i64 (-((tk (((unpack p).take en).drop at_)).1))) (by kernel_rfl) (int_of (show (0 : Int) - ((tk (((unpack p).take en).drop at_)).1) = -((tk (((unpack p).take en).drop at_)).1) by omega) (i64_of (by omega) (by kernel_rfl))) ?_
      refine st_val (.int .i64 (-((tk (((unpack p).take en).drop at_)).1 / 2))) (by kernel_rfl) (run_value_bin .quo 3 3 (.tmp 21) _ rfl (.int .i64 (-(tk (((unpack p).take en).drop at_)).1)) (.int .i64 2) _ (by kernel_rfl) (by kernel_rfl) (by kernel_rfl) (bin_quo (by omega) (by rw [show (-(tk (((unpack p).take en).drop at_)).1).tdiv 2 = -((tk (((unpack p).take en).drop at_)).1 / 2) by rw [Int.neg_tdiv, Int.tdiv_eq_ediv_of_nonneg (by omega)]]; exact i64_wrap (by omega)))) ?_
      refine st_val (.int .i64 (-((tk (((unpack p).take en).drop at_)).1 / 2))) (by kernel_rfl) (by kernel_rfl) ?_
      refine st_val (.int .i64 0) (by kernel_rfl) (by kernel_rfl) ?_
      refine wl_nil ?_
      refine hK14 _ _ ?_
      try clear hK14 K14
      refine wp_ret ?_
      exact done2 2 3 (.int .i64 (-((tk (((unpack p).take en).drop at_)).1 / 2))) (.int .i64 0) (by kernel_rfl) (by kernel_rfl) (by kernel_rfl) (by kernel_rfl) ⟨_, (rT g v en (at_ + (tk (((unpack p).take en).drop at_)).2.2) TB), rfl, ⟨by rw [tks, if_pos c12, sgn, if_neg c16, c12], rfl⟩, M8.sub (List.sublist_append_left (rT g v en (at_ + (tk (((unpack p).take en).drop at_)).2.2) TB) [])⟩
  ·
    refine st_val (.bool true) (by kernel_rfl) (bool_of (neq_t c12) (by kernel_rfl)) ?_
    refine wl_nil ?_
    refine hK10 _ _ ?_
    try clear hK10 K10
    refine wp_cond_true (by kernel_rfl) ?_
    refine wp_seq_k (fun K15 hK15 => ?_)
    refine wl_region ?_
    refine st_val (.int .i64 ((tk (((unpack p).take en).drop at_)).2.1)) (by kernel_rfl) (by kernel_rfl) ?_
    refine st_val (.int .i64 0) (by kernel_rfl) (by kernel_rfl) ?_
    refine st_val (.int .i64 ((tk (((unpack p).take en).drop at_)).2.1)) (by kernel_rfl) (by kernel_rfl) ?_
    refine wl_nil ?_
    refine hK15 _ _ ?_
    try clear hK15 K15
    refine wp_frame (a' := ⟨#[.pointer (some ⟨g, 0, none⟩), undef, .int .i64 0, .int .i64 ((tk (((unpack p).take en).drop at_)).2.1), .int .i64 ((tk (((unpack p).take en).drop at_)).1), .int .i64 ((tk (((unpack p).take en).drop at_)).2.1), .tuple #[.int .i64 ((tk (((unpack p).take en).drop at_)).1), .int .i64 ((tk (((unpack p).take en).drop at_)).2.1)], .pointer (some ⟨g, 0, none⟩), .tuple #[.int .i64 ((tk (((unpack p).take en).drop at_)).1), .int .i64 ((tk (((unpack p).take en).drop at_)).2.1)], .int .i64 ((tk (((unpack p).take en).drop at_)).1), .int .i64 ((tk (((unpack p).take en).drop at_)).2.1), .int .i64 ((tk (((unpack p).take en).drop at_)).2.1), .bool true, .int .i64 ((tk (((unpack p).take en).drop at_)).2.1), undef, undef, undef, undef, undef, undef, undef, undef, undef], []⟩) (by kernel_rfl) ?_
    refine wp_ret ?_
    refine th_ret ?_
    exact done2 2 3 (.int .i64 0) (.int .i64 ((tk (((unpack p).take en).drop at_)).2.1)) (by kernel_rfl) (by kernel_rfl) (by kernel_rfl) (by kernel_rfl) ⟨_, (rT g v en (at_ + (tk (((unpack p).take en).drop at_)).2.2) TB), rfl, ⟨by rw [tks, if_neg c12], rfl⟩, M8.sub (List.sublist_append_left (rT g v en (at_ + (tk (((unpack p).take en).drop at_)).2.2) TB) [])⟩
end Go.Proofs.Ytmchfkkifeioeaa
