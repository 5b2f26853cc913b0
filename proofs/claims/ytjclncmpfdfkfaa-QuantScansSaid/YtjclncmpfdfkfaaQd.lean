/- Quantise and Dequantise, the program's and the reference's. -/
import Derived.Test.YtjclncmpfdfkfaaQs
import Derived.Test.YtjclncmpfdfkfaaQv
import Derived.Test.YtjclncmpfdfkfaaQn
import Derived.Test.YtjclncmpfdfkfaaFst
namespace Go.Proofs.Ytjclncmpfdfkfaa
open Go.RowKit

def qlev (y m : List Int) (q : Int) (k : Nat) : Int := lv (y.getD k 0) (stp (m.getD k 0) q k)
def LOk (v : Int) : Prop := -4095 ≤ v ∧ v ≤ 4095
/-- what Quantise answers: the error -/
noncomputable def qE (y m : List Int) (q : Int) : Int := open Classical in if Fit m q then (if ∀ k, k < 64 → LOk (qlev y m q k) then 0 else 2) else 1
/-- what Quantise answers: the levels -/
noncomputable def qL (y m : List Int) (q : Int) : List Int := open Classical in if Fit m q ∧ ∀ k, k < 64 → LOk (qlev y m q k) then tab 64 (qlev y m q) else zeros
/-- what Dequantise answers -/
noncomputable def dE (l m : List Int) (q : Int) : Int := open Classical in if Fit m q then (if ∀ k, k < 64 → LOk (l.getD k 0) then 0 else 2) else 1
def dval (l m : List Int) (q : Int) (k : Nat) : Int := l.getD k 0 * stp (m.getD k 0) q k
noncomputable def dL (l m : List Int) (q : Int) : List Int := open Classical in if Fit m q ∧ ∀ k, k < 64 → LOk (l.getD k 0) then tab 64 (dval l m q) else zeros
theorem qL_length (y m : List Int) (q : Int) : (qL y m q).length = 64 := by unfold qL; split <;> exact tab_length _ _
theorem dL_length (l m : List Int) (q : Int) : (dL l m q).length = 64 := by unfold dL; split <;> exact tab_length _ _
theorem q_fit {y m : List Int} {q : Int} (h : ¬ Fit m q) : qL y m q = zeros ∧ qE y m q = 1 := by
  unfold qL qE
  exact ⟨if_neg (fun c => h c.1), if_neg h⟩
theorem q_bad {y m : List Int} {q : Int} (h : Fit m q) (k : Nat) (hk : k < 64) (hb : ¬ LOk (qlev y m q k)) : qL y m q = zeros ∧ qE y m q = 2 := by
  unfold qL qE
  exact ⟨if_neg (fun c => hb (c.2 k hk)), by rw [if_pos h, if_neg (fun c => hb (c k hk))]⟩
theorem q_good {y m : List Int} {q : Int} (h : Fit m q) (ho : ∀ k, k < 64 → LOk (qlev y m q k)) : qL y m q = tab 64 (qlev y m q) ∧ qE y m q = 0 := by
  unfold qL qE
  exact ⟨if_pos ⟨h, ho⟩, by rw [if_pos h, if_pos ho]⟩
theorem d_fit {l m : List Int} {q : Int} (h : ¬ Fit m q) : dL l m q = zeros ∧ dE l m q = 1 := by
  unfold dL dE
  exact ⟨if_neg (fun c => h c.1), if_neg h⟩
theorem d_bad {l m : List Int} {q : Int} (h : Fit m q) (k : Nat) (hk : k < 64) (hb : ¬ LOk (l.getD k 0)) : dL l m q = zeros ∧ dE l m q = 2 := by
  unfold dL dE
  exact ⟨if_neg (fun c => hb (c.2 k hk)), by rw [if_pos h, if_neg (fun c => hb (c k hk))]⟩
theorem d_good {l m : List Int} {q : Int} (h : Fit m q) (ho : ∀ k, k < 64 → LOk (l.getD k 0)) : dL l m q = tab 64 (dval l m q) ∧ dE l m q = 0 := by
  unfold dL dE
  exact ⟨if_pos ⟨h, ho⟩, by rw [if_pos h, if_pos ho]⟩
theorem stp_le {m : List Int} {q : Int} (h : Fit m q) (hb : BL m) (k : Nat) (hk : k < 64) : (8 ≤ m.getD k 0 ∧ m.getD k 0 ≤ 255) ∧ 160 ≤ stp (m.getD k 0) q k ∧ stp (m.getD k 0) q k ≤ 284580 := by
  have h1 := vB_iff.1 h.1 k hk
  have h2 := hb k hk
  have h3 := gq_le (k / 8) (k % 8)
  have h4 := wqg_le h3 (wq_le h1 (by omega) h.2.1 h.2.2)
  refine ⟨by omega, ?_, h4.2⟩
  unfold stp
  have h5 : 8 * 1 ≤ m.getD k 0 * q := Int.mul_le_mul h1 h.2.1 (by omega) (by omega)
  have h6 : 8 * 20 ≤ m.getD k 0 * q * gq (k / 8) (k % 8) := Int.mul_le_mul (by omega) h3.1 (by omega) (by omega)
  omega
theorem la_nonneg {v s : Int} (hs : 0 < s) : 0 ≤ la v s := Int.ediv_nonneg (by omega) (by omega)
theorem la_le {v s : Int} (hs : 160 ≤ s) (hv : -1099511627776 ≤ v ∧ v ≤ 1099511627776) (hs2 : s ≤ 284580) : la v s ≤ 13743895347 := by
  unfold la
  exact Int.ediv_le_of_le_mul (by omega) (by omega)
theorem far_not {v s : Int} (hs : 160 ≤ s) (hs2 : s ≤ 284580) (hv : v < -1099511627776 ∨ 1099511627776 < v) : ¬ LOk (lv v s) := by
  have h1 : 4096 ≤ la v s := by
    unfold la
    rw [Int.le_ediv_iff_mul_le (by omega)]
    omega
  unfold LOk lv
  split <;> omega
theorem part_step (f : Nat → Int) (k : Nat) (x : Int) (hx : x = f k) : (tab 64 (part2 f k 0)).set k x = tab 64 (part2 f (k + 1) 0) := by
  rw [part2_set, part2_next f k x hx]
theorem part_zero (f : Nat → Int) : tab 64 (part2 f 0 0) = zeros := by rw [part2_zero]; rfl

theorem getD_set_same {l : List Int} {k : Nat} {x : Int} (h : k < l.length) : (l.set k x).getD k 0 = x := by
  rw [List.getD_eq_getElem?_getD, List.getElem?_set_self h]; rfl
theorem set_set_iv (l : List Int) (k : Nat) (x y : Int) : (l.set k x).set k y = l.set k y := by rw [List.set_set]
theorem lv_big {v s : Int} (hs : 0 < s) (h : la v s > 4095) : ¬ LOk (lv v s) := by
  unfold LOk lv
  split <;> omega
theorem la_w {v s : Int} (hs : 160 ≤ s) (hs2 : s ≤ 284580) (hv : -1099511627776 ≤ v ∧ v ≤ 1099511627776) : IntKind.i64.wrap ((2 * max v (-v) + s).tdiv (2 * s)) = la v s := by
  have h1 := la_le hs hv hs2
  have h2 := @la_nonneg v s (by omega)
  rw [Int.tdiv_eq_ediv_of_nonneg (by omega)]
  exact i64_wrap (by unfold la at *; omega)
theorem dval_in {x s : Int} (h1 : -4095 ≤ x) (h2 : x ≤ 4095) (hs : 160 ≤ s ∧ s ≤ 284580) : -9223372036854775808 ≤ x * s ∧ x * s ≤ 9223372036854775807 := by
  have := mul_bound (A := 4095) (B := 284580) (a := x) (b := s) ⟨by omega, h2⟩ ⟨by omega, hs.2⟩
  omega
set_option maxHeartbeats 4000000 in
set_option maxRecDepth 100000 in
theorem quantise_walk (w : World) (y m : List Int) (q : Int) (hy : y.length = 64) (hm : m.length = 64) (hb : BL m) (hyb : ∀ n, n < 64 → -9223372036854775808 ≤ y.getD n 0 ∧ y.getD n 0 ≤ 9223372036854775807) : Calls Try.prog 19 #[.agg (iv y), .agg (bv m), .int .i64 q] w fun e w' => e = .returned (.tuple #[.agg (iv (qL y m q)), .int .i64 (qE y m q)]) ∧ Below w.heap.size w w' := by
  refine calls_of_wp Try.func19 rfl ?_
  refine wp_frame (a' := ⟨#[.agg (iv y), .agg (bv m), .int .i64 q, undef, undef, undef, undef, undef, undef, undef, undef, undef, undef, undef, undef, undef, undef, undef, undef, undef, undef, undef, undef, undef, undef, undef, undef, undef, undef, undef, undef, undef, undef, undef, undef, undef, undef, undef, undef, undef, undef, undef, undef, undef, undef, undef, undef, undef, undef, undef, undef, undef, undef, undef, undef, undef, undef, undef, undef, undef, undef, undef, undef], []⟩) (by kernel_rfl) ?_
  have M0 : Mem NoS w w [] := Mem.start _ _
  refine wp_seq_k (fun K1 hK1 => ?_)
  refine wl_region ?_
  refine st_alloc M0 (.cells (iv y) 30 (0, 0)) (by kernel_rfl) (by kernel_rfl) ?_
  intro g2 W3 M4
  refine st_alloc M4 (.cells (bv m) 23 (0, 0)) (by kernel_rfl) (by kernel_rfl) ?_
  intro g5 W6 M7
  refine st_alloc M7 (.cells (iv zeros) 30 (0, 0)) (by kernel_rfl) (by kernel_rfl) ?_
  intro g8 W9 M10
  refine st_val (.int .i64 0) (by kernel_rfl) (by kernel_rfl) ?_
  refine wl_nil ?_
  refine hK1 _ _ ?_
  try clear hK1 K1
  refine wp_seq_k (fun K11 hK11 => ?_)
  refine wp_seq_k (fun K12 hK12 => ?_)
  refine wl_region ?_
  refine st_val (.agg (bv m)) (by kernel_rfl) (run_load_row 23 (.tmp 4) rfl g5 (by kernel_rfl) 23 (bv m) (0, 0) _ (M10.get 1 rfl) Try.underlying23 rfl (infoB64 _ hm)) ?_
  refine st_val (.int .i64 q) (by kernel_rfl) (by kernel_rfl) ?_
  rcases Classical.em (Fit m q) with hF | hF
  ·
    refine st_callB M10 (.bool true) (by kernel_rfl) (args := #[.agg (bv m), .int .i64 q]) (run_value_call 44 #[(Operand.tmp 12), (Operand.tmp 13)] _ rfl Try.func44 (by kernel_rfl) (by kernel_rfl) _ (by kernel_rfl)) (fits_t W9 m hm hb q hF) ?_
    intro W13 M14
    refine st_val (.bool false) (by kernel_rfl) (by kernel_rfl) ?_
    refine wl_nil ?_
    refine hK12 _ _ ?_
    try clear hK12 K12
    refine wp_cond_false (by kernel_rfl) ?_
    refine wp_skip ?_
    refine hK11 _ _ ?_
    try clear hK11 K11
    refine wp_seq_k (fun K15 hK15 => ?_)
    refine wl_region ?_
    refine st_alloc M14 (.cells (iv zeros) 30 (0, 0)) (by kernel_rfl) (by kernel_rfl) ?_
    intro g16 W17 M18
    refine wl_nil ?_
    refine hK15 _ _ ?_
    try clear hK15 K15
    refine wp_seq_k (fun K19 hK19 => ?_)
    refine wp_seq_k (fun K20 hK20 => ?_)
    refine wl_region ?_
    refine st_val (.agg (iv y)) (by kernel_rfl) (run_load_row 30 (.tmp 3) rfl g2 (by kernel_rfl) 30 (iv y) (0, 0) _ (M18.get 3 rfl) Try.underlying30 rfl (info64 _ hy)) ?_
    refine st_val (.int .i64 0) (by kernel_rfl) (by kernel_rfl) ?_
    refine wl_nil ?_
    refine hK20 _ _ ?_
    try clear hK20 K20
    refine wp_block ?_
    refine wp_loop_ghost (fun gn a' w' => ∃ (k : Nat) (u21 : Nat → Value), ((k ≤ 64 ∧ ∀ n, n < k → LOk (qlev y m q n)) ∧ Mem NoS w w' [(g16, .cells (iv (tab 64 (part2 (qlev y m q) k 0))) 30 (0, 0)), (g8, .cells (iv zeros) 30 (0, 0)), (g5, .cells (bv m) 23 (0, 0)), (g2, .cells (iv y) 30 (0, 0))]) ∧ gn = 64 - k ∧ a' = ⟨#[.agg (iv y), .agg (bv m), .int .i64 q, .pointer (some ⟨g2, 0, none⟩), .pointer (some ⟨g5, 0, none⟩), undef, .pointer (some ⟨g8, 0, none⟩), (u21 7), .pointer (some ⟨g16, 0, none⟩), (u21 9), (u21 10), (u21 11), .agg (bv m), .int .i64 q, .bool true, .bool false, undef, .agg (iv y), .int .i64 (k : Int), (u21 19), (u21 20), (u21 21), (u21 22), (u21 23), (u21 24), (u21 25), (u21 26), (u21 27), (u21 28), (u21 29), (u21 30), (u21 31), (u21 32), (u21 33), (u21 34), (u21 35), (u21 36), (u21 37), (u21 38), (u21 39), (u21 40), (u21 41), (u21 42), (u21 43), (u21 44), (u21 45), (u21 46), (u21 47), (u21 48), (u21 49), (u21 50), (u21 51), (u21 52), (u21 53), (u21 54), (u21 55), (u21 56), (u21 57), (u21 58), (u21 59), (u21 60), (u21 61), undef], []⟩) _ ⟨0, (fun zz => Array.getD #[.agg (iv y), .agg (bv m), .int .i64 q, .pointer (some ⟨g2, 0, none⟩), .pointer (some ⟨g5, 0, none⟩), undef, .pointer (some ⟨g8, 0, none⟩), .int .i64 0, .pointer (some ⟨g16, 0, none⟩), undef, undef, undef, .agg (bv m), .int .i64 q, .bool true, .bool false, undef, .agg (iv y), .int .i64 0, undef, undef, undef, undef, undef, undef, undef, undef, undef, undef, undef, undef, undef, undef, undef, undef, undef, undef, undef, undef, undef, undef, undef, undef, undef, undef, undef, undef, undef, undef, undef, undef, undef, undef, undef, undef, undef, undef, undef, undef, undef, undef, undef, undef] zz undef), ⟨⟨by omega, fun n h => by omega⟩, (by rw [part_zero]; exact M18)⟩, rfl, (by kernel_rfl)⟩ ?_
    rintro gn _ W22 ⟨k, u21, ⟨⟨rk, r2⟩, M23⟩, rfl, rfl⟩
    refine wp_seq_k (fun K24 hK24 => ?_)
    refine wl_region ?_
    rcases Decidable.em (((k : Int) : Int) < 64) with c19 | c19
    ·
      have hs := stp_le hF hb k (by omega)
      have hq := hF.2
      have hyk := hyb k (by omega)
      refine st_val (.bool true) (by kernel_rfl) (bool_of (dec_t c19) (by kernel_rfl)) ?_
      refine wl_nil ?_
      refine hK24 _ _ ?_
      try clear hK24 K24
      refine wp_seq_k (fun K25 hK25 => ?_)
      refine wp_cond_true (by kernel_rfl) ?_
      refine wp_skip ?_
      refine hK25 _ _ ?_
      try clear hK25 K25
      refine wp_seq_k (fun K26 hK26 => ?_)
      refine wp_block ?_
      refine wp_seq_k (fun K27 hK27 => ?_)
      refine wl_region ?_
      refine st_val (.int .i64 (k : Int)) (by kernel_rfl) (by kernel_rfl) ?_
      refine st_val (.int .i64 (y.getD k 0)) (by kernel_rfl) (run_indexVal 30 (.tmp 17) (.tmp 18) rfl (iv y) .i64 k (by kernel_rfl) (by kernel_rfl) Try.underlying30 (by kernel_rfl) (by kernel_rfl) (by omega) _ (iv_get y k (by rw [hy]; omega))) ?_
      refine st_val (.int .i64 (k : Int)) (by kernel_rfl) (by kernel_rfl) ?_
      refine st_val (.int .i64 (y.getD k 0)) (by kernel_rfl) (by kernel_rfl) ?_
      refine wl_nil ?_
      refine hK27 _ _ ?_
      try clear hK27 K27
      refine wp_seq_k (fun K28 hK28 => ?_)
      refine wp_seq_k (fun K29 hK29 => ?_)
      refine wl_region ?_
      refine st_val (.int .i64 (y.getD k 0)) (by kernel_rfl) (by kernel_rfl) ?_
      rcases Decidable.em ((y.getD k 0 : Int) < -1099511627776) with c23 | c23
      ·
        refine st_val (.bool true) (by kernel_rfl) (bool_of (dec_t c23) (by kernel_rfl)) ?_
        refine st_val (.bool true) (by kernel_rfl) (by kernel_rfl) ?_
        refine st_skip (by kernel_rfl) ?_
        refine st_skip (by kernel_rfl) ?_
        refine st_val (.bool true) (by kernel_rfl) (by kernel_rfl) ?_
        refine wl_nil ?_
        refine hK29 _ _ ?_
        try clear hK29 K29
        refine wp_cond_true (by kernel_rfl) ?_
        refine wp_seq_k (fun K30 hK30 => ?_)
        refine wl_region ?_
        refine st_val (.agg (iv zeros)) (by kernel_rfl) (by kernel_rfl) ?_
        refine st_storeRow M23 1 rfl 30 (.tmp 6) (.tmp 28) (by rfl) (iv zeros) (by kernel_rfl) (by kernel_rfl) (info64 _ zeros_length) (iv_same zeros_length zeros_length) (iv_one _) (by kernel_rfl) [(g16, .cells (iv (tab 64 (part2 (qlev y m q) k 0))) 30 (0, 0)), (g8, .cells (iv zeros) 30 (0, 0)), (g5, .cells (bv m) 23 (0, 0)), (g2, .cells (iv y) 30 (0, 0))] rfl ?_
        intro W31 M32
        refine st_val (.int .i64 2) (by kernel_rfl) (by kernel_rfl) ?_
        refine wl_nil ?_
        refine hK30 _ _ ?_
        try clear hK30 K30
        refine wp_frame (a' := ⟨#[.agg (iv y), .agg (bv m), .int .i64 q, .pointer (some ⟨g2, 0, none⟩), .pointer (some ⟨g5, 0, none⟩), undef, .pointer (some ⟨g8, 0, none⟩), .int .i64 2, .pointer (some ⟨g16, 0, none⟩), .int .i64 (k : Int), .int .i64 (y.getD k 0), (u21 11), .agg (bv m), .int .i64 q, .bool true, .bool false, undef, .agg (iv y), .int .i64 (k : Int), .bool true, .int .i64 (k : Int), .int .i64 (y.getD k 0), .int .i64 (y.getD k 0), .bool true, .bool true, undef, undef, .bool true, .agg (iv zeros), (u21 29), (u21 30), (u21 31), (u21 32), (u21 33), (u21 34), (u21 35), (u21 36), (u21 37), (u21 38), (u21 39), (u21 40), (u21 41), (u21 42), (u21 43), (u21 44), (u21 45), (u21 46), (u21 47), (u21 48), (u21 49), (u21 50), (u21 51), (u21 52), (u21 53), (u21 54), (u21 55), (u21 56), (u21 57), (u21 58), (u21 59), (u21 60), (u21 61), undef], []⟩) (by kernel_rfl) ?_
        refine wp_ret ?_
        refine th_ret ?_
        refine blk_ret ?_
        refine th_ret ?_
        refine th_ret ?_
        refine blk_ret ?_
        refine th_ret ?_
        exact doneRow2 6 30 7 (.int .i64 2) g8 30 (iv zeros) (0, 0) _ (by kernel_rfl) (by kernel_rfl) (by kernel_rfl) (M32.get 1 rfl) Try.underlying30 rfl (info64 _ zeros_length) (by kernel_rfl) ⟨by rw [(q_bad (y := y) hF k (by omega) (far_not (by omega) (by omega) (.inl c23))).1, (q_bad (y := y) hF k (by omega) (far_not (by omega) (by omega) (.inl c23))).2], M32.toBelow⟩
      ·
        refine st_val (.bool false) (by kernel_rfl) (bool_of (dec_f c23) (by kernel_rfl)) ?_
        refine st_val (.bool false) (by kernel_rfl) (by kernel_rfl) ?_
        refine st_val (.int .i64 (y.getD k 0)) (by kernel_rfl) (by kernel_rfl) ?_
        rcases Decidable.em ((y.getD k 0 : Int) > 1099511627776) with c26 | c26
        ·
          refine st_val (.bool true) (by kernel_rfl) (bool_of (dec_t c26) (by kernel_rfl)) ?_
          refine st_val (.bool true) (by kernel_rfl) (by kernel_rfl) ?_
          refine wl_nil ?_
          refine hK29 _ _ ?_
          try clear hK29 K29
          refine wp_cond_true (by kernel_rfl) ?_
          refine wp_seq_k (fun K33 hK33 => ?_)
          refine wl_region ?_
          refine st_val (.agg (iv zeros)) (by kernel_rfl) (by kernel_rfl) ?_
          refine st_storeRow M23 1 rfl 30 (.tmp 6) (.tmp 28) (by rfl) (iv zeros) (by kernel_rfl) (by kernel_rfl) (info64 _ zeros_length) (iv_same zeros_length zeros_length) (iv_one _) (by kernel_rfl) [(g16, .cells (iv (tab 64 (part2 (qlev y m q) k 0))) 30 (0, 0)), (g8, .cells (iv zeros) 30 (0, 0)), (g5, .cells (bv m) 23 (0, 0)), (g2, .cells (iv y) 30 (0, 0))] rfl ?_
          intro W34 M35
          refine st_val (.int .i64 2) (by kernel_rfl) (by kernel_rfl) ?_
          refine wl_nil ?_
          refine hK33 _ _ ?_
          try clear hK33 K33
          refine wp_frame (a' := ⟨#[.agg (iv y), .agg (bv m), .int .i64 q, .pointer (some ⟨g2, 0, none⟩), .pointer (some ⟨g5, 0, none⟩), undef, .pointer (some ⟨g8, 0, none⟩), .int .i64 2, .pointer (some ⟨g16, 0, none⟩), .int .i64 (k : Int), .int .i64 (y.getD k 0), (u21 11), .agg (bv m), .int .i64 q, .bool true, .bool false, undef, .agg (iv y), .int .i64 (k : Int), .bool true, .int .i64 (k : Int), .int .i64 (y.getD k 0), .int .i64 (y.getD k 0), .bool false, .bool false, .int .i64 (y.getD k 0), .bool true, .bool true, .agg (iv zeros), (u21 29), (u21 30), (u21 31), (u21 32), (u21 33), (u21 34), (u21 35), (u21 36), (u21 37), (u21 38), (u21 39), (u21 40), (u21 41), (u21 42), (u21 43), (u21 44), (u21 45), (u21 46), (u21 47), (u21 48), (u21 49), (u21 50), (u21 51), (u21 52), (u21 53), (u21 54), (u21 55), (u21 56), (u21 57), (u21 58), (u21 59), (u21 60), (u21 61), undef], []⟩) (by kernel_rfl) ?_
          refine wp_ret ?_
          refine th_ret ?_
          refine blk_ret ?_
          refine th_ret ?_
          refine th_ret ?_
          refine blk_ret ?_
          refine th_ret ?_
          exact doneRow2 6 30 7 (.int .i64 2) g8 30 (iv zeros) (0, 0) _ (by kernel_rfl) (by kernel_rfl) (by kernel_rfl) (M35.get 1 rfl) Try.underlying30 rfl (info64 _ zeros_length) (by kernel_rfl) ⟨by rw [(q_bad (y := y) hF k (by omega) (far_not (by omega) (by omega) (.inr c26))).1, (q_bad (y := y) hF k (by omega) (far_not (by omega) (by omega) (.inr c26))).2], M35.toBelow⟩
        ·
          refine st_val (.bool false) (by kernel_rfl) (bool_of (dec_f c26) (by kernel_rfl)) ?_
          refine st_val (.bool false) (by kernel_rfl) (by kernel_rfl) ?_
          refine wl_nil ?_
          refine hK29 _ _ ?_
          try clear hK29 K29
          refine wp_cond_false (by kernel_rfl) ?_
          refine wp_skip ?_
          refine hK28 _ _ ?_
          try clear hK28 K28
          refine wp_seq_k (fun K36 hK36 => ?_)
          refine wl_region ?_
          refine st_val (.int .i64 (k : Int)) (by kernel_rfl) (by kernel_rfl) ?_
          refine st_val (.pointer (some ⟨g5, k, none⟩)) (by kernel_rfl) (run_indexAddr 23 (.tmp 4) (.tmp 29) rfl ⟨g5, 0, none⟩ .i64 k (by kernel_rfl) (by kernel_rfl) Try.underlying23 1 (by kernel_rfl) (by omega) ⟨g5, k, none⟩ (addr_at0 _ _)) ?_
          refine st_val (.int .u8 (m.getD k 0)) (by kernel_rfl) (run_load_cell 5 (.tmp 30) rfl ⟨g5, k, none⟩ (by kernel_rfl) _ (M23.cell 2 rfl k _ (bv_get m k (by rw [hm]; omega))) (by kernel_rfl)) ?_
          refine st_val (.int .i64 (m.getD k 0)) (by kernel_rfl) (i64_of (by omega) (by kernel_rfl)) ?_
          refine st_val (.int .i64 q) (by kernel_rfl) (by kernel_rfl) ?_
          refine st_val (.int .i64 (k : Int)) (by kernel_rfl) (by kernel_rfl) ?_
          refine st_callB M23 (.int .i64 (stp (m.getD k 0) q k)) (by kernel_rfl) (args := #[.int .i64 (m.getD k 0), .int .i64 q, .int .i64 (k : Int)]) (run_value_call 15 #[(Operand.tmp 32), (Operand.tmp 33), (Operand.tmp 34)] _ rfl Try.func15 (by kernel_rfl) (by kernel_rfl) _ (by kernel_rfl)) (step_in W22 (m.getD k 0) q k (by omega) (by omega) (by omega) (by omega) (by omega)) ?_
          intro W37 M38
          refine st_val (.int .i64 (stp (m.getD k 0) q k)) (by kernel_rfl) (by kernel_rfl) ?_
          refine wl_nil ?_
          refine hK36 _ _ ?_
          try clear hK36 K36
          refine wp_frame (a' := ⟨#[.agg (iv y), .agg (bv m), .int .i64 q, .pointer (some ⟨g2, 0, none⟩), .pointer (some ⟨g5, 0, none⟩), undef, .pointer (some ⟨g8, 0, none⟩), (u21 7), .pointer (some ⟨g16, 0, none⟩), .int .i64 (k : Int), .int .i64 (y.getD k 0), .int .i64 (stp (m.getD k 0) q k), .agg (bv m), .int .i64 q, .bool true, .bool false, undef, .agg (iv y), .int .i64 (k : Int), .bool true, .int .i64 (k : Int), .int .i64 (y.getD k 0), .int .i64 (y.getD k 0), .bool false, .bool false, .int .i64 (y.getD k 0), .bool false, .bool false, (u21 28), .int .i64 (k : Int), .pointer (some ⟨g5, k, none⟩), .int .u8 (m.getD k 0), .int .i64 (m.getD k 0), .int .i64 q, .int .i64 (k : Int), .int .i64 (stp (m.getD k 0) q k), (u21 36), (u21 37), (u21 38), (u21 39), (u21 40), (u21 41), (u21 42), (u21 43), (u21 44), (u21 45), (u21 46), (u21 47), (u21 48), (u21 49), (u21 50), (u21 51), (u21 52), (u21 53), (u21 54), (u21 55), (u21 56), (u21 57), (u21 58), (u21 59), (u21 60), (u21 61), undef], []⟩) (by kernel_rfl) ?_
          refine wp_seq_k (fun K39 hK39 => ?_)
          have ha := @la_le (y.getD k 0) (stp (m.getD k 0) q k) (by omega) (by omega) (by omega)
          have ha0 := @la_nonneg (y.getD k 0) (stp (m.getD k 0) q k) (by omega)
          refine wl_region ?_
          refine st_val (.int .i64 (k : Int)) (by kernel_rfl) (by kernel_rfl) ?_
          refine st_val (.int .i64 (y.getD k 0)) (by kernel_rfl) (by kernel_rfl) ?_
          refine st_val (.int .i64 (y.getD k 0)) (by kernel_rfl) (by kernel_rfl) ?_
          refine st_val (.int .i64 (-(y.getD k 0))) (by kernel_rfl) (int_of (show (0 : Int) - (y.getD k 0) = -(y.getD k 0) by omega) (i64_of (by omega) (by kernel_rfl))) ?_
          refine st_val (.int .i64 (max (y.getD k 0) (-(y.getD k 0)))) (by kernel_rfl) (int_of (ite_max (y.getD k 0) (-(y.getD k 0))) (by kernel_rfl)) ?_
          refine st_val (.int .i64 (2 * (max (y.getD k 0) (-(y.getD k 0))))) (by kernel_rfl) (i64_of (by omega) (by kernel_rfl)) ?_
          refine st_val (.int .i64 (stp (m.getD k 0) q k)) (by kernel_rfl) (by kernel_rfl) ?_
          refine st_val (.int .i64 ((2 * (max (y.getD k 0) (-(y.getD k 0)))) + (stp (m.getD k 0) q k))) (by kernel_rfl) (i64_of (by omega) (by kernel_rfl)) ?_
          refine st_val (.int .i64 (stp (m.getD k 0) q k)) (by kernel_rfl) (by kernel_rfl) ?_
          refine st_val (.int .i64 (2 * (stp (m.getD k 0) q k))) (by kernel_rfl) (i64_of (by omega) (by kernel_rfl)) ?_
          refine st_val (.int .i64 (la (y.getD k 0) (stp (m.getD k 0) q k))) (by kernel_rfl) (run_value_bin .quo 3 3 (.tmp 43) (.tmp 45) rfl (.int .i64 (2 * max (y.getD k 0) (-(y.getD k 0)) + stp (m.getD k 0) q k)) (.int .i64 (2 * (stp (m.getD k 0) q k))) _ (by kernel_rfl) (by kernel_rfl) (by kernel_rfl) (bin_quo (by omega) (la_w (by omega) (by omega) (by omega)))) ?_
          refine st_val (.pointer (some ⟨g16, k, none⟩)) (by kernel_rfl) (run_indexAddr 30 (.tmp 8) (.tmp 36) rfl ⟨g16, 0, none⟩ .i64 k (by kernel_rfl) (by kernel_rfl) Try.underlying30 1 (by kernel_rfl) (by omega) ⟨g16, k, none⟩ (addr_at0 _ _)) ?_
          refine st_storeCell M38 0 rfl 3 (.tmp 47) (.tmp 46) (by rfl) k (.int .i64 (la (y.getD k 0) (stp (m.getD k 0) q k))) (iv ((tab 64 (part2 (qlev y m q) k 0)).set k (la (y.getD k 0) (stp (m.getD k 0) q k)))) (by kernel_rfl) (by kernel_rfl) (by rw [iv_size, (tab_length _ _)]; omega) (by kernel_rfl) rfl (by kernel_rfl) (iv_set _ _ _) (by kernel_rfl) [(g16, .cells (iv ((tab 64 (part2 (qlev y m q) k 0)).set k (la (y.getD k 0) (stp (m.getD k 0) q k)))) 30 (0, 0)), (g8, .cells (iv zeros) 30 (0, 0)), (g5, .cells (bv m) 23 (0, 0)), (g2, .cells (iv y) 30 (0, 0))] rfl ?_
          intro W40 M41
          refine wl_nil ?_
          refine hK39 _ _ ?_
          try clear hK39 K39
          refine wp_seq_k (fun K42 hK42 => ?_)
          refine wp_seq_k (fun K43 hK43 => ?_)
          refine wl_region ?_
          refine st_val (.int .i64 (k : Int)) (by kernel_rfl) (by kernel_rfl) ?_
          refine st_val (.pointer (some ⟨g16, k, none⟩)) (by kernel_rfl) (run_indexAddr 30 (.tmp 8) (.tmp 48) rfl ⟨g16, 0, none⟩ .i64 k (by kernel_rfl) (by kernel_rfl) Try.underlying30 1 (by kernel_rfl) (by omega) ⟨g16, k, none⟩ (addr_at0 _ _)) ?_
          refine st_val (.int .i64 (la (y.getD k 0) (stp (m.getD k 0) q k))) (by kernel_rfl) (run_load_cell 3 (.tmp 49) rfl ⟨g16, k, none⟩ (by kernel_rfl) _ (M41.cell 0 rfl k _ ((iv_get _ _ (by rw [List.length_set, tab_length]; omega)).trans (by rw [getD_set_same (by rw [tab_length]; omega)]))) (by kernel_rfl)) ?_
          rcases Decidable.em ((la (y.getD k 0) (stp (m.getD k 0) q k) : Int) > 4095) with c51 | c51
          ·
            refine st_val (.bool true) (by kernel_rfl) (bool_of (dec_t c51) (by kernel_rfl)) ?_
            refine wl_nil ?_
            refine hK43 _ _ ?_
            try clear hK43 K43
            refine wp_frame (a' := ⟨#[.agg (iv y), .agg (bv m), .int .i64 q, .pointer (some ⟨g2, 0, none⟩), .pointer (some ⟨g5, 0, none⟩), undef, .pointer (some ⟨g8, 0, none⟩), (u21 7), .pointer (some ⟨g16, 0, none⟩), .int .i64 (k : Int), .int .i64 (y.getD k 0), .int .i64 (stp (m.getD k 0) q k), .agg (bv m), .int .i64 q, .bool true, .bool false, undef, .agg (iv y), .int .i64 (k : Int), .bool true, .int .i64 (k : Int), .int .i64 (y.getD k 0), .int .i64 (y.getD k 0), .bool false, .bool false, .int .i64 (y.getD k 0), .bool false, .bool false, (u21 28), .int .i64 (k : Int), .pointer (some ⟨g5, k, none⟩), .int .u8 (m.getD k 0), .int .i64 (m.getD k 0), .int .i64 q, .int .i64 (k : Int), .int .i64 (stp (m.getD k 0) q k), .int .i64 (k : Int), .int .i64 (y.getD k 0), .int .i64 (y.getD k 0), .int .i64 (-(y.getD k 0)), .int .i64 (max (y.getD k 0) (-(y.getD k 0))), .int .i64 (2 * (max (y.getD k 0) (-(y.getD k 0)))), .int .i64 (stp (m.getD k 0) q k), .int .i64 ((2 * (max (y.getD k 0) (-(y.getD k 0)))) + (stp (m.getD k 0) q k)), .int .i64 (stp (m.getD k 0) q k), .int .i64 (2 * (stp (m.getD k 0) q k)), .int .i64 (la (y.getD k 0) (stp (m.getD k 0) q k)), .pointer (some ⟨g16, k, none⟩), .int .i64 (k : Int), .pointer (some ⟨g16, k, none⟩), .int .i64 (la (y.getD k 0) (stp (m.getD k 0) q k)), .bool true, (u21 52), (u21 53), (u21 54), (u21 55), (u21 56), (u21 57), (u21 58), (u21 59), (u21 60), (u21 61), undef], []⟩) (by kernel_rfl) ?_
            refine wp_cond_true (by kernel_rfl) ?_
            refine wp_seq_k (fun K44 hK44 => ?_)
            refine wl_region ?_
            refine st_val (.agg (iv zeros)) (by kernel_rfl) (by kernel_rfl) ?_
            refine st_storeRow M41 1 rfl 30 (.tmp 6) (.tmp 52) (by rfl) (iv zeros) (by kernel_rfl) (by kernel_rfl) (info64 _ zeros_length) (iv_same zeros_length zeros_length) (iv_one _) (by kernel_rfl) [(g16, .cells (iv ((tab 64 (part2 (qlev y m q) k 0)).set k (la (y.getD k 0) (stp (m.getD k 0) q k)))) 30 (0, 0)), (g8, .cells (iv zeros) 30 (0, 0)), (g5, .cells (bv m) 23 (0, 0)), (g2, .cells (iv y) 30 (0, 0))] rfl ?_
            intro W45 M46
            refine st_val (.int .i64 2) (by kernel_rfl) (by kernel_rfl) ?_
            refine wl_nil ?_
            refine hK44 _ _ ?_
            try clear hK44 K44
            refine wp_ret ?_
            refine th_ret ?_
            refine blk_ret ?_
            refine th_ret ?_
            refine th_ret ?_
            refine blk_ret ?_
            refine th_ret ?_
            exact doneRow2 6 30 7 (.int .i64 2) g8 30 (iv zeros) (0, 0) _ (by kernel_rfl) (by kernel_rfl) (by kernel_rfl) (M46.get 1 rfl) Try.underlying30 rfl (info64 _ zeros_length) (by kernel_rfl) ⟨by rw [(q_bad (y := y) hF k (by omega) (lv_big (by omega) c51)).1, (q_bad (y := y) hF k (by omega) (lv_big (by omega) c51)).2], M46.toBelow⟩
          ·
            refine st_val (.bool false) (by kernel_rfl) (bool_of (dec_f c51) (by kernel_rfl)) ?_
            refine wl_nil ?_
            refine hK43 _ _ ?_
            try clear hK43 K43
            refine wp_frame (a' := ⟨#[.agg (iv y), .agg (bv m), .int .i64 q, .pointer (some ⟨g2, 0, none⟩), .pointer (some ⟨g5, 0, none⟩), undef, .pointer (some ⟨g8, 0, none⟩), (u21 7), .pointer (some ⟨g16, 0, none⟩), .int .i64 (k : Int), .int .i64 (y.getD k 0), .int .i64 (stp (m.getD k 0) q k), .agg (bv m), .int .i64 q, .bool true, .bool false, undef, .agg (iv y), .int .i64 (k : Int), .bool true, .int .i64 (k : Int), .int .i64 (y.getD k 0), .int .i64 (y.getD k 0), .bool false, .bool false, .int .i64 (y.getD k 0), .bool false, .bool false, (u21 28), .int .i64 (k : Int), .pointer (some ⟨g5, k, none⟩), .int .u8 (m.getD k 0), .int .i64 (m.getD k 0), .int .i64 q, .int .i64 (k : Int), .int .i64 (stp (m.getD k 0) q k), .int .i64 (k : Int), .int .i64 (y.getD k 0), .int .i64 (y.getD k 0), .int .i64 (-(y.getD k 0)), .int .i64 (max (y.getD k 0) (-(y.getD k 0))), .int .i64 (2 * (max (y.getD k 0) (-(y.getD k 0)))), .int .i64 (stp (m.getD k 0) q k), .int .i64 ((2 * (max (y.getD k 0) (-(y.getD k 0)))) + (stp (m.getD k 0) q k)), .int .i64 (stp (m.getD k 0) q k), .int .i64 (2 * (stp (m.getD k 0) q k)), .int .i64 (la (y.getD k 0) (stp (m.getD k 0) q k)), .pointer (some ⟨g16, k, none⟩), .int .i64 (k : Int), .pointer (some ⟨g16, k, none⟩), .int .i64 (la (y.getD k 0) (stp (m.getD k 0) q k)), .bool false, (u21 52), (u21 53), (u21 54), (u21 55), (u21 56), (u21 57), (u21 58), (u21 59), (u21 60), (u21 61), undef], []⟩) (by kernel_rfl) ?_
            refine wp_cond_false (by kernel_rfl) ?_
            refine wp_skip ?_
            refine hK42 _ _ ?_
            try clear hK42 K42
            refine wp_seq_k (fun K47 hK47 => ?_)
            refine wl_region ?_
            refine st_val (.int .i64 (y.getD k 0)) (by kernel_rfl) (by kernel_rfl) ?_
            rcases Decidable.em ((y.getD k 0 : Int) < 0) with c54 | c54
            ·
              refine st_val (.bool true) (by kernel_rfl) (bool_of (dec_t c54) (by kernel_rfl)) ?_
              refine wl_nil ?_
              refine hK47 _ _ ?_
              try clear hK47 K47
              refine wp_cond_true (by kernel_rfl) ?_
              refine wl_region ?_
              refine st_val (.int .i64 (k : Int)) (by kernel_rfl) (by kernel_rfl) ?_
              refine st_val (.int .i64 (k : Int)) (by kernel_rfl) (by kernel_rfl) ?_
              refine st_val (.pointer (some ⟨g16, k, none⟩)) (by kernel_rfl) (run_indexAddr 30 (.tmp 8) (.tmp 56) rfl ⟨g16, 0, none⟩ .i64 k (by kernel_rfl) (by kernel_rfl) Try.underlying30 1 (by kernel_rfl) (by omega) ⟨g16, k, none⟩ (addr_at0 _ _)) ?_
              refine st_val (.int .i64 (la (y.getD k 0) (stp (m.getD k 0) q k))) (by kernel_rfl) (run_load_cell 3 (.tmp 57) rfl ⟨g16, k, none⟩ (by kernel_rfl) _ (M41.cell 0 rfl k _ ((iv_get _ _ (by rw [List.length_set, tab_length]; omega)).trans (by rw [getD_set_same (by rw [tab_length]; omega)]))) (by kernel_rfl)) ?_
              refine st_val (.int .i64 (-(la (y.getD k 0) (stp (m.getD k 0) q k)))) (by kernel_rfl) (int_of (show (0 : Int) - (la (y.getD k 0) (stp (m.getD k 0) q k)) = -(la (y.getD k 0) (stp (m.getD k 0) q k)) by omega) (i64_of (by omega) (by kernel_rfl))) ?_
              refine st_val (.pointer (some ⟨g16, k, none⟩)) (by kernel_rfl) (run_indexAddr 30 (.tmp 8) (.tmp 55) rfl ⟨g16, 0, none⟩ .i64 k (by kernel_rfl) (by kernel_rfl) Try.underlying30 1 (by kernel_rfl) (by omega) ⟨g16, k, none⟩ (addr_at0 _ _)) ?_
              refine st_storeCell M41 0 rfl 3 (.tmp 60) (.tmp 59) (by rfl) k (.int .i64 (-(la (y.getD k 0) (stp (m.getD k 0) q k)))) (iv (((tab 64 (part2 (qlev y m q) k 0)).set k (la (y.getD k 0) (stp (m.getD k 0) q k))).set k (-(la (y.getD k 0) (stp (m.getD k 0) q k))))) (by kernel_rfl) (by kernel_rfl) (by rw [iv_size, ((List.length_set).trans (tab_length _ _))]; omega) (by kernel_rfl) rfl (by kernel_rfl) (iv_set _ _ _) (by kernel_rfl) [(g16, .cells (iv (((tab 64 (part2 (qlev y m q) k 0)).set k (la (y.getD k 0) (stp (m.getD k 0) q k))).set k (-(la (y.getD k 0) (stp (m.getD k 0) q k))))) 30 (0, 0)), (g8, .cells (iv zeros) 30 (0, 0)), (g5, .cells (bv m) 23 (0, 0)), (g2, .cells (iv y) 30 (0, 0))] rfl ?_
              intro W48 M49
              refine wl_nil ?_
              refine blk_normal ?_
              refine hK26 _ _ ?_
              try clear hK26 K26
              refine wl_region ?_
              refine st_val (.int .i64 ((k : Int) + 1)) (by kernel_rfl) (i64_of (by omega) (by kernel_rfl)) ?_
              refine st_val (.int .i64 ((k : Int) + 1)) (by kernel_rfl) (by kernel_rfl) ?_
              refine wl_nil ?_
              refine th_normal ?_
              have ok1 : LOk (qlev y m q k) := by unfold qlev lv LOk; rw [if_pos c54]; have := @la_nonneg (y.getD k 0) (stp (m.getD k 0) q k) (by omega); omega
              exact ⟨_, by omega, (k + 1), (fun zz => Array.getD #[.agg (iv y), .agg (bv m), .int .i64 q, .pointer (some ⟨g2, 0, none⟩), .pointer (some ⟨g5, 0, none⟩), undef, .pointer (some ⟨g8, 0, none⟩), (u21 7), .pointer (some ⟨g16, 0, none⟩), .int .i64 (k : Int), .int .i64 (y.getD k 0), .int .i64 (stp (m.getD k 0) q k), .agg (bv m), .int .i64 q, .bool true, .bool false, undef, .agg (iv y), .int .i64 ((k : Int) + 1), .bool true, .int .i64 (k : Int), .int .i64 (y.getD k 0), .int .i64 (y.getD k 0), .bool false, .bool false, .int .i64 (y.getD k 0), .bool false, .bool false, (u21 28), .int .i64 (k : Int), .pointer (some ⟨g5, k, none⟩), .int .u8 (m.getD k 0), .int .i64 (m.getD k 0), .int .i64 q, .int .i64 (k : Int), .int .i64 (stp (m.getD k 0) q k), .int .i64 (k : Int), .int .i64 (y.getD k 0), .int .i64 (y.getD k 0), .int .i64 (-(y.getD k 0)), .int .i64 (max (y.getD k 0) (-(y.getD k 0))), .int .i64 (2 * (max (y.getD k 0) (-(y.getD k 0)))), .int .i64 (stp (m.getD k 0) q k), .int .i64 ((2 * (max (y.getD k 0) (-(y.getD k 0)))) + (stp (m.getD k 0) q k)), .int .i64 (stp (m.getD k 0) q k), .int .i64 (2 * (stp (m.getD k 0) q k)), .int .i64 (la (y.getD k 0) (stp (m.getD k 0) q k)), .pointer (some ⟨g16, k, none⟩), .int .i64 (k : Int), .pointer (some ⟨g16, k, none⟩), .int .i64 (la (y.getD k 0) (stp (m.getD k 0) q k)), .bool false, (u21 52), .int .i64 (y.getD k 0), .bool true, .int .i64 (k : Int), .int .i64 (k : Int), .pointer (some ⟨g16, k, none⟩), .int .i64 (la (y.getD k 0) (stp (m.getD k 0) q k)), .int .i64 (-(la (y.getD k 0) (stp (m.getD k 0) q k))), .pointer (some ⟨g16, k, none⟩), .int .i64 ((k : Int) + 1), undef] zz undef), ⟨⟨by omega, fun n h => (Decidable.em (n < k)).elim (r2 n) (fun e => by obtain rfl : n = k := (by omega); exact ok1)⟩, (by rw [← part_step (qlev y m q) k _ (show -(la (y.getD k 0) (stp (m.getD k 0) q k)) = qlev y m q k by unfold qlev lv; rw [if_pos c54])]; have hh := M49; rw [set_set_iv] at hh; exact hh)⟩, rfl, (by kernel_rfl)⟩
            ·
              refine st_val (.bool false) (by kernel_rfl) (bool_of (dec_f c54) (by kernel_rfl)) ?_
              refine wl_nil ?_
              refine hK47 _ _ ?_
              try clear hK47 K47
              refine wp_cond_false (by kernel_rfl) ?_
              refine wp_skip ?_
              refine blk_normal ?_
              refine hK26 _ _ ?_
              try clear hK26 K26
              refine wl_region ?_
              refine st_val (.int .i64 ((k : Int) + 1)) (by kernel_rfl) (i64_of (by omega) (by kernel_rfl)) ?_
              refine st_val (.int .i64 ((k : Int) + 1)) (by kernel_rfl) (by kernel_rfl) ?_
              refine wl_nil ?_
              refine th_normal ?_
              have ok1 : LOk (qlev y m q k) := by unfold qlev lv LOk; rw [if_neg c54]; have := @la_nonneg (y.getD k 0) (stp (m.getD k 0) q k) (by omega); omega
              exact ⟨_, by omega, (k + 1), (fun zz => Array.getD #[.agg (iv y), .agg (bv m), .int .i64 q, .pointer (some ⟨g2, 0, none⟩), .pointer (some ⟨g5, 0, none⟩), undef, .pointer (some ⟨g8, 0, none⟩), (u21 7), .pointer (some ⟨g16, 0, none⟩), .int .i64 (k : Int), .int .i64 (y.getD k 0), .int .i64 (stp (m.getD k 0) q k), .agg (bv m), .int .i64 q, .bool true, .bool false, undef, .agg (iv y), .int .i64 ((k : Int) + 1), .bool true, .int .i64 (k : Int), .int .i64 (y.getD k 0), .int .i64 (y.getD k 0), .bool false, .bool false, .int .i64 (y.getD k 0), .bool false, .bool false, (u21 28), .int .i64 (k : Int), .pointer (some ⟨g5, k, none⟩), .int .u8 (m.getD k 0), .int .i64 (m.getD k 0), .int .i64 q, .int .i64 (k : Int), .int .i64 (stp (m.getD k 0) q k), .int .i64 (k : Int), .int .i64 (y.getD k 0), .int .i64 (y.getD k 0), .int .i64 (-(y.getD k 0)), .int .i64 (max (y.getD k 0) (-(y.getD k 0))), .int .i64 (2 * (max (y.getD k 0) (-(y.getD k 0)))), .int .i64 (stp (m.getD k 0) q k), .int .i64 ((2 * (max (y.getD k 0) (-(y.getD k 0)))) + (stp (m.getD k 0) q k)), .int .i64 (stp (m.getD k 0) q k), .int .i64 (2 * (stp (m.getD k 0) q k)), .int .i64 (la (y.getD k 0) (stp (m.getD k 0) q k)), .pointer (some ⟨g16, k, none⟩), .int .i64 (k : Int), .pointer (some ⟨g16, k, none⟩), .int .i64 (la (y.getD k 0) (stp (m.getD k 0) q k)), .bool false, (u21 52), .int .i64 (y.getD k 0), .bool false, (u21 55), (u21 56), (u21 57), (u21 58), (u21 59), (u21 60), .int .i64 ((k : Int) + 1), undef] zz undef), ⟨⟨by omega, fun n h => (Decidable.em (n < k)).elim (r2 n) (fun e => by obtain rfl : n = k := (by omega); exact ok1)⟩, (by rw [← part_step (qlev y m q) k _ (show la (y.getD k 0) (stp (m.getD k 0) q k) = qlev y m q k by unfold qlev lv; rw [if_neg c54])]; exact M41)⟩, rfl, (by kernel_rfl)⟩
    ·
      refine st_val (.bool false) (by kernel_rfl) (bool_of (dec_f c19) (by kernel_rfl)) ?_
      refine wl_nil ?_
      refine hK24 _ _ ?_
      try clear hK24 K24
      refine wp_seq_k (fun K50 hK50 => ?_)
      refine wp_cond_false (by kernel_rfl) ?_
      refine wp_exit ?_
      refine th_exit ?_
      refine th_exit ?_
      refine blk_exit ?_
      refine hK19 _ _ ?_
      try clear hK19 K19
      refine wp_seq_k (fun K51 hK51 => ?_)
      have M52 : Mem NoS w W22 [(g16, .cells (iv (tab 64 (qlev y m q))) 30 (0, 0)), (g8, .cells (iv zeros) 30 (0, 0)), (g5, .cells (bv m) 23 (0, 0)), (g2, .cells (iv y) 30 (0, 0))] := by
        have hh := M23; rw [show k = 64 by omega, part2_end] at hh; exact hh
      refine wl_region ?_
      refine st_val (.agg (iv (tab 64 (qlev y m q)))) (by kernel_rfl) (run_load_row 30 (.tmp 8) rfl g16 (by kernel_rfl) 30 (iv (tab 64 (qlev y m q))) (0, 0) _ (M52.get 0 rfl) Try.underlying30 rfl (info64 _ (tab_length _ _))) ?_
      refine st_storeRow M52 1 rfl 30 (.tmp 6) (.tmp 62) (by rfl) (iv (tab 64 (qlev y m q))) (by kernel_rfl) (by kernel_rfl) (info64 _ (tab_length _ _)) (iv_same (tab_length _ _) zeros_length) (iv_one _) (by kernel_rfl) [(g16, .cells (iv (tab 64 (qlev y m q))) 30 (0, 0)), (g8, .cells (iv (tab 64 (qlev y m q))) 30 (0, 0)), (g5, .cells (bv m) 23 (0, 0)), (g2, .cells (iv y) 30 (0, 0))] rfl ?_
      intro W53 M54
      refine st_val (.int .i64 0) (by kernel_rfl) (by kernel_rfl) ?_
      refine wl_nil ?_
      refine hK51 _ _ ?_
      try clear hK51 K51
      refine wp_ret ?_
      exact doneRow2 6 30 7 (.int .i64 0) g8 30 (iv (tab 64 (qlev y m q))) (0, 0) _ (by kernel_rfl) (by kernel_rfl) (by kernel_rfl) (M54.get 1 rfl) Try.underlying30 rfl (info64 _ (tab_length _ _)) (by kernel_rfl) ⟨by rw [(q_good hF fun n hn => r2 n (by omega)).1, (q_good hF fun n hn => r2 n (by omega)).2], M54.toBelow⟩
  ·
    refine st_callB M10 (.bool false) (by kernel_rfl) (args := #[.agg (bv m), .int .i64 q]) (run_value_call 44 #[(Operand.tmp 12), (Operand.tmp 13)] _ rfl Try.func44 (by kernel_rfl) (by kernel_rfl) _ (by kernel_rfl)) (fits_f W9 m hm hb q hF) ?_
    intro W55 M56
    refine st_val (.bool true) (by kernel_rfl) (by kernel_rfl) ?_
    refine wl_nil ?_
    refine hK12 _ _ ?_
    try clear hK12 K12
    refine wp_cond_true (by kernel_rfl) ?_
    refine wp_seq_k (fun K57 hK57 => ?_)
    refine wl_region ?_
    refine st_val (.agg (iv zeros)) (by kernel_rfl) (by kernel_rfl) ?_
    refine st_storeRow M56 0 rfl 30 (.tmp 6) (.tmp 16) (by rfl) (iv zeros) (by kernel_rfl) (by kernel_rfl) (info64 _ zeros_length) (iv_same zeros_length zeros_length) (iv_one _) (by kernel_rfl) [(g8, .cells (iv zeros) 30 (0, 0)), (g5, .cells (bv m) 23 (0, 0)), (g2, .cells (iv y) 30 (0, 0))] rfl ?_
    intro W58 M59
    refine st_val (.int .i64 1) (by kernel_rfl) (by kernel_rfl) ?_
    refine wl_nil ?_
    refine hK57 _ _ ?_
    try clear hK57 K57
    refine wp_ret ?_
    refine th_ret ?_
    exact doneRow2 6 30 7 (.int .i64 1) g8 30 (iv zeros) (0, 0) _ (by kernel_rfl) (by kernel_rfl) (by kernel_rfl) (M59.get 0 rfl) Try.underlying30 rfl (info64 _ zeros_length) (by kernel_rfl) ⟨by rw [(q_fit (y := y) hF).1, (q_fit (y := y) hF).2], M59.toBelow⟩
set_option maxHeartbeats 4000000 in
set_option maxRecDepth 100000 in
theorem refQuantise_walk (w : World) (y m : List Int) (q : Int) (hy : y.length = 64) (hm : m.length = 64) (hb : BL m) (hyb : ∀ n, n < 64 → -9223372036854775808 ≤ y.getD n 0 ∧ y.getD n 0 ≤ 9223372036854775807) : Calls Try.prog 21 #[.agg (iv y), .agg (bv m), .int .i64 q] w fun e w' => e = .returned (.tuple #[.agg (iv (qL y m q)), .int .i64 (qE y m q)]) ∧ Below w.heap.size w w' := by
  refine calls_of_wp Try.func21 rfl ?_
  refine wp_frame (a' := ⟨#[.agg (iv y), .agg (bv m), .int .i64 q, undef, undef, undef, undef, undef, undef, undef, undef, undef, undef, undef, undef, undef, undef, undef, undef, undef, undef, undef, undef, undef, undef, undef, undef, undef, undef, undef, undef, undef, undef, undef, undef, undef, undef, undef, undef, undef, undef, undef, undef, undef], []⟩) (by kernel_rfl) ?_
  have M0 : Mem NoS w w [] := Mem.start _ _
  refine wp_seq_k (fun K1 hK1 => ?_)
  refine wl_region ?_
  refine st_alloc M0 (.cells (iv y) 30 (0, 0)) (by kernel_rfl) (by kernel_rfl) ?_
  intro g2 W3 M4
  refine st_alloc M4 (.cells (bv m) 23 (0, 0)) (by kernel_rfl) (by kernel_rfl) ?_
  intro g5 W6 M7
  refine st_alloc M7 (.cells (iv zeros) 30 (0, 0)) (by kernel_rfl) (by kernel_rfl) ?_
  intro g8 W9 M10
  refine st_val (.int .i64 0) (by kernel_rfl) (by kernel_rfl) ?_
  refine wl_nil ?_
  refine hK1 _ _ ?_
  try clear hK1 K1
  refine wp_seq_k (fun K11 hK11 => ?_)
  refine wp_seq_k (fun K12 hK12 => ?_)
  refine wl_region ?_
  refine st_val (.agg (bv m)) (by kernel_rfl) (run_load_row 23 (.tmp 4) rfl g5 (by kernel_rfl) 23 (bv m) (0, 0) _ (M10.get 1 rfl) Try.underlying23 rfl (infoB64 _ hm)) ?_
  refine st_val (.int .i64 q) (by kernel_rfl) (by kernel_rfl) ?_
  rcases Classical.em (Fit m q) with hF | hF
  ·
    refine st_callB M10 (.bool true) (by kernel_rfl) (args := #[.agg (bv m), .int .i64 q]) (run_value_call 23 #[(Operand.tmp 10), (Operand.tmp 11)] _ rfl Try.func23 (by kernel_rfl) (by kernel_rfl) _ (by kernel_rfl)) (refMay_t W9 m hm hb q hF) ?_
    intro W13 M14
    refine st_val (.bool false) (by kernel_rfl) (by kernel_rfl) ?_
    refine wl_nil ?_
    refine hK12 _ _ ?_
    try clear hK12 K12
    refine wp_cond_false (by kernel_rfl) ?_
    refine wp_skip ?_
    refine hK11 _ _ ?_
    try clear hK11 K11
    refine wp_seq_k (fun K15 hK15 => ?_)
    refine wl_region ?_
    refine st_alloc M14 (.cells (iv zeros) 30 (0, 0)) (by kernel_rfl) (by kernel_rfl) ?_
    intro g16 W17 M18
    refine wl_nil ?_
    refine hK15 _ _ ?_
    try clear hK15 K15
    refine wp_seq_k (fun K19 hK19 => ?_)
    refine wp_seq_k (fun K20 hK20 => ?_)
    refine wl_region ?_
    refine st_val (.int .i64 0) (by kernel_rfl) (by kernel_rfl) ?_
    refine wl_nil ?_
    refine hK20 _ _ ?_
    try clear hK20 K20
    refine wp_block ?_
    refine wp_loop_ghost (fun gn a' w' => ∃ (k : Nat) (u21 : Nat → Value), ((k ≤ 64 ∧ ∀ n, n < k → LOk (qlev y m q n)) ∧ Mem NoS w w' [(g16, .cells (iv (tab 64 (part2 (qlev y m q) k 0))) 30 (0, 0)), (g8, .cells (iv zeros) 30 (0, 0)), (g5, .cells (bv m) 23 (0, 0)), (g2, .cells (iv y) 30 (0, 0))]) ∧ gn = 64 - k ∧ a' = ⟨#[.agg (iv y), .agg (bv m), .int .i64 q, .pointer (some ⟨g2, 0, none⟩), .pointer (some ⟨g5, 0, none⟩), undef, .pointer (some ⟨g8, 0, none⟩), (u21 7), .pointer (some ⟨g16, 0, none⟩), .int .i64 (k : Int), .agg (bv m), .int .i64 q, .bool true, .bool false, undef, (u21 15), (u21 16), (u21 17), (u21 18), (u21 19), (u21 20), (u21 21), (u21 22), (u21 23), (u21 24), (u21 25), (u21 26), (u21 27), (u21 28), (u21 29), (u21 30), (u21 31), (u21 32), (u21 33), (u21 34), (u21 35), (u21 36), (u21 37), (u21 38), (u21 39), (u21 40), (u21 41), (u21 42), undef], []⟩) _ ⟨0, (fun zz => Array.getD #[.agg (iv y), .agg (bv m), .int .i64 q, .pointer (some ⟨g2, 0, none⟩), .pointer (some ⟨g5, 0, none⟩), undef, .pointer (some ⟨g8, 0, none⟩), .int .i64 0, .pointer (some ⟨g16, 0, none⟩), .int .i64 0, .agg (bv m), .int .i64 q, .bool true, .bool false, undef, undef, undef, undef, undef, undef, undef, undef, undef, undef, undef, undef, undef, undef, undef, undef, undef, undef, undef, undef, undef, undef, undef, undef, undef, undef, undef, undef, undef, undef] zz undef), ⟨⟨by omega, fun n h => by omega⟩, (by rw [part_zero]; exact M18)⟩, rfl, (by kernel_rfl)⟩ ?_
    rintro gn _ W22 ⟨k, u21, ⟨⟨rk, r2⟩, M23⟩, rfl, rfl⟩
    refine wp_seq_k (fun K24 hK24 => ?_)
    refine wp_seq_k (fun K25 hK25 => ?_)
    refine wl_region ?_
    refine st_val (.int .i64 (k : Int)) (by kernel_rfl) (by kernel_rfl) ?_
    rcases Decidable.em (((k : Int) : Int) < 64) with c16 | c16
    ·
      have hs := stp_le hF hb k (by omega)
      have hq := hF.2
      have hyk := hyb k (by omega)
      refine st_val (.bool true) (by kernel_rfl) (bool_of (dec_t c16) (by kernel_rfl)) ?_
      refine wl_nil ?_
      refine hK25 _ _ ?_
      try clear hK25 K25
      refine wp_cond_true (by kernel_rfl) ?_
      refine wp_skip ?_
      refine hK24 _ _ ?_
      try clear hK24 K24
      refine wp_seq_k (fun K26 hK26 => ?_)
      refine wp_block ?_
      refine wp_seq_k (fun K27 hK27 => ?_)
      refine wl_seq 13 (fun w' => Mem NoS w w' [(g16, .cells (iv (tab 64 (part2 (qlev y m q) k 0))) 30 (0, 0)), (g8, .cells (iv zeros) 30 (0, 0)), (g5, .cells (bv m) 23 (0, 0)), (g2, .cells (iv y) 30 (0, 0))]) (by decide) (by kernel_rfl) (by kernel_rfl) M23.drew ?_
      refine seq_run (v := .int .i64 (k : Int)) (by decide) (by kernel_rfl) (fun w' M' => (by kernel_rfl)) ?_
      refine seq_run (v := .int .i64 (k : Int)) (by decide) (by kernel_rfl) (fun w' M' => (by kernel_rfl)) ?_
      refine seq_run (v := .pointer (some ⟨g2, k, none⟩)) (by decide) (by kernel_rfl) (fun w' M' => (run_indexAddr 30 (.tmp 3) (.tmp 20) rfl ⟨g2, 0, none⟩ .i64 k (by kernel_rfl) (by kernel_rfl) Try.underlying30 1 (by kernel_rfl) (by omega) ⟨g2, k, none⟩ (addr_at0 _ _))) ?_
      refine seq_run (v := .int .i64 (y.getD k 0)) (by decide) (by kernel_rfl) (fun w' M' => (run_load_cell 3 (.tmp 21) rfl ⟨g2, k, none⟩ (by kernel_rfl) _ (M'.cell 3 rfl k _ (iv_get y k (by rw [hy]; omega))) (by kernel_rfl))) ?_
      refine seq_run (v := .int .i64 (k : Int)) (by decide) (by kernel_rfl) (fun w' M' => (by kernel_rfl)) ?_
      refine seq_run (v := .pointer (some ⟨g5, k, none⟩)) (by decide) (by kernel_rfl) (fun w' M' => (run_indexAddr 23 (.tmp 4) (.tmp 23) rfl ⟨g5, 0, none⟩ .i64 k (by kernel_rfl) (by kernel_rfl) Try.underlying23 1 (by kernel_rfl) (by omega) ⟨g5, k, none⟩ (addr_at0 _ _))) ?_
      refine seq_run (v := .int .u8 (m.getD k 0)) (by decide) (by kernel_rfl) (fun w' M' => (run_load_cell 5 (.tmp 24) rfl ⟨g5, k, none⟩ (by kernel_rfl) _ (M'.cell 2 rfl k _ (bv_get m k (by rw [hm]; omega))) (by kernel_rfl))) ?_
      refine seq_run (v := .int .i64 (m.getD k 0)) (by decide) (by kernel_rfl) (fun w' M' => (i64_of (by omega) (by kernel_rfl))) ?_
      refine seq_run (v := .int .i64 q) (by decide) (by kernel_rfl) (fun w' M' => (by kernel_rfl)) ?_
      refine seq_run (v := .int .i64 (k : Int)) (by decide) (by kernel_rfl) (fun w' M' => (by kernel_rfl)) ?_
      refine seq_call (v := .int .i64 (stp (m.getD k 0) q k)) (f := 16) (args := #[.int .i64 (m.getD k 0), .int .i64 q, .int .i64 (k : Int)]) (by decide) (by kernel_rfl) (fun w' M' => (run_value_call 16 #[(Operand.tmp 26), (Operand.tmp 27), (Operand.tmp 28)] _ rfl Try.func16 (by kernel_rfl) (by kernel_rfl) _ (by kernel_rfl))) (fun w' M' => callB_mem M' (refStep_in w' (m.getD k 0) q k (by omega) (by omega) (by omega) (by omega) (by omega))) ?_
      refine seq_call (v := .int .i64 (qlev y m q k)) (f := 45) (args := #[.int .i64 (y.getD k 0), .int .i64 (stp (m.getD k 0) q k)]) (by decide) (by kernel_rfl) (fun w' M' => (run_value_call 45 #[(Operand.tmp 22), (Operand.tmp 29)] _ rfl Try.func45 (by kernel_rfl) (by kernel_rfl) _ (by kernel_rfl))) (fun w' M' => callB_mem M' (nearest_walk w' (y.getD k 0) (stp (m.getD k 0) q k) (by omega) (by omega) hyk)) ?_
      refine seq_run (v := .pointer (some ⟨g16, k, none⟩)) (by decide) (by kernel_rfl) (fun w' M' => (run_indexAddr 30 (.tmp 8) (.tmp 19) rfl ⟨g16, 0, none⟩ .i64 k (by kernel_rfl) (by kernel_rfl) Try.underlying30 1 (by kernel_rfl) (by omega) ⟨g16, k, none⟩ (addr_at0 _ _))) ?_
      refine seq_end (by decide) ?_
      intro W28 M29
      refine st_storeCell M29 0 rfl 3 (.tmp 31) (.tmp 30) (by rfl) k (.int .i64 (qlev y m q k)) (iv ((tab 64 (part2 (qlev y m q) k 0)).set k (qlev y m q k))) (by kernel_rfl) (by kernel_rfl) (by rw [iv_size, (tab_length _ _)]; omega) (by kernel_rfl) rfl (by kernel_rfl) (iv_set _ _ _) (by kernel_rfl) [(g16, .cells (iv ((tab 64 (part2 (qlev y m q) k 0)).set k (qlev y m q k))) 30 (0, 0)), (g8, .cells (iv zeros) 30 (0, 0)), (g5, .cells (bv m) 23 (0, 0)), (g2, .cells (iv y) 30 (0, 0))] rfl ?_
      intro W30 M31
      refine wl_nil ?_
      refine hK27 _ _ ?_
      try clear hK27 K27
      refine wp_frame (a' := ⟨#[.agg (iv y), .agg (bv m), .int .i64 q, .pointer (some ⟨g2, 0, none⟩), .pointer (some ⟨g5, 0, none⟩), undef, .pointer (some ⟨g8, 0, none⟩), (u21 7), .pointer (some ⟨g16, 0, none⟩), .int .i64 (k : Int), .agg (bv m), .int .i64 q, .bool true, .bool false, undef, .int .i64 (k : Int), .bool true, (u21 17), (u21 18), .int .i64 (k : Int), .int .i64 (k : Int), .pointer (some ⟨g2, k, none⟩), .int .i64 (y.getD k 0), .int .i64 (k : Int), .pointer (some ⟨g5, k, none⟩), .int .u8 (m.getD k 0), .int .i64 (m.getD k 0), .int .i64 q, .int .i64 (k : Int), .int .i64 (stp (m.getD k 0) q k), .int .i64 (qlev y m q k), .pointer (some ⟨g16, k, none⟩), (u21 32), (u21 33), (u21 34), (u21 35), (u21 36), (u21 37), (u21 38), (u21 39), (u21 40), (u21 41), (u21 42), undef], []⟩) (by kernel_rfl) ?_
      refine wp_seq_k (fun K32 hK32 => ?_)
      refine wl_region ?_
      refine st_val (.int .i64 (k : Int)) (by kernel_rfl) (by kernel_rfl) ?_
      refine st_val (.pointer (some ⟨g16, k, none⟩)) (by kernel_rfl) (run_indexAddr 30 (.tmp 8) (.tmp 32) rfl ⟨g16, 0, none⟩ .i64 k (by kernel_rfl) (by kernel_rfl) Try.underlying30 1 (by kernel_rfl) (by omega) ⟨g16, k, none⟩ (addr_at0 _ _)) ?_
      refine st_val (.int .i64 (qlev y m q k)) (by kernel_rfl) (run_load_cell 3 (.tmp 33) rfl ⟨g16, k, none⟩ (by kernel_rfl) _ (M31.cell 0 rfl k _ ((iv_get _ _ (by rw [List.length_set, tab_length]; omega)).trans (by rw [getD_set_same (by rw [tab_length]; omega)]))) (by kernel_rfl)) ?_
      rcases Decidable.em ((qlev y m q k : Int) < -4095) with c35 | c35
      ·
        refine st_val (.bool true) (by kernel_rfl) (bool_of (dec_t c35) (by kernel_rfl)) ?_
        refine st_val (.bool true) (by kernel_rfl) (by kernel_rfl) ?_
        refine st_skip (by kernel_rfl) ?_
        refine st_skip (by kernel_rfl) ?_
        refine st_skip (by kernel_rfl) ?_
        refine st_skip (by kernel_rfl) ?_
        refine st_val (.bool true) (by kernel_rfl) (by kernel_rfl) ?_
        refine wl_nil ?_
        refine hK32 _ _ ?_
        try clear hK32 K32
        refine wp_cond_true (by kernel_rfl) ?_
        refine wp_seq_k (fun K33 hK33 => ?_)
        refine wl_region ?_
        refine st_val (.agg (iv zeros)) (by kernel_rfl) (by kernel_rfl) ?_
        refine st_storeRow M31 1 rfl 30 (.tmp 6) (.tmp 42) (by rfl) (iv zeros) (by kernel_rfl) (by kernel_rfl) (info64 _ zeros_length) (iv_same zeros_length zeros_length) (iv_one _) (by kernel_rfl) [(g16, .cells (iv ((tab 64 (part2 (qlev y m q) k 0)).set k (qlev y m q k))) 30 (0, 0)), (g8, .cells (iv zeros) 30 (0, 0)), (g5, .cells (bv m) 23 (0, 0)), (g2, .cells (iv y) 30 (0, 0))] rfl ?_
        intro W34 M35
        refine st_val (.int .i64 2) (by kernel_rfl) (by kernel_rfl) ?_
        refine wl_nil ?_
        refine hK33 _ _ ?_
        try clear hK33 K33
        refine wp_ret ?_
        refine blk_ret ?_
        refine th_ret ?_
        refine th_ret ?_
        refine blk_ret ?_
        refine th_ret ?_
        exact doneRow2 6 30 7 (.int .i64 2) g8 30 (iv zeros) (0, 0) _ (by kernel_rfl) (by kernel_rfl) (by kernel_rfl) (M35.get 1 rfl) Try.underlying30 rfl (info64 _ zeros_length) (by kernel_rfl) ⟨by rw [(q_bad (y := y) hF k (by omega) (fun c => by unfold LOk at c; omega)).1, (q_bad (y := y) hF k (by omega) (fun c => by unfold LOk at c; omega)).2], M35.toBelow⟩
      ·
        refine st_val (.bool false) (by kernel_rfl) (bool_of (dec_f c35) (by kernel_rfl)) ?_
        refine st_val (.bool false) (by kernel_rfl) (by kernel_rfl) ?_
        refine st_val (.int .i64 (k : Int)) (by kernel_rfl) (by kernel_rfl) ?_
        refine st_val (.pointer (some ⟨g16, k, none⟩)) (by kernel_rfl) (run_indexAddr 30 (.tmp 8) (.tmp 37) rfl ⟨g16, 0, none⟩ .i64 k (by kernel_rfl) (by kernel_rfl) Try.underlying30 1 (by kernel_rfl) (by omega) ⟨g16, k, none⟩ (addr_at0 _ _)) ?_
        refine st_val (.int .i64 (qlev y m q k)) (by kernel_rfl) (run_load_cell 3 (.tmp 38) rfl ⟨g16, k, none⟩ (by kernel_rfl) _ (M31.cell 0 rfl k _ ((iv_get _ _ (by rw [List.length_set, tab_length]; omega)).trans (by rw [getD_set_same (by rw [tab_length]; omega)]))) (by kernel_rfl)) ?_
        rcases Decidable.em ((qlev y m q k : Int) > 4095) with c40 | c40
        ·
          refine st_val (.bool true) (by kernel_rfl) (bool_of (dec_t c40) (by kernel_rfl)) ?_
          refine st_val (.bool true) (by kernel_rfl) (by kernel_rfl) ?_
          refine wl_nil ?_
          refine hK32 _ _ ?_
          try clear hK32 K32
          refine wp_cond_true (by kernel_rfl) ?_
          refine wp_seq_k (fun K36 hK36 => ?_)
          refine wl_region ?_
          refine st_val (.agg (iv zeros)) (by kernel_rfl) (by kernel_rfl) ?_
          refine st_storeRow M31 1 rfl 30 (.tmp 6) (.tmp 42) (by rfl) (iv zeros) (by kernel_rfl) (by kernel_rfl) (info64 _ zeros_length) (iv_same zeros_length zeros_length) (iv_one _) (by kernel_rfl) [(g16, .cells (iv ((tab 64 (part2 (qlev y m q) k 0)).set k (qlev y m q k))) 30 (0, 0)), (g8, .cells (iv zeros) 30 (0, 0)), (g5, .cells (bv m) 23 (0, 0)), (g2, .cells (iv y) 30 (0, 0))] rfl ?_
          intro W37 M38
          refine st_val (.int .i64 2) (by kernel_rfl) (by kernel_rfl) ?_
          refine wl_nil ?_
          refine hK36 _ _ ?_
          try clear hK36 K36
          refine wp_ret ?_
          refine blk_ret ?_
          refine th_ret ?_
          refine th_ret ?_
          refine blk_ret ?_
          refine th_ret ?_
          exact doneRow2 6 30 7 (.int .i64 2) g8 30 (iv zeros) (0, 0) _ (by kernel_rfl) (by kernel_rfl) (by kernel_rfl) (M38.get 1 rfl) Try.underlying30 rfl (info64 _ zeros_length) (by kernel_rfl) ⟨by rw [(q_bad (y := y) hF k (by omega) (fun c => by unfold LOk at c; omega)).1, (q_bad (y := y) hF k (by omega) (fun c => by unfold LOk at c; omega)).2], M38.toBelow⟩
        ·
          refine st_val (.bool false) (by kernel_rfl) (bool_of (dec_f c40) (by kernel_rfl)) ?_
          refine st_val (.bool false) (by kernel_rfl) (by kernel_rfl) ?_
          refine wl_nil ?_
          refine hK32 _ _ ?_
          try clear hK32 K32
          refine wp_cond_false (by kernel_rfl) ?_
          refine wp_skip ?_
          refine blk_normal ?_
          refine hK26 _ _ ?_
          try clear hK26 K26
          refine wl_region ?_
          refine st_val (.int .i64 (k : Int)) (by kernel_rfl) (by kernel_rfl) ?_
          refine st_val (.int .i64 ((k : Int) + 1)) (by kernel_rfl) (i64_of (by omega) (by kernel_rfl)) ?_
          refine st_val (.int .i64 ((k : Int) + 1)) (by kernel_rfl) (by kernel_rfl) ?_
          refine wl_nil ?_
          refine th_normal ?_
          exact ⟨_, by omega, (k + 1), (fun zz => Array.getD #[.agg (iv y), .agg (bv m), .int .i64 q, .pointer (some ⟨g2, 0, none⟩), .pointer (some ⟨g5, 0, none⟩), undef, .pointer (some ⟨g8, 0, none⟩), (u21 7), .pointer (some ⟨g16, 0, none⟩), .int .i64 ((k : Int) + 1), .agg (bv m), .int .i64 q, .bool true, .bool false, undef, .int .i64 (k : Int), .bool true, .int .i64 (k : Int), .int .i64 ((k : Int) + 1), .int .i64 (k : Int), .int .i64 (k : Int), .pointer (some ⟨g2, k, none⟩), .int .i64 (y.getD k 0), .int .i64 (k : Int), .pointer (some ⟨g5, k, none⟩), .int .u8 (m.getD k 0), .int .i64 (m.getD k 0), .int .i64 q, .int .i64 (k : Int), .int .i64 (stp (m.getD k 0) q k), .int .i64 (qlev y m q k), .pointer (some ⟨g16, k, none⟩), .int .i64 (k : Int), .pointer (some ⟨g16, k, none⟩), .int .i64 (qlev y m q k), .bool false, .bool false, .int .i64 (k : Int), .pointer (some ⟨g16, k, none⟩), .int .i64 (qlev y m q k), .bool false, .bool false, (u21 42), undef] zz undef), ⟨⟨by omega, fun n h => (Decidable.em (n < k)).elim (r2 n) (fun e => by obtain rfl : n = k := (by omega); exact ⟨by omega, by omega⟩)⟩, (by rw [← part_step (qlev y m q) k _ rfl]; exact M31)⟩, rfl, (by kernel_rfl)⟩
    ·
      refine st_val (.bool false) (by kernel_rfl) (bool_of (dec_f c16) (by kernel_rfl)) ?_
      refine wl_nil ?_
      refine hK25 _ _ ?_
      try clear hK25 K25
      refine wp_cond_false (by kernel_rfl) ?_
      refine wp_exit ?_
      refine th_exit ?_
      refine th_exit ?_
      refine blk_exit ?_
      refine hK19 _ _ ?_
      try clear hK19 K19
      refine wp_seq_k (fun K39 hK39 => ?_)
      have M40 : Mem NoS w W22 [(g16, .cells (iv (tab 64 (qlev y m q))) 30 (0, 0)), (g8, .cells (iv zeros) 30 (0, 0)), (g5, .cells (bv m) 23 (0, 0)), (g2, .cells (iv y) 30 (0, 0))] := by
        have hh := M23; rw [show k = 64 by omega, part2_end] at hh; exact hh
      refine wl_region ?_
      refine st_val (.agg (iv (tab 64 (qlev y m q)))) (by kernel_rfl) (run_load_row 30 (.tmp 8) rfl g16 (by kernel_rfl) 30 (iv (tab 64 (qlev y m q))) (0, 0) _ (M40.get 0 rfl) Try.underlying30 rfl (info64 _ (tab_length _ _))) ?_
      refine st_storeRow M40 1 rfl 30 (.tmp 6) (.tmp 43) (by rfl) (iv (tab 64 (qlev y m q))) (by kernel_rfl) (by kernel_rfl) (info64 _ (tab_length _ _)) (iv_same (tab_length _ _) zeros_length) (iv_one _) (by kernel_rfl) [(g16, .cells (iv (tab 64 (qlev y m q))) 30 (0, 0)), (g8, .cells (iv (tab 64 (qlev y m q))) 30 (0, 0)), (g5, .cells (bv m) 23 (0, 0)), (g2, .cells (iv y) 30 (0, 0))] rfl ?_
      intro W41 M42
      refine st_val (.int .i64 0) (by kernel_rfl) (by kernel_rfl) ?_
      refine wl_nil ?_
      refine hK39 _ _ ?_
      try clear hK39 K39
      refine wp_ret ?_
      exact doneRow2 6 30 7 (.int .i64 0) g8 30 (iv (tab 64 (qlev y m q))) (0, 0) _ (by kernel_rfl) (by kernel_rfl) (by kernel_rfl) (M42.get 1 rfl) Try.underlying30 rfl (info64 _ (tab_length _ _)) (by kernel_rfl) ⟨by rw [(q_good hF fun n hn => r2 n (by omega)).1, (q_good hF fun n hn => r2 n (by omega)).2], M42.toBelow⟩
  ·
    refine st_callB M10 (.bool false) (by kernel_rfl) (args := #[.agg (bv m), .int .i64 q]) (run_value_call 23 #[(Operand.tmp 10), (Operand.tmp 11)] _ rfl Try.func23 (by kernel_rfl) (by kernel_rfl) _ (by kernel_rfl)) (refMay_f W9 m hm hb q hF) ?_
    intro W43 M44
    refine st_val (.bool true) (by kernel_rfl) (by kernel_rfl) ?_
    refine wl_nil ?_
    refine hK12 _ _ ?_
    try clear hK12 K12
    refine wp_cond_true (by kernel_rfl) ?_
    refine wp_seq_k (fun K45 hK45 => ?_)
    refine wl_region ?_
    refine st_val (.agg (iv zeros)) (by kernel_rfl) (by kernel_rfl) ?_
    refine st_storeRow M44 0 rfl 30 (.tmp 6) (.tmp 14) (by rfl) (iv zeros) (by kernel_rfl) (by kernel_rfl) (info64 _ zeros_length) (iv_same zeros_length zeros_length) (iv_one _) (by kernel_rfl) [(g8, .cells (iv zeros) 30 (0, 0)), (g5, .cells (bv m) 23 (0, 0)), (g2, .cells (iv y) 30 (0, 0))] rfl ?_
    intro W46 M47
    refine st_val (.int .i64 1) (by kernel_rfl) (by kernel_rfl) ?_
    refine wl_nil ?_
    refine hK45 _ _ ?_
    try clear hK45 K45
    refine wp_ret ?_
    refine th_ret ?_
    exact doneRow2 6 30 7 (.int .i64 1) g8 30 (iv zeros) (0, 0) _ (by kernel_rfl) (by kernel_rfl) (by kernel_rfl) (M47.get 0 rfl) Try.underlying30 rfl (info64 _ zeros_length) (by kernel_rfl) ⟨by rw [(q_fit (y := y) hF).1, (q_fit (y := y) hF).2], M47.toBelow⟩
set_option maxHeartbeats 4000000 in
set_option maxRecDepth 100000 in
theorem dequantise_walk (w : World) (l m : List Int) (q : Int) (hy : l.length = 64) (hm : m.length = 64) (hb : BL m) : Calls Try.prog 24 #[.agg (iv l), .agg (bv m), .int .i64 q] w fun e w' => e = .returned (.tuple #[.agg (iv (dL l m q)), .int .i64 (dE l m q)]) ∧ Below w.heap.size w w' := by
  refine calls_of_wp Try.func24 rfl ?_
  refine wp_frame (a' := ⟨#[.agg (iv l), .agg (bv m), .int .i64 q, undef, undef, undef, undef, undef, undef, undef, undef, undef, undef, undef, undef, undef, undef, undef, undef, undef, undef, undef, undef, undef, undef, undef, undef, undef, undef, undef, undef, undef, undef, undef, undef, undef, undef, undef, undef, undef, undef], []⟩) (by kernel_rfl) ?_
  have M0 : Mem NoS w w [] := Mem.start _ _
  refine wp_seq_k (fun K1 hK1 => ?_)
  refine wl_region ?_
  refine st_alloc M0 (.cells (iv l) 30 (0, 0)) (by kernel_rfl) (by kernel_rfl) ?_
  intro g2 W3 M4
  refine st_alloc M4 (.cells (bv m) 23 (0, 0)) (by kernel_rfl) (by kernel_rfl) ?_
  intro g5 W6 M7
  refine st_alloc M7 (.cells (iv zeros) 30 (0, 0)) (by kernel_rfl) (by kernel_rfl) ?_
  intro g8 W9 M10
  refine st_val (.int .i64 0) (by kernel_rfl) (by kernel_rfl) ?_
  refine wl_nil ?_
  refine hK1 _ _ ?_
  try clear hK1 K1
  refine wp_seq_k (fun K11 hK11 => ?_)
  refine wp_seq_k (fun K12 hK12 => ?_)
  refine wl_region ?_
  refine st_val (.agg (bv m)) (by kernel_rfl) (run_load_row 23 (.tmp 4) rfl g5 (by kernel_rfl) 23 (bv m) (0, 0) _ (M10.get 1 rfl) Try.underlying23 rfl (infoB64 _ hm)) ?_
  refine st_val (.int .i64 q) (by kernel_rfl) (by kernel_rfl) ?_
  rcases Classical.em (Fit m q) with hF | hF
  ·
    refine st_callB M10 (.bool true) (by kernel_rfl) (args := #[.agg (bv m), .int .i64 q]) (run_value_call 44 #[(Operand.tmp 11), (Operand.tmp 12)] _ rfl Try.func44 (by kernel_rfl) (by kernel_rfl) _ (by kernel_rfl)) (fits_t W9 m hm hb q hF) ?_
    intro W13 M14
    refine st_val (.bool false) (by kernel_rfl) (by kernel_rfl) ?_
    refine wl_nil ?_
    refine hK12 _ _ ?_
    try clear hK12 K12
    refine wp_cond_false (by kernel_rfl) ?_
    refine wp_skip ?_
    refine hK11 _ _ ?_
    try clear hK11 K11
    refine wp_seq_k (fun K15 hK15 => ?_)
    refine wl_region ?_
    refine st_alloc M14 (.cells (iv zeros) 30 (0, 0)) (by kernel_rfl) (by kernel_rfl) ?_
    intro g16 W17 M18
    refine wl_nil ?_
    refine hK15 _ _ ?_
    try clear hK15 K15
    refine wp_seq_k (fun K19 hK19 => ?_)
    refine wp_seq_k (fun K20 hK20 => ?_)
    refine wl_region ?_
    refine st_val (.agg (iv l)) (by kernel_rfl) (run_load_row 30 (.tmp 3) rfl g2 (by kernel_rfl) 30 (iv l) (0, 0) _ (M18.get 3 rfl) Try.underlying30 rfl (info64 _ hy)) ?_
    refine st_val (.int .i64 0) (by kernel_rfl) (by kernel_rfl) ?_
    refine wl_nil ?_
    refine hK20 _ _ ?_
    try clear hK20 K20
    refine wp_block ?_
    refine wp_loop_ghost (fun gn a' w' => ∃ (k : Nat) (u21 : Nat → Value), ((k ≤ 64 ∧ ∀ n, n < k → LOk (l.getD n 0)) ∧ Mem NoS w w' [(g16, .cells (iv (tab 64 (part2 (dval l m q) k 0))) 30 (0, 0)), (g8, .cells (iv zeros) 30 (0, 0)), (g5, .cells (bv m) 23 (0, 0)), (g2, .cells (iv l) 30 (0, 0))]) ∧ gn = 64 - k ∧ a' = ⟨#[.agg (iv l), .agg (bv m), .int .i64 q, .pointer (some ⟨g2, 0, none⟩), .pointer (some ⟨g5, 0, none⟩), undef, .pointer (some ⟨g8, 0, none⟩), (u21 7), .pointer (some ⟨g16, 0, none⟩), (u21 9), (u21 10), .agg (bv m), .int .i64 q, .bool true, .bool false, undef, .agg (iv l), .int .i64 (k : Int), (u21 18), (u21 19), (u21 20), (u21 21), (u21 22), (u21 23), (u21 24), (u21 25), (u21 26), (u21 27), (u21 28), (u21 29), (u21 30), (u21 31), (u21 32), (u21 33), (u21 34), (u21 35), (u21 36), (u21 37), (u21 38), (u21 39), undef], []⟩) _ ⟨0, (fun zz => Array.getD #[.agg (iv l), .agg (bv m), .int .i64 q, .pointer (some ⟨g2, 0, none⟩), .pointer (some ⟨g5, 0, none⟩), undef, .pointer (some ⟨g8, 0, none⟩), .int .i64 0, .pointer (some ⟨g16, 0, none⟩), undef, undef, .agg (bv m), .int .i64 q, .bool true, .bool false, undef, .agg (iv l), .int .i64 0, undef, undef, undef, undef, undef, undef, undef, undef, undef, undef, undef, undef, undef, undef, undef, undef, undef, undef, undef, undef, undef, undef, undef] zz undef), ⟨⟨by omega, fun n h => by omega⟩, (by rw [part_zero]; exact M18)⟩, rfl, (by kernel_rfl)⟩ ?_
    rintro gn _ W22 ⟨k, u21, ⟨⟨rk, r2⟩, M23⟩, rfl, rfl⟩
    refine wp_seq_k (fun K24 hK24 => ?_)
    refine wl_region ?_
    rcases Decidable.em (((k : Int) : Int) < 64) with c18 | c18
    ·
      have hs := stp_le hF hb k (by omega)
      have hq := hF.2
      refine st_val (.bool true) (by kernel_rfl) (bool_of (dec_t c18) (by kernel_rfl)) ?_
      refine wl_nil ?_
      refine hK24 _ _ ?_
      try clear hK24 K24
      refine wp_seq_k (fun K25 hK25 => ?_)
      refine wp_cond_true (by kernel_rfl) ?_
      refine wp_skip ?_
      refine hK25 _ _ ?_
      try clear hK25 K25
      refine wp_seq_k (fun K26 hK26 => ?_)
      refine wp_block ?_
      refine wp_seq_k (fun K27 hK27 => ?_)
      refine wl_region ?_
      refine st_val (.int .i64 (k : Int)) (by kernel_rfl) (by kernel_rfl) ?_
      refine st_val (.int .i64 (l.getD k 0)) (by kernel_rfl) (run_indexVal 30 (.tmp 16) (.tmp 17) rfl (iv l) .i64 k (by kernel_rfl) (by kernel_rfl) Try.underlying30 (by kernel_rfl) (by kernel_rfl) (by omega) _ (iv_get l k (by rw [hy]; omega))) ?_
      refine st_val (.int .i64 (k : Int)) (by kernel_rfl) (by kernel_rfl) ?_
      refine st_val (.int .i64 (l.getD k 0)) (by kernel_rfl) (by kernel_rfl) ?_
      refine wl_nil ?_
      refine hK27 _ _ ?_
      try clear hK27 K27
      refine wp_seq_k (fun K28 hK28 => ?_)
      refine wp_seq_k (fun K29 hK29 => ?_)
      refine wl_region ?_
      refine st_val (.int .i64 (l.getD k 0)) (by kernel_rfl) (by kernel_rfl) ?_
      rcases Decidable.em ((l.getD k 0 : Int) < -4095) with c22 | c22
      ·
        refine st_val (.bool true) (by kernel_rfl) (bool_of (dec_t c22) (by kernel_rfl)) ?_
        refine st_val (.bool true) (by kernel_rfl) (by kernel_rfl) ?_
        refine st_skip (by kernel_rfl) ?_
        refine st_skip (by kernel_rfl) ?_
        refine st_val (.bool true) (by kernel_rfl) (by kernel_rfl) ?_
        refine wl_nil ?_
        refine hK29 _ _ ?_
        try clear hK29 K29
        refine wp_cond_true (by kernel_rfl) ?_
        refine wp_seq_k (fun K30 hK30 => ?_)
        refine wl_region ?_
        refine st_val (.agg (iv zeros)) (by kernel_rfl) (by kernel_rfl) ?_
        refine st_storeRow M23 1 rfl 30 (.tmp 6) (.tmp 27) (by rfl) (iv zeros) (by kernel_rfl) (by kernel_rfl) (info64 _ zeros_length) (iv_same zeros_length zeros_length) (iv_one _) (by kernel_rfl) [(g16, .cells (iv (tab 64 (part2 (dval l m q) k 0))) 30 (0, 0)), (g8, .cells (iv zeros) 30 (0, 0)), (g5, .cells (bv m) 23 (0, 0)), (g2, .cells (iv l) 30 (0, 0))] rfl ?_
        intro W31 M32
        refine st_val (.int .i64 2) (by kernel_rfl) (by kernel_rfl) ?_
        refine wl_nil ?_
        refine hK30 _ _ ?_
        try clear hK30 K30
        refine wp_frame (a' := ⟨#[.agg (iv l), .agg (bv m), .int .i64 q, .pointer (some ⟨g2, 0, none⟩), .pointer (some ⟨g5, 0, none⟩), undef, .pointer (some ⟨g8, 0, none⟩), .int .i64 2, .pointer (some ⟨g16, 0, none⟩), .int .i64 (k : Int), .int .i64 (l.getD k 0), .agg (bv m), .int .i64 q, .bool true, .bool false, undef, .agg (iv l), .int .i64 (k : Int), .bool true, .int .i64 (k : Int), .int .i64 (l.getD k 0), .int .i64 (l.getD k 0), .bool true, .bool true, undef, undef, .bool true, .agg (iv zeros), (u21 28), (u21 29), (u21 30), (u21 31), (u21 32), (u21 33), (u21 34), (u21 35), (u21 36), (u21 37), (u21 38), (u21 39), undef], []⟩) (by kernel_rfl) ?_
        refine wp_ret ?_
        refine th_ret ?_
        refine blk_ret ?_
        refine th_ret ?_
        refine th_ret ?_
        refine blk_ret ?_
        refine th_ret ?_
        exact doneRow2 6 30 7 (.int .i64 2) g8 30 (iv zeros) (0, 0) _ (by kernel_rfl) (by kernel_rfl) (by kernel_rfl) (M32.get 1 rfl) Try.underlying30 rfl (info64 _ zeros_length) (by kernel_rfl) ⟨by rw [(d_bad (l := l) hF k (by omega) (fun c => by unfold LOk at c; omega)).1, (d_bad (l := l) hF k (by omega) (fun c => by unfold LOk at c; omega)).2], M32.toBelow⟩
      ·
        refine st_val (.bool false) (by kernel_rfl) (bool_of (dec_f c22) (by kernel_rfl)) ?_
        refine st_val (.bool false) (by kernel_rfl) (by kernel_rfl) ?_
        refine st_val (.int .i64 (l.getD k 0)) (by kernel_rfl) (by kernel_rfl) ?_
        rcases Decidable.em ((l.getD k 0 : Int) > 4095) with c25 | c25
        ·
          refine st_val (.bool true) (by kernel_rfl) (bool_of (dec_t c25) (by kernel_rfl)) ?_
          refine st_val (.bool true) (by kernel_rfl) (by kernel_rfl) ?_
          refine wl_nil ?_
          refine hK29 _ _ ?_
          try clear hK29 K29
          refine wp_cond_true (by kernel_rfl) ?_
          refine wp_seq_k (fun K33 hK33 => ?_)
          refine wl_region ?_
          refine st_val (.agg (iv zeros)) (by kernel_rfl) (by kernel_rfl) ?_
          refine st_storeRow M23 1 rfl 30 (.tmp 6) (.tmp 27) (by rfl) (iv zeros) (by kernel_rfl) (by kernel_rfl) (info64 _ zeros_length) (iv_same zeros_length zeros_length) (iv_one _) (by kernel_rfl) [(g16, .cells (iv (tab 64 (part2 (dval l m q) k 0))) 30 (0, 0)), (g8, .cells (iv zeros) 30 (0, 0)), (g5, .cells (bv m) 23 (0, 0)), (g2, .cells (iv l) 30 (0, 0))] rfl ?_
          intro W34 M35
          refine st_val (.int .i64 2) (by kernel_rfl) (by kernel_rfl) ?_
          refine wl_nil ?_
          refine hK33 _ _ ?_
          try clear hK33 K33
          refine wp_frame (a' := ⟨#[.agg (iv l), .agg (bv m), .int .i64 q, .pointer (some ⟨g2, 0, none⟩), .pointer (some ⟨g5, 0, none⟩), undef, .pointer (some ⟨g8, 0, none⟩), .int .i64 2, .pointer (some ⟨g16, 0, none⟩), .int .i64 (k : Int), .int .i64 (l.getD k 0), .agg (bv m), .int .i64 q, .bool true, .bool false, undef, .agg (iv l), .int .i64 (k : Int), .bool true, .int .i64 (k : Int), .int .i64 (l.getD k 0), .int .i64 (l.getD k 0), .bool false, .bool false, .int .i64 (l.getD k 0), .bool true, .bool true, .agg (iv zeros), (u21 28), (u21 29), (u21 30), (u21 31), (u21 32), (u21 33), (u21 34), (u21 35), (u21 36), (u21 37), (u21 38), (u21 39), undef], []⟩) (by kernel_rfl) ?_
          refine wp_ret ?_
          refine th_ret ?_
          refine blk_ret ?_
          refine th_ret ?_
          refine th_ret ?_
          refine blk_ret ?_
          refine th_ret ?_
          exact doneRow2 6 30 7 (.int .i64 2) g8 30 (iv zeros) (0, 0) _ (by kernel_rfl) (by kernel_rfl) (by kernel_rfl) (M35.get 1 rfl) Try.underlying30 rfl (info64 _ zeros_length) (by kernel_rfl) ⟨by rw [(d_bad (l := l) hF k (by omega) (fun c => by unfold LOk at c; omega)).1, (d_bad (l := l) hF k (by omega) (fun c => by unfold LOk at c; omega)).2], M35.toBelow⟩
        ·
          refine st_val (.bool false) (by kernel_rfl) (bool_of (dec_f c25) (by kernel_rfl)) ?_
          refine st_val (.bool false) (by kernel_rfl) (by kernel_rfl) ?_
          refine wl_nil ?_
          refine hK29 _ _ ?_
          try clear hK29 K29
          refine wp_cond_false (by kernel_rfl) ?_
          refine wp_skip ?_
          refine hK28 _ _ ?_
          try clear hK28 K28
          refine wl_region ?_
          refine st_val (.int .i64 (k : Int)) (by kernel_rfl) (by kernel_rfl) ?_
          refine st_val (.int .i64 (l.getD k 0)) (by kernel_rfl) (by kernel_rfl) ?_
          refine st_val (.int .i64 (k : Int)) (by kernel_rfl) (by kernel_rfl) ?_
          refine st_val (.pointer (some ⟨g5, k, none⟩)) (by kernel_rfl) (run_indexAddr 23 (.tmp 4) (.tmp 30) rfl ⟨g5, 0, none⟩ .i64 k (by kernel_rfl) (by kernel_rfl) Try.underlying23 1 (by kernel_rfl) (by omega) ⟨g5, k, none⟩ (addr_at0 _ _)) ?_
          refine st_val (.int .u8 (m.getD k 0)) (by kernel_rfl) (run_load_cell 5 (.tmp 31) rfl ⟨g5, k, none⟩ (by kernel_rfl) _ (M23.cell 2 rfl k _ (bv_get m k (by rw [hm]; omega))) (by kernel_rfl)) ?_
          refine st_val (.int .i64 (m.getD k 0)) (by kernel_rfl) (i64_of (by omega) (by kernel_rfl)) ?_
          refine st_val (.int .i64 q) (by kernel_rfl) (by kernel_rfl) ?_
          refine st_val (.int .i64 (k : Int)) (by kernel_rfl) (by kernel_rfl) ?_
          refine st_callB M23 (.int .i64 (stp (m.getD k 0) q k)) (by kernel_rfl) (args := #[.int .i64 (m.getD k 0), .int .i64 q, .int .i64 (k : Int)]) (run_value_call 15 #[(Operand.tmp 33), (Operand.tmp 34), (Operand.tmp 35)] _ rfl Try.func15 (by kernel_rfl) (by kernel_rfl) _ (by kernel_rfl)) (step_in W22 (m.getD k 0) q k (by omega) (by omega) (by omega) (by omega) (by omega)) ?_
          intro W36 M37
          refine st_val (.int .i64 ((l.getD k 0) * (stp (m.getD k 0) q k))) (by kernel_rfl) (i64_of (dval_in (by omega) (by omega) hs.2) (by kernel_rfl)) ?_
          refine st_val (.pointer (some ⟨g16, k, none⟩)) (by kernel_rfl) (run_indexAddr 30 (.tmp 8) (.tmp 28) rfl ⟨g16, 0, none⟩ .i64 k (by kernel_rfl) (by kernel_rfl) Try.underlying30 1 (by kernel_rfl) (by omega) ⟨g16, k, none⟩ (addr_at0 _ _)) ?_
          refine st_storeCell M37 0 rfl 3 (.tmp 38) (.tmp 37) (by rfl) k (.int .i64 ((l.getD k 0) * (stp (m.getD k 0) q k))) (iv ((tab 64 (part2 (dval l m q) k 0)).set k ((l.getD k 0) * (stp (m.getD k 0) q k)))) (by kernel_rfl) (by kernel_rfl) (by rw [iv_size, (tab_length _ _)]; omega) (by kernel_rfl) rfl (by kernel_rfl) (iv_set _ _ _) (by kernel_rfl) [(g16, .cells (iv ((tab 64 (part2 (dval l m q) k 0)).set k ((l.getD k 0) * (stp (m.getD k 0) q k)))) 30 (0, 0)), (g8, .cells (iv zeros) 30 (0, 0)), (g5, .cells (bv m) 23 (0, 0)), (g2, .cells (iv l) 30 (0, 0))] rfl ?_
          intro W38 M39
          refine wl_nil ?_
          refine blk_normal ?_
          refine hK26 _ _ ?_
          try clear hK26 K26
          refine wp_frame (a' := ⟨#[.agg (iv l), .agg (bv m), .int .i64 q, .pointer (some ⟨g2, 0, none⟩), .pointer (some ⟨g5, 0, none⟩), undef, .pointer (some ⟨g8, 0, none⟩), (u21 7), .pointer (some ⟨g16, 0, none⟩), .int .i64 (k : Int), .int .i64 (l.getD k 0), .agg (bv m), .int .i64 q, .bool true, .bool false, undef, .agg (iv l), .int .i64 (k : Int), .bool true, .int .i64 (k : Int), .int .i64 (l.getD k 0), .int .i64 (l.getD k 0), .bool false, .bool false, .int .i64 (l.getD k 0), .bool false, .bool false, (u21 27), .int .i64 (k : Int), .int .i64 (l.getD k 0), .int .i64 (k : Int), .pointer (some ⟨g5, k, none⟩), .int .u8 (m.getD k 0), .int .i64 (m.getD k 0), .int .i64 q, .int .i64 (k : Int), .int .i64 (stp (m.getD k 0) q k), .int .i64 ((l.getD k 0) * (stp (m.getD k 0) q k)), .pointer (some ⟨g16, k, none⟩), (u21 39), undef], []⟩) (by kernel_rfl) ?_
          refine wl_region ?_
          refine st_val (.int .i64 ((k : Int) + 1)) (by kernel_rfl) (i64_of (by omega) (by kernel_rfl)) ?_
          refine st_val (.int .i64 ((k : Int) + 1)) (by kernel_rfl) (by kernel_rfl) ?_
          refine wl_nil ?_
          refine th_normal ?_
          exact ⟨_, by omega, (k + 1), (fun zz => Array.getD #[.agg (iv l), .agg (bv m), .int .i64 q, .pointer (some ⟨g2, 0, none⟩), .pointer (some ⟨g5, 0, none⟩), undef, .pointer (some ⟨g8, 0, none⟩), (u21 7), .pointer (some ⟨g16, 0, none⟩), .int .i64 (k : Int), .int .i64 (l.getD k 0), .agg (bv m), .int .i64 q, .bool true, .bool false, undef, .agg (iv l), .int .i64 ((k : Int) + 1), .bool true, .int .i64 (k : Int), .int .i64 (l.getD k 0), .int .i64 (l.getD k 0), .bool false, .bool false, .int .i64 (l.getD k 0), .bool false, .bool false, (u21 27), .int .i64 (k : Int), .int .i64 (l.getD k 0), .int .i64 (k : Int), .pointer (some ⟨g5, k, none⟩), .int .u8 (m.getD k 0), .int .i64 (m.getD k 0), .int .i64 q, .int .i64 (k : Int), .int .i64 (stp (m.getD k 0) q k), .int .i64 ((l.getD k 0) * (stp (m.getD k 0) q k)), .pointer (some ⟨g16, k, none⟩), .int .i64 ((k : Int) + 1), undef] zz undef), ⟨⟨by omega, fun n h => (Decidable.em (n < k)).elim (r2 n) (fun e => by obtain rfl : n = k := (by omega); exact ⟨by omega, by omega⟩)⟩, (by rw [← part_step (dval l m q) k _ rfl]; exact M39)⟩, rfl, (by kernel_rfl)⟩
    ·
      refine st_val (.bool false) (by kernel_rfl) (bool_of (dec_f c18) (by kernel_rfl)) ?_
      refine wl_nil ?_
      refine hK24 _ _ ?_
      try clear hK24 K24
      refine wp_seq_k (fun K40 hK40 => ?_)
      refine wp_cond_false (by kernel_rfl) ?_
      refine wp_exit ?_
      refine th_exit ?_
      refine th_exit ?_
      refine blk_exit ?_
      refine hK19 _ _ ?_
      try clear hK19 K19
      refine wp_seq_k (fun K41 hK41 => ?_)
      have M42 : Mem NoS w W22 [(g16, .cells (iv (tab 64 (dval l m q))) 30 (0, 0)), (g8, .cells (iv zeros) 30 (0, 0)), (g5, .cells (bv m) 23 (0, 0)), (g2, .cells (iv l) 30 (0, 0))] := by
        have hh := M23; rw [show k = 64 by omega, part2_end] at hh; exact hh
      refine wl_region ?_
      refine st_val (.agg (iv (tab 64 (dval l m q)))) (by kernel_rfl) (run_load_row 30 (.tmp 8) rfl g16 (by kernel_rfl) 30 (iv (tab 64 (dval l m q))) (0, 0) _ (M42.get 0 rfl) Try.underlying30 rfl (info64 _ (tab_length _ _))) ?_
      refine st_storeRow M42 1 rfl 30 (.tmp 6) (.tmp 40) (by rfl) (iv (tab 64 (dval l m q))) (by kernel_rfl) (by kernel_rfl) (info64 _ (tab_length _ _)) (iv_same (tab_length _ _) zeros_length) (iv_one _) (by kernel_rfl) [(g16, .cells (iv (tab 64 (dval l m q))) 30 (0, 0)), (g8, .cells (iv (tab 64 (dval l m q))) 30 (0, 0)), (g5, .cells (bv m) 23 (0, 0)), (g2, .cells (iv l) 30 (0, 0))] rfl ?_
      intro W43 M44
      refine st_val (.int .i64 0) (by kernel_rfl) (by kernel_rfl) ?_
      refine wl_nil ?_
      refine hK41 _ _ ?_
      try clear hK41 K41
      refine wp_ret ?_
      exact doneRow2 6 30 7 (.int .i64 0) g8 30 (iv (tab 64 (dval l m q))) (0, 0) _ (by kernel_rfl) (by kernel_rfl) (by kernel_rfl) (M44.get 1 rfl) Try.underlying30 rfl (info64 _ (tab_length _ _)) (by kernel_rfl) ⟨by rw [(d_good hF fun n hn => r2 n (by omega)).1, (d_good hF fun n hn => r2 n (by omega)).2], M44.toBelow⟩
  ·
    refine st_callB M10 (.bool false) (by kernel_rfl) (args := #[.agg (bv m), .int .i64 q]) (run_value_call 44 #[(Operand.tmp 11), (Operand.tmp 12)] _ rfl Try.func44 (by kernel_rfl) (by kernel_rfl) _ (by kernel_rfl)) (fits_f W9 m hm hb q hF) ?_
    intro W45 M46
    refine st_val (.bool true) (by kernel_rfl) (by kernel_rfl) ?_
    refine wl_nil ?_
    refine hK12 _ _ ?_
    try clear hK12 K12
    refine wp_cond_true (by kernel_rfl) ?_
    refine wp_seq_k (fun K47 hK47 => ?_)
    refine wl_region ?_
    refine st_val (.agg (iv zeros)) (by kernel_rfl) (by kernel_rfl) ?_
    refine st_storeRow M46 0 rfl 30 (.tmp 6) (.tmp 15) (by rfl) (iv zeros) (by kernel_rfl) (by kernel_rfl) (info64 _ zeros_length) (iv_same zeros_length zeros_length) (iv_one _) (by kernel_rfl) [(g8, .cells (iv zeros) 30 (0, 0)), (g5, .cells (bv m) 23 (0, 0)), (g2, .cells (iv l) 30 (0, 0))] rfl ?_
    intro W48 M49
    refine st_val (.int .i64 1) (by kernel_rfl) (by kernel_rfl) ?_
    refine wl_nil ?_
    refine hK47 _ _ ?_
    try clear hK47 K47
    refine wp_ret ?_
    refine th_ret ?_
    exact doneRow2 6 30 7 (.int .i64 1) g8 30 (iv zeros) (0, 0) _ (by kernel_rfl) (by kernel_rfl) (by kernel_rfl) (M49.get 0 rfl) Try.underlying30 rfl (info64 _ zeros_length) (by kernel_rfl) ⟨by rw [(d_fit (l := l) hF).1, (d_fit (l := l) hF).2], M49.toBelow⟩
set_option maxHeartbeats 4000000 in
set_option maxRecDepth 100000 in
theorem refDequantise_walk (w : World) (l m : List Int) (q : Int) (hy : l.length = 64) (hm : m.length = 64) (hb : BL m) : Calls Try.prog 25 #[.agg (iv l), .agg (bv m), .int .i64 q] w fun e w' => e = .returned (.tuple #[.agg (iv (dL l m q)), .int .i64 (dE l m q)]) ∧ Below w.heap.size w w' := by
  refine calls_of_wp Try.func25 rfl ?_
  refine wp_frame (a' := ⟨#[.agg (iv l), .agg (bv m), .int .i64 q, undef, undef, undef, undef, undef, undef, undef, undef, undef, undef, undef, undef, undef, undef, undef, undef, undef, undef, undef, undef, undef, undef, undef, undef, undef, undef, undef, undef, undef, undef, undef, undef, undef, undef, undef, undef, undef, undef, undef, undef, undef], []⟩) (by kernel_rfl) ?_
  have M0 : Mem NoS w w [] := Mem.start _ _
  refine wp_seq_k (fun K1 hK1 => ?_)
  refine wl_region ?_
  refine st_alloc M0 (.cells (iv l) 30 (0, 0)) (by kernel_rfl) (by kernel_rfl) ?_
  intro g2 W3 M4
  refine st_alloc M4 (.cells (bv m) 23 (0, 0)) (by kernel_rfl) (by kernel_rfl) ?_
  intro g5 W6 M7
  refine st_alloc M7 (.cells (iv zeros) 30 (0, 0)) (by kernel_rfl) (by kernel_rfl) ?_
  intro g8 W9 M10
  refine st_val (.int .i64 0) (by kernel_rfl) (by kernel_rfl) ?_
  refine wl_nil ?_
  refine hK1 _ _ ?_
  try clear hK1 K1
  refine wp_seq_k (fun K11 hK11 => ?_)
  refine wp_seq_k (fun K12 hK12 => ?_)
  refine wl_region ?_
  refine st_val (.agg (bv m)) (by kernel_rfl) (run_load_row 23 (.tmp 4) rfl g5 (by kernel_rfl) 23 (bv m) (0, 0) _ (M10.get 1 rfl) Try.underlying23 rfl (infoB64 _ hm)) ?_
  refine st_val (.int .i64 q) (by kernel_rfl) (by kernel_rfl) ?_
  rcases Classical.em (Fit m q) with hF | hF
  ·
    refine st_callB M10 (.bool true) (by kernel_rfl) (args := #[.agg (bv m), .int .i64 q]) (run_value_call 23 #[(Operand.tmp 10), (Operand.tmp 11)] _ rfl Try.func23 (by kernel_rfl) (by kernel_rfl) _ (by kernel_rfl)) (refMay_t W9 m hm hb q hF) ?_
    intro W13 M14
    refine st_val (.bool false) (by kernel_rfl) (by kernel_rfl) ?_
    refine wl_nil ?_
    refine hK12 _ _ ?_
    try clear hK12 K12
    refine wp_cond_false (by kernel_rfl) ?_
    refine wp_skip ?_
    refine hK11 _ _ ?_
    try clear hK11 K11
    refine wp_seq_k (fun K15 hK15 => ?_)
    refine wl_region ?_
    refine st_alloc M14 (.cells (iv zeros) 30 (0, 0)) (by kernel_rfl) (by kernel_rfl) ?_
    intro g16 W17 M18
    refine wl_nil ?_
    refine hK15 _ _ ?_
    try clear hK15 K15
    refine wp_seq_k (fun K19 hK19 => ?_)
    refine wp_seq_k (fun K20 hK20 => ?_)
    refine wl_region ?_
    refine st_val (.int .i64 0) (by kernel_rfl) (by kernel_rfl) ?_
    refine wl_nil ?_
    refine hK20 _ _ ?_
    try clear hK20 K20
    refine wp_block ?_
    refine wp_loop_ghost (fun gn a' w' => ∃ (k : Nat) (u21 : Nat → Value), ((k ≤ 64 ∧ ∀ n, n < k → LOk (l.getD n 0)) ∧ Mem NoS w w' [(g16, .cells (iv (tab 64 (part2 (dval l m q) k 0))) 30 (0, 0)), (g8, .cells (iv zeros) 30 (0, 0)), (g5, .cells (bv m) 23 (0, 0)), (g2, .cells (iv l) 30 (0, 0))]) ∧ gn = 64 - k ∧ a' = ⟨#[.agg (iv l), .agg (bv m), .int .i64 q, .pointer (some ⟨g2, 0, none⟩), .pointer (some ⟨g5, 0, none⟩), undef, .pointer (some ⟨g8, 0, none⟩), (u21 7), .pointer (some ⟨g16, 0, none⟩), .int .i64 (k : Int), .agg (bv m), .int .i64 q, .bool true, .bool false, undef, (u21 15), (u21 16), (u21 17), (u21 18), (u21 19), (u21 20), (u21 21), (u21 22), (u21 23), (u21 24), (u21 25), (u21 26), (u21 27), (u21 28), (u21 29), (u21 30), (u21 31), (u21 32), (u21 33), (u21 34), (u21 35), (u21 36), (u21 37), (u21 38), (u21 39), (u21 40), (u21 41), (u21 42), undef], []⟩) _ ⟨0, (fun zz => Array.getD #[.agg (iv l), .agg (bv m), .int .i64 q, .pointer (some ⟨g2, 0, none⟩), .pointer (some ⟨g5, 0, none⟩), undef, .pointer (some ⟨g8, 0, none⟩), .int .i64 0, .pointer (some ⟨g16, 0, none⟩), .int .i64 0, .agg (bv m), .int .i64 q, .bool true, .bool false, undef, undef, undef, undef, undef, undef, undef, undef, undef, undef, undef, undef, undef, undef, undef, undef, undef, undef, undef, undef, undef, undef, undef, undef, undef, undef, undef, undef, undef, undef] zz undef), ⟨⟨by omega, fun n h => by omega⟩, (by rw [part_zero]; exact M18)⟩, rfl, (by kernel_rfl)⟩ ?_
    rintro gn _ W22 ⟨k, u21, ⟨⟨rk, r2⟩, M23⟩, rfl, rfl⟩
    refine wp_seq_k (fun K24 hK24 => ?_)
    refine wp_seq_k (fun K25 hK25 => ?_)
    refine wl_region ?_
    refine st_val (.int .i64 (k : Int)) (by kernel_rfl) (by kernel_rfl) ?_
    rcases Decidable.em (((k : Int) : Int) < 64) with c16 | c16
    ·
      have hs := stp_le hF hb k (by omega)
      have hq := hF.2
      refine st_val (.bool true) (by kernel_rfl) (bool_of (dec_t c16) (by kernel_rfl)) ?_
      refine wl_nil ?_
      refine hK25 _ _ ?_
      try clear hK25 K25
      refine wp_cond_true (by kernel_rfl) ?_
      refine wp_skip ?_
      refine hK24 _ _ ?_
      try clear hK24 K24
      refine wp_seq_k (fun K26 hK26 => ?_)
      refine wp_block ?_
      refine wp_seq_k (fun K27 hK27 => ?_)
      refine wp_seq_k (fun K28 hK28 => ?_)
      refine wl_region ?_
      refine st_val (.int .i64 (k : Int)) (by kernel_rfl) (by kernel_rfl) ?_
      refine st_val (.pointer (some ⟨g2, k, none⟩)) (by kernel_rfl) (run_indexAddr 30 (.tmp 3) (.tmp 19) rfl ⟨g2, 0, none⟩ .i64 k (by kernel_rfl) (by kernel_rfl) Try.underlying30 1 (by kernel_rfl) (by omega) ⟨g2, k, none⟩ (addr_at0 _ _)) ?_
      refine st_val (.int .i64 (l.getD k 0)) (by kernel_rfl) (run_load_cell 3 (.tmp 20) rfl ⟨g2, k, none⟩ (by kernel_rfl) _ (M23.cell 3 rfl k _ (iv_get l k (by rw [hy]; omega))) (by kernel_rfl)) ?_
      rcases Decidable.em ((l.getD k 0 : Int) < -4095) with c22 | c22
      ·
        refine st_val (.bool true) (by kernel_rfl) (bool_of (dec_t c22) (by kernel_rfl)) ?_
        refine st_val (.bool true) (by kernel_rfl) (by kernel_rfl) ?_
        refine st_skip (by kernel_rfl) ?_
        refine st_skip (by kernel_rfl) ?_
        refine st_skip (by kernel_rfl) ?_
        refine st_skip (by kernel_rfl) ?_
        refine st_val (.bool true) (by kernel_rfl) (by kernel_rfl) ?_
        refine wl_nil ?_
        refine hK28 _ _ ?_
        try clear hK28 K28
        refine wp_cond_true (by kernel_rfl) ?_
        refine wp_seq_k (fun K29 hK29 => ?_)
        refine wl_region ?_
        refine st_val (.agg (iv zeros)) (by kernel_rfl) (by kernel_rfl) ?_
        refine st_storeRow M23 1 rfl 30 (.tmp 6) (.tmp 29) (by rfl) (iv zeros) (by kernel_rfl) (by kernel_rfl) (info64 _ zeros_length) (iv_same zeros_length zeros_length) (iv_one _) (by kernel_rfl) [(g16, .cells (iv (tab 64 (part2 (dval l m q) k 0))) 30 (0, 0)), (g8, .cells (iv zeros) 30 (0, 0)), (g5, .cells (bv m) 23 (0, 0)), (g2, .cells (iv l) 30 (0, 0))] rfl ?_
        intro W30 M31
        refine st_val (.int .i64 2) (by kernel_rfl) (by kernel_rfl) ?_
        refine wl_nil ?_
        refine hK29 _ _ ?_
        try clear hK29 K29
        refine wp_frame (a' := ⟨#[.agg (iv l), .agg (bv m), .int .i64 q, .pointer (some ⟨g2, 0, none⟩), .pointer (some ⟨g5, 0, none⟩), undef, .pointer (some ⟨g8, 0, none⟩), .int .i64 2, .pointer (some ⟨g16, 0, none⟩), .int .i64 (k : Int), .agg (bv m), .int .i64 q, .bool true, .bool false, undef, .int .i64 (k : Int), .bool true, (u21 17), (u21 18), .int .i64 (k : Int), .pointer (some ⟨g2, k, none⟩), .int .i64 (l.getD k 0), .bool true, .bool true, undef, undef, undef, undef, .bool true, .agg (iv zeros), (u21 30), (u21 31), (u21 32), (u21 33), (u21 34), (u21 35), (u21 36), (u21 37), (u21 38), (u21 39), (u21 40), (u21 41), (u21 42), undef], []⟩) (by kernel_rfl) ?_
        refine wp_ret ?_
        refine th_ret ?_
        refine blk_ret ?_
        refine th_ret ?_
        refine th_ret ?_
        refine blk_ret ?_
        refine th_ret ?_
        exact doneRow2 6 30 7 (.int .i64 2) g8 30 (iv zeros) (0, 0) _ (by kernel_rfl) (by kernel_rfl) (by kernel_rfl) (M31.get 1 rfl) Try.underlying30 rfl (info64 _ zeros_length) (by kernel_rfl) ⟨by rw [(d_bad (l := l) hF k (by omega) (fun c => by unfold LOk at c; omega)).1, (d_bad (l := l) hF k (by omega) (fun c => by unfold LOk at c; omega)).2], M31.toBelow⟩
      ·
        refine st_val (.bool false) (by kernel_rfl) (bool_of (dec_f c22) (by kernel_rfl)) ?_
        refine st_val (.bool false) (by kernel_rfl) (by kernel_rfl) ?_
        refine st_val (.int .i64 (k : Int)) (by kernel_rfl) (by kernel_rfl) ?_
        refine st_val (.pointer (some ⟨g2, k, none⟩)) (by kernel_rfl) (run_indexAddr 30 (.tmp 3) (.tmp 24) rfl ⟨g2, 0, none⟩ .i64 k (by kernel_rfl) (by kernel_rfl) Try.underlying30 1 (by kernel_rfl) (by omega) ⟨g2, k, none⟩ (addr_at0 _ _)) ?_
        refine st_val (.int .i64 (l.getD k 0)) (by kernel_rfl) (run_load_cell 3 (.tmp 25) rfl ⟨g2, k, none⟩ (by kernel_rfl) _ (M23.cell 3 rfl k _ (iv_get l k (by rw [hy]; omega))) (by kernel_rfl)) ?_
        rcases Decidable.em ((l.getD k 0 : Int) > 4095) with c27 | c27
        ·
          refine st_val (.bool true) (by kernel_rfl) (bool_of (dec_t c27) (by kernel_rfl)) ?_
          refine st_val (.bool true) (by kernel_rfl) (by kernel_rfl) ?_
          refine wl_nil ?_
          refine hK28 _ _ ?_
          try clear hK28 K28
          refine wp_cond_true (by kernel_rfl) ?_
          refine wp_seq_k (fun K32 hK32 => ?_)
          refine wl_region ?_
          refine st_val (.agg (iv zeros)) (by kernel_rfl) (by kernel_rfl) ?_
          refine st_storeRow M23 1 rfl 30 (.tmp 6) (.tmp 29) (by rfl) (iv zeros) (by kernel_rfl) (by kernel_rfl) (info64 _ zeros_length) (iv_same zeros_length zeros_length) (iv_one _) (by kernel_rfl) [(g16, .cells (iv (tab 64 (part2 (dval l m q) k 0))) 30 (0, 0)), (g8, .cells (iv zeros) 30 (0, 0)), (g5, .cells (bv m) 23 (0, 0)), (g2, .cells (iv l) 30 (0, 0))] rfl ?_
          intro W33 M34
          refine st_val (.int .i64 2) (by kernel_rfl) (by kernel_rfl) ?_
          refine wl_nil ?_
          refine hK32 _ _ ?_
          try clear hK32 K32
          refine wp_frame (a' := ⟨#[.agg (iv l), .agg (bv m), .int .i64 q, .pointer (some ⟨g2, 0, none⟩), .pointer (some ⟨g5, 0, none⟩), undef, .pointer (some ⟨g8, 0, none⟩), .int .i64 2, .pointer (some ⟨g16, 0, none⟩), .int .i64 (k : Int), .agg (bv m), .int .i64 q, .bool true, .bool false, undef, .int .i64 (k : Int), .bool true, (u21 17), (u21 18), .int .i64 (k : Int), .pointer (some ⟨g2, k, none⟩), .int .i64 (l.getD k 0), .bool false, .bool false, .int .i64 (k : Int), .pointer (some ⟨g2, k, none⟩), .int .i64 (l.getD k 0), .bool true, .bool true, .agg (iv zeros), (u21 30), (u21 31), (u21 32), (u21 33), (u21 34), (u21 35), (u21 36), (u21 37), (u21 38), (u21 39), (u21 40), (u21 41), (u21 42), undef], []⟩) (by kernel_rfl) ?_
          refine wp_ret ?_
          refine th_ret ?_
          refine blk_ret ?_
          refine th_ret ?_
          refine th_ret ?_
          refine blk_ret ?_
          refine th_ret ?_
          exact doneRow2 6 30 7 (.int .i64 2) g8 30 (iv zeros) (0, 0) _ (by kernel_rfl) (by kernel_rfl) (by kernel_rfl) (M34.get 1 rfl) Try.underlying30 rfl (info64 _ zeros_length) (by kernel_rfl) ⟨by rw [(d_bad (l := l) hF k (by omega) (fun c => by unfold LOk at c; omega)).1, (d_bad (l := l) hF k (by omega) (fun c => by unfold LOk at c; omega)).2], M34.toBelow⟩
        ·
          refine st_val (.bool false) (by kernel_rfl) (bool_of (dec_f c27) (by kernel_rfl)) ?_
          refine st_val (.bool false) (by kernel_rfl) (by kernel_rfl) ?_
          refine wl_nil ?_
          refine hK28 _ _ ?_
          try clear hK28 K28
          refine wp_cond_false (by kernel_rfl) ?_
          refine wp_skip ?_
          refine hK27 _ _ ?_
          try clear hK27 K27
          refine wl_seq 13 (fun w' => Mem NoS w w' [(g16, .cells (iv (tab 64 (part2 (dval l m q) k 0))) 30 (0, 0)), (g8, .cells (iv zeros) 30 (0, 0)), (g5, .cells (bv m) 23 (0, 0)), (g2, .cells (iv l) 30 (0, 0))]) (by decide) (by kernel_rfl) (by kernel_rfl) M23.drew ?_
          refine seq_run (v := .int .i64 (k : Int)) (by decide) (by kernel_rfl) (fun w' M' => (by kernel_rfl)) ?_
          refine seq_run (v := .int .i64 (k : Int)) (by decide) (by kernel_rfl) (fun w' M' => (by kernel_rfl)) ?_
          refine seq_run (v := .pointer (some ⟨g2, k, none⟩)) (by decide) (by kernel_rfl) (fun w' M' => (run_indexAddr 30 (.tmp 3) (.tmp 31) rfl ⟨g2, 0, none⟩ .i64 k (by kernel_rfl) (by kernel_rfl) Try.underlying30 1 (by kernel_rfl) (by omega) ⟨g2, k, none⟩ (addr_at0 _ _))) ?_
          refine seq_run (v := .int .i64 (l.getD k 0)) (by decide) (by kernel_rfl) (fun w' M' => (run_load_cell 3 (.tmp 32) rfl ⟨g2, k, none⟩ (by kernel_rfl) _ (M'.cell 3 rfl k _ (iv_get l k (by rw [hy]; omega))) (by kernel_rfl))) ?_
          refine seq_run (v := .int .i64 (k : Int)) (by decide) (by kernel_rfl) (fun w' M' => (by kernel_rfl)) ?_
          refine seq_run (v := .pointer (some ⟨g5, k, none⟩)) (by decide) (by kernel_rfl) (fun w' M' => (run_indexAddr 23 (.tmp 4) (.tmp 34) rfl ⟨g5, 0, none⟩ .i64 k (by kernel_rfl) (by kernel_rfl) Try.underlying23 1 (by kernel_rfl) (by omega) ⟨g5, k, none⟩ (addr_at0 _ _))) ?_
          refine seq_run (v := .int .u8 (m.getD k 0)) (by decide) (by kernel_rfl) (fun w' M' => (run_load_cell 5 (.tmp 35) rfl ⟨g5, k, none⟩ (by kernel_rfl) _ (M'.cell 2 rfl k _ (bv_get m k (by rw [hm]; omega))) (by kernel_rfl))) ?_
          refine seq_run (v := .int .i64 (m.getD k 0)) (by decide) (by kernel_rfl) (fun w' M' => (i64_of (by omega) (by kernel_rfl))) ?_
          refine seq_run (v := .int .i64 q) (by decide) (by kernel_rfl) (fun w' M' => (by kernel_rfl)) ?_
          refine seq_run (v := .int .i64 (k : Int)) (by decide) (by kernel_rfl) (fun w' M' => (by kernel_rfl)) ?_
          refine seq_call (v := .int .i64 (stp (m.getD k 0) q k)) (f := 16) (args := #[.int .i64 (m.getD k 0), .int .i64 q, .int .i64 (k : Int)]) (by decide) (by kernel_rfl) (fun w' M' => (run_value_call 16 #[(Operand.tmp 37), (Operand.tmp 38), (Operand.tmp 39)] _ rfl Try.func16 (by kernel_rfl) (by kernel_rfl) _ (by kernel_rfl))) (fun w' M' => callB_mem M' (refStep_in w' (m.getD k 0) q k (by omega) (by omega) (by omega) (by omega) (by omega))) ?_
          refine seq_run (v := .int .i64 ((l.getD k 0) * (stp (m.getD k 0) q k))) (by decide) (by kernel_rfl) (fun w' M' => (i64_of (dval_in (by omega) (by omega) hs.2) (by kernel_rfl))) ?_
          refine seq_run (v := .pointer (some ⟨g16, k, none⟩)) (by decide) (by kernel_rfl) (fun w' M' => (run_indexAddr 30 (.tmp 8) (.tmp 30) rfl ⟨g16, 0, none⟩ .i64 k (by kernel_rfl) (by kernel_rfl) Try.underlying30 1 (by kernel_rfl) (by omega) ⟨g16, k, none⟩ (addr_at0 _ _))) ?_
          refine seq_end (by decide) ?_
          intro W35 M36
          refine st_storeCell M36 0 rfl 3 (.tmp 42) (.tmp 41) (by rfl) k (.int .i64 ((l.getD k 0) * (stp (m.getD k 0) q k))) (iv ((tab 64 (part2 (dval l m q) k 0)).set k ((l.getD k 0) * (stp (m.getD k 0) q k)))) (by kernel_rfl) (by kernel_rfl) (by rw [iv_size, (tab_length _ _)]; omega) (by kernel_rfl) rfl (by kernel_rfl) (iv_set _ _ _) (by kernel_rfl) [(g16, .cells (iv ((tab 64 (part2 (dval l m q) k 0)).set k ((l.getD k 0) * (stp (m.getD k 0) q k)))) 30 (0, 0)), (g8, .cells (iv zeros) 30 (0, 0)), (g5, .cells (bv m) 23 (0, 0)), (g2, .cells (iv l) 30 (0, 0))] rfl ?_
          intro W37 M38
          refine wl_nil ?_
          refine blk_normal ?_
          refine hK26 _ _ ?_
          try clear hK26 K26
          refine wp_frame (a' := ⟨#[.agg (iv l), .agg (bv m), .int .i64 q, .pointer (some ⟨g2, 0, none⟩), .pointer (some ⟨g5, 0, none⟩), undef, .pointer (some ⟨g8, 0, none⟩), (u21 7), .pointer (some ⟨g16, 0, none⟩), .int .i64 (k : Int), .agg (bv m), .int .i64 q, .bool true, .bool false, undef, .int .i64 (k : Int), .bool true, (u21 17), (u21 18), .int .i64 (k : Int), .pointer (some ⟨g2, k, none⟩), .int .i64 (l.getD k 0), .bool false, .bool false, .int .i64 (k : Int), .pointer (some ⟨g2, k, none⟩), .int .i64 (l.getD k 0), .bool false, .bool false, (u21 29), .int .i64 (k : Int), .int .i64 (k : Int), .pointer (some ⟨g2, k, none⟩), .int .i64 (l.getD k 0), .int .i64 (k : Int), .pointer (some ⟨g5, k, none⟩), .int .u8 (m.getD k 0), .int .i64 (m.getD k 0), .int .i64 q, .int .i64 (k : Int), .int .i64 (stp (m.getD k 0) q k), .int .i64 ((l.getD k 0) * (stp (m.getD k 0) q k)), .pointer (some ⟨g16, k, none⟩), undef], []⟩) (by kernel_rfl) ?_
          refine wl_region ?_
          refine st_val (.int .i64 (k : Int)) (by kernel_rfl) (by kernel_rfl) ?_
          refine st_val (.int .i64 ((k : Int) + 1)) (by kernel_rfl) (i64_of (by omega) (by kernel_rfl)) ?_
          refine st_val (.int .i64 ((k : Int) + 1)) (by kernel_rfl) (by kernel_rfl) ?_
          refine wl_nil ?_
          refine th_normal ?_
          exact ⟨_, by omega, (k + 1), (fun zz => Array.getD #[.agg (iv l), .agg (bv m), .int .i64 q, .pointer (some ⟨g2, 0, none⟩), .pointer (some ⟨g5, 0, none⟩), undef, .pointer (some ⟨g8, 0, none⟩), (u21 7), .pointer (some ⟨g16, 0, none⟩), .int .i64 ((k : Int) + 1), .agg (bv m), .int .i64 q, .bool true, .bool false, undef, .int .i64 (k : Int), .bool true, .int .i64 (k : Int), .int .i64 ((k : Int) + 1), .int .i64 (k : Int), .pointer (some ⟨g2, k, none⟩), .int .i64 (l.getD k 0), .bool false, .bool false, .int .i64 (k : Int), .pointer (some ⟨g2, k, none⟩), .int .i64 (l.getD k 0), .bool false, .bool false, (u21 29), .int .i64 (k : Int), .int .i64 (k : Int), .pointer (some ⟨g2, k, none⟩), .int .i64 (l.getD k 0), .int .i64 (k : Int), .pointer (some ⟨g5, k, none⟩), .int .u8 (m.getD k 0), .int .i64 (m.getD k 0), .int .i64 q, .int .i64 (k : Int), .int .i64 (stp (m.getD k 0) q k), .int .i64 ((l.getD k 0) * (stp (m.getD k 0) q k)), .pointer (some ⟨g16, k, none⟩), undef] zz undef), ⟨⟨by omega, fun n h => (Decidable.em (n < k)).elim (r2 n) (fun e => by obtain rfl : n = k := (by omega); exact ⟨by omega, by omega⟩)⟩, (by rw [← part_step (dval l m q) k _ rfl]; exact M38)⟩, rfl, (by kernel_rfl)⟩
    ·
      refine st_val (.bool false) (by kernel_rfl) (bool_of (dec_f c16) (by kernel_rfl)) ?_
      refine wl_nil ?_
      refine hK25 _ _ ?_
      try clear hK25 K25
      refine wp_cond_false (by kernel_rfl) ?_
      refine wp_exit ?_
      refine th_exit ?_
      refine th_exit ?_
      refine blk_exit ?_
      refine hK19 _ _ ?_
      try clear hK19 K19
      refine wp_seq_k (fun K39 hK39 => ?_)
      have M40 : Mem NoS w W22 [(g16, .cells (iv (tab 64 (dval l m q))) 30 (0, 0)), (g8, .cells (iv zeros) 30 (0, 0)), (g5, .cells (bv m) 23 (0, 0)), (g2, .cells (iv l) 30 (0, 0))] := by
        have hh := M23; rw [show k = 64 by omega, part2_end] at hh; exact hh
      refine wl_region ?_
      refine st_val (.agg (iv (tab 64 (dval l m q)))) (by kernel_rfl) (run_load_row 30 (.tmp 8) rfl g16 (by kernel_rfl) 30 (iv (tab 64 (dval l m q))) (0, 0) _ (M40.get 0 rfl) Try.underlying30 rfl (info64 _ (tab_length _ _))) ?_
      refine st_storeRow M40 1 rfl 30 (.tmp 6) (.tmp 43) (by rfl) (iv (tab 64 (dval l m q))) (by kernel_rfl) (by kernel_rfl) (info64 _ (tab_length _ _)) (iv_same (tab_length _ _) zeros_length) (iv_one _) (by kernel_rfl) [(g16, .cells (iv (tab 64 (dval l m q))) 30 (0, 0)), (g8, .cells (iv (tab 64 (dval l m q))) 30 (0, 0)), (g5, .cells (bv m) 23 (0, 0)), (g2, .cells (iv l) 30 (0, 0))] rfl ?_
      intro W41 M42
      refine st_val (.int .i64 0) (by kernel_rfl) (by kernel_rfl) ?_
      refine wl_nil ?_
      refine hK39 _ _ ?_
      try clear hK39 K39
      refine wp_ret ?_
      exact doneRow2 6 30 7 (.int .i64 0) g8 30 (iv (tab 64 (dval l m q))) (0, 0) _ (by kernel_rfl) (by kernel_rfl) (by kernel_rfl) (M42.get 1 rfl) Try.underlying30 rfl (info64 _ (tab_length _ _)) (by kernel_rfl) ⟨by rw [(d_good hF fun n hn => r2 n (by omega)).1, (d_good hF fun n hn => r2 n (by omega)).2], M42.toBelow⟩
  ·
    refine st_callB M10 (.bool false) (by kernel_rfl) (args := #[.agg (bv m), .int .i64 q]) (run_value_call 23 #[(Operand.tmp 10), (Operand.tmp 11)] _ rfl Try.func23 (by kernel_rfl) (by kernel_rfl) _ (by kernel_rfl)) (refMay_f W9 m hm hb q hF) ?_
    intro W43 M44
    refine st_val (.bool true) (by kernel_rfl) (by kernel_rfl) ?_
    refine wl_nil ?_
    refine hK12 _ _ ?_
    try clear hK12 K12
    refine wp_cond_true (by kernel_rfl) ?_
    refine wp_seq_k (fun K45 hK45 => ?_)
    refine wl_region ?_
    refine st_val (.agg (iv zeros)) (by kernel_rfl) (by kernel_rfl) ?_
    refine st_storeRow M44 0 rfl 30 (.tmp 6) (.tmp 14) (by rfl) (iv zeros) (by kernel_rfl) (by kernel_rfl) (info64 _ zeros_length) (iv_same zeros_length zeros_length) (iv_one _) (by kernel_rfl) [(g8, .cells (iv zeros) 30 (0, 0)), (g5, .cells (bv m) 23 (0, 0)), (g2, .cells (iv l) 30 (0, 0))] rfl ?_
    intro W46 M47
    refine st_val (.int .i64 1) (by kernel_rfl) (by kernel_rfl) ?_
    refine wl_nil ?_
    refine hK45 _ _ ?_
    try clear hK45 K45
    refine wp_ret ?_
    refine th_ret ?_
    exact doneRow2 6 30 7 (.int .i64 1) g8 30 (iv zeros) (0, 0) _ (by kernel_rfl) (by kernel_rfl) (by kernel_rfl) (M47.get 0 rfl) Try.underlying30 rfl (info64 _ zeros_length) (by kernel_rfl) ⟨by rw [(d_fit (l := l) hF).1, (d_fit (l := l) hF).2], M47.toBelow⟩
end Go.Proofs.Ytjclncmpfdfkfaa
