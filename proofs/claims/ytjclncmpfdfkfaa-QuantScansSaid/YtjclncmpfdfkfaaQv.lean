/- Valid matrices. -/
import Derived.Test.YtjclncmpfdfkfaaGw
import Derived.Test.YtjclncmpfdfkfaaArr
namespace Go.Proofs.Ytjclncmpfdfkfaa
open Go.RowKit

/-- the least of the first bytes -/
def minT (l : List Int) : Nat → Int
  | 0 => l.getD 0 0
  | n + 1 => min (minT l n) (l.getD (n + 1) 0)
def vB (l : List Int) : Bool := (List.range 64).all fun n => decide (8 ≤ l.getD n 0)
theorem vB_iff {l : List Int} : vB l = true ↔ ∀ n, n < 64 → 8 ≤ l.getD n 0 := by
  unfold vB
  rw [List.all_eq_true]
  exact ⟨fun h n hn => of_decide_eq_true (h n (List.mem_range.2 hn)), fun h n hn => decide_eq_true (h n (List.mem_range.1 hn))⟩
theorem vB_t {l : List Int} (h : ∀ n, n < 64 → 8 ≤ l.getD n 0) : vB l = true := vB_iff.2 h
theorem vB_f {l : List Int} (k : Nat) (hk : k < 64) (h : l.getD k 0 < 8) : vB l = false := by
  cases c : vB l with
  | false => rfl
  | true => have := vB_iff.1 c k hk; omega
theorem minT_le (l : List Int) (n : Nat) : 8 ≤ minT l n ↔ ∀ i, i ≤ n → 8 ≤ l.getD i 0 := by
  induction n with
  | zero => exact ⟨fun h i hi => by obtain rfl : i = 0 := (by omega); exact h, fun h => h 0 (Nat.le_refl _)⟩
  | succ n ih =>
    show 8 ≤ min (minT l n) (l.getD (n + 1) 0) ↔ _
    constructor
    · intro h i hi
      by_cases e : i = n + 1
      · subst e; omega
      · exact ih.1 (by omega) i (by omega)
    · intro h
      have := ih.2 (fun i hi => h i (by omega))
      have := h (n + 1) (Nat.le_refl _)
      omega
theorem minT_valid {l : List Int} (_ : BL l) : decide ((minT l 63 : Int) ≥ 8) = vB l := by
  rw [Bool.eq_iff_iff, decide_eq_true_iff, vB_iff]
  exact ⟨fun h n hn => (minT_le l 63).1 h n (by omega), fun h => (minT_le l 63).2 (fun i hi => h i (by omega))⟩
/-- matrix and quantiser are valid -/
def Fit (l : List Int) (q : Int) : Prop := vB l = true ∧ 1 ≤ q ∧ q ≤ 31
theorem infoB64 (l : List Int) (h : l.length = 64) : (Try.prog.info? 23).map (·.size) = some (bv l).size := by
  rw [bv_size, h]; kernel_rfl
set_option maxHeartbeats 4000000 in
set_option maxRecDepth 100000 in
theorem smin_walk (w : World) (A : Option Addr) (c : Nat) (l : List Int) (hr : Rd w (.slice A l.length c) (l.map (Value.int .u8))) (h1 : 1 ≤ l.length) (h2 : l.length ≤ 140737488355328) : Calls Try.prog 43 #[.slice A l.length c] w fun e w' => e = .returned (.int .u8 (minT l (l.length - 1))) ∧ Below w.heap.size w w' := by
  refine calls_of_wp Try.func43 rfl ?_
  refine wp_frame (a' := ⟨#[.slice A l.length c, undef, undef, undef, undef, undef, undef, undef, undef, undef, undef, undef, undef, undef, undef, undef, undef, undef, undef, undef, undef, undef, undef, undef, undef], []⟩) (by kernel_rfl) ?_
  have M0 : Mem NoS w w [] := Mem.start _ _
  refine wp_seq_k (fun K1 hK1 => ?_)
  refine wl_region ?_
  refine st_val (.int .u8 0) (by kernel_rfl) (by kernel_rfl) ?_
  refine wl_nil ?_
  refine hK1 _ _ ?_
  try clear hK1 K1
  refine wp_seq_k (fun K2 hK2 => ?_)
  refine wp_seq_k (fun K3 hK3 => ?_)
  refine wl_region ?_
  refine st_val (.slice A l.length c) (by kernel_rfl) (by kernel_rfl) ?_
  refine st_val (.int .i64 ((l.length : Nat) : Int)) (by kernel_rfl) (by kernel_rfl) ?_
  refine st_val (.bool false) (by kernel_rfl) (bool_of (dec_f (show ¬ ((((l.length : Nat) : Int) : Int) < 1) by omega)) (by kernel_rfl)) ?_
  refine wl_nil ?_
  refine hK3 _ _ ?_
  try clear hK3 K3
  refine wp_cond_false (by kernel_rfl) ?_
  refine wp_skip ?_
  refine hK2 _ _ ?_
  try clear hK2 K2
  refine wp_seq_k (fun K4 hK4 => ?_)
  refine wl_region ?_
  refine st_val (.slice A l.length c) (by kernel_rfl) (by kernel_rfl) ?_
  obtain ⟨b5, o6, eA7, cx8⟩ := rd_at hr (map_at (k := .u8) (l := l) (n := 0) (by omega))
  refine st_val (.pointer (some ⟨b5, o6 + 0, none⟩)) (by kernel_rfl) (run_indexSliceA 22 (.tmp 9) _ rfl A ⟨b5, o6, none⟩ eA7 l.length c .i64 0 (by kernel_rfl) (by kernel_rfl) Try.underlying22 1 (by kernel_rfl) (by omega) ⟨b5, o6 + 0, none⟩ (addr_at _ _ _)) ?_
  refine st_val (.int .u8 (l.getD 0 0)) (by kernel_rfl) (run_load_cell 5 (.tmp 10) rfl ⟨b5, o6 + 0, none⟩ (by kernel_rfl) _ (Keep.cell M0.keep cx8 (fun h => h)) (by kernel_rfl)) ?_
  refine st_val (.int .u8 (l.getD 0 0)) (by kernel_rfl) (by kernel_rfl) ?_
  refine wl_nil ?_
  refine hK4 _ _ ?_
  try clear hK4 K4
  refine wp_seq_k (fun K9 hK9 => ?_)
  refine wp_seq_k (fun K10 hK10 => ?_)
  refine wl_region ?_
  refine st_val (.int .i64 1) (by kernel_rfl) (by kernel_rfl) ?_
  refine wl_nil ?_
  refine hK10 _ _ ?_
  try clear hK10 K10
  refine wp_block ?_
  refine wp_loop_ghost (fun gn a' w' => ∃ (k : Nat) (u11 : Nat → Value), ((k + 1 ≤ l.length) ∧ Mem NoS w w' []) ∧ gn = l.length - k ∧ a' = ⟨#[.slice A l.length c, undef, .int .u8 0, .int .u8 (minT l k), .int .i64 ((k + 1 : Nat) : Int), .slice A l.length c, .int .i64 ((l.length : Nat) : Int), .bool false, undef, .slice A l.length c, .pointer (some ⟨b5, o6 + 0, none⟩), .int .u8 (l.getD 0 0), (u11 12), (u11 13), (u11 14), (u11 15), (u11 16), (u11 17), (u11 18), (u11 19), (u11 20), (u11 21), (u11 22), (u11 23), undef], []⟩) _ ⟨0, (fun zz => Array.getD #[.slice A l.length c, undef, .int .u8 0, .int .u8 (l.getD 0 0), .int .i64 1, .slice A l.length c, .int .i64 ((l.length : Nat) : Int), .bool false, undef, .slice A l.length c, .pointer (some ⟨b5, o6 + 0, none⟩), .int .u8 (l.getD 0 0), undef, undef, undef, undef, undef, undef, undef, undef, undef, undef, undef, undef, undef] zz undef), ⟨by omega, M0⟩, rfl, (by kernel_rfl)⟩ ?_
  rintro gn _ W12 ⟨k, u11, ⟨rk, M13⟩, rfl, rfl⟩
  refine wp_seq_k (fun K14 hK14 => ?_)
  refine wp_seq_k (fun K15 hK15 => ?_)
  refine wl_region ?_
  refine st_val (.int .i64 ((k + 1 : Nat) : Int)) (by kernel_rfl) (by kernel_rfl) ?_
  refine st_val (.slice A l.length c) (by kernel_rfl) (by kernel_rfl) ?_
  refine st_val (.int .i64 ((l.length : Nat) : Int)) (by kernel_rfl) (by kernel_rfl) ?_
  rcases Decidable.em ((((k + 1 : Nat) : Int) : Int) < ((l.length : Nat) : Int)) with c15 | c15
  ·
    refine st_val (.bool true) (by kernel_rfl) (bool_of (dec_t c15) (by kernel_rfl)) ?_
    refine wl_nil ?_
    refine hK15 _ _ ?_
    try clear hK15 K15
    refine wp_cond_true (by kernel_rfl) ?_
    refine wp_skip ?_
    refine hK14 _ _ ?_
    try clear hK14 K14
    refine wp_seq_k (fun K16 hK16 => ?_)
    refine wp_block ?_
    refine wl_region ?_
    refine st_val (.int .u8 (minT l k)) (by kernel_rfl) (by kernel_rfl) ?_
    refine st_val (.slice A l.length c) (by kernel_rfl) (by kernel_rfl) ?_
    refine st_val (.int .i64 ((k + 1 : Nat) : Int)) (by kernel_rfl) (by kernel_rfl) ?_
    obtain ⟨b17, o18, eA19, cx20⟩ := rd_at hr (map_at (k := .u8) (l := l) (n := (k + 1)) (by omega))
    refine st_val (.pointer (some ⟨b17, o18 + (k + 1), none⟩)) (by kernel_rfl) (run_indexSliceA 22 (.tmp 19) (.tmp 20) rfl A ⟨b17, o18, none⟩ eA19 l.length c .i64 (k + 1) (by kernel_rfl) (by kernel_rfl) Try.underlying22 1 (by kernel_rfl) (by omega) ⟨b17, o18 + (k + 1), none⟩ (addr_at _ _ _)) ?_
    refine st_val (.int .u8 (l.getD (k + 1) 0)) (by kernel_rfl) (run_load_cell 5 (.tmp 21) rfl ⟨b17, o18 + (k + 1), none⟩ (by kernel_rfl) _ (Keep.cell M13.keep cx20 (fun h => h)) (by kernel_rfl)) ?_
    refine st_val (.int .u8 (min (minT l k) (l.getD (k + 1) 0))) (by kernel_rfl) (int_of (ite_min (minT l k) (l.getD (k + 1) 0)) (by kernel_rfl)) ?_
    refine st_val (.int .u8 (min (minT l k) (l.getD (k + 1) 0))) (by kernel_rfl) (by kernel_rfl) ?_
    refine wl_nil ?_
    refine blk_normal ?_
    refine hK16 _ _ ?_
    try clear hK16 K16
    refine wl_region ?_
    refine st_val (.int .i64 ((k + 1 : Nat) : Int)) (by kernel_rfl) (by kernel_rfl) ?_
    refine st_val (.int .i64 (((k + 1 : Nat) : Int) + 1)) (by kernel_rfl) (i64_of (by omega) (by kernel_rfl)) ?_
    refine st_val (.int .i64 (((k + 1 : Nat) : Int) + 1)) (by kernel_rfl) (by kernel_rfl) ?_
    refine wl_nil ?_
    refine th_normal ?_
    exact ⟨_, by omega, (k + 1), (fun zz => Array.getD #[.slice A l.length c, undef, .int .u8 0, .int .u8 (min (minT l k) (l.getD (k + 1) 0)), .int .i64 (((k + 1 : Nat) : Int) + 1), .slice A l.length c, .int .i64 ((l.length : Nat) : Int), .bool false, undef, .slice A l.length c, .pointer (some ⟨b5, o6 + 0, none⟩), .int .u8 (l.getD 0 0), .int .i64 ((k + 1 : Nat) : Int), .slice A l.length c, .int .i64 ((l.length : Nat) : Int), .bool true, .int .i64 ((k + 1 : Nat) : Int), .int .i64 (((k + 1 : Nat) : Int) + 1), .int .u8 (minT l k), .slice A l.length c, .int .i64 ((k + 1 : Nat) : Int), .pointer (some ⟨b17, o18 + (k + 1), none⟩), .int .u8 (l.getD (k + 1) 0), .int .u8 (min (minT l k) (l.getD (k + 1) 0)), undef] zz undef), ⟨by omega, M13⟩, rfl, (by kernel_rfl)⟩
  ·
    refine st_val (.bool false) (by kernel_rfl) (bool_of (dec_f c15) (by kernel_rfl)) ?_
    refine wl_nil ?_
    refine hK15 _ _ ?_
    try clear hK15 K15
    refine wp_cond_false (by kernel_rfl) ?_
    refine wp_exit ?_
    refine th_exit ?_
    refine th_exit ?_
    refine blk_exit ?_
    refine hK9 _ _ ?_
    try clear hK9 K9
    refine wp_seq_k (fun K21 hK21 => ?_)
    refine wl_region ?_
    refine st_val (.int .u8 (minT l k)) (by kernel_rfl) (by kernel_rfl) ?_
    refine st_val (.int .u8 (minT l k)) (by kernel_rfl) (by kernel_rfl) ?_
    refine wl_nil ?_
    refine hK21 _ _ ?_
    try clear hK21 K21
    refine wp_ret ?_
    exact done1 2 (.int .u8 (minT l k)) (by kernel_rfl) (by kernel_rfl) (by kernel_rfl) ⟨by rw [show l.length - 1 = k by omega], M13.toBelow⟩
set_option maxHeartbeats 4000000 in
set_option maxRecDepth 100000 in
theorem valid_walk (w : World) (l : List Int) (hl : l.length = 64) (hb : BL l) : Calls Try.prog 17 #[.agg (bv l)] w fun e w' => e = .returned (.bool (vB l)) ∧ Below w.heap.size w w' := by
  refine calls_of_wp Try.func17 rfl ?_
  refine wp_frame (a' := ⟨#[.agg (bv l), undef, undef, undef, undef, undef], []⟩) (by kernel_rfl) ?_
  have M0 : Mem NoS w w [] := Mem.start _ _
  refine wp_seq_k (fun K1 hK1 => ?_)
  refine wl_region ?_
  refine st_alloc M0 (.cells (bv l) 23 (0, 0)) (by kernel_rfl) (by kernel_rfl) ?_
  intro g2 W3 M4
  refine st_val (.bool false) (by kernel_rfl) (by kernel_rfl) ?_
  refine wl_nil ?_
  refine hK1 _ _ ?_
  try clear hK1 K1
  refine wp_seq_k (fun K5 hK5 => ?_)
  refine wl_region ?_
  refine st_val (.slice (some ⟨g2, 0, none⟩) 64 64) (by kernel_rfl) (run_sliceArr 23 (.tmp 1) rfl ⟨g2, 0, none⟩ (by kernel_rfl) Try.underlying23 1 (by kernel_rfl) rfl (by decide) rfl) ?_
  refine st_callB M4 (.int .u8 (minT l 63)) (by kernel_rfl) (args := #[.slice (some ⟨g2, 0, none⟩) 64 64]) (run_value_call 43 #[(Operand.tmp 3)] _ rfl Try.func43 (by kernel_rfl) (by kernel_rfl) _ (by kernel_rfl)) ((by have := smin_walk W3 (some ⟨g2, 0, none⟩) 64 l (by rw [hl]; exact rd_block (M4.get 0 rfl) (by rw [List.length_map]; exact hl)) (by omega) (by omega); rw [hl] at this; exact this)) ?_
  intro W6 M7
  refine st_val (.bool (decide ((minT l 63 : Int) ≥ 8))) (by kernel_rfl) (by kernel_rfl) ?_
  refine st_val (.bool (decide ((minT l 63 : Int) ≥ 8))) (by kernel_rfl) (by kernel_rfl) ?_
  refine wl_nil ?_
  refine hK5 _ _ ?_
  try clear hK5 K5
  refine wp_ret ?_
  exact done1 2 (.bool (decide ((minT l 63 : Int) ≥ 8))) (by kernel_rfl) (by kernel_rfl) (by kernel_rfl) ⟨by rw [minT_valid hb], M7.toBelow⟩
set_option maxHeartbeats 4000000 in
set_option maxRecDepth 100000 in
theorem refValid_walk (w : World) (l : List Int) (hl : l.length = 64) : Calls Try.prog 18 #[.agg (bv l)] w fun e w' => e = .returned (.bool (vB l)) ∧ Below w.heap.size w w' := by
  refine calls_of_wp Try.func18 rfl ?_
  refine wp_frame (a' := ⟨#[.agg (bv l), undef, undef, undef, undef, undef, undef, undef, undef, undef, undef, undef], []⟩) (by kernel_rfl) ?_
  have M0 : Mem NoS w w [] := Mem.start _ _
  refine wp_seq_k (fun K1 hK1 => ?_)
  refine wl_region ?_
  refine st_alloc M0 (.cells (bv l) 23 (0, 0)) (by kernel_rfl) (by kernel_rfl) ?_
  intro g2 W3 M4
  refine st_val (.bool false) (by kernel_rfl) (by kernel_rfl) ?_
  refine wl_nil ?_
  refine hK1 _ _ ?_
  try clear hK1 K1
  refine wp_seq_k (fun K5 hK5 => ?_)
  refine wp_seq_k (fun K6 hK6 => ?_)
  refine wl_region ?_
  refine st_val (.int .i64 0) (by kernel_rfl) (by kernel_rfl) ?_
  refine wl_nil ?_
  refine hK6 _ _ ?_
  try clear hK6 K6
  refine wp_block ?_
  refine wp_loop_ghost (fun gn a' w' => ∃ (k : Nat) (u7 : Nat → Value), ((k ≤ 64 ∧ ∀ n, n < k → 8 ≤ l.getD n 0) ∧ Mem NoS w w' [(g2, .cells (bv l) 23 (0, 0))]) ∧ gn = 64 - k ∧ a' = ⟨#[.agg (bv l), .pointer (some ⟨g2, 0, none⟩), (u7 2), .int .i64 (k : Int), (u7 4), (u7 5), (u7 6), (u7 7), (u7 8), (u7 9), (u7 10), (u7 11)], []⟩) _ ⟨0, (fun zz => Array.getD #[.agg (bv l), .pointer (some ⟨g2, 0, none⟩), .bool false, .int .i64 0, undef, undef, undef, undef, undef, undef, undef, undef] zz undef), ⟨⟨by omega, fun n h => by omega⟩, M4⟩, rfl, (by kernel_rfl)⟩ ?_
  rintro gn _ W8 ⟨k, u7, ⟨⟨rk, r2⟩, M9⟩, rfl, rfl⟩
  refine wp_seq_k (fun K10 hK10 => ?_)
  refine wp_seq_k (fun K11 hK11 => ?_)
  refine wl_region ?_
  refine st_val (.int .i64 (k : Int)) (by kernel_rfl) (by kernel_rfl) ?_
  rcases Decidable.em (((k : Int) : Int) < 64) with c5 | c5
  ·
    refine st_val (.bool true) (by kernel_rfl) (bool_of (dec_t c5) (by kernel_rfl)) ?_
    refine wl_nil ?_
    refine hK11 _ _ ?_
    try clear hK11 K11
    refine wp_cond_true (by kernel_rfl) ?_
    refine wp_skip ?_
    refine hK10 _ _ ?_
    try clear hK10 K10
    refine wp_seq_k (fun K12 hK12 => ?_)
    refine wp_block ?_
    refine wp_seq_k (fun K13 hK13 => ?_)
    refine wl_region ?_
    refine st_val (.int .i64 (k : Int)) (by kernel_rfl) (by kernel_rfl) ?_
    refine st_val (.pointer (some ⟨g2, k, none⟩)) (by kernel_rfl) (run_indexAddr 23 (.tmp 1) (.tmp 8) rfl ⟨g2, 0, none⟩ .i64 k (by kernel_rfl) (by kernel_rfl) Try.underlying23 1 (by kernel_rfl) (by omega) ⟨g2, k, none⟩ (addr_at0 _ _)) ?_
    refine st_val (.int .u8 (l.getD k 0)) (by kernel_rfl) (run_load_cell 5 (.tmp 9) rfl ⟨g2, k, none⟩ (by kernel_rfl) _ (M9.cell 0 rfl k _ (bv_get l k (by rw [hl]; omega))) (by kernel_rfl)) ?_
    rcases Decidable.em ((l.getD k 0 : Int) < 8) with c11 | c11
    ·
      refine st_val (.bool true) (by kernel_rfl) (bool_of (dec_t c11) (by kernel_rfl)) ?_
      refine wl_nil ?_
      refine hK13 _ _ ?_
      try clear hK13 K13
      refine wp_cond_true (by kernel_rfl) ?_
      refine wp_seq_k (fun K14 hK14 => ?_)
      refine wl_region ?_
      refine st_val (.bool false) (by kernel_rfl) (by kernel_rfl) ?_
      refine wl_nil ?_
      refine hK14 _ _ ?_
      try clear hK14 K14
      refine wp_ret ?_
      refine blk_ret ?_
      refine th_ret ?_
      refine th_ret ?_
      refine blk_ret ?_
      refine th_ret ?_
      exact done1 2 (.bool false) (by kernel_rfl) (by kernel_rfl) (by kernel_rfl) ⟨by rw [show vB l = false from vB_f k (by omega) (by omega)], M9.toBelow⟩
    ·
      refine st_val (.bool false) (by kernel_rfl) (bool_of (dec_f c11) (by kernel_rfl)) ?_
      refine wl_nil ?_
      refine hK13 _ _ ?_
      try clear hK13 K13
      refine wp_cond_false (by kernel_rfl) ?_
      refine wp_skip ?_
      refine blk_normal ?_
      refine hK12 _ _ ?_
      try clear hK12 K12
      refine wl_region ?_
      refine st_val (.int .i64 (k : Int)) (by kernel_rfl) (by kernel_rfl) ?_
      refine st_val (.int .i64 ((k : Int) + 1)) (by kernel_rfl) (i64_of (by omega) (by kernel_rfl)) ?_
      refine st_val (.int .i64 ((k : Int) + 1)) (by kernel_rfl) (by kernel_rfl) ?_
      refine wl_nil ?_
      refine th_normal ?_
      exact ⟨_, by omega, (k + 1), (fun zz => Array.getD #[.agg (bv l), .pointer (some ⟨g2, 0, none⟩), (u7 2), .int .i64 ((k : Int) + 1), .int .i64 (k : Int), .bool true, .int .i64 (k : Int), .int .i64 ((k : Int) + 1), .int .i64 (k : Int), .pointer (some ⟨g2, k, none⟩), .int .u8 (l.getD k 0), .bool false] zz undef), ⟨⟨by omega, fun n h => (Decidable.em (n < k)).elim (r2 n) (fun e => by obtain rfl : n = k := (by omega); omega)⟩, M9⟩, rfl, (by kernel_rfl)⟩
  ·
    refine st_val (.bool false) (by kernel_rfl) (bool_of (dec_f c5) (by kernel_rfl)) ?_
    refine wl_nil ?_
    refine hK11 _ _ ?_
    try clear hK11 K11
    refine wp_cond_false (by kernel_rfl) ?_
    refine wp_exit ?_
    refine th_exit ?_
    refine th_exit ?_
    refine blk_exit ?_
    refine hK5 _ _ ?_
    try clear hK5 K5
    refine wp_seq_k (fun K15 hK15 => ?_)
    refine wl_region ?_
    refine st_val (.bool true) (by kernel_rfl) (by kernel_rfl) ?_
    refine wl_nil ?_
    refine hK15 _ _ ?_
    try clear hK15 K15
    refine wp_ret ?_
    exact done1 2 (.bool true) (by kernel_rfl) (by kernel_rfl) (by kernel_rfl) ⟨by rw [show vB l = true from vB_t fun n hn => r2 n (by omega)], M9.toBelow⟩
set_option maxHeartbeats 4000000 in
set_option maxRecDepth 100000 in
theorem fits_t (w : World) (l : List Int) (hl : l.length = 64) (hb : BL l) (q : Int) (hF : Fit l q) : Calls Try.prog 44 #[.agg (bv l), .int .i64 q] w fun e w' => e = .returned (.bool true) ∧ Below w.heap.size w w' := by
  refine calls_of_wp Try.func44 rfl ?_
  refine wp_frame (a' := ⟨#[.agg (bv l), .int .i64 q, undef, undef, undef, undef, undef, undef, undef, undef, undef, undef, undef, undef, undef], []⟩) (by kernel_rfl) ?_
  have M0 : Mem NoS w w [] := Mem.start _ _
  refine wp_seq_k (fun K1 hK1 => ?_)
  have hq := hF.2
  refine wl_region ?_
  refine st_alloc M0 (.cells (bv l) 23 (0, 0)) (by kernel_rfl) (by kernel_rfl) ?_
  intro g2 W3 M4
  refine st_val (.bool false) (by kernel_rfl) (by kernel_rfl) ?_
  refine wl_nil ?_
  refine hK1 _ _ ?_
  try clear hK1 K1
  refine wp_seq_k (fun K5 hK5 => ?_)
  refine wl_region ?_
  refine st_val (.agg (bv l)) (by kernel_rfl) (run_load_row 23 (.tmp 2) rfl g2 (by kernel_rfl) 23 (bv l) (0, 0) _ (M4.get 0 rfl) Try.underlying23 rfl (infoB64 _ hl)) ?_
  refine st_callB M4 (.bool true) (by kernel_rfl) (args := #[.agg (bv l)]) (run_value_call 17 #[(Operand.tmp 5)] _ rfl Try.func17 (by kernel_rfl) (by kernel_rfl) _ (by kernel_rfl)) ((by have := valid_walk W3 l hl hb; rw [hF.1] at this; exact this)) ?_
  intro W6 M7
  refine st_val (.bool true) (by kernel_rfl) (by kernel_rfl) ?_
  refine st_val (.int .i64 q) (by kernel_rfl) (by kernel_rfl) ?_
  refine st_val (.bool true) (by kernel_rfl) (bool_of (dec_t (show (q : Int) ≥ 1 by omega)) (by kernel_rfl)) ?_
  refine st_val (.bool true) (by kernel_rfl) (by kernel_rfl) ?_
  refine st_val (.bool true) (by kernel_rfl) (by kernel_rfl) ?_
  refine st_val (.int .i64 q) (by kernel_rfl) (by kernel_rfl) ?_
  refine st_val (.bool true) (by kernel_rfl) (bool_of (dec_t (show (q : Int) ≤ 31 by omega)) (by kernel_rfl)) ?_
  refine st_val (.bool true) (by kernel_rfl) (by kernel_rfl) ?_
  refine st_val (.bool true) (by kernel_rfl) (by kernel_rfl) ?_
  refine wl_nil ?_
  refine hK5 _ _ ?_
  try clear hK5 K5
  refine wp_frame (a' := ⟨#[.agg (bv l), .int .i64 q, .pointer (some ⟨g2, 0, none⟩), undef, .bool true, .agg (bv l), .bool true, .bool true, .int .i64 q, .bool true, .bool true, .bool true, .int .i64 q, .bool true, .bool true], []⟩) (by kernel_rfl) ?_
  refine wp_ret ?_
  exact done1 4 (.bool true) (by kernel_rfl) (by kernel_rfl) (by kernel_rfl) ⟨rfl, M7.toBelow⟩
set_option maxHeartbeats 4000000 in
set_option maxRecDepth 100000 in
theorem fits_f (w : World) (l : List Int) (hl : l.length = 64) (hb : BL l) (q : Int) (hF : ¬ Fit l q) : Calls Try.prog 44 #[.agg (bv l), .int .i64 q] w fun e w' => e = .returned (.bool false) ∧ Below w.heap.size w w' := by
  refine calls_of_wp Try.func44 rfl ?_
  refine wp_frame (a' := ⟨#[.agg (bv l), .int .i64 q, undef, undef, undef, undef, undef, undef, undef, undef, undef, undef, undef, undef, undef], []⟩) (by kernel_rfl) ?_
  have M0 : Mem NoS w w [] := Mem.start _ _
  refine wp_seq_k (fun K1 hK1 => ?_)
  refine wl_region ?_
  refine st_alloc M0 (.cells (bv l) 23 (0, 0)) (by kernel_rfl) (by kernel_rfl) ?_
  intro g2 W3 M4
  refine st_val (.bool false) (by kernel_rfl) (by kernel_rfl) ?_
  refine wl_nil ?_
  refine hK1 _ _ ?_
  try clear hK1 K1
  refine wp_seq_k (fun K5 hK5 => ?_)
  refine wl_region ?_
  refine st_val (.agg (bv l)) (by kernel_rfl) (run_load_row 23 (.tmp 2) rfl g2 (by kernel_rfl) 23 (bv l) (0, 0) _ (M4.get 0 rfl) Try.underlying23 rfl (infoB64 _ hl)) ?_
  rcases Bool.eq_false_or_eq_true (vB l) with hv | hv
  ·
    refine st_callB M4 (.bool true) (by kernel_rfl) (args := #[.agg (bv l)]) (run_value_call 17 #[(Operand.tmp 5)] _ rfl Try.func17 (by kernel_rfl) (by kernel_rfl) _ (by kernel_rfl)) ((by have := valid_walk W3 l hl hb; rw [hv] at this; exact this)) ?_
    intro W6 M7
    refine st_val (.bool true) (by kernel_rfl) (by kernel_rfl) ?_
    refine st_val (.int .i64 q) (by kernel_rfl) (by kernel_rfl) ?_
    rcases Decidable.em ((q : Int) ≥ 1) with c9 | c9
    ·
      refine st_val (.bool true) (by kernel_rfl) (bool_of (dec_t c9) (by kernel_rfl)) ?_
      refine st_val (.bool true) (by kernel_rfl) (by kernel_rfl) ?_
      refine st_val (.bool true) (by kernel_rfl) (by kernel_rfl) ?_
      refine st_val (.int .i64 q) (by kernel_rfl) (by kernel_rfl) ?_
      rcases Decidable.em ((q : Int) ≤ 31) with c13 | c13
      ·
        exact (hF ⟨hv, by omega, by omega⟩).elim
      ·
        refine st_val (.bool false) (by kernel_rfl) (bool_of (dec_f c13) (by kernel_rfl)) ?_
        refine st_val (.bool false) (by kernel_rfl) (by kernel_rfl) ?_
        refine st_val (.bool false) (by kernel_rfl) (by kernel_rfl) ?_
        refine wl_nil ?_
        refine hK5 _ _ ?_
        try clear hK5 K5
        refine wp_frame (a' := ⟨#[.agg (bv l), .int .i64 q, .pointer (some ⟨g2, 0, none⟩), undef, .bool false, .agg (bv l), .bool true, .bool true, .int .i64 q, .bool true, .bool true, .bool true, .int .i64 q, .bool false, .bool false], []⟩) (by kernel_rfl) ?_
        refine wp_ret ?_
        exact done1 4 (.bool false) (by kernel_rfl) (by kernel_rfl) (by kernel_rfl) ⟨rfl, M7.toBelow⟩
    ·
      refine st_val (.bool false) (by kernel_rfl) (bool_of (dec_f c9) (by kernel_rfl)) ?_
      refine st_val (.bool false) (by kernel_rfl) (by kernel_rfl) ?_
      refine st_val (.bool false) (by kernel_rfl) (by kernel_rfl) ?_
      refine st_skip (by kernel_rfl) ?_
      refine st_skip (by kernel_rfl) ?_
      refine st_val (.bool false) (by kernel_rfl) (by kernel_rfl) ?_
      refine st_val (.bool false) (by kernel_rfl) (by kernel_rfl) ?_
      refine wl_nil ?_
      refine hK5 _ _ ?_
      try clear hK5 K5
      refine wp_frame (a' := ⟨#[.agg (bv l), .int .i64 q, .pointer (some ⟨g2, 0, none⟩), undef, .bool false, .agg (bv l), .bool true, .bool true, .int .i64 q, .bool false, .bool false, .bool false, undef, undef, .bool false], []⟩) (by kernel_rfl) ?_
      refine wp_ret ?_
      exact done1 4 (.bool false) (by kernel_rfl) (by kernel_rfl) (by kernel_rfl) ⟨rfl, M7.toBelow⟩
  ·
    refine st_callB M4 (.bool false) (by kernel_rfl) (args := #[.agg (bv l)]) (run_value_call 17 #[(Operand.tmp 5)] _ rfl Try.func17 (by kernel_rfl) (by kernel_rfl) _ (by kernel_rfl)) ((by have := valid_walk W3 l hl hb; rw [hv] at this; exact this)) ?_
    intro W8 M9
    refine st_val (.bool false) (by kernel_rfl) (by kernel_rfl) ?_
    refine st_skip (by kernel_rfl) ?_
    refine st_skip (by kernel_rfl) ?_
    refine st_val (.bool false) (by kernel_rfl) (by kernel_rfl) ?_
    refine st_val (.bool false) (by kernel_rfl) (by kernel_rfl) ?_
    refine st_skip (by kernel_rfl) ?_
    refine st_skip (by kernel_rfl) ?_
    refine st_val (.bool false) (by kernel_rfl) (by kernel_rfl) ?_
    refine st_val (.bool false) (by kernel_rfl) (by kernel_rfl) ?_
    refine wl_nil ?_
    refine hK5 _ _ ?_
    try clear hK5 K5
    refine wp_frame (a' := ⟨#[.agg (bv l), .int .i64 q, .pointer (some ⟨g2, 0, none⟩), undef, .bool false, .agg (bv l), .bool false, .bool false, undef, undef, .bool false, .bool false, undef, undef, .bool false], []⟩) (by kernel_rfl) ?_
    refine wp_ret ?_
    exact done1 4 (.bool false) (by kernel_rfl) (by kernel_rfl) (by kernel_rfl) ⟨rfl, M9.toBelow⟩
set_option maxHeartbeats 4000000 in
set_option maxRecDepth 100000 in
theorem refMay_t (w : World) (l : List Int) (hl : l.length = 64) (hb : BL l) (q : Int) (hF : Fit l q) : Calls Try.prog 23 #[.agg (bv l), .int .i64 q] w fun e w' => e = .returned (.bool true) ∧ Below w.heap.size w w' := by
  refine calls_of_wp Try.func23 rfl ?_
  refine wp_frame (a' := ⟨#[.agg (bv l), .int .i64 q, undef, undef, undef, undef, undef, undef, undef, undef, undef, undef, undef, undef, undef], []⟩) (by kernel_rfl) ?_
  have M0 : Mem NoS w w [] := Mem.start _ _
  refine wp_seq_k (fun K1 hK1 => ?_)
  have hq := hF.2
  refine wl_region ?_
  refine st_alloc M0 (.cells (bv l) 23 (0, 0)) (by kernel_rfl) (by kernel_rfl) ?_
  intro g2 W3 M4
  refine st_val (.bool false) (by kernel_rfl) (by kernel_rfl) ?_
  refine wl_nil ?_
  refine hK1 _ _ ?_
  try clear hK1 K1
  refine wp_seq_k (fun K5 hK5 => ?_)
  refine wl_region ?_
  refine st_val (.agg (bv l)) (by kernel_rfl) (run_load_row 23 (.tmp 2) rfl g2 (by kernel_rfl) 23 (bv l) (0, 0) _ (M4.get 0 rfl) Try.underlying23 rfl (infoB64 _ hl)) ?_
  refine st_callB M4 (.bool true) (by kernel_rfl) (args := #[.agg (bv l)]) (run_value_call 18 #[(Operand.tmp 5)] _ rfl Try.func18 (by kernel_rfl) (by kernel_rfl) _ (by kernel_rfl)) ((by have := refValid_walk W3 l hl; rw [hF.1] at this; exact this)) ?_
  intro W6 M7
  refine st_val (.bool true) (by kernel_rfl) (by kernel_rfl) ?_
  refine st_val (.int .i64 q) (by kernel_rfl) (by kernel_rfl) ?_
  refine st_val (.bool true) (by kernel_rfl) (bool_of (dec_t (show (q : Int) ≥ 1 by omega)) (by kernel_rfl)) ?_
  refine st_val (.bool true) (by kernel_rfl) (by kernel_rfl) ?_
  refine st_val (.bool true) (by kernel_rfl) (by kernel_rfl) ?_
  refine st_val (.int .i64 q) (by kernel_rfl) (by kernel_rfl) ?_
  refine st_val (.bool true) (by kernel_rfl) (bool_of (dec_t (show (q : Int) ≤ 31 by omega)) (by kernel_rfl)) ?_
  refine st_val (.bool true) (by kernel_rfl) (by kernel_rfl) ?_
  refine st_val (.bool true) (by kernel_rfl) (by kernel_rfl) ?_
  refine wl_nil ?_
  refine hK5 _ _ ?_
  try clear hK5 K5
  refine wp_frame (a' := ⟨#[.agg (bv l), .int .i64 q, .pointer (some ⟨g2, 0, none⟩), undef, .bool true, .agg (bv l), .bool true, .bool true, .int .i64 q, .bool true, .bool true, .bool true, .int .i64 q, .bool true, .bool true], []⟩) (by kernel_rfl) ?_
  refine wp_ret ?_
  exact done1 4 (.bool true) (by kernel_rfl) (by kernel_rfl) (by kernel_rfl) ⟨rfl, M7.toBelow⟩
set_option maxHeartbeats 4000000 in
set_option maxRecDepth 100000 in
theorem refMay_f (w : World) (l : List Int) (hl : l.length = 64) (hb : BL l) (q : Int) (hF : ¬ Fit l q) : Calls Try.prog 23 #[.agg (bv l), .int .i64 q] w fun e w' => e = .returned (.bool false) ∧ Below w.heap.size w w' := by
  refine calls_of_wp Try.func23 rfl ?_
  refine wp_frame (a' := ⟨#[.agg (bv l), .int .i64 q, undef, undef, undef, undef, undef, undef, undef, undef, undef, undef, undef, undef, undef], []⟩) (by kernel_rfl) ?_
  have M0 : Mem NoS w w [] := Mem.start _ _
  refine wp_seq_k (fun K1 hK1 => ?_)
  refine wl_region ?_
  refine st_alloc M0 (.cells (bv l) 23 (0, 0)) (by kernel_rfl) (by kernel_rfl) ?_
  intro g2 W3 M4
  refine st_val (.bool false) (by kernel_rfl) (by kernel_rfl) ?_
  refine wl_nil ?_
  refine hK1 _ _ ?_
  try clear hK1 K1
  refine wp_seq_k (fun K5 hK5 => ?_)
  refine wl_region ?_
  refine st_val (.agg (bv l)) (by kernel_rfl) (run_load_row 23 (.tmp 2) rfl g2 (by kernel_rfl) 23 (bv l) (0, 0) _ (M4.get 0 rfl) Try.underlying23 rfl (infoB64 _ hl)) ?_
  rcases Bool.eq_false_or_eq_true (vB l) with hv | hv
  ·
    refine st_callB M4 (.bool true) (by kernel_rfl) (args := #[.agg (bv l)]) (run_value_call 18 #[(Operand.tmp 5)] _ rfl Try.func18 (by kernel_rfl) (by kernel_rfl) _ (by kernel_rfl)) ((by have := refValid_walk W3 l hl; rw [hv] at this; exact this)) ?_
    intro W6 M7
    refine st_val (.bool true) (by kernel_rfl) (by kernel_rfl) ?_
    refine st_val (.int .i64 q) (by kernel_rfl) (by kernel_rfl) ?_
    rcases Decidable.em ((q : Int) ≥ 1) with c9 | c9
    ·
      refine st_val (.bool true) (by kernel_rfl) (bool_of (dec_t c9) (by kernel_rfl)) ?_
      refine st_val (.bool true) (by kernel_rfl) (by kernel_rfl) ?_
      refine st_val (.bool true) (by kernel_rfl) (by kernel_rfl) ?_
      refine st_val (.int .i64 q) (by kernel_rfl) (by kernel_rfl) ?_
      rcases Decidable.em ((q : Int) ≤ 31) with c13 | c13
      ·
        exact (hF ⟨hv, by omega, by omega⟩).elim
      ·
        refine st_val (.bool false) (by kernel_rfl) (bool_of (dec_f c13) (by kernel_rfl)) ?_
        refine st_val (.bool false) (by kernel_rfl) (by kernel_rfl) ?_
        refine st_val (.bool false) (by kernel_rfl) (by kernel_rfl) ?_
        refine wl_nil ?_
        refine hK5 _ _ ?_
        try clear hK5 K5
        refine wp_frame (a' := ⟨#[.agg (bv l), .int .i64 q, .pointer (some ⟨g2, 0, none⟩), undef, .bool false, .agg (bv l), .bool true, .bool true, .int .i64 q, .bool true, .bool true, .bool true, .int .i64 q, .bool false, .bool false], []⟩) (by kernel_rfl) ?_
        refine wp_ret ?_
        exact done1 4 (.bool false) (by kernel_rfl) (by kernel_rfl) (by kernel_rfl) ⟨rfl, M7.toBelow⟩
    ·
      refine st_val (.bool false) (by kernel_rfl) (bool_of (dec_f c9) (by kernel_rfl)) ?_
      refine st_val (.bool false) (by kernel_rfl) (by kernel_rfl) ?_
      refine st_val (.bool false) (by kernel_rfl) (by kernel_rfl) ?_
      refine st_skip (by kernel_rfl) ?_
      refine st_skip (by kernel_rfl) ?_
      refine st_val (.bool false) (by kernel_rfl) (by kernel_rfl) ?_
      refine st_val (.bool false) (by kernel_rfl) (by kernel_rfl) ?_
      refine wl_nil ?_
      refine hK5 _ _ ?_
      try clear hK5 K5
      refine wp_frame (a' := ⟨#[.agg (bv l), .int .i64 q, .pointer (some ⟨g2, 0, none⟩), undef, .bool false, .agg (bv l), .bool true, .bool true, .int .i64 q, .bool false, .bool false, .bool false, undef, undef, .bool false], []⟩) (by kernel_rfl) ?_
      refine wp_ret ?_
      exact done1 4 (.bool false) (by kernel_rfl) (by kernel_rfl) (by kernel_rfl) ⟨rfl, M7.toBelow⟩
  ·
    refine st_callB M4 (.bool false) (by kernel_rfl) (args := #[.agg (bv l)]) (run_value_call 18 #[(Operand.tmp 5)] _ rfl Try.func18 (by kernel_rfl) (by kernel_rfl) _ (by kernel_rfl)) ((by have := refValid_walk W3 l hl; rw [hv] at this; exact this)) ?_
    intro W8 M9
    refine st_val (.bool false) (by kernel_rfl) (by kernel_rfl) ?_
    refine st_skip (by kernel_rfl) ?_
    refine st_skip (by kernel_rfl) ?_
    refine st_val (.bool false) (by kernel_rfl) (by kernel_rfl) ?_
    refine st_val (.bool false) (by kernel_rfl) (by kernel_rfl) ?_
    refine st_skip (by kernel_rfl) ?_
    refine st_skip (by kernel_rfl) ?_
    refine st_val (.bool false) (by kernel_rfl) (by kernel_rfl) ?_
    refine st_val (.bool false) (by kernel_rfl) (by kernel_rfl) ?_
    refine wl_nil ?_
    refine hK5 _ _ ?_
    try clear hK5 K5
    refine wp_frame (a' := ⟨#[.agg (bv l), .int .i64 q, .pointer (some ⟨g2, 0, none⟩), undef, .bool false, .agg (bv l), .bool false, .bool false, undef, undef, .bool false, .bool false, undef, undef, .bool false], []⟩) (by kernel_rfl) ?_
    refine wp_ret ?_
    exact done1 4 (.bool false) (by kernel_rfl) (by kernel_rfl) (by kernel_rfl) ⟨rfl, M9.toBelow⟩
end Go.Proofs.Ytjclncmpfdfkfaa
