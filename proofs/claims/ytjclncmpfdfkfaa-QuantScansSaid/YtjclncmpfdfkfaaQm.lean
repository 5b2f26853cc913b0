/- The laws' block and matrix, the flat matrix. -/
import Derived.Test.YtjclncmpfdfkfaaQv
import Derived.Test.YtjclncmpfdfkfaaFst
import Derived.Test.YtjclncmpfdfkfaaOrA
namespace Go.Proofs.Ytjclncmpfdfkfaa
open Go.RowKit

def flat : List Int := tab 64 (fun _ => 16)
def flTo (k n : Nat) : Int := if n < k then 16 else 0
theorem flTo_zero : tab 64 (flTo 0) = zeros := tab_congr fun n hn => by unfold flTo; rw [if_neg (by omega)]
theorem flTo_end (k : Nat) (hk : 64 ≤ k) : tab 64 (flTo k) = flat := tab_congr fun n hn => by unfold flTo; rw [if_pos (by omega)]
theorem flTo_next (k : Nat) : (tab 64 (flTo k)).set k 16 = tab 64 (flTo (k + 1)) := by
  rw [tab_set]
  refine tab_congr fun n hn => ?_
  unfold flTo
  by_cases e : n = k
  · subst e; rw [if_pos rfl, if_pos (by omega)]
  · rw [if_neg e]
    by_cases e2 : n < k
    · rw [if_pos e2, if_pos (by omega)]
    · rw [if_neg e2, if_neg (by omega)]
/-- the matrix that a list of bytes makes -/
def matTo (l : List Int) (k n : Nat) : Int := if n < k then l.getD n 0 else 16
def matOf (l : List Int) : List Int := tab 64 (matTo l l.length)
theorem matOf_length (l : List Int) : (matOf l).length = 64 := tab_length _ _
theorem matTo_zero (l : List Int) : tab 64 (matTo l 0) = flat := tab_congr fun n hn => by unfold matTo; rw [if_neg (by omega)]
theorem matTo_end (l : List Int) (k : Nat) (hk : 64 ≤ k ∨ k = l.length) (hl : k ≤ l.length) : tab 64 (matTo l k) = matOf l := tab_congr fun n hn => by
  unfold matTo
  rcases hk with h | h
  · rw [if_pos (by omega), if_pos (by omega)]
  · rw [h]
theorem matTo_next (l : List Int) (k : Nat) : (tab 64 (matTo l k)).set k (l.getD k 0) = tab 64 (matTo l (k + 1)) := by
  rw [tab_set]
  refine tab_congr fun n hn => ?_
  unfold matTo
  by_cases e : n = k
  · subst e; rw [if_pos rfl, if_pos (by omega)]
  · rw [if_neg e]
    by_cases e2 : n < k
    · rw [if_pos e2, if_pos (by omega)]
    · rw [if_neg e2, if_neg (by omega)]
theorem matOf_BL {l : List Int} (h : ∀ x ∈ l, 0 ≤ x ∧ x < 256) : BL (matOf l) := by
  intro n hn
  unfold matOf
  rw [tab_getD _ _ _ hn]
  unfold matTo
  split
  · rename_i hlt
    rw [List.getD_eq_getElem?_getD, List.getElem?_eq_getElem hlt]
    exact h _ (List.getElem_mem hlt)
  · omega
def blkTo (l : List Int) (k n : Nat) : Int := if n < k then l.getD n 0 else 0
theorem blkTo_zero (l : List Int) : tab 64 (blkTo l 0) = zeros := tab_congr fun n hn => by unfold blkTo; rw [if_neg (by omega)]
theorem blkTo_end (l : List Int) (k : Nat) (hk : 64 ≤ k ∨ k = l.length) (hl : k ≤ l.length) : tab 64 (blkTo l k) = blockOf l := tab_congr fun n hn => by
  unfold blkTo
  rcases hk with h | h
  · rw [if_pos (by omega)]
  · by_cases e : n < k
    · rw [if_pos e]
    · rw [if_neg e, List.getD_eq_getElem?_getD, List.getElem?_eq_none (by omega)]; rfl
theorem blkTo_next (l : List Int) (k : Nat) : (tab 64 (blkTo l k)).set k (l.getD k 0) = tab 64 (blkTo l (k + 1)) := by
  rw [tab_set]
  refine tab_congr fun n hn => ?_
  unfold blkTo
  by_cases e : n = k
  · subst e; rw [if_pos rfl, if_pos (by omega)]
  · rw [if_neg e]
    by_cases e2 : n < k
    · rw [if_pos e2, if_pos (by omega)]
    · rw [if_neg e2, if_neg (by omega)]
set_option maxHeartbeats 4000000 in
set_option maxRecDepth 100000 in
theorem defInter_walk (w : World) : Calls Try.prog 38 #[] w fun e w' => e = .returned (.agg (bv flat)) ∧ Below w.heap.size w w' := by
  refine calls_of_wp Try.func38 rfl ?_
  refine wp_frame (a' := ⟨#[undef, undef, undef, undef, undef, undef, undef, undef, undef, undef], []⟩) (by kernel_rfl) ?_
  have M0 : Mem NoS w w [] := Mem.start _ _
  refine wp_seq_k (fun K1 hK1 => ?_)
  refine wl_region ?_
  refine st_alloc M0 (.cells (bv zeros) 23 (0, 0)) (by kernel_rfl) (by kernel_rfl) ?_
  intro g2 W3 M4
  refine wl_nil ?_
  refine hK1 _ _ ?_
  try clear hK1 K1
  refine wp_seq_k (fun K5 hK5 => ?_)
  refine wl_region ?_
  refine st_alloc M4 (.cells (bv zeros) 23 (0, 0)) (by kernel_rfl) (by kernel_rfl) ?_
  intro g6 W7 M8
  refine wl_nil ?_
  refine hK5 _ _ ?_
  try clear hK5 K5
  refine wp_seq_k (fun K9 hK9 => ?_)
  refine wp_seq_k (fun K10 hK10 => ?_)
  refine wl_region ?_
  refine st_val (.int .i64 0) (by kernel_rfl) (by kernel_rfl) ?_
  refine wl_nil ?_
  refine hK10 _ _ ?_
  try clear hK10 K10
  refine wp_block ?_
  refine wp_loop_ghost (fun gn a' w' => ∃ (k : Nat) (u11 : Nat → Value), ((k ≤ 64) ∧ Mem NoS w w' [(g6, .cells (bv (tab 64 (flTo k))) 23 (0, 0)), (g2, .cells (bv zeros) 23 (0, 0))]) ∧ gn = 64 - k ∧ a' = ⟨#[.pointer (some ⟨g2, 0, none⟩), .pointer (some ⟨g6, 0, none⟩), (u11 2), .int .i64 (k : Int), (u11 4), (u11 5), (u11 6), (u11 7), (u11 8), undef], []⟩) _ ⟨0, (fun zz => Array.getD #[.pointer (some ⟨g2, 0, none⟩), .pointer (some ⟨g6, 0, none⟩), undef, .int .i64 0, undef, undef, undef, undef, undef, undef] zz undef), ⟨by omega, (by rw [flTo_zero]; exact M8)⟩, rfl, (by kernel_rfl)⟩ ?_
  rintro gn _ W12 ⟨k, u11, ⟨rk, M13⟩, rfl, rfl⟩
  refine wp_seq_k (fun K14 hK14 => ?_)
  refine wl_region ?_
  rcases Decidable.em (((k : Int) : Int) < 64) with c4 | c4
  ·
    refine st_val (.bool true) (by kernel_rfl) (bool_of (dec_t c4) (by kernel_rfl)) ?_
    refine wl_nil ?_
    refine hK14 _ _ ?_
    try clear hK14 K14
    refine wp_seq_k (fun K15 hK15 => ?_)
    refine wp_cond_true (by kernel_rfl) ?_
    refine wp_skip ?_
    refine hK15 _ _ ?_
    try clear hK15 K15
    refine wp_seq_k (fun K16 hK16 => ?_)
    refine wp_block ?_
    refine wp_seq_k (fun K17 hK17 => ?_)
    refine wl_region ?_
    refine st_val (.int .i64 (k : Int)) (by kernel_rfl) (by kernel_rfl) ?_
    refine st_val (.int .i64 (k : Int)) (by kernel_rfl) (by kernel_rfl) ?_
    refine wl_nil ?_
    refine hK17 _ _ ?_
    try clear hK17 K17
    refine wl_region ?_
    refine st_val (.int .i64 (k : Int)) (by kernel_rfl) (by kernel_rfl) ?_
    refine st_val (.pointer (some ⟨g6, k, none⟩)) (by kernel_rfl) (run_indexAddr 23 (.tmp 1) (.tmp 6) rfl ⟨g6, 0, none⟩ .i64 k (by kernel_rfl) (by kernel_rfl) Try.underlying23 1 (by kernel_rfl) (by omega) ⟨g6, k, none⟩ (addr_at0 _ _)) ?_
    refine st_storeCell M13 0 rfl 5 (.tmp 7) _ (by rfl) k (.int .u8 16) (bv ((tab 64 (flTo k)).set k 16)) (by kernel_rfl) (by kernel_rfl) (by rw [bv_size, (tab_length _ _)]; omega) (by kernel_rfl) rfl (by kernel_rfl) (bv_set _ _ _) (by kernel_rfl) [(g6, .cells (bv ((tab 64 (flTo k)).set k 16)) 23 (0, 0)), (g2, .cells (bv zeros) 23 (0, 0))] rfl ?_
    intro W18 M19
    refine wl_nil ?_
    refine blk_normal ?_
    refine hK16 _ _ ?_
    try clear hK16 K16
    refine wl_region ?_
    refine st_val (.int .i64 ((k : Int) + 1)) (by kernel_rfl) (i64_of (by omega) (by kernel_rfl)) ?_
    refine st_val (.int .i64 ((k : Int) + 1)) (by kernel_rfl) (by kernel_rfl) ?_
    refine wl_nil ?_
    refine th_normal ?_
    exact ⟨_, by omega, (k + 1), (fun zz => Array.getD #[.pointer (some ⟨g2, 0, none⟩), .pointer (some ⟨g6, 0, none⟩), .int .i64 (k : Int), .int .i64 ((k : Int) + 1), .bool true, .int .i64 (k : Int), .int .i64 (k : Int), .pointer (some ⟨g6, k, none⟩), .int .i64 ((k : Int) + 1), undef] zz undef), ⟨by omega, (by rw [← flTo_next k]; exact M19)⟩, rfl, (by kernel_rfl)⟩
  ·
    refine st_val (.bool false) (by kernel_rfl) (bool_of (dec_f c4) (by kernel_rfl)) ?_
    refine wl_nil ?_
    refine hK14 _ _ ?_
    try clear hK14 K14
    refine wp_seq_k (fun K20 hK20 => ?_)
    refine wp_cond_false (by kernel_rfl) ?_
    refine wp_exit ?_
    refine th_exit ?_
    refine th_exit ?_
    refine blk_exit ?_
    refine hK9 _ _ ?_
    try clear hK9 K9
    refine wp_seq_k (fun K21 hK21 => ?_)
    have M22 : Mem NoS w W12 [(g6, .cells (bv flat) 23 (0, 0)), (g2, .cells (bv zeros) 23 (0, 0))] := by
      have hh := M13; rw [flTo_end k (by omega)] at hh; exact hh
    refine wl_region ?_
    refine st_val (.agg (bv flat)) (by kernel_rfl) (run_load_row 23 (.tmp 1) rfl g6 (by kernel_rfl) 23 (bv flat) (0, 0) _ (M22.get 0 rfl) Try.underlying23 rfl (infoB64 _ (tab_length _ _))) ?_
    refine st_storeRow M22 1 rfl 23 (.tmp 0) (.tmp 9) (by rfl) (bv flat) (by kernel_rfl) (by kernel_rfl) (infoB64 _ (tab_length _ _)) (bv_same (tab_length _ _) zeros_length) (bv_one _) (by kernel_rfl) [(g6, .cells (bv flat) 23 (0, 0)), (g2, .cells (bv flat) 23 (0, 0))] rfl ?_
    intro W23 M24
    refine wl_nil ?_
    refine hK21 _ _ ?_
    try clear hK21 K21
    refine wp_ret ?_
    exact doneRow 0 23 g2 23 (bv flat) (0, 0) _ (by kernel_rfl) (by kernel_rfl) (M24.get 1 rfl) Try.underlying23 rfl (infoB64 _ (tab_length _ _)) (by kernel_rfl) ⟨rfl, M24.toBelow⟩
set_option maxHeartbeats 4000000 in
set_option maxRecDepth 100000 in
theorem refInter_walk (w : World) : Calls Try.prog 39 #[] w fun e w' => e = .returned (.agg (bv flat)) ∧ Below w.heap.size w w' := by
  refine calls_of_wp Try.func39 rfl ?_
  refine wp_frame (a' := ⟨#[undef, undef, undef, undef, undef, undef, undef, undef, undef, undef], []⟩) (by kernel_rfl) ?_
  have M0 : Mem NoS w w [] := Mem.start _ _
  refine wp_seq_k (fun K1 hK1 => ?_)
  refine wl_region ?_
  refine st_alloc M0 (.cells (bv zeros) 23 (0, 0)) (by kernel_rfl) (by kernel_rfl) ?_
  intro g2 W3 M4
  refine wl_nil ?_
  refine hK1 _ _ ?_
  try clear hK1 K1
  refine wp_seq_k (fun K5 hK5 => ?_)
  refine wl_region ?_
  refine st_alloc M4 (.cells (bv zeros) 23 (0, 0)) (by kernel_rfl) (by kernel_rfl) ?_
  intro g6 W7 M8
  refine wl_nil ?_
  refine hK5 _ _ ?_
  try clear hK5 K5
  refine wp_seq_k (fun K9 hK9 => ?_)
  refine wp_seq_k (fun K10 hK10 => ?_)
  refine wl_region ?_
  refine st_val (.int .i64 0) (by kernel_rfl) (by kernel_rfl) ?_
  refine wl_nil ?_
  refine hK10 _ _ ?_
  try clear hK10 K10
  refine wp_block ?_
  refine wp_loop_ghost (fun gn a' w' => ∃ (k : Nat) (u11 : Nat → Value), ((k ≤ 64) ∧ Mem NoS w w' [(g6, .cells (bv (tab 64 (flTo k))) 23 (0, 0)), (g2, .cells (bv zeros) 23 (0, 0))]) ∧ gn = 64 - k ∧ a' = ⟨#[.pointer (some ⟨g2, 0, none⟩), .pointer (some ⟨g6, 0, none⟩), .int .i64 (k : Int), (u11 3), (u11 4), (u11 5), (u11 6), (u11 7), (u11 8), undef], []⟩) _ ⟨0, (fun zz => Array.getD #[.pointer (some ⟨g2, 0, none⟩), .pointer (some ⟨g6, 0, none⟩), .int .i64 0, undef, undef, undef, undef, undef, undef, undef] zz undef), ⟨by omega, (by rw [flTo_zero]; exact M8)⟩, rfl, (by kernel_rfl)⟩ ?_
  rintro gn _ W12 ⟨k, u11, ⟨rk, M13⟩, rfl, rfl⟩
  refine wp_seq_k (fun K14 hK14 => ?_)
  refine wp_seq_k (fun K15 hK15 => ?_)
  refine wl_region ?_
  refine st_val (.int .i64 (k : Int)) (by kernel_rfl) (by kernel_rfl) ?_
  rcases Decidable.em (((k : Int) : Int) < 64) with c4 | c4
  ·
    refine st_val (.bool true) (by kernel_rfl) (bool_of (dec_t c4) (by kernel_rfl)) ?_
    refine wl_nil ?_
    refine hK15 _ _ ?_
    try clear hK15 K15
    refine wp_cond_true (by kernel_rfl) ?_
    refine wp_skip ?_
    refine hK14 _ _ ?_
    try clear hK14 K14
    refine wp_seq_k (fun K16 hK16 => ?_)
    refine wp_block ?_
    refine wl_region ?_
    refine st_val (.int .i64 (k : Int)) (by kernel_rfl) (by kernel_rfl) ?_
    refine st_val (.pointer (some ⟨g6, k, none⟩)) (by kernel_rfl) (run_indexAddr 23 (.tmp 1) (.tmp 7) rfl ⟨g6, 0, none⟩ .i64 k (by kernel_rfl) (by kernel_rfl) Try.underlying23 1 (by kernel_rfl) (by omega) ⟨g6, k, none⟩ (addr_at0 _ _)) ?_
    refine st_storeCell M13 0 rfl 5 (.tmp 8) _ (by rfl) k (.int .u8 16) (bv ((tab 64 (flTo k)).set k 16)) (by kernel_rfl) (by kernel_rfl) (by rw [bv_size, (tab_length _ _)]; omega) (by kernel_rfl) rfl (by kernel_rfl) (bv_set _ _ _) (by kernel_rfl) [(g6, .cells (bv ((tab 64 (flTo k)).set k 16)) 23 (0, 0)), (g2, .cells (bv zeros) 23 (0, 0))] rfl ?_
    intro W17 M18
    refine wl_nil ?_
    refine blk_normal ?_
    refine hK16 _ _ ?_
    try clear hK16 K16
    refine wl_region ?_
    refine st_val (.int .i64 (k : Int)) (by kernel_rfl) (by kernel_rfl) ?_
    refine st_val (.int .i64 ((k : Int) + 1)) (by kernel_rfl) (i64_of (by omega) (by kernel_rfl)) ?_
    refine st_val (.int .i64 ((k : Int) + 1)) (by kernel_rfl) (by kernel_rfl) ?_
    refine wl_nil ?_
    refine th_normal ?_
    exact ⟨_, by omega, (k + 1), (fun zz => Array.getD #[.pointer (some ⟨g2, 0, none⟩), .pointer (some ⟨g6, 0, none⟩), .int .i64 ((k : Int) + 1), .int .i64 (k : Int), .bool true, .int .i64 (k : Int), .int .i64 ((k : Int) + 1), .int .i64 (k : Int), .pointer (some ⟨g6, k, none⟩), undef] zz undef), ⟨by omega, (by rw [← flTo_next k]; exact M18)⟩, rfl, (by kernel_rfl)⟩
  ·
    refine st_val (.bool false) (by kernel_rfl) (bool_of (dec_f c4) (by kernel_rfl)) ?_
    refine wl_nil ?_
    refine hK15 _ _ ?_
    try clear hK15 K15
    refine wp_cond_false (by kernel_rfl) ?_
    refine wp_exit ?_
    refine th_exit ?_
    refine th_exit ?_
    refine blk_exit ?_
    refine hK9 _ _ ?_
    try clear hK9 K9
    refine wp_seq_k (fun K19 hK19 => ?_)
    have M20 : Mem NoS w W12 [(g6, .cells (bv flat) 23 (0, 0)), (g2, .cells (bv zeros) 23 (0, 0))] := by
      have hh := M13; rw [flTo_end k (by omega)] at hh; exact hh
    refine wl_region ?_
    refine st_val (.agg (bv flat)) (by kernel_rfl) (run_load_row 23 (.tmp 1) rfl g6 (by kernel_rfl) 23 (bv flat) (0, 0) _ (M20.get 0 rfl) Try.underlying23 rfl (infoB64 _ (tab_length _ _))) ?_
    refine st_storeRow M20 1 rfl 23 (.tmp 0) (.tmp 9) (by rfl) (bv flat) (by kernel_rfl) (by kernel_rfl) (infoB64 _ (tab_length _ _)) (bv_same (tab_length _ _) zeros_length) (bv_one _) (by kernel_rfl) [(g6, .cells (bv flat) 23 (0, 0)), (g2, .cells (bv flat) 23 (0, 0))] rfl ?_
    intro W21 M22
    refine wl_nil ?_
    refine hK19 _ _ ?_
    try clear hK19 K19
    refine wp_ret ?_
    exact doneRow 0 23 g2 23 (bv flat) (0, 0) _ (by kernel_rfl) (by kernel_rfl) (M22.get 1 rfl) Try.underlying23 rfl (infoB64 _ (tab_length _ _)) (by kernel_rfl) ⟨rfl, M22.toBelow⟩
set_option maxHeartbeats 4000000 in
set_option maxRecDepth 100000 in
theorem block_walk (w : World) (v : Value) (l : List Int) (hr0 : Rd w v (l.map (Value.int .i64)))  : Calls Try.prog 20 #[v] w fun e w' => e = .returned (.agg (iv (blockOf l))) ∧ Below w.heap.size w w' := by
  obtain ⟨A, c, rfl, hc⟩ := rd_shape hr0
  rw [List.length_map] at *
  have hr : Rd w (.slice A l.length c) (l.map (Value.int .i64)) := hr0
  refine calls_of_wp Try.func20 rfl ?_
  refine wp_frame (a' := ⟨#[.slice A l.length c, undef, undef, undef, undef, undef, undef, undef, undef, undef, undef, undef, undef, undef, undef, undef, undef, undef, undef, undef, undef, undef], []⟩) (by kernel_rfl) ?_
  have M0 : Mem NoS w w [] := Mem.start _ _
  refine wp_seq_k (fun K1 hK1 => ?_)
  refine wl_region ?_
  refine st_alloc M0 (.cells (iv zeros) 30 (0, 0)) (by kernel_rfl) (by kernel_rfl) ?_
  intro g2 W3 M4
  refine wl_nil ?_
  refine hK1 _ _ ?_
  try clear hK1 K1
  refine wp_seq_k (fun K5 hK5 => ?_)
  refine wl_region ?_
  refine st_alloc M4 (.cells (iv zeros) 30 (0, 0)) (by kernel_rfl) (by kernel_rfl) ?_
  intro g6 W7 M8
  refine wl_nil ?_
  refine hK5 _ _ ?_
  try clear hK5 K5
  refine wp_seq_k (fun K9 hK9 => ?_)
  refine wp_seq_k (fun K10 hK10 => ?_)
  refine wl_region ?_
  refine st_val (.int .i64 0) (by kernel_rfl) (by kernel_rfl) ?_
  refine wl_nil ?_
  refine hK10 _ _ ?_
  try clear hK10 K10
  refine wp_block ?_
  refine wp_loop_ghost (fun gn a' w' => ∃ (k : Nat) (u11 : Nat → Value), ((k ≤ 64 ∧ k ≤ l.length) ∧ Mem NoS w w' [(g6, .cells (iv (tab 64 (blkTo l k))) 30 (0, 0)), (g2, .cells (iv zeros) 30 (0, 0))]) ∧ gn = 64 - k ∧ a' = ⟨#[.slice A l.length c, undef, .pointer (some ⟨g2, 0, none⟩), .pointer (some ⟨g6, 0, none⟩), .int .i64 (k : Int), (u11 5), (u11 6), (u11 7), (u11 8), (u11 9), (u11 10), (u11 11), (u11 12), (u11 13), (u11 14), (u11 15), (u11 16), (u11 17), (u11 18), (u11 19), (u11 20), undef], []⟩) _ ⟨0, (fun zz => Array.getD #[.slice A l.length c, undef, .pointer (some ⟨g2, 0, none⟩), .pointer (some ⟨g6, 0, none⟩), .int .i64 0, undef, undef, undef, undef, undef, undef, undef, undef, undef, undef, undef, undef, undef, undef, undef, undef, undef] zz undef), ⟨⟨by omega, by omega⟩, (by rw [blkTo_zero]; exact M8)⟩, rfl, (by kernel_rfl)⟩ ?_
  rintro gn _ W12 ⟨k, u11, ⟨⟨rk, r2⟩, M13⟩, rfl, rfl⟩
  refine wp_seq_k (fun K14 hK14 => ?_)
  refine wp_seq_k (fun K15 hK15 => ?_)
  refine wl_region ?_
  refine st_val (.int .i64 (k : Int)) (by kernel_rfl) (by kernel_rfl) ?_
  rcases Decidable.em (((k : Int) : Int) < 64) with c6 | c6
  ·
    refine st_val (.bool true) (by kernel_rfl) (bool_of (dec_t c6) (by kernel_rfl)) ?_
    refine st_val (.bool true) (by kernel_rfl) (by kernel_rfl) ?_
    refine st_val (.int .i64 (k : Int)) (by kernel_rfl) (by kernel_rfl) ?_
    refine st_val (.slice A l.length c) (by kernel_rfl) (by kernel_rfl) ?_
    refine st_val (.int .i64 ((l.length : Nat) : Int)) (by kernel_rfl) (by kernel_rfl) ?_
    rcases Decidable.em (((k : Int) : Int) < ((l.length : Nat) : Int)) with c11 | c11
    ·
      refine st_val (.bool true) (by kernel_rfl) (bool_of (dec_t c11) (by kernel_rfl)) ?_
      refine st_val (.bool true) (by kernel_rfl) (by kernel_rfl) ?_
      refine wl_nil ?_
      refine hK15 _ _ ?_
      try clear hK15 K15
      refine wp_cond_true (by kernel_rfl) ?_
      refine wp_skip ?_
      refine hK14 _ _ ?_
      try clear hK14 K14
      refine wp_seq_k (fun K16 hK16 => ?_)
      refine wp_block ?_
      refine wl_region ?_
      refine st_val (.int .i64 (k : Int)) (by kernel_rfl) (by kernel_rfl) ?_
      refine st_val (.slice A l.length c) (by kernel_rfl) (by kernel_rfl) ?_
      refine st_val (.int .i64 (k : Int)) (by kernel_rfl) (by kernel_rfl) ?_
      obtain ⟨b17, o18, eA19, cx20⟩ := rd_at hr (map_at (k := .i64) (l := l) (n := k) (by omega))
      refine st_val (.pointer (some ⟨b17, o18 + k, none⟩)) (by kernel_rfl) (run_indexSliceA 29 (.tmp 16) (.tmp 17) rfl A ⟨b17, o18, none⟩ eA19 l.length c .i64 k (by kernel_rfl) (by kernel_rfl) Try.underlying29 1 (by kernel_rfl) (by omega) ⟨b17, o18 + k, none⟩ (addr_at _ _ _)) ?_
      refine st_val (.int .i64 (l.getD k 0)) (by kernel_rfl) (run_load_cell 3 (.tmp 18) rfl ⟨b17, o18 + k, none⟩ (by kernel_rfl) _ (Keep.cell M13.keep cx20 (fun h => h)) (by kernel_rfl)) ?_
      refine st_val (.pointer (some ⟨g6, k, none⟩)) (by kernel_rfl) (run_indexAddr 30 (.tmp 3) (.tmp 15) rfl ⟨g6, 0, none⟩ .i64 k (by kernel_rfl) (by kernel_rfl) Try.underlying30 1 (by kernel_rfl) (by omega) ⟨g6, k, none⟩ (addr_at0 _ _)) ?_
      refine st_storeCell M13 0 rfl 3 (.tmp 20) (.tmp 19) (by rfl) k (.int .i64 (l.getD k 0)) (iv ((tab 64 (blkTo l k)).set k (l.getD k 0))) (by kernel_rfl) (by kernel_rfl) (by rw [iv_size, (tab_length _ _)]; omega) (by kernel_rfl) rfl (by kernel_rfl) (iv_set _ _ _) (by kernel_rfl) [(g6, .cells (iv ((tab 64 (blkTo l k)).set k (l.getD k 0))) 30 (0, 0)), (g2, .cells (iv zeros) 30 (0, 0))] rfl ?_
      intro W21 M22
      refine wl_nil ?_
      refine blk_normal ?_
      refine hK16 _ _ ?_
      try clear hK16 K16
      refine wp_frame (a' := ⟨#[.slice A l.length c, undef, .pointer (some ⟨g2, 0, none⟩), .pointer (some ⟨g6, 0, none⟩), .int .i64 (k : Int), .int .i64 (k : Int), .bool true, .bool true, .int .i64 (k : Int), .slice A l.length c, .int .i64 ((l.length : Nat) : Int), .bool true, .bool true, (u11 13), (u11 14), .int .i64 (k : Int), .slice A l.length c, .int .i64 (k : Int), .pointer (some ⟨b17, o18 + k, none⟩), .int .i64 (l.getD k 0), .pointer (some ⟨g6, k, none⟩), undef], []⟩) (by kernel_rfl) ?_
      refine wl_region ?_
      refine st_val (.int .i64 (k : Int)) (by kernel_rfl) (by kernel_rfl) ?_
      refine st_val (.int .i64 ((k : Int) + 1)) (by kernel_rfl) (i64_of (by omega) (by kernel_rfl)) ?_
      refine st_val (.int .i64 ((k : Int) + 1)) (by kernel_rfl) (by kernel_rfl) ?_
      refine wl_nil ?_
      refine th_normal ?_
      exact ⟨_, by omega, (k + 1), (fun zz => Array.getD #[.slice A l.length c, undef, .pointer (some ⟨g2, 0, none⟩), .pointer (some ⟨g6, 0, none⟩), .int .i64 ((k : Int) + 1), .int .i64 (k : Int), .bool true, .bool true, .int .i64 (k : Int), .slice A l.length c, .int .i64 ((l.length : Nat) : Int), .bool true, .bool true, .int .i64 (k : Int), .int .i64 ((k : Int) + 1), .int .i64 (k : Int), .slice A l.length c, .int .i64 (k : Int), .pointer (some ⟨b17, o18 + k, none⟩), .int .i64 (l.getD k 0), .pointer (some ⟨g6, k, none⟩), undef] zz undef), ⟨⟨by omega, by omega⟩, (by rw [← blkTo_next l k]; exact M22)⟩, rfl, (by kernel_rfl)⟩
    ·
      refine st_val (.bool false) (by kernel_rfl) (bool_of (dec_f c11) (by kernel_rfl)) ?_
      refine st_val (.bool false) (by kernel_rfl) (by kernel_rfl) ?_
      refine wl_nil ?_
      refine hK15 _ _ ?_
      try clear hK15 K15
      refine wp_cond_false (by kernel_rfl) ?_
      refine wp_exit ?_
      refine th_exit ?_
      refine th_exit ?_
      refine blk_exit ?_
      refine hK9 _ _ ?_
      try clear hK9 K9
      refine wp_seq_k (fun K23 hK23 => ?_)
      have M24 : Mem NoS w W12 [(g6, .cells (iv (blockOf l)) 30 (0, 0)), (g2, .cells (iv zeros) 30 (0, 0))] := by
        have hh := M13; rw [blkTo_end l k (by omega) r2] at hh; exact hh
      refine wl_region ?_
      refine st_val (.agg (iv (blockOf l))) (by kernel_rfl) (run_load_row 30 (.tmp 3) rfl g6 (by kernel_rfl) 30 (iv (blockOf l)) (0, 0) _ (M24.get 0 rfl) Try.underlying30 rfl (info64 _ (blockOf_length _))) ?_
      refine st_storeRow M24 1 rfl 30 (.tmp 2) (.tmp 21) (by rfl) (iv (blockOf l)) (by kernel_rfl) (by kernel_rfl) (info64 _ (blockOf_length _)) (iv_same (blockOf_length _) zeros_length) (iv_one _) (by kernel_rfl) [(g6, .cells (iv (blockOf l)) 30 (0, 0)), (g2, .cells (iv (blockOf l)) 30 (0, 0))] rfl ?_
      intro W25 M26
      refine wl_nil ?_
      refine hK23 _ _ ?_
      try clear hK23 K23
      refine wp_ret ?_
      exact doneRow 2 30 g2 30 (iv (blockOf l)) (0, 0) _ (by kernel_rfl) (by kernel_rfl) (M26.get 1 rfl) Try.underlying30 rfl (info64 _ (blockOf_length _)) (by kernel_rfl) ⟨rfl, M26.toBelow⟩
  ·
    refine st_val (.bool false) (by kernel_rfl) (bool_of (dec_f c6) (by kernel_rfl)) ?_
    refine st_val (.bool false) (by kernel_rfl) (by kernel_rfl) ?_
    refine st_skip (by kernel_rfl) ?_
    refine st_skip (by kernel_rfl) ?_
    refine st_skip (by kernel_rfl) ?_
    refine st_skip (by kernel_rfl) ?_
    refine st_val (.bool false) (by kernel_rfl) (by kernel_rfl) ?_
    refine wl_nil ?_
    refine hK15 _ _ ?_
    try clear hK15 K15
    refine wp_cond_false (by kernel_rfl) ?_
    refine wp_exit ?_
    refine th_exit ?_
    refine th_exit ?_
    refine blk_exit ?_
    refine hK9 _ _ ?_
    try clear hK9 K9
    refine wp_seq_k (fun K27 hK27 => ?_)
    have M28 : Mem NoS w W12 [(g6, .cells (iv (blockOf l)) 30 (0, 0)), (g2, .cells (iv zeros) 30 (0, 0))] := by
      have hh := M13; rw [blkTo_end l k (by omega) r2] at hh; exact hh
    refine wl_region ?_
    refine st_val (.agg (iv (blockOf l))) (by kernel_rfl) (run_load_row 30 (.tmp 3) rfl g6 (by kernel_rfl) 30 (iv (blockOf l)) (0, 0) _ (M28.get 0 rfl) Try.underlying30 rfl (info64 _ (blockOf_length _))) ?_
    refine st_storeRow M28 1 rfl 30 (.tmp 2) (.tmp 21) (by rfl) (iv (blockOf l)) (by kernel_rfl) (by kernel_rfl) (info64 _ (blockOf_length _)) (iv_same (blockOf_length _) zeros_length) (iv_one _) (by kernel_rfl) [(g6, .cells (iv (blockOf l)) 30 (0, 0)), (g2, .cells (iv (blockOf l)) 30 (0, 0))] rfl ?_
    intro W29 M30
    refine wl_nil ?_
    refine hK27 _ _ ?_
    try clear hK27 K27
    refine wp_ret ?_
    exact doneRow 2 30 g2 30 (iv (blockOf l)) (0, 0) _ (by kernel_rfl) (by kernel_rfl) (M30.get 1 rfl) Try.underlying30 rfl (info64 _ (blockOf_length _)) (by kernel_rfl) ⟨rfl, M30.toBelow⟩
set_option maxHeartbeats 4000000 in
set_option maxRecDepth 100000 in
theorem matrix_walk_ (w : World) (v : Value) (l : List Int) (hr0 : Rd w v (l.map (Value.int .u8)))  : Calls Try.prog 13 #[v] w fun e w' => e = .returned (.agg (bv (matOf l))) ∧ Below w.heap.size w w' := by
  obtain ⟨A, c, rfl, hc⟩ := rd_shape hr0
  rw [List.length_map] at *
  have hr : Rd w (.slice A l.length c) (l.map (Value.int .u8)) := hr0
  refine calls_of_wp Try.func13 rfl ?_
  refine wp_frame (a' := ⟨#[.slice A l.length c, undef, undef, undef, undef, undef, undef, undef, undef, undef, undef, undef, undef, undef, undef, undef, undef, undef, undef, undef, undef, undef, undef], []⟩) (by kernel_rfl) ?_
  have M0 : Mem NoS w w [] := Mem.start _ _
  refine wp_seq_k (fun K1 hK1 => ?_)
  refine wl_region ?_
  refine st_alloc M0 (.cells (bv zeros) 23 (0, 0)) (by kernel_rfl) (by kernel_rfl) ?_
  intro g2 W3 M4
  refine wl_nil ?_
  refine hK1 _ _ ?_
  try clear hK1 K1
  refine wp_seq_k (fun K5 hK5 => ?_)
  refine wl_region ?_
  refine st_callB M4 (.agg (bv flat)) (by kernel_rfl) (args := #[]) (run_value_call 39 #[] _ rfl Try.func39 (by kernel_rfl) (by kernel_rfl) _ (by kernel_rfl)) (refInter_walk W3) ?_
  intro W6 M7
  refine st_alloc M7 (.cells (bv zeros) 23 (0, 0)) (by kernel_rfl) (by kernel_rfl) ?_
  intro g8 W9 M10
  refine st_storeRow M10 0 rfl 23 (.tmp 3) (.tmp 5) (by rfl) (bv flat) (by kernel_rfl) (by kernel_rfl) (infoB64 _ (tab_length _ _)) (bv_same (tab_length _ _) zeros_length) (bv_one _) (by kernel_rfl) [(g8, .cells (bv flat) 23 (0, 0)), (g2, .cells (bv zeros) 23 (0, 0))] rfl ?_
  intro W11 M12
  refine wl_nil ?_
  refine hK5 _ _ ?_
  try clear hK5 K5
  refine wp_seq_k (fun K13 hK13 => ?_)
  refine wp_seq_k (fun K14 hK14 => ?_)
  refine wl_region ?_
  refine st_val (.int .i64 0) (by kernel_rfl) (by kernel_rfl) ?_
  refine wl_nil ?_
  refine hK14 _ _ ?_
  try clear hK14 K14
  refine wp_block ?_
  refine wp_loop_ghost (fun gn a' w' => ∃ (k : Nat) (u15 : Nat → Value), ((k ≤ 64 ∧ k ≤ l.length) ∧ Mem NoS w w' [(g8, .cells (bv (tab 64 (matTo l k))) 23 (0, 0)), (g2, .cells (bv zeros) 23 (0, 0))]) ∧ gn = 64 - k ∧ a' = ⟨#[.slice A l.length c, undef, .pointer (some ⟨g2, 0, none⟩), .pointer (some ⟨g8, 0, none⟩), .int .i64 (k : Int), .agg (bv flat), (u15 6), (u15 7), (u15 8), (u15 9), (u15 10), (u15 11), (u15 12), (u15 13), (u15 14), (u15 15), (u15 16), (u15 17), (u15 18), (u15 19), (u15 20), (u15 21), undef], []⟩) _ ⟨0, (fun zz => Array.getD #[.slice A l.length c, undef, .pointer (some ⟨g2, 0, none⟩), .pointer (some ⟨g8, 0, none⟩), .int .i64 0, .agg (bv flat), undef, undef, undef, undef, undef, undef, undef, undef, undef, undef, undef, undef, undef, undef, undef, undef, undef] zz undef), ⟨⟨by omega, by omega⟩, (by rw [matTo_zero]; exact M12)⟩, rfl, (by kernel_rfl)⟩ ?_
  rintro gn _ W16 ⟨k, u15, ⟨⟨rk, r2⟩, M17⟩, rfl, rfl⟩
  refine wp_seq_k (fun K18 hK18 => ?_)
  refine wp_seq_k (fun K19 hK19 => ?_)
  refine wl_region ?_
  refine st_val (.int .i64 (k : Int)) (by kernel_rfl) (by kernel_rfl) ?_
  rcases Decidable.em (((k : Int) : Int) < 64) with c7 | c7
  ·
    refine st_val (.bool true) (by kernel_rfl) (bool_of (dec_t c7) (by kernel_rfl)) ?_
    refine st_val (.bool true) (by kernel_rfl) (by kernel_rfl) ?_
    refine st_val (.int .i64 (k : Int)) (by kernel_rfl) (by kernel_rfl) ?_
    refine st_val (.slice A l.length c) (by kernel_rfl) (by kernel_rfl) ?_
    refine st_val (.int .i64 ((l.length : Nat) : Int)) (by kernel_rfl) (by kernel_rfl) ?_
    rcases Decidable.em (((k : Int) : Int) < ((l.length : Nat) : Int)) with c12 | c12
    ·
      refine st_val (.bool true) (by kernel_rfl) (bool_of (dec_t c12) (by kernel_rfl)) ?_
      refine st_val (.bool true) (by kernel_rfl) (by kernel_rfl) ?_
      refine wl_nil ?_
      refine hK19 _ _ ?_
      try clear hK19 K19
      refine wp_cond_true (by kernel_rfl) ?_
      refine wp_skip ?_
      refine hK18 _ _ ?_
      try clear hK18 K18
      refine wp_seq_k (fun K20 hK20 => ?_)
      refine wp_block ?_
      refine wl_region ?_
      refine st_val (.int .i64 (k : Int)) (by kernel_rfl) (by kernel_rfl) ?_
      refine st_val (.slice A l.length c) (by kernel_rfl) (by kernel_rfl) ?_
      refine st_val (.int .i64 (k : Int)) (by kernel_rfl) (by kernel_rfl) ?_
      obtain ⟨b21, o22, eA23, cx24⟩ := rd_at hr (map_at (k := .u8) (l := l) (n := k) (by omega))
      refine st_val (.pointer (some ⟨b21, o22 + k, none⟩)) (by kernel_rfl) (run_indexSliceA 22 (.tmp 17) (.tmp 18) rfl A ⟨b21, o22, none⟩ eA23 l.length c .i64 k (by kernel_rfl) (by kernel_rfl) Try.underlying22 1 (by kernel_rfl) (by omega) ⟨b21, o22 + k, none⟩ (addr_at _ _ _)) ?_
      refine st_val (.int .u8 (l.getD k 0)) (by kernel_rfl) (run_load_cell 5 (.tmp 19) rfl ⟨b21, o22 + k, none⟩ (by kernel_rfl) _ (Keep.cell M17.keep cx24 (fun h => h)) (by kernel_rfl)) ?_
      refine st_val (.pointer (some ⟨g8, k, none⟩)) (by kernel_rfl) (run_indexAddr 23 (.tmp 3) (.tmp 16) rfl ⟨g8, 0, none⟩ .i64 k (by kernel_rfl) (by kernel_rfl) Try.underlying23 1 (by kernel_rfl) (by omega) ⟨g8, k, none⟩ (addr_at0 _ _)) ?_
      refine st_storeCell M17 0 rfl 5 (.tmp 21) (.tmp 20) (by rfl) k (.int .u8 (l.getD k 0)) (bv ((tab 64 (matTo l k)).set k (l.getD k 0))) (by kernel_rfl) (by kernel_rfl) (by rw [bv_size, (tab_length _ _)]; omega) (by kernel_rfl) rfl (by kernel_rfl) (bv_set _ _ _) (by kernel_rfl) [(g8, .cells (bv ((tab 64 (matTo l k)).set k (l.getD k 0))) 23 (0, 0)), (g2, .cells (bv zeros) 23 (0, 0))] rfl ?_
      intro W25 M26
      refine wl_nil ?_
      refine blk_normal ?_
      refine hK20 _ _ ?_
      try clear hK20 K20
      refine wp_frame (a' := ⟨#[.slice A l.length c, undef, .pointer (some ⟨g2, 0, none⟩), .pointer (some ⟨g8, 0, none⟩), .int .i64 (k : Int), .agg (bv flat), .int .i64 (k : Int), .bool true, .bool true, .int .i64 (k : Int), .slice A l.length c, .int .i64 ((l.length : Nat) : Int), .bool true, .bool true, (u15 14), (u15 15), .int .i64 (k : Int), .slice A l.length c, .int .i64 (k : Int), .pointer (some ⟨b21, o22 + k, none⟩), .int .u8 (l.getD k 0), .pointer (some ⟨g8, k, none⟩), undef], []⟩) (by kernel_rfl) ?_
      refine wl_region ?_
      refine st_val (.int .i64 (k : Int)) (by kernel_rfl) (by kernel_rfl) ?_
      refine st_val (.int .i64 ((k : Int) + 1)) (by kernel_rfl) (i64_of (by omega) (by kernel_rfl)) ?_
      refine st_val (.int .i64 ((k : Int) + 1)) (by kernel_rfl) (by kernel_rfl) ?_
      refine wl_nil ?_
      refine th_normal ?_
      exact ⟨_, by omega, (k + 1), (fun zz => Array.getD #[.slice A l.length c, undef, .pointer (some ⟨g2, 0, none⟩), .pointer (some ⟨g8, 0, none⟩), .int .i64 ((k : Int) + 1), .agg (bv flat), .int .i64 (k : Int), .bool true, .bool true, .int .i64 (k : Int), .slice A l.length c, .int .i64 ((l.length : Nat) : Int), .bool true, .bool true, .int .i64 (k : Int), .int .i64 ((k : Int) + 1), .int .i64 (k : Int), .slice A l.length c, .int .i64 (k : Int), .pointer (some ⟨b21, o22 + k, none⟩), .int .u8 (l.getD k 0), .pointer (some ⟨g8, k, none⟩), undef] zz undef), ⟨⟨by omega, by omega⟩, (by rw [← matTo_next l k]; exact M26)⟩, rfl, (by kernel_rfl)⟩
    ·
      refine st_val (.bool false) (by kernel_rfl) (bool_of (dec_f c12) (by kernel_rfl)) ?_
      refine st_val (.bool false) (by kernel_rfl) (by kernel_rfl) ?_
      refine wl_nil ?_
      refine hK19 _ _ ?_
      try clear hK19 K19
      refine wp_cond_false (by kernel_rfl) ?_
      refine wp_exit ?_
      refine th_exit ?_
      refine th_exit ?_
      refine blk_exit ?_
      refine hK13 _ _ ?_
      try clear hK13 K13
      refine wp_seq_k (fun K27 hK27 => ?_)
      have M28 : Mem NoS w W16 [(g8, .cells (bv (matOf l)) 23 (0, 0)), (g2, .cells (bv zeros) 23 (0, 0))] := by
        have hh := M17; rw [matTo_end l k (by omega) r2] at hh; exact hh
      refine wl_region ?_
      refine st_val (.agg (bv (matOf l))) (by kernel_rfl) (run_load_row 23 (.tmp 3) rfl g8 (by kernel_rfl) 23 (bv (matOf l)) (0, 0) _ (M28.get 0 rfl) Try.underlying23 rfl (infoB64 _ (matOf_length _))) ?_
      refine st_storeRow M28 1 rfl 23 (.tmp 2) (.tmp 22) (by rfl) (bv (matOf l)) (by kernel_rfl) (by kernel_rfl) (infoB64 _ (matOf_length _)) (bv_same (matOf_length _) zeros_length) (bv_one _) (by kernel_rfl) [(g8, .cells (bv (matOf l)) 23 (0, 0)), (g2, .cells (bv (matOf l)) 23 (0, 0))] rfl ?_
      intro W29 M30
      refine wl_nil ?_
      refine hK27 _ _ ?_
      try clear hK27 K27
      refine wp_ret ?_
      exact doneRow 2 23 g2 23 (bv (matOf l)) (0, 0) _ (by kernel_rfl) (by kernel_rfl) (M30.get 1 rfl) Try.underlying23 rfl (infoB64 _ (matOf_length _)) (by kernel_rfl) ⟨rfl, M30.toBelow⟩
  ·
    refine st_val (.bool false) (by kernel_rfl) (bool_of (dec_f c7) (by kernel_rfl)) ?_
    refine st_val (.bool false) (by kernel_rfl) (by kernel_rfl) ?_
    refine st_skip (by kernel_rfl) ?_
    refine st_skip (by kernel_rfl) ?_
    refine st_skip (by kernel_rfl) ?_
    refine st_skip (by kernel_rfl) ?_
    refine st_val (.bool false) (by kernel_rfl) (by kernel_rfl) ?_
    refine wl_nil ?_
    refine hK19 _ _ ?_
    try clear hK19 K19
    refine wp_cond_false (by kernel_rfl) ?_
    refine wp_exit ?_
    refine th_exit ?_
    refine th_exit ?_
    refine blk_exit ?_
    refine hK13 _ _ ?_
    try clear hK13 K13
    refine wp_seq_k (fun K31 hK31 => ?_)
    have M32 : Mem NoS w W16 [(g8, .cells (bv (matOf l)) 23 (0, 0)), (g2, .cells (bv zeros) 23 (0, 0))] := by
      have hh := M17; rw [matTo_end l k (by omega) r2] at hh; exact hh
    refine wl_region ?_
    refine st_val (.agg (bv (matOf l))) (by kernel_rfl) (run_load_row 23 (.tmp 3) rfl g8 (by kernel_rfl) 23 (bv (matOf l)) (0, 0) _ (M32.get 0 rfl) Try.underlying23 rfl (infoB64 _ (matOf_length _))) ?_
    refine st_storeRow M32 1 rfl 23 (.tmp 2) (.tmp 22) (by rfl) (bv (matOf l)) (by kernel_rfl) (by kernel_rfl) (infoB64 _ (matOf_length _)) (bv_same (matOf_length _) zeros_length) (bv_one _) (by kernel_rfl) [(g8, .cells (bv (matOf l)) 23 (0, 0)), (g2, .cells (bv (matOf l)) 23 (0, 0))] rfl ?_
    intro W33 M34
    refine wl_nil ?_
    refine hK31 _ _ ?_
    try clear hK31 K31
    refine wp_ret ?_
    exact doneRow 2 23 g2 23 (bv (matOf l)) (0, 0) _ (by kernel_rfl) (by kernel_rfl) (M34.get 1 rfl) Try.underlying23 rfl (infoB64 _ (matOf_length _)) (by kernel_rfl) ⟨rfl, M34.toBelow⟩
end Go.Proofs.Ytjclncmpfdfkfaa
