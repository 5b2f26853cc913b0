/- Blocks of levels. -/
import Derived.Test.YtmchfkkifeioeaaBp
import Derived.Test.YtmchfkkifeioeaaLi
import Derived.Test.YtmchfkkifeioeaaVs
import Derived.Test.YtmchfkkifeioeaaVq
namespace Go.Proofs.Ytmchfkkifeioeaa
open Go.RowKit Bt

/-- the numbers of a list as a block: those that are missing are 0 -/
def lvl (l : List Int) : List Int := tab 64 (fun n => l.getD n 0)
theorem lvl_length (l : List Int) : (lvl l).length = 64 := tab_length _ _
def lvlTo (l : List Int) (n : Nat) : List Int := tab 64 (fun j => if j < n then l.getD j 0 else 0)
theorem lvlTo_length (l : List Int) (n : Nat) : (lvlTo l n).length = 64 := tab_length _ _
theorem lvlTo_zero (l : List Int) : lvlTo l 0 = zeros := tab_congr (fun i _ => if_neg (by omega))
theorem lvlTo_next (l : List Int) (n : Nat) : (lvlTo l n).set n (l.getD n 0) = lvlTo l (n + 1) := by
  unfold lvlTo
  rw [tab_set]
  apply tab_congr
  intro i _
  by_cases h : i = n
  · subst h; rw [if_pos rfl, if_pos (by omega)]
  · rw [if_neg h]
    by_cases h2 : i < n
    · rw [if_pos h2, if_pos (by omega)]
    · rw [if_neg h2, if_neg (by omega)]
theorem lvlTo_end {l : List Int} {n : Nat} (h : 64 ≤ n ∨ l.length ≤ n) : lvlTo l n = lvl l := by
  apply tab_congr
  intro i hi
  by_cases h2 : i < n
  · rw [if_pos h2]
  · rw [if_neg h2, List.getD_eq_getElem?_getD, List.getElem?_eq_none (by omega)]; rfl
theorem drop_getI (l : List Int) (a i : Nat) : (l.drop a).getD i 0 = l.getD (a + i) 0 := by
  rw [List.getD_eq_getElem?_getD, List.getElem?_drop, ← List.getD_eq_getElem?_getD]
theorem rdk_arr {w : World} {g : Nat} {x : List Int} {t : TypeId} {fz : Nat × Nat} (h : w.heap[g]? = some (.cells (iv x) t fz)) (hx : x.length = 64) (f : Nat) (hf : f ≤ 64) : RdK w (.slice (some ⟨g, f, none⟩) (64 - f) (64 - f)) (64 - f) (i64s (x.drop f)) := by
  refine .inr ⟨g, f, 64 - f, rfl, Nat.le_refl _, fun j u hj => ?_⟩
  rw [cell_of_row w g _ _ t fz h]
  have hj2 : j < 64 - f := by have := (List.getElem?_eq_some_iff.1 hj).1; rw [i64s_length, List.length_drop, hx] at this; exact this
  rw [iv_get x (f + j) (by omega)]
  have := i64s_get (x.drop f) j (by rw [List.length_drop]; omega)
  rw [Nat.mul_one, Nat.add_zero, drop_getI] at this
  rw [this] at hj
  exact hj
theorem run_slice_lo {P : Program} {w : World} {o : Oper} {a : Act} (t : TypeId) (x lo : Operand) (ho : o.op = .slice t x (some lo) none none) (g : Nat) (hx : a.eval x = .pointer (some ⟨g, 0, none⟩)) (k : IntKind) (f : Nat) (hlo : a.eval lo = .int k (f : Int)) {len : Nat} {e : TypeId} (hu : P.underlying t = some (.array len e)) (hs : (sizeOf e).run P w = .ok 1 w) (hf : f < len) :
    (execOp a.eval o).run P w = .ok (.value (.slice (some ⟨g, f, none⟩) (len - f) (len - f))) w := by
  have h0 : (⟨g, 0, none⟩ : Addr).add (f * 1) = ⟨g, f, none⟩ := addr_at0 g f
  have h1 : ¬ len = f := by omega
  have h2 : (0 : Int) ≤ (f : Int) ∧ (f : Int) ≤ (len : Int) := by omega
  unfold execOp
  have h3 : f ≤ len := by omega
  rw [Nat.mul_one] at h0
  simp [ho, hx, hlo, Instr.sliceAt, Instr.sliceBounds, Instr.sliceBound, run_underlying hu, Instr.sureAddr, asIntOf, hs, h1, h2, h3, h0]
set_option maxHeartbeats 4000000 in
set_option maxRecDepth 100000 in
theorem levels_walk (w : World) (v : Value) (l : List Int) (hr : RdK w v l.length (i64s l)) : Calls Try.prog 7 #[v] w fun e w' => e = .returned (.agg (iv (lvl l))) ∧ Below w.heap.size w w' := by
  obtain ⟨A, c, rfl, hc⟩ := hr.shape
  refine calls_of_wp Try.func7 rfl ?_
  refine wp_frame (a' := ⟨#[.slice A l.length c, undef, undef, undef, undef, undef, undef, undef, undef, undef, undef, undef, undef, undef, undef, undef, undef, undef, undef, undef, undef, undef], []⟩) (by kernel_rfl) ?_
  have M0 : Mem NoS w w [] := Mem.start _ _
  refine wp_seq_k (fun K1 hK1 => ?_)
  refine wl_region ?_
  refine st_alloc M0 (.cells (iv zeros) 23 (0, 0)) (by kernel_rfl) (by kernel_rfl) ?_
  intro g2 W3 M4
  refine wl_nil ?_
  refine hK1 _ _ ?_
  try clear hK1 K1
  refine wp_seq_k (fun K5 hK5 => ?_)
  refine wl_region ?_
  refine st_alloc M4 (.cells (iv zeros) 23 (0, 0)) (by kernel_rfl) (by kernel_rfl) ?_
  intro g6 W7 M8
  refine wl_nil ?_
  refine hK5 _ _ ?_
  try clear hK5 K5
  refine wp_seq_k (fun K9 hK9 => ?_)
  refine wp_seq_k (fun K10 hK10 => ?_)
  refine wl_region ?_
  refine st_val (.int .i64 0) (by kernel_rfl) (by kernel_rfl) ?_
  refine wl_nil ?_
  refine hK10 _ _ ?_
  try clear hK10 K10
  refine wp_block ?_
  refine wp_loop_ghost (fun gn a' w' => ∃ (n : Nat) (u11 : Nat → Value), ((n ≤ 64) ∧ Mem NoS w w' [(g6, .cells (iv (lvlTo l n)) 23 (0, 0)), (g2, .cells (iv zeros) 23 (0, 0))]) ∧ gn = 64 - n ∧ a' = ⟨#[.slice A l.length c, undef, .pointer (some ⟨g2, 0, none⟩), .pointer (some ⟨g6, 0, none⟩), .int .i64 ((n : Nat) : Int), (u11 5), (u11 6), (u11 7), (u11 8), (u11 9), (u11 10), (u11 11), (u11 12), (u11 13), (u11 14), (u11 15), (u11 16), (u11 17), (u11 18), (u11 19), (u11 20), undef], []⟩) _ ⟨0, (fun zz => Array.getD #[.slice A l.length c, undef, .pointer (some ⟨g2, 0, none⟩), .pointer (some ⟨g6, 0, none⟩), .int .i64 0, undef, undef, undef, undef, undef, undef, undef, undef, undef, undef, undef, undef, undef, undef, undef, undef, undef] zz undef), ⟨by omega, (by rw [lvlTo_zero]; exact M8)⟩, rfl, (by kernel_rfl)⟩ ?_
  rintro gn _ W12 ⟨n, u11, ⟨rn, M13⟩, rfl, rfl⟩
  refine wp_seq_k (fun K14 hK14 => ?_)
  refine wp_seq_k (fun K15 hK15 => ?_)
  refine wl_region ?_
  refine st_val (.int .i64 ((n : Nat) : Int)) (by kernel_rfl) (by kernel_rfl) ?_
  rcases Decidable.em ((((n : Nat) : Int) : Int) < 64) with c6 | c6
  ·
    refine st_val (.bool true) (by kernel_rfl) (bool_of (dec_t c6) (by kernel_rfl)) ?_
    refine st_val (.bool true) (by kernel_rfl) (by kernel_rfl) ?_
    refine st_val (.int .i64 ((n : Nat) : Int)) (by kernel_rfl) (by kernel_rfl) ?_
    refine st_val (.slice A l.length c) (by kernel_rfl) (by kernel_rfl) ?_
    refine st_val (.int .i64 ((l.length : Nat) : Int)) (by kernel_rfl) (by kernel_rfl) ?_
    rcases Decidable.em ((((n : Nat) : Int) : Int) < ((l.length : Nat) : Int)) with c11 | c11
    ·
      refine st_val (.bool true) (by kernel_rfl) (bool_of (dec_t c11) (by kernel_rfl)) ?_
      refine st_val (.bool true) (by kernel_rfl) (by kernel_rfl) ?_
      refine wl_nil ?_
      refine hK15 _ _ ?_
      try clear hK15 K15
      refine wp_cond_true (by kernel_rfl) ?_
      refine wp_skip ?_
      refine hK14 _ _ ?_
      try clear hK14 K14
      refine wp_seq_k (fun K16 hK16 => ?_)
      refine wp_block ?_
      refine wl_region ?_
      refine st_val (.int .i64 ((n : Nat) : Int)) (by kernel_rfl) (by kernel_rfl) ?_
      refine st_val (.slice A l.length c) (by kernel_rfl) (by kernel_rfl) ?_
      refine st_val (.int .i64 ((n : Nat) : Int)) (by kernel_rfl) (by kernel_rfl) ?_
      obtain ⟨b17, o18, eA19⟩ := RdK.addr (hr.keep M13.keep (fun _ _ h => h)) (j := n * 1) (by rw [i64s_length]; omega)
      refine st_val (.pointer (some ⟨b17, o18 + n * 1, none⟩)) (by kernel_rfl) (run_indexSliceA 22 (.tmp 16) (.tmp 17) rfl A ⟨b17, o18, none⟩ eA19 l.length c .i64 n (by kernel_rfl) (by kernel_rfl) Try.underlying22 1 (by kernel_rfl) (by omega) ⟨b17, o18 + n * 1, none⟩ (addr_atK _ _ _ _)) ?_
      refine st_val (.int .i64 (l.getD n 0)) (by kernel_rfl) (run_load_cell 3 (.tmp 18) rfl ⟨b17, o18 + n * 1, none⟩ (by kernel_rfl) _ ((hr.keep M13.keep (fun _ _ h => h)).cellF eA19 (f := 0) (i64s_get l n (by omega))) (by kernel_rfl)) ?_
      refine st_val (.pointer (some ⟨g6, n, none⟩)) (by kernel_rfl) (run_indexAddr 23 (.tmp 3) (.tmp 15) rfl ⟨g6, 0, none⟩ .i64 n (by kernel_rfl) (by kernel_rfl) Try.underlying23 1 (by kernel_rfl) (by omega) ⟨g6, n, none⟩ (addr_at0 _ _)) ?_
      refine st_storeCell M13 0 rfl 3 (.tmp 20) (.tmp 19) (by rfl) n (.int .i64 (l.getD n 0)) (iv ((lvlTo l n).set n (l.getD n 0))) (by kernel_rfl) (by kernel_rfl) (by rw [iv_size, (lvlTo_length l n)]; omega) (by kernel_rfl) rfl (by kernel_rfl) (iv_set _ _ _) (by kernel_rfl) [(g6, .cells (iv ((lvlTo l n).set n (l.getD n 0))) 23 (0, 0)), (g2, .cells (iv zeros) 23 (0, 0))] rfl ?_
      intro W20 M21
      refine wl_nil ?_
      refine blk_normal ?_
      refine hK16 _ _ ?_
      try clear hK16 K16
      refine wp_frame (a' := ⟨#[.slice A l.length c, undef, .pointer (some ⟨g2, 0, none⟩), .pointer (some ⟨g6, 0, none⟩), .int .i64 ((n : Nat) : Int), .int .i64 ((n : Nat) : Int), .bool true, .bool true, .int .i64 ((n : Nat) : Int), .slice A l.length c, .int .i64 ((l.length : Nat) : Int), .bool true, .bool true, (u11 13), (u11 14), .int .i64 ((n : Nat) : Int), .slice A l.length c, .int .i64 ((n : Nat) : Int), .pointer (some ⟨b17, o18 + n * 1, none⟩), .int .i64 (l.getD n 0), .pointer (some ⟨g6, n, none⟩), undef], []⟩) (by kernel_rfl) ?_
      refine wl_region ?_
      refine st_val (.int .i64 ((n : Nat) : Int)) (by kernel_rfl) (by kernel_rfl) ?_
      refine st_val (.int .i64 (((n : Nat) : Int) + 1)) (by kernel_rfl) (i64_of (by omega) (by kernel_rfl)) ?_
      refine st_val (.int .i64 (((n : Nat) : Int) + 1)) (by kernel_rfl) (by kernel_rfl) ?_
      refine wl_nil ?_
      refine th_normal ?_
      exact ⟨_, by omega, (n + 1), (fun zz => Array.getD #[.slice A l.length c, undef, .pointer (some ⟨g2, 0, none⟩), .pointer (some ⟨g6, 0, none⟩), .int .i64 (((n : Nat) : Int) + 1), .int .i64 ((n : Nat) : Int), .bool true, .bool true, .int .i64 ((n : Nat) : Int), .slice A l.length c, .int .i64 ((l.length : Nat) : Int), .bool true, .bool true, .int .i64 ((n : Nat) : Int), .int .i64 (((n : Nat) : Int) + 1), .int .i64 ((n : Nat) : Int), .slice A l.length c, .int .i64 ((n : Nat) : Int), .pointer (some ⟨b17, o18 + n * 1, none⟩), .int .i64 (l.getD n 0), .pointer (some ⟨g6, n, none⟩), undef] zz undef), ⟨by omega, (by rw [← lvlTo_next l n]; exact M21)⟩, rfl, (by kernel_rfl)⟩
    ·
      refine st_val (.bool false) (by kernel_rfl) (bool_of (dec_f c11) (by kernel_rfl)) ?_
      refine st_val (.bool false) (by kernel_rfl) (by kernel_rfl) ?_
      refine wl_nil ?_
      refine hK15 _ _ ?_
      try clear hK15 K15
      refine wp_cond_false (by kernel_rfl) ?_
      refine wp_exit ?_
      refine th_exit ?_
      refine th_exit ?_
      refine blk_exit ?_
      refine hK9 _ _ ?_
      try clear hK9 K9
      refine wp_seq_k (fun K22 hK22 => ?_)
      refine wl_region ?_
      refine st_val (.agg (iv (lvlTo l n))) (by kernel_rfl) (run_load_row 23 (.tmp 3) rfl g6 (by kernel_rfl) 23 (iv (lvlTo l n)) (0, 0) _ (M13.get 0 rfl) Try.underlying23 rfl (info64 _ (lvlTo_length l n))) ?_
      refine st_storeRow M13 1 rfl 23 (.tmp 2) (.tmp 21) (by rfl) (iv (lvlTo l n)) (by kernel_rfl) (by kernel_rfl) (info64 _ (lvlTo_length l n)) (iv_same (lvlTo_length l n) zeros_length) (iv_one _) (by kernel_rfl) [(g6, .cells (iv (lvlTo l n)) 23 (0, 0)), (g2, .cells (iv (lvlTo l n)) 23 (0, 0))] rfl ?_
      intro W23 M24
      refine wl_nil ?_
      refine hK22 _ _ ?_
      try clear hK22 K22
      refine wp_ret ?_
      exact doneRow 2 23 g2 23 (iv (lvlTo l n)) (0, 0) _ (by kernel_rfl) (by kernel_rfl) (M24.get 1 rfl) Try.underlying23 rfl (info64 _ (lvlTo_length l n)) (by kernel_rfl) ⟨by rw [show lvlTo l n = lvl l from lvlTo_end (by omega)], M24.toBelow⟩
  ·
    refine st_val (.bool false) (by kernel_rfl) (bool_of (dec_f c6) (by kernel_rfl)) ?_
    refine st_val (.bool false) (by kernel_rfl) (by kernel_rfl) ?_
    refine st_skip (by kernel_rfl) ?_
    refine st_skip (by kernel_rfl) ?_
    refine st_skip (by kernel_rfl) ?_
    refine st_skip (by kernel_rfl) ?_
    refine st_val (.bool false) (by kernel_rfl) (by kernel_rfl) ?_
    refine wl_nil ?_
    refine hK15 _ _ ?_
    try clear hK15 K15
    refine wp_cond_false (by kernel_rfl) ?_
    refine wp_exit ?_
    refine th_exit ?_
    refine th_exit ?_
    refine blk_exit ?_
    refine hK9 _ _ ?_
    try clear hK9 K9
    refine wp_seq_k (fun K25 hK25 => ?_)
    refine wl_region ?_
    refine st_val (.agg (iv (lvlTo l n))) (by kernel_rfl) (run_load_row 23 (.tmp 3) rfl g6 (by kernel_rfl) 23 (iv (lvlTo l n)) (0, 0) _ (M13.get 0 rfl) Try.underlying23 rfl (info64 _ (lvlTo_length l n))) ?_
    refine st_storeRow M13 1 rfl 23 (.tmp 2) (.tmp 21) (by rfl) (iv (lvlTo l n)) (by kernel_rfl) (by kernel_rfl) (info64 _ (lvlTo_length l n)) (iv_same (lvlTo_length l n) zeros_length) (iv_one _) (by kernel_rfl) [(g6, .cells (iv (lvlTo l n)) 23 (0, 0)), (g2, .cells (iv (lvlTo l n)) 23 (0, 0))] rfl ?_
    intro W26 M27
    refine wl_nil ?_
    refine hK25 _ _ ?_
    try clear hK25 K25
    refine wp_ret ?_
    exact doneRow 2 23 g2 23 (iv (lvlTo l n)) (0, 0) _ (by kernel_rfl) (by kernel_rfl) (M27.get 1 rfl) Try.underlying23 rfl (info64 _ (lvlTo_length l n)) (by kernel_rfl) ⟨by rw [show lvlTo l n = lvl l from lvlTo_end (by omega)], M27.toBelow⟩
set_option maxHeartbeats 4000000 in
set_option maxRecDepth 100000 in
theorem may_walk (w : World) (v : Int) : Calls Try.prog 39 #[.int .i64 v] w fun e w' => e = .returned (.bool (decide (lev v))) ∧ Below w.heap.size w w' := by
  refine calls_of_wp Try.func39 rfl ?_
  refine wp_frame (a' := ⟨#[.int .i64 v, undef, undef, undef, undef, undef, undef, undef, undef], []⟩) (by kernel_rfl) ?_
  have M0 : Mem NoS w w [] := Mem.start _ _
  refine wp_seq_k (fun K1 hK1 => ?_)
  refine wl_region ?_
  refine st_val (.bool false) (by kernel_rfl) (by kernel_rfl) ?_
  refine wl_nil ?_
  refine hK1 _ _ ?_
  try clear hK1 K1
  refine wp_seq_k (fun K2 hK2 => ?_)
  refine wl_region ?_
  refine st_val (.int .i64 v) (by kernel_rfl) (by kernel_rfl) ?_
  rcases Decidable.em ((v : Int) ≥ -4095) with c4 | c4
  ·
    refine st_val (.bool true) (by kernel_rfl) (bool_of (dec_t c4) (by kernel_rfl)) ?_
    refine st_val (.bool true) (by kernel_rfl) (by kernel_rfl) ?_
    refine st_val (.int .i64 v) (by kernel_rfl) (by kernel_rfl) ?_
    rcases Decidable.em ((v : Int) ≤ 4095) with c7 | c7
    ·
      refine st_val (.bool true) (by kernel_rfl) (bool_of (dec_t c7) (by kernel_rfl)) ?_
      refine st_val (.bool true) (by kernel_rfl) (by kernel_rfl) ?_
      refine st_val (.bool true) (by kernel_rfl) (by kernel_rfl) ?_
      refine wl_nil ?_
      refine hK2 _ _ ?_
      try clear hK2 K2
      refine wp_ret ?_
      exact done1 2 (.bool true) (by kernel_rfl) (by kernel_rfl) (by kernel_rfl) ⟨by rw [show decide (lev v) = true from decide_eq_true ⟨by omega, by omega⟩], M0.toBelow⟩
    ·
      refine st_val (.bool false) (by kernel_rfl) (bool_of (dec_f c7) (by kernel_rfl)) ?_
      refine st_val (.bool false) (by kernel_rfl) (by kernel_rfl) ?_
      refine st_val (.bool false) (by kernel_rfl) (by kernel_rfl) ?_
      refine wl_nil ?_
      refine hK2 _ _ ?_
      try clear hK2 K2
      refine wp_ret ?_
      exact done1 2 (.bool false) (by kernel_rfl) (by kernel_rfl) (by kernel_rfl) ⟨by rw [show decide (lev v) = false from decide_eq_false (fun h => by have := h.1; have := h.2; omega)], M0.toBelow⟩
  ·
    refine st_val (.bool false) (by kernel_rfl) (bool_of (dec_f c4) (by kernel_rfl)) ?_
    refine st_val (.bool false) (by kernel_rfl) (by kernel_rfl) ?_
    refine st_skip (by kernel_rfl) ?_
    refine st_skip (by kernel_rfl) ?_
    refine st_val (.bool false) (by kernel_rfl) (by kernel_rfl) ?_
    refine st_val (.bool false) (by kernel_rfl) (by kernel_rfl) ?_
    refine wl_nil ?_
    refine hK2 _ _ ?_
    try clear hK2 K2
    refine wp_ret ?_
    exact done1 2 (.bool false) (by kernel_rfl) (by kernel_rfl) (by kernel_rfl) ⟨by rw [show decide (lev v) = false from decide_eq_false (fun h => by have := h.1; have := h.2; omega)], M0.toBelow⟩
set_option maxHeartbeats 4000000 in
set_option maxRecDepth 100000 in
theorem level_walk (w : World) (v : Int) : Calls Try.prog 28 #[.int .i64 v] w fun e w' => e = .returned (.bool (decide (lev v))) ∧ Below w.heap.size w w' := by
  refine calls_of_wp Try.func28 rfl ?_
  refine wp_frame (a' := ⟨#[.int .i64 v, undef, undef, undef, undef, undef, undef, undef, undef], []⟩) (by kernel_rfl) ?_
  have M0 : Mem NoS w w [] := Mem.start _ _
  refine wp_seq_k (fun K1 hK1 => ?_)
  refine wl_region ?_
  refine st_val (.bool false) (by kernel_rfl) (by kernel_rfl) ?_
  refine wl_nil ?_
  refine hK1 _ _ ?_
  try clear hK1 K1
  refine wp_seq_k (fun K2 hK2 => ?_)
  refine wl_region ?_
  refine st_val (.int .i64 v) (by kernel_rfl) (by kernel_rfl) ?_
  rcases Decidable.em ((v : Int) ≥ -4095) with c4 | c4
  ·
    refine st_val (.bool true) (by kernel_rfl) (bool_of (dec_t c4) (by kernel_rfl)) ?_
    refine st_val (.bool true) (by kernel_rfl) (by kernel_rfl) ?_
    refine st_val (.int .i64 v) (by kernel_rfl) (by kernel_rfl) ?_
    rcases Decidable.em ((v : Int) ≤ 4095) with c7 | c7
    ·
      refine st_val (.bool true) (by kernel_rfl) (bool_of (dec_t c7) (by kernel_rfl)) ?_
      refine st_val (.bool true) (by kernel_rfl) (by kernel_rfl) ?_
      refine st_val (.bool true) (by kernel_rfl) (by kernel_rfl) ?_
      refine wl_nil ?_
      refine hK2 _ _ ?_
      try clear hK2 K2
      refine wp_ret ?_
      exact done1 2 (.bool true) (by kernel_rfl) (by kernel_rfl) (by kernel_rfl) ⟨by rw [show decide (lev v) = true from decide_eq_true ⟨by omega, by omega⟩], M0.toBelow⟩
    ·
      refine st_val (.bool false) (by kernel_rfl) (bool_of (dec_f c7) (by kernel_rfl)) ?_
      refine st_val (.bool false) (by kernel_rfl) (by kernel_rfl) ?_
      refine st_val (.bool false) (by kernel_rfl) (by kernel_rfl) ?_
      refine wl_nil ?_
      refine hK2 _ _ ?_
      try clear hK2 K2
      refine wp_ret ?_
      exact done1 2 (.bool false) (by kernel_rfl) (by kernel_rfl) (by kernel_rfl) ⟨by rw [show decide (lev v) = false from decide_eq_false (fun h => by have := h.1; have := h.2; omega)], M0.toBelow⟩
  ·
    refine st_val (.bool false) (by kernel_rfl) (bool_of (dec_f c4) (by kernel_rfl)) ?_
    refine st_val (.bool false) (by kernel_rfl) (by kernel_rfl) ?_
    refine st_skip (by kernel_rfl) ?_
    refine st_skip (by kernel_rfl) ?_
    refine st_val (.bool false) (by kernel_rfl) (by kernel_rfl) ?_
    refine st_val (.bool false) (by kernel_rfl) (by kernel_rfl) ?_
    refine wl_nil ?_
    refine hK2 _ _ ?_
    try clear hK2 K2
    refine wp_ret ?_
    exact done1 2 (.bool false) (by kernel_rfl) (by kernel_rfl) (by kernel_rfl) ⟨by rw [show decide (lev v) = false from decide_eq_false (fun h => by have := h.1; have := h.2; omega)], M0.toBelow⟩
set_option maxHeartbeats 4000000 in
set_option maxRecDepth 100000 in
theorem start_walk (w : World) (v : Int) : Calls Try.prog 24 #[.int .i64 v] w fun e w' => e = .returned (.bool (decide (v = 0 ∨ v = 1))) ∧ Below w.heap.size w w' := by
  refine calls_of_wp Try.func24 rfl ?_
  refine wp_frame (a' := ⟨#[.int .i64 v, undef, undef, undef, undef, undef, undef, undef, undef], []⟩) (by kernel_rfl) ?_
  have M0 : Mem NoS w w [] := Mem.start _ _
  refine wp_seq_k (fun K1 hK1 => ?_)
  refine wl_region ?_
  refine st_val (.bool false) (by kernel_rfl) (by kernel_rfl) ?_
  refine wl_nil ?_
  refine hK1 _ _ ?_
  try clear hK1 K1
  refine wp_seq_k (fun K2 hK2 => ?_)
  refine wl_region ?_
  refine st_val (.int .i64 v) (by kernel_rfl) (by kernel_rfl) ?_
  rcases Decidable.em ((v : Int) = 0) with c4 | c4
  ·
    refine st_val (.bool true) (by kernel_rfl) (bool_of (dec_t c4) (by kernel_rfl)) ?_
    refine st_val (.bool true) (by kernel_rfl) (by kernel_rfl) ?_
    refine st_skip (by kernel_rfl) ?_
    refine st_skip (by kernel_rfl) ?_
    refine st_val (.bool true) (by kernel_rfl) (by kernel_rfl) ?_
    refine st_val (.bool true) (by kernel_rfl) (by kernel_rfl) ?_
    refine wl_nil ?_
    refine hK2 _ _ ?_
    try clear hK2 K2
    refine wp_ret ?_
    exact done1 2 (.bool true) (by kernel_rfl) (by kernel_rfl) (by kernel_rfl) ⟨by rw [show decide (v = 0 ∨ v = 1) = true from decide_eq_true (by omega)], M0.toBelow⟩
  ·
    refine st_val (.bool false) (by kernel_rfl) (bool_of (dec_f c4) (by kernel_rfl)) ?_
    refine st_val (.bool false) (by kernel_rfl) (by kernel_rfl) ?_
    refine st_val (.int .i64 v) (by kernel_rfl) (by kernel_rfl) ?_
    rcases Decidable.em ((v : Int) = 1) with c7 | c7
    ·
      refine st_val (.bool true) (by kernel_rfl) (bool_of (dec_t c7) (by kernel_rfl)) ?_
      refine st_val (.bool true) (by kernel_rfl) (by kernel_rfl) ?_
      refine st_val (.bool true) (by kernel_rfl) (by kernel_rfl) ?_
      refine wl_nil ?_
      refine hK2 _ _ ?_
      try clear hK2 K2
      refine wp_ret ?_
      exact done1 2 (.bool true) (by kernel_rfl) (by kernel_rfl) (by kernel_rfl) ⟨by rw [show decide (v = 0 ∨ v = 1) = true from decide_eq_true (by omega)], M0.toBelow⟩
    ·
      refine st_val (.bool false) (by kernel_rfl) (bool_of (dec_f c7) (by kernel_rfl)) ?_
      refine st_val (.bool false) (by kernel_rfl) (by kernel_rfl) ?_
      refine st_val (.bool false) (by kernel_rfl) (by kernel_rfl) ?_
      refine wl_nil ?_
      refine hK2 _ _ ?_
      try clear hK2 K2
      refine wp_ret ?_
      exact done1 2 (.bool false) (by kernel_rfl) (by kernel_rfl) (by kernel_rfl) ⟨by rw [show decide (v = 0 ∨ v = 1) = false from decide_eq_false (by omega)], M0.toBelow⟩
set_option maxHeartbeats 4000000 in
set_option maxRecDepth 100000 in
theorem fits_walk (w : World) (x : List Int) (hx : x.length = 64) (f : Nat) (hf : f ≤ 1) : Calls Try.prog 25 #[.agg (iv x), .int .i64 (f : Int)] w fun e w' => e = .returned (.bool (okB x f)) ∧ Below w.heap.size w w' := by
  refine calls_of_wp Try.func25 rfl ?_
  refine wp_frame (a' := ⟨#[.agg (iv x), .int .i64 ((f : Nat) : Int), undef, undef, undef, undef, undef, undef, undef, undef, undef, undef, undef, undef, undef, undef, undef, undef], []⟩) (by kernel_rfl) ?_
  have M0 : Mem NoS w w [] := Mem.start _ _
  refine wp_seq_k (fun K1 hK1 => ?_)
  refine wl_region ?_
  refine st_alloc M0 (.cells (iv x) 23 (0, 0)) (by kernel_rfl) (by kernel_rfl) ?_
  intro g2 W3 M4
  refine st_val (.bool false) (by kernel_rfl) (by kernel_rfl) ?_
  refine wl_nil ?_
  refine hK1 _ _ ?_
  try clear hK1 K1
  refine wp_seq_k (fun K5 hK5 => ?_)
  refine wp_seq_k (fun K6 hK6 => ?_)
  refine wl_region ?_
  refine st_val (.int .i64 ((f : Nat) : Int)) (by kernel_rfl) (by kernel_rfl) ?_
  obtain ⟨A7, hA7⟩ : ∃ A, A = some (⟨g2, f, none⟩ : Addr) := ⟨_, rfl⟩
  refine st_val (.slice A7 (64 - f) (64 - f)) (by kernel_rfl) (by rw [hA7]; exact run_slice_lo 23 (.tmp 2) (.tmp 7) rfl g2 (by kernel_rfl) .i64 f (by kernel_rfl) Try.underlying23 (by kernel_rfl) (by omega)) ?_
  refine st_val (.int .i64 ((64 - f : Nat) : Int)) (by kernel_rfl) (by kernel_rfl) ?_
  refine st_val (.int .i64 0) (by kernel_rfl) (by kernel_rfl) ?_
  refine wl_nil ?_
  refine hK6 _ _ ?_
  try clear hK6 K6
  refine wp_block ?_
  refine wp_loop_ghost (fun gn a' w' => ∃ (i : Nat) (u8 : Nat → Value), ((i ≤ 64 - f ∧ ∀ j, j < i → lev (x.getD (f + j) 0)) ∧ Mem NoS w w' [(g2, .cells (iv x) 23 (0, 0))]) ∧ gn = 64 - i ∧ a' = ⟨#[.agg (iv x), .int .i64 ((f : Nat) : Int), .pointer (some ⟨g2, 0, none⟩), undef, (u8 4), undef, (u8 6), .int .i64 ((f : Nat) : Int), .slice A7 (64 - f) (64 - f), .int .i64 ((64 - f : Nat) : Int), .int .i64 ((i : Nat) : Int), (u8 11), (u8 12), (u8 13), (u8 14), (u8 15), (u8 16), (u8 17)], []⟩) _ ⟨0, (fun zz => Array.getD #[.agg (iv x), .int .i64 ((f : Nat) : Int), .pointer (some ⟨g2, 0, none⟩), undef, .bool false, undef, undef, .int .i64 ((f : Nat) : Int), .slice A7 (64 - f) (64 - f), .int .i64 ((64 - f : Nat) : Int), .int .i64 0, undef, undef, undef, undef, undef, undef, undef] zz undef), ⟨⟨by omega, fun j hj => by omega⟩, M4⟩, rfl, (by kernel_rfl)⟩ ?_
  rintro gn _ W9 ⟨i, u8, ⟨⟨ri, hl⟩, M10⟩, rfl, rfl⟩
  refine wp_seq_k (fun K11 hK11 => ?_)
  refine wl_region ?_
  rcases Decidable.em ((((i : Nat) : Int) : Int) < ((64 - f : Nat) : Int)) with c11 | c11
  ·
    refine st_val (.bool true) (by kernel_rfl) (bool_of (dec_t c11) (by kernel_rfl)) ?_
    refine wl_nil ?_
    refine hK11 _ _ ?_
    try clear hK11 K11
    refine wp_seq_k (fun K12 hK12 => ?_)
    refine wp_cond_true (by kernel_rfl) ?_
    refine wp_skip ?_
    refine hK12 _ _ ?_
    try clear hK12 K12
    refine wp_seq_k (fun K13 hK13 => ?_)
    refine wp_block ?_
    refine wp_seq_k (fun K14 hK14 => ?_)
    refine wl_region ?_
    obtain ⟨b15, o16, eA17⟩ := RdK.addr ((show RdK W9 (.slice A7 (64 - f) (64 - f)) (64 - f) (i64s (x.drop f)) by rw [hA7]; exact rdk_arr (M10.get 0 rfl) hx f (by omega))) (j := i * 1) (by rw [i64s_length, List.length_drop, hx]; omega)
    refine st_val (.pointer (some ⟨b15, o16 + i * 1, none⟩)) (by kernel_rfl) (run_indexSliceA 22 (.tmp 8) (.tmp 10) rfl A7 ⟨b15, o16, none⟩ eA17 (64 - f) (64 - f) .i64 i (by kernel_rfl) (by kernel_rfl) Try.underlying22 1 (by kernel_rfl) (by omega) ⟨b15, o16 + i * 1, none⟩ (addr_atK _ _ _ _)) ?_
    refine st_val (.int .i64 ((x.drop f).getD i 0)) (by kernel_rfl) (run_load_cell 3 (.tmp 12) rfl ⟨b15, o16 + i * 1, none⟩ (by kernel_rfl) _ (((show RdK W9 (.slice A7 (64 - f) (64 - f)) (64 - f) (i64s (x.drop f)) by rw [hA7]; exact rdk_arr (M10.get 0 rfl) hx f (by omega))).cellF eA17 (f := 0) (i64s_get (x.drop f) i (by rw [List.length_drop, hx]; omega))) (by kernel_rfl)) ?_
    refine st_val (.int .i64 ((x.drop f).getD i 0)) (by kernel_rfl) (by kernel_rfl) ?_
    refine wl_nil ?_
    refine hK14 _ _ ?_
    try clear hK14 K14
    refine wp_seq_k (fun K18 hK18 => ?_)
    refine wl_region ?_
    refine st_val (.int .i64 ((x.drop f).getD i 0)) (by kernel_rfl) (by kernel_rfl) ?_
    rcases Classical.em (lev ((x.drop f).getD i 0)) with hlv | hlv
    ·
      refine st_callB M10 (.bool true) (by kernel_rfl) (args := #[.int .i64 ((x.drop f).getD i 0)]) (run_value_call 39 #[(Operand.tmp 14)] _ rfl Try.func39 (by kernel_rfl) (by kernel_rfl) _ (by kernel_rfl)) ((by have := may_walk W9 ((x.drop f).getD i 0); rw [decide_eq_true hlv] at this; exact this)) ?_
      intro W19 M20
      refine st_val (.bool false) (by kernel_rfl) (by kernel_rfl) ?_
      refine wl_nil ?_
      refine hK18 _ _ ?_
      try clear hK18 K18
      refine wp_cond_false (by kernel_rfl) ?_
      refine wp_skip ?_
      refine blk_normal ?_
      refine hK13 _ _ ?_
      try clear hK13 K13
      refine wl_region ?_
      refine st_val (.int .i64 (((i : Nat) : Int) + 1)) (by kernel_rfl) (i64_of (by omega) (by kernel_rfl)) ?_
      refine st_val (.int .i64 (((i : Nat) : Int) + 1)) (by kernel_rfl) (by kernel_rfl) ?_
      refine wl_nil ?_
      refine th_normal ?_
      exact ⟨_, (by omega), (i + 1), (fun zz => Array.getD #[.agg (iv x), .int .i64 ((f : Nat) : Int), .pointer (some ⟨g2, 0, none⟩), undef, (u8 4), undef, .int .i64 ((x.drop f).getD i 0), .int .i64 ((f : Nat) : Int), .slice A7 (64 - f) (64 - f), .int .i64 ((64 - f : Nat) : Int), .int .i64 (((i : Nat) : Int) + 1), .bool true, .pointer (some ⟨b15, o16 + i * 1, none⟩), .int .i64 ((x.drop f).getD i 0), .int .i64 ((x.drop f).getD i 0), .bool true, .bool false, .int .i64 (((i : Nat) : Int) + 1)] zz undef), ⟨⟨by omega, fun j hj => by by_cases e : j = i; subst e; rw [drop_getI] at hlv; exact hlv; exact hl j (by omega)⟩, M20⟩, rfl, (by kernel_rfl)⟩
    ·
      refine st_callB M10 (.bool false) (by kernel_rfl) (args := #[.int .i64 ((x.drop f).getD i 0)]) (run_value_call 39 #[(Operand.tmp 14)] _ rfl Try.func39 (by kernel_rfl) (by kernel_rfl) _ (by kernel_rfl)) ((by have := may_walk W9 ((x.drop f).getD i 0); rw [decide_eq_false hlv] at this; exact this)) ?_
      intro W21 M22
      refine st_val (.bool true) (by kernel_rfl) (by kernel_rfl) ?_
      refine wl_nil ?_
      refine hK18 _ _ ?_
      try clear hK18 K18
      refine wp_cond_true (by kernel_rfl) ?_
      refine wp_seq_k (fun K23 hK23 => ?_)
      refine wl_region ?_
      refine st_val (.bool false) (by kernel_rfl) (by kernel_rfl) ?_
      refine wl_nil ?_
      refine hK23 _ _ ?_
      try clear hK23 K23
      refine wp_ret ?_
      refine blk_ret ?_
      refine th_ret ?_
      refine th_ret ?_
      refine blk_ret ?_
      refine th_ret ?_
      exact done1 4 (.bool false) (by kernel_rfl) (by kernel_rfl) (by kernel_rfl) ⟨by rw [drop_getI] at hlv; rw [okB_f (i := f + i) (by omega) (by omega) hlv], M22.toBelow⟩
  ·
    refine st_val (.bool false) (by kernel_rfl) (bool_of (dec_f c11) (by kernel_rfl)) ?_
    refine wl_nil ?_
    refine hK11 _ _ ?_
    try clear hK11 K11
    refine wp_seq_k (fun K24 hK24 => ?_)
    refine wp_cond_false (by kernel_rfl) ?_
    refine wp_exit ?_
    refine th_exit ?_
    refine th_exit ?_
    refine blk_exit ?_
    refine hK5 _ _ ?_
    try clear hK5 K5
    refine wp_seq_k (fun K25 hK25 => ?_)
    refine wl_region ?_
    refine st_val (.bool true) (by kernel_rfl) (by kernel_rfl) ?_
    refine wl_nil ?_
    refine hK25 _ _ ?_
    try clear hK25 K25
    refine wp_ret ?_
    exact done1 4 (.bool true) (by kernel_rfl) (by kernel_rfl) (by kernel_rfl) ⟨by rw [okB_t (fun i h1 h2 => by have := hl (i - f) (by omega); rwa [show f + (i - f) = i by omega] at this)], M10.toBelow⟩
end Go.Proofs.Ytmchfkkifeioeaa
