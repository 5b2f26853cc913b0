/- Capacity, what flows in, what bits take. -/
import Derived.Test.YtolfkaljbgpkhaaSr
namespace Go.Proofs.Ytolfkaljbgpkhaa
open Go.RowKit

theorem SV_facts {s : SeqD} (hv : sB s = true) : 1 ≤ s.num ∧ s.num ≤ 1048576 ∧ 1 ≤ s.den ∧ s.den ≤ 65536 ∧ 1 ≤ s.br ∧ s.br ≤ 16777216 ∧ 1 ≤ s.bu ∧ s.bu ≤ 8388608 ∧ (0 ≤ 2 * s.num * s.bu ∧ 2 * s.num * s.bu ≤ 17592186044416) ∧ (0 ≤ s.br * s.den ∧ s.br * s.den ≤ 1099511627776) ∧ 3 * s.den * s.br + 32 * s.num ≤ 2 * s.num * s.bu := by
  obtain ⟨h1, h2, h3, h4, h5, h6, h7, h8, h9, h10, h11, h12, h13, h14, h15, h16, h17, h18⟩ := SV_of hv
  have hd := rV_den h8
  exact ⟨h9, h10, hd, h11, h12, h13, h14, h15, (sv_prods h9 h10 hd h11 h12 h13 h14 h15).1, mul_in (m := 16777216) (n := 65536) ⟨by omega, h13⟩ ⟨by omega, h11⟩, h16⟩
/-- capacity, what flows in, what bits take -/
def capS (s : SeqD) : Int := if sB s = true then 2 * s.num * s.bu else 0
def arrS (s : SeqD) (f : Int) : Int := if sB s = true ∧ 0 ≤ f ∧ f ≤ 3 then s.br * s.den * f else 0
def costS (s : SeqD) (b : Int) : Int := if sB s = true ∧ 0 ≤ b ∧ b ≤ 8388608 then 2 * s.num * b else 0
theorem capS_t {s : SeqD} (hv : sB s = true) : capS s = 2 * s.num * s.bu := if_pos hv
theorem capS_f {s : SeqD} (hv : sB s = false) : capS s = 0 := if_neg (by rw [hv]; exact Bool.false_ne_true)
theorem arrS_t {s : SeqD} {f : Int} (hv : sB s = true) (h : 0 ≤ f ∧ f ≤ 3) : arrS s f = s.br * s.den * f := if_pos ⟨hv, h⟩
theorem arrS_f {s : SeqD} {f : Int} (h : sB s = false ∨ ¬ (0 ≤ f ∧ f ≤ 3)) : arrS s f = 0 := if_neg fun c => h.elim (fun h => by rw [h] at c; exact Bool.false_ne_true c.1) (fun h => h c.2)
theorem costS_t {s : SeqD} {b : Int} (hv : sB s = true) (h : 0 ≤ b ∧ b ≤ 8388608) : costS s b = 2 * s.num * b := if_pos ⟨hv, h⟩
theorem costS_f {s : SeqD} {b : Int} (h : sB s = false ∨ ¬ (0 ≤ b ∧ b ≤ 8388608)) : costS s b = 0 := if_neg fun c => h.elim (fun h => by rw [h] at c; exact Bool.false_ne_true c.1) (fun h => h c.2)
theorem mul_bd {x y m n : Int} (hx : 0 ≤ x ∧ x ≤ m) (hy : 0 ≤ y ∧ y ≤ n) (hm : m * n ≤ 9223372036854775807) : -9223372036854775808 ≤ x * y ∧ x * y ≤ 9223372036854775807 := by
  have := mul_in hx hy; omega
set_option maxHeartbeats 4000000 in
set_option maxRecDepth 100000 in
theorem mcap_walk (w : World) (s : SeqD) (hs : SOk s) (hv : sB s = true)  : Calls Try.prog 31 #[.agg (sqv s)] w fun e w' => e = .returned (.int .i64 (2 * s.num * s.bu)) ∧ Below w.heap.size w w' := by
  refine calls_of_wp Try.func31 rfl ?_
  refine wp_frame (a' := ⟨#[.agg (sqv s), undef, undef, undef, undef, undef, undef, undef, undef, undef, undef, undef], []⟩) (by kernel_rfl) ?_
  have M0 : Mem NoS w w [] := Mem.start _ _
  refine wp_seq_k (fun K1 hK1 => ?_)
  obtain ⟨vn1, vn2, vd1, vd2, vb1, vb2, vu1, vu2, vP, vQ, vR⟩ := SV_facts hv
  refine wl_region ?_
  refine st_alloc M0 (.cells (sqv s) 63 (0, 0)) (by kernel_rfl) (by kernel_rfl) ?_
  intro g2 W3 M4
  refine st_val (.int .i64 0) (by kernel_rfl) (by kernel_rfl) ?_
  refine wl_nil ?_
  refine hK1 _ _ ?_
  try clear hK1 K1
  refine wp_seq_k (fun K5 hK5 => ?_)
  refine wl_region ?_
  refine st_val (.pointer (some ⟨g2, 0, none⟩)) (by kernel_rfl) (by kernel_rfl) ?_
  refine st_val (.pointer (some ⟨g2, 2, none⟩)) (by kernel_rfl) (by kernel_rfl) ?_
  refine st_val (.pointer (some ⟨g2, 2, none⟩)) (by kernel_rfl) (by kernel_rfl) ?_
  refine st_val (.int .i64 s.num) (by kernel_rfl) (run_load_cell 2 (.tmp 5) rfl ⟨g2, 2, none⟩ (by kernel_rfl) _ (M4.cell 0 rfl 2 _ (sqv_num _)) (by kernel_rfl)) ?_
  refine st_val (.int .i64 (2 * s.num)) (by kernel_rfl) (i64_of (by omega) (by kernel_rfl)) ?_
  refine st_val (.pointer (some ⟨g2, 0, none⟩)) (by kernel_rfl) (by kernel_rfl) ?_
  refine st_val (.pointer (some ⟨g2, 6, none⟩)) (by kernel_rfl) (by kernel_rfl) ?_
  refine st_val (.int .i64 s.bu) (by kernel_rfl) (run_load_cell 3 (.tmp 9) rfl ⟨g2, 6, none⟩ (by kernel_rfl) _ (M4.cell 0 rfl 6 _ (sqv_bu _)) (by kernel_rfl)) ?_
  refine st_val (.int .i64 ((2 * s.num) * s.bu)) (by kernel_rfl) (i64_of (by omega) (by kernel_rfl)) ?_
  refine st_val (.int .i64 ((2 * s.num) * s.bu)) (by kernel_rfl) (by kernel_rfl) ?_
  refine wl_nil ?_
  refine hK5 _ _ ?_
  try clear hK5 K5
  refine wp_ret ?_
  exact done1 2 (.int .i64 ((2 * s.num) * s.bu)) (by kernel_rfl) (by kernel_rfl) (by kernel_rfl) ⟨rfl, M4.toBelow⟩
set_option maxHeartbeats 4000000 in
set_option maxRecDepth 100000 in
theorem marr_walk (w : World) (s : SeqD) (hs : SOk s) (hv : sB s = true) (f : Int) (h3 : 0 ≤ f ∧ f ≤ 3)  : Calls Try.prog 33 #[.agg (sqv s), .int .i64 f] w fun e w' => e = .returned (.int .i64 (s.br * s.den * f)) ∧ Below w.heap.size w w' := by
  refine calls_of_wp Try.func33 rfl ?_
  refine wp_frame (a' := ⟨#[.agg (sqv s), .int .i64 f, undef, undef, undef, undef, undef, undef, undef, undef, undef, undef, undef, undef, undef], []⟩) (by kernel_rfl) ?_
  have M0 : Mem NoS w w [] := Mem.start _ _
  refine wp_seq_k (fun K1 hK1 => ?_)
  obtain ⟨vn1, vn2, vd1, vd2, vb1, vb2, vu1, vu2, vP, vQ, vR⟩ := SV_facts hv
  refine wl_region ?_
  refine st_alloc M0 (.cells (sqv s) 63 (0, 0)) (by kernel_rfl) (by kernel_rfl) ?_
  intro g2 W3 M4
  refine st_val (.int .i64 0) (by kernel_rfl) (by kernel_rfl) ?_
  refine wl_nil ?_
  refine hK1 _ _ ?_
  try clear hK1 K1
  refine wp_seq_k (fun K5 hK5 => ?_)
  refine wl_region ?_
  refine st_val (.pointer (some ⟨g2, 0, none⟩)) (by kernel_rfl) (by kernel_rfl) ?_
  refine st_val (.pointer (some ⟨g2, 5, none⟩)) (by kernel_rfl) (by kernel_rfl) ?_
  refine st_val (.int .i64 s.br) (by kernel_rfl) (run_load_cell 3 (.tmp 6) rfl ⟨g2, 5, none⟩ (by kernel_rfl) _ (M4.cell 0 rfl 5 _ (sqv_br _)) (by kernel_rfl)) ?_
  refine st_val (.pointer (some ⟨g2, 0, none⟩)) (by kernel_rfl) (by kernel_rfl) ?_
  refine st_val (.pointer (some ⟨g2, 2, none⟩)) (by kernel_rfl) (by kernel_rfl) ?_
  refine st_val (.pointer (some ⟨g2, 3, none⟩)) (by kernel_rfl) (by kernel_rfl) ?_
  refine st_val (.int .i64 s.den) (by kernel_rfl) (run_load_cell 2 (.tmp 10) rfl ⟨g2, 3, none⟩ (by kernel_rfl) _ (M4.cell 0 rfl 3 _ (sqv_den _)) (by kernel_rfl)) ?_
  refine st_val (.int .i64 (s.br * s.den)) (by kernel_rfl) (i64_of (by omega) (by kernel_rfl)) ?_
  refine st_val (.int .i64 f) (by kernel_rfl) (by kernel_rfl) ?_
  refine st_val (.int .i64 ((s.br * s.den) * f)) (by kernel_rfl) (i64_of (mul_bd (m := 1099511627776) (n := 3) vQ h3 (by decide)) (by kernel_rfl)) ?_
  refine st_val (.int .i64 ((s.br * s.den) * f)) (by kernel_rfl) (by kernel_rfl) ?_
  refine wl_nil ?_
  refine hK5 _ _ ?_
  try clear hK5 K5
  refine wp_frame (a' := ⟨#[.agg (sqv s), .int .i64 f, .pointer (some ⟨g2, 0, none⟩), undef, .int .i64 ((s.br * s.den) * f), .pointer (some ⟨g2, 0, none⟩), .pointer (some ⟨g2, 5, none⟩), .int .i64 s.br, .pointer (some ⟨g2, 0, none⟩), .pointer (some ⟨g2, 2, none⟩), .pointer (some ⟨g2, 3, none⟩), .int .i64 s.den, .int .i64 (s.br * s.den), .int .i64 f, .int .i64 ((s.br * s.den) * f)], []⟩) (by kernel_rfl) ?_
  refine wp_ret ?_
  exact done1 4 (.int .i64 ((s.br * s.den) * f)) (by kernel_rfl) (by kernel_rfl) (by kernel_rfl) ⟨rfl, M4.toBelow⟩
set_option maxHeartbeats 4000000 in
set_option maxRecDepth 100000 in
theorem mcost_walk (w : World) (s : SeqD) (hs : SOk s) (hv : sB s = true) (b : Int) (hb : (-9223372036854775808 ≤ 2 * s.num * b ∧ 2 * s.num * b ≤ 9223372036854775807))  : Calls Try.prog 34 #[.agg (sqv s), .int .i64 b] w fun e w' => e = .returned (.int .i64 (2 * s.num * b)) ∧ Below w.heap.size w w' := by
  refine calls_of_wp Try.func34 rfl ?_
  refine wp_frame (a' := ⟨#[.agg (sqv s), .int .i64 b, undef, undef, undef, undef, undef, undef, undef, undef, undef, undef], []⟩) (by kernel_rfl) ?_
  have M0 : Mem NoS w w [] := Mem.start _ _
  refine wp_seq_k (fun K1 hK1 => ?_)
  obtain ⟨vn1, vn2, vd1, vd2, vb1, vb2, vu1, vu2, vP, vQ, vR⟩ := SV_facts hv
  refine wl_region ?_
  refine st_alloc M0 (.cells (sqv s) 63 (0, 0)) (by kernel_rfl) (by kernel_rfl) ?_
  intro g2 W3 M4
  refine st_val (.int .i64 0) (by kernel_rfl) (by kernel_rfl) ?_
  refine wl_nil ?_
  refine hK1 _ _ ?_
  try clear hK1 K1
  refine wp_seq_k (fun K5 hK5 => ?_)
  refine wl_region ?_
  refine st_val (.pointer (some ⟨g2, 0, none⟩)) (by kernel_rfl) (by kernel_rfl) ?_
  refine st_val (.pointer (some ⟨g2, 2, none⟩)) (by kernel_rfl) (by kernel_rfl) ?_
  refine st_val (.pointer (some ⟨g2, 2, none⟩)) (by kernel_rfl) (by kernel_rfl) ?_
  refine st_val (.int .i64 s.num) (by kernel_rfl) (run_load_cell 2 (.tmp 7) rfl ⟨g2, 2, none⟩ (by kernel_rfl) _ (M4.cell 0 rfl 2 _ (sqv_num _)) (by kernel_rfl)) ?_
  refine st_val (.int .i64 (2 * s.num)) (by kernel_rfl) (i64_of (by omega) (by kernel_rfl)) ?_
  refine st_val (.int .i64 b) (by kernel_rfl) (by kernel_rfl) ?_
  refine st_val (.int .i64 ((2 * s.num) * b)) (by kernel_rfl) (i64_of hb (by kernel_rfl)) ?_
  refine st_val (.int .i64 ((2 * s.num) * b)) (by kernel_rfl) (by kernel_rfl) ?_
  refine wl_nil ?_
  refine hK5 _ _ ?_
  try clear hK5 K5
  refine wp_ret ?_
  exact done1 4 (.int .i64 ((2 * s.num) * b)) (by kernel_rfl) (by kernel_rfl) (by kernel_rfl) ⟨rfl, M4.toBelow⟩
set_option maxHeartbeats 4000000 in
set_option maxRecDepth 100000 in
theorem part_walk (w : World) (s : SeqD) (hs : SOk s) (hv : sB s = true) : Calls Try.prog 32 #[.agg (sqv s)] w fun e w' => e = .returned (.int .i64 (2 * s.num)) ∧ Below w.heap.size w w' := by
  refine calls_of_wp Try.func32 rfl ?_
  refine wp_frame (a' := ⟨#[.agg (sqv s), undef, undef, undef, undef, undef, undef], []⟩) (by kernel_rfl) ?_
  have M0 : Mem NoS w w [] := Mem.start _ _
  refine wp_seq_k (fun K1 hK1 => ?_)
  obtain ⟨vn1, vn2, vd1, vd2, vb1, vb2, vu1, vu2, vP, vQ, vR⟩ := SV_facts hv
  refine wl_region ?_
  refine st_alloc M0 (.cells (sqv s) 26 (0, 0)) (by kernel_rfl) (by kernel_rfl) ?_
  intro g2 W3 M4
  refine st_val (.int .i64 0) (by kernel_rfl) (by kernel_rfl) ?_
  refine wl_nil ?_
  refine hK1 _ _ ?_
  try clear hK1 K1
  refine wp_seq_k (fun K5 hK5 => ?_)
  refine wl_region ?_
  refine st_val (.pointer (some ⟨g2, 2, none⟩)) (by kernel_rfl) (by kernel_rfl) ?_
  refine st_val (.pointer (some ⟨g2, 2, none⟩)) (by kernel_rfl) (by kernel_rfl) ?_
  refine st_val (.int .i64 s.num) (by kernel_rfl) (run_load_cell 2 (.tmp 4) rfl ⟨g2, 2, none⟩ (by kernel_rfl) _ (M4.cell 0 rfl 2 _ (sqv_num _)) (by kernel_rfl)) ?_
  refine st_val (.int .i64 (2 * s.num)) (by kernel_rfl) (i64_of (by omega) (by kernel_rfl)) ?_
  refine st_val (.int .i64 (2 * s.num)) (by kernel_rfl) (by kernel_rfl) ?_
  refine wl_nil ?_
  refine hK5 _ _ ?_
  try clear hK5 K5
  refine wp_ret ?_
  exact done1 2 (.int .i64 (2 * s.num)) (by kernel_rfl) (by kernel_rfl) (by kernel_rfl) ⟨rfl, M4.toBelow⟩
set_option maxHeartbeats 4000000 in
set_option maxRecDepth 100000 in
theorem cap_walk (w : World) (s : SeqD) (hs : SOk s)  : Calls Try.prog 12 #[.agg (sqv s)] w fun e w' => e = .returned (.int .i64 (capS s)) ∧ Below w.heap.size w w' := by
  refine calls_of_wp Try.func12 rfl ?_
  refine wp_frame (a' := ⟨#[.agg (sqv s), undef, undef, undef, undef, undef, undef, undef, undef], []⟩) (by kernel_rfl) ?_
  have M0 : Mem NoS w w [] := Mem.start _ _
  refine wp_seq_k (fun K1 hK1 => ?_)
  refine wl_region ?_
  refine st_alloc M0 (.cells (sqv s) 26 (0, 0)) (by kernel_rfl) (by kernel_rfl) ?_
  intro g2 W3 M4
  refine st_val (.int .i64 0) (by kernel_rfl) (by kernel_rfl) ?_
  refine wl_nil ?_
  refine hK1 _ _ ?_
  try clear hK1 K1
  refine wp_seq_k (fun K5 hK5 => ?_)
  refine wp_seq_k (fun K6 hK6 => ?_)
  refine wl_region ?_
  refine st_val (.agg (sqv s)) (by kernel_rfl) (run_load_row 26 (.tmp 1) rfl g2 (by kernel_rfl) 26 (sqv s) (0, 0) _ (M4.get 0 rfl) Try.underlying26 rfl (infoSq hs.la hs.lb)) ?_
  rcases Bool.eq_false_or_eq_true (sB s) with hv | hv
  ·
    refine st_callB M4 (.bool true) (by kernel_rfl) (args := #[.agg (sqv s)]) (run_value_call 30 #[(Operand.tmp 3)] _ rfl Try.func30 (by kernel_rfl) (by kernel_rfl) _ (by kernel_rfl)) ((by have := vseq_walk W3 s hs; rw [hv] at this; exact this)) ?_
    intro W7 M8
    obtain ⟨vn1, vn2, vd1, vd2, vb1, vb2, vu1, vu2, vP, vQ, vR⟩ := SV_facts hv
    refine st_val (.bool false) (by kernel_rfl) (by kernel_rfl) ?_
    refine wl_nil ?_
    refine hK6 _ _ ?_
    try clear hK6 K6
    refine wp_cond_false (by kernel_rfl) ?_
    refine wp_skip ?_
    refine hK5 _ _ ?_
    try clear hK5 K5
    refine wp_seq_k (fun K9 hK9 => ?_)
    refine wl_region ?_
    refine st_val (.agg (sqv s)) (by kernel_rfl) (run_load_row 26 (.tmp 1) rfl g2 (by kernel_rfl) 26 (sqv s) (0, 0) _ (M8.get 0 rfl) Try.underlying26 rfl (infoSq hs.la hs.lb)) ?_
    refine st_val (.agg (sqv s)) (by kernel_rfl) (run_build_model (.tmp 6) rfl (sqv s) (by kernel_rfl) (sqv_size hs.la hs.lb)) ?_
    refine st_callB M8 (.int .i64 (2 * s.num * s.bu)) (by kernel_rfl) (args := #[.agg (sqv s)]) (run_value_call 31 #[(Operand.tmp 7)] _ rfl Try.func31 (by kernel_rfl) (by kernel_rfl) _ (by kernel_rfl)) (mcap_walk W7 s hs hv) ?_
    intro W10 M11
    refine st_val (.int .i64 (2 * s.num * s.bu)) (by kernel_rfl) (by kernel_rfl) ?_
    refine wl_nil ?_
    refine hK9 _ _ ?_
    try clear hK9 K9
    refine wp_ret ?_
    exact done1 2 (.int .i64 (2 * s.num * s.bu)) (by kernel_rfl) (by kernel_rfl) (by kernel_rfl) ⟨by rw [capS_t hv], M11.toBelow⟩
  ·
    refine st_callB M4 (.bool false) (by kernel_rfl) (args := #[.agg (sqv s)]) (run_value_call 30 #[(Operand.tmp 3)] _ rfl Try.func30 (by kernel_rfl) (by kernel_rfl) _ (by kernel_rfl)) ((by have := vseq_walk W3 s hs; rw [hv] at this; exact this)) ?_
    intro W12 M13
    refine st_val (.bool true) (by kernel_rfl) (by kernel_rfl) ?_
    refine wl_nil ?_
    refine hK6 _ _ ?_
    try clear hK6 K6
    refine wp_cond_true (by kernel_rfl) ?_
    refine wp_seq_k (fun K14 hK14 => ?_)
    refine wl_region ?_
    refine st_val (.int .i64 0) (by kernel_rfl) (by kernel_rfl) ?_
    refine wl_nil ?_
    refine hK14 _ _ ?_
    try clear hK14 K14
    refine wp_ret ?_
    refine th_ret ?_
    exact done1 2 (.int .i64 0) (by kernel_rfl) (by kernel_rfl) (by kernel_rfl) ⟨by rw [capS_f hv], M13.toBelow⟩
set_option maxHeartbeats 4000000 in
set_option maxRecDepth 100000 in
theorem refCap_walk (w : World) (s : SeqD) (hs : SOk s)  : Calls Try.prog 13 #[.agg (sqv s)] w fun e w' => e = .returned (.int .i64 (capS s)) ∧ Below w.heap.size w w' := by
  refine calls_of_wp Try.func13 rfl ?_
  refine wp_frame (a' := ⟨#[.agg (sqv s), undef, undef, undef, undef, undef, undef, undef, undef, undef, undef], []⟩) (by kernel_rfl) ?_
  have M0 : Mem NoS w w [] := Mem.start _ _
  refine wp_seq_k (fun K1 hK1 => ?_)
  refine wl_region ?_
  refine st_alloc M0 (.cells (sqv s) 26 (0, 0)) (by kernel_rfl) (by kernel_rfl) ?_
  intro g2 W3 M4
  refine st_val (.int .i64 0) (by kernel_rfl) (by kernel_rfl) ?_
  refine wl_nil ?_
  refine hK1 _ _ ?_
  try clear hK1 K1
  refine wp_seq_k (fun K5 hK5 => ?_)
  refine wp_seq_k (fun K6 hK6 => ?_)
  refine wl_region ?_
  refine st_val (.agg (sqv s)) (by kernel_rfl) (run_load_row 26 (.tmp 1) rfl g2 (by kernel_rfl) 26 (sqv s) (0, 0) _ (M4.get 0 rfl) Try.underlying26 rfl (infoSq hs.la hs.lb)) ?_
  rcases Bool.eq_false_or_eq_true (sB s) with hv | hv
  ·
    refine st_callB M4 (.bool true) (by kernel_rfl) (args := #[.agg (sqv s)]) (run_value_call 28 #[(Operand.tmp 3)] _ rfl Try.func28 (by kernel_rfl) (by kernel_rfl) _ (by kernel_rfl)) ((by have := refVseq_walk W3 s hs; rw [hv] at this; exact this)) ?_
    intro W7 M8
    obtain ⟨vn1, vn2, vd1, vd2, vb1, vb2, vu1, vu2, vP, vQ, vR⟩ := SV_facts hv
    refine st_val (.bool false) (by kernel_rfl) (by kernel_rfl) ?_
    refine wl_nil ?_
    refine hK6 _ _ ?_
    try clear hK6 K6
    refine wp_cond_false (by kernel_rfl) ?_
    refine wp_skip ?_
    refine hK5 _ _ ?_
    try clear hK5 K5
    refine wp_seq_k (fun K9 hK9 => ?_)
    refine wl_seq 6 (fun w' => Mem NoS w w' [(g2, .cells (sqv s) 26 (0, 0))]) (by decide) (by kernel_rfl) (by kernel_rfl) M8.drew ?_
    refine seq_run (v := .agg (sqv s)) (by decide) (by kernel_rfl) (fun w' M' => (run_load_row 26 (.tmp 1) rfl g2 (by kernel_rfl) 26 (sqv s) (0, 0) _ (M'.get 0 rfl) Try.underlying26 rfl (infoSq hs.la hs.lb))) ?_
    refine seq_call (v := .int .i64 (2 * s.num)) (f := 32) (args := #[.agg (sqv s)]) (by decide) (by kernel_rfl) (fun w' M' => (run_value_call 32 #[(Operand.tmp 6)] _ rfl Try.func32 (by kernel_rfl) (by kernel_rfl) _ (by kernel_rfl))) (fun w' M' => callB_mem M' (part_walk w' s hs hv)) ?_
    refine seq_run (v := .pointer (some ⟨g2, 6, none⟩)) (by decide) (by kernel_rfl) (fun w' M' => (by kernel_rfl)) ?_
    refine seq_run (v := .int .i64 s.bu) (by decide) (by kernel_rfl) (fun w' M' => (run_load_cell 3 (.tmp 8) rfl ⟨g2, 6, none⟩ (by kernel_rfl) _ (M'.cell 0 rfl 6 _ (sqv_bu _)) (by kernel_rfl))) ?_
    refine seq_run (v := .int .i64 ((2 * s.num) * s.bu)) (by decide) (by kernel_rfl) (fun w' M' => (i64_of (by omega) (by kernel_rfl))) ?_
    refine seq_run (v := .int .i64 ((2 * s.num) * s.bu)) (by decide) (by kernel_rfl) (fun w' M' => (by kernel_rfl)) ?_
    refine seq_end (by decide) ?_
    intro W10 M11
    refine wl_nil ?_
    refine hK9 _ _ ?_
    try clear hK9 K9
    refine wp_ret ?_
    exact done1 2 (.int .i64 ((2 * s.num) * s.bu)) (by kernel_rfl) (by kernel_rfl) (by kernel_rfl) ⟨by rw [capS_t hv], M11.toBelow⟩
  ·
    refine st_callB M4 (.bool false) (by kernel_rfl) (args := #[.agg (sqv s)]) (run_value_call 28 #[(Operand.tmp 3)] _ rfl Try.func28 (by kernel_rfl) (by kernel_rfl) _ (by kernel_rfl)) ((by have := refVseq_walk W3 s hs; rw [hv] at this; exact this)) ?_
    intro W12 M13
    refine st_val (.bool true) (by kernel_rfl) (by kernel_rfl) ?_
    refine wl_nil ?_
    refine hK6 _ _ ?_
    try clear hK6 K6
    refine wp_cond_true (by kernel_rfl) ?_
    refine wp_seq_k (fun K14 hK14 => ?_)
    refine wl_region ?_
    refine st_val (.int .i64 0) (by kernel_rfl) (by kernel_rfl) ?_
    refine wl_nil ?_
    refine hK14 _ _ ?_
    try clear hK14 K14
    refine wp_ret ?_
    refine th_ret ?_
    exact done1 2 (.int .i64 0) (by kernel_rfl) (by kernel_rfl) (by kernel_rfl) ⟨by rw [capS_f hv], M13.toBelow⟩
set_option maxHeartbeats 4000000 in
set_option maxRecDepth 100000 in
theorem arr_walk (w : World) (s : SeqD) (hs : SOk s) (f : Int)  : Calls Try.prog 14 #[.agg (sqv s), .int .i64 f] w fun e w' => e = .returned (.int .i64 (arrS s f)) ∧ Below w.heap.size w w' := by
  refine calls_of_wp Try.func14 rfl ?_
  refine wp_frame (a' := ⟨#[.agg (sqv s), .int .i64 f, undef, undef, undef, undef, undef, undef, undef, undef, undef, undef, undef, undef, undef, undef, undef, undef, undef, undef], []⟩) (by kernel_rfl) ?_
  have M0 : Mem NoS w w [] := Mem.start _ _
  refine wp_seq_k (fun K1 hK1 => ?_)
  refine wl_region ?_
  refine st_alloc M0 (.cells (sqv s) 26 (0, 0)) (by kernel_rfl) (by kernel_rfl) ?_
  intro g2 W3 M4
  refine st_val (.int .i64 0) (by kernel_rfl) (by kernel_rfl) ?_
  refine wl_nil ?_
  refine hK1 _ _ ?_
  try clear hK1 K1
  refine wp_seq_k (fun K5 hK5 => ?_)
  refine wp_seq_k (fun K6 hK6 => ?_)
  refine wl_region ?_
  refine st_val (.agg (sqv s)) (by kernel_rfl) (run_load_row 26 (.tmp 2) rfl g2 (by kernel_rfl) 26 (sqv s) (0, 0) _ (M4.get 0 rfl) Try.underlying26 rfl (infoSq hs.la hs.lb)) ?_
  rcases Bool.eq_false_or_eq_true (sB s) with hv | hv
  ·
    refine st_callB M4 (.bool true) (by kernel_rfl) (args := #[.agg (sqv s)]) (run_value_call 30 #[(Operand.tmp 5)] _ rfl Try.func30 (by kernel_rfl) (by kernel_rfl) _ (by kernel_rfl)) ((by have := vseq_walk W3 s hs; rw [hv] at this; exact this)) ?_
    intro W7 M8
    obtain ⟨vn1, vn2, vd1, vd2, vb1, vb2, vu1, vu2, vP, vQ, vR⟩ := SV_facts hv
    refine st_val (.bool false) (by kernel_rfl) (by kernel_rfl) ?_
    refine st_val (.bool false) (by kernel_rfl) (by kernel_rfl) ?_
    refine st_val (.int .i64 f) (by kernel_rfl) (by kernel_rfl) ?_
    rcases Decidable.em ((f : Int) < 0) with c10 | c10
    ·
      refine st_val (.bool true) (by kernel_rfl) (bool_of (dec_t c10) (by kernel_rfl)) ?_
      refine st_val (.bool true) (by kernel_rfl) (by kernel_rfl) ?_
      refine st_val (.bool true) (by kernel_rfl) (by kernel_rfl) ?_
      refine st_skip (by kernel_rfl) ?_
      refine st_skip (by kernel_rfl) ?_
      refine st_val (.bool true) (by kernel_rfl) (by kernel_rfl) ?_
      refine wl_nil ?_
      refine hK6 _ _ ?_
      try clear hK6 K6
      refine wp_frame (a' := ⟨#[.agg (sqv s), .int .i64 f, .pointer (some ⟨g2, 0, none⟩), undef, .int .i64 0, .agg (sqv s), .bool true, .bool false, .bool false, .int .i64 f, .bool true, .bool true, .bool true, undef, undef, .bool true, undef, undef, undef, undef], []⟩) (by kernel_rfl) ?_
      refine wp_cond_true (by kernel_rfl) ?_
      refine wp_seq_k (fun K9 hK9 => ?_)
      refine wl_region ?_
      refine st_val (.int .i64 0) (by kernel_rfl) (by kernel_rfl) ?_
      refine wl_nil ?_
      refine hK9 _ _ ?_
      try clear hK9 K9
      refine wp_ret ?_
      refine th_ret ?_
      exact done1 4 (.int .i64 0) (by kernel_rfl) (by kernel_rfl) (by kernel_rfl) ⟨by rw [arrS_f (by first | exact .inl hv | exact .inr (by omega))], M8.toBelow⟩
    ·
      refine st_val (.bool false) (by kernel_rfl) (bool_of (dec_f c10) (by kernel_rfl)) ?_
      refine st_val (.bool false) (by kernel_rfl) (by kernel_rfl) ?_
      refine st_val (.bool false) (by kernel_rfl) (by kernel_rfl) ?_
      refine st_val (.int .i64 f) (by kernel_rfl) (by kernel_rfl) ?_
      rcases Decidable.em ((f : Int) > 3) with c14 | c14
      ·
        refine st_val (.bool true) (by kernel_rfl) (bool_of (dec_t c14) (by kernel_rfl)) ?_
        refine st_val (.bool true) (by kernel_rfl) (by kernel_rfl) ?_
        refine wl_nil ?_
        refine hK6 _ _ ?_
        try clear hK6 K6
        refine wp_frame (a' := ⟨#[.agg (sqv s), .int .i64 f, .pointer (some ⟨g2, 0, none⟩), undef, .int .i64 0, .agg (sqv s), .bool true, .bool false, .bool false, .int .i64 f, .bool false, .bool false, .bool false, .int .i64 f, .bool true, .bool true, undef, undef, undef, undef], []⟩) (by kernel_rfl) ?_
        refine wp_cond_true (by kernel_rfl) ?_
        refine wp_seq_k (fun K10 hK10 => ?_)
        refine wl_region ?_
        refine st_val (.int .i64 0) (by kernel_rfl) (by kernel_rfl) ?_
        refine wl_nil ?_
        refine hK10 _ _ ?_
        try clear hK10 K10
        refine wp_ret ?_
        refine th_ret ?_
        exact done1 4 (.int .i64 0) (by kernel_rfl) (by kernel_rfl) (by kernel_rfl) ⟨by rw [arrS_f (by first | exact .inl hv | exact .inr (by omega))], M8.toBelow⟩
      ·
        refine st_val (.bool false) (by kernel_rfl) (bool_of (dec_f c14) (by kernel_rfl)) ?_
        refine st_val (.bool false) (by kernel_rfl) (by kernel_rfl) ?_
        refine wl_nil ?_
        refine hK6 _ _ ?_
        try clear hK6 K6
        refine wp_frame (a' := ⟨#[.agg (sqv s), .int .i64 f, .pointer (some ⟨g2, 0, none⟩), undef, .int .i64 0, .agg (sqv s), .bool true, .bool false, .bool false, .int .i64 f, .bool false, .bool false, .bool false, .int .i64 f, .bool false, .bool false, undef, undef, undef, undef], []⟩) (by kernel_rfl) ?_
        refine wp_cond_false (by kernel_rfl) ?_
        refine wp_skip ?_
        refine hK5 _ _ ?_
        try clear hK5 K5
        refine wp_seq_k (fun K11 hK11 => ?_)
        refine wl_region ?_
        refine st_val (.agg (sqv s)) (by kernel_rfl) (run_load_row 26 (.tmp 2) rfl g2 (by kernel_rfl) 26 (sqv s) (0, 0) _ (M8.get 0 rfl) Try.underlying26 rfl (infoSq hs.la hs.lb)) ?_
        refine st_val (.agg (sqv s)) (by kernel_rfl) (run_build_model (.tmp 16) rfl (sqv s) (by kernel_rfl) (sqv_size hs.la hs.lb)) ?_
        refine st_val (.int .i64 f) (by kernel_rfl) (by kernel_rfl) ?_
        refine st_callB M8 (.int .i64 (s.br * s.den * f)) (by kernel_rfl) (args := #[.agg (sqv s), .int .i64 f]) (run_value_call 33 #[(Operand.tmp 17), (Operand.tmp 18)] _ rfl Try.func33 (by kernel_rfl) (by kernel_rfl) _ (by kernel_rfl)) (marr_walk W7 s hs hv f (by omega)) ?_
        intro W12 M13
        refine st_val (.int .i64 (s.br * s.den * f)) (by kernel_rfl) (by kernel_rfl) ?_
        refine wl_nil ?_
        refine hK11 _ _ ?_
        try clear hK11 K11
        refine wp_ret ?_
        exact done1 4 (.int .i64 (s.br * s.den * f)) (by kernel_rfl) (by kernel_rfl) (by kernel_rfl) ⟨by rw [arrS_t hv (by omega)], M13.toBelow⟩
  ·
    refine st_callB M4 (.bool false) (by kernel_rfl) (args := #[.agg (sqv s)]) (run_value_call 30 #[(Operand.tmp 5)] _ rfl Try.func30 (by kernel_rfl) (by kernel_rfl) _ (by kernel_rfl)) ((by have := vseq_walk W3 s hs; rw [hv] at this; exact this)) ?_
    intro W14 M15
    refine st_val (.bool true) (by kernel_rfl) (by kernel_rfl) ?_
    refine st_val (.bool true) (by kernel_rfl) (by kernel_rfl) ?_
    refine st_skip (by kernel_rfl) ?_
    refine st_skip (by kernel_rfl) ?_
    refine st_val (.bool true) (by kernel_rfl) (by kernel_rfl) ?_
    refine st_val (.bool true) (by kernel_rfl) (by kernel_rfl) ?_
    refine st_skip (by kernel_rfl) ?_
    refine st_skip (by kernel_rfl) ?_
    refine st_val (.bool true) (by kernel_rfl) (by kernel_rfl) ?_
    refine wl_nil ?_
    refine hK6 _ _ ?_
    try clear hK6 K6
    refine wp_frame (a' := ⟨#[.agg (sqv s), .int .i64 f, .pointer (some ⟨g2, 0, none⟩), undef, .int .i64 0, .agg (sqv s), .bool false, .bool true, .bool true, undef, undef, .bool true, .bool true, undef, undef, .bool true, undef, undef, undef, undef], []⟩) (by kernel_rfl) ?_
    refine wp_cond_true (by kernel_rfl) ?_
    refine wp_seq_k (fun K16 hK16 => ?_)
    refine wl_region ?_
    refine st_val (.int .i64 0) (by kernel_rfl) (by kernel_rfl) ?_
    refine wl_nil ?_
    refine hK16 _ _ ?_
    try clear hK16 K16
    refine wp_ret ?_
    refine th_ret ?_
    exact done1 4 (.int .i64 0) (by kernel_rfl) (by kernel_rfl) (by kernel_rfl) ⟨by rw [arrS_f (by first | exact .inl hv | exact .inr (by omega))], M15.toBelow⟩
set_option maxHeartbeats 4000000 in
set_option maxRecDepth 100000 in
theorem refArr_walk (w : World) (s : SeqD) (hs : SOk s) (f : Int)  : Calls Try.prog 15 #[.agg (sqv s), .int .i64 f] w fun e w' => e = .returned (.int .i64 (arrS s f)) ∧ Below w.heap.size w w' := by
  refine calls_of_wp Try.func15 rfl ?_
  refine wp_frame (a' := ⟨#[.agg (sqv s), .int .i64 f, undef, undef, undef, undef, undef, undef, undef, undef, undef, undef, undef, undef, undef, undef, undef, undef, undef, undef, undef, undef, undef, undef], []⟩) (by kernel_rfl) ?_
  have M0 : Mem NoS w w [] := Mem.start _ _
  refine wp_seq_k (fun K1 hK1 => ?_)
  refine wl_region ?_
  refine st_alloc M0 (.cells (sqv s) 26 (0, 0)) (by kernel_rfl) (by kernel_rfl) ?_
  intro g2 W3 M4
  refine st_val (.int .i64 0) (by kernel_rfl) (by kernel_rfl) ?_
  refine wl_nil ?_
  refine hK1 _ _ ?_
  try clear hK1 K1
  refine wp_seq_k (fun K5 hK5 => ?_)
  refine wp_seq_k (fun K6 hK6 => ?_)
  refine wl_region ?_
  refine st_val (.agg (sqv s)) (by kernel_rfl) (run_load_row 26 (.tmp 2) rfl g2 (by kernel_rfl) 26 (sqv s) (0, 0) _ (M4.get 0 rfl) Try.underlying26 rfl (infoSq hs.la hs.lb)) ?_
  rcases Bool.eq_false_or_eq_true (sB s) with hv | hv
  ·
    refine st_callB M4 (.bool true) (by kernel_rfl) (args := #[.agg (sqv s)]) (run_value_call 28 #[(Operand.tmp 5)] _ rfl Try.func28 (by kernel_rfl) (by kernel_rfl) _ (by kernel_rfl)) ((by have := refVseq_walk W3 s hs; rw [hv] at this; exact this)) ?_
    intro W7 M8
    obtain ⟨vn1, vn2, vd1, vd2, vb1, vb2, vu1, vu2, vP, vQ, vR⟩ := SV_facts hv
    refine st_val (.bool false) (by kernel_rfl) (by kernel_rfl) ?_
    refine st_val (.bool false) (by kernel_rfl) (by kernel_rfl) ?_
    refine st_val (.int .i64 f) (by kernel_rfl) (by kernel_rfl) ?_
    rcases Decidable.em ((f : Int) < 0) with c10 | c10
    ·
      refine st_val (.bool true) (by kernel_rfl) (bool_of (dec_t c10) (by kernel_rfl)) ?_
      refine st_val (.bool true) (by kernel_rfl) (by kernel_rfl) ?_
      refine st_val (.bool true) (by kernel_rfl) (by kernel_rfl) ?_
      refine st_skip (by kernel_rfl) ?_
      refine st_skip (by kernel_rfl) ?_
      refine st_val (.bool true) (by kernel_rfl) (by kernel_rfl) ?_
      refine wl_nil ?_
      refine hK6 _ _ ?_
      try clear hK6 K6
      refine wp_frame (a' := ⟨#[.agg (sqv s), .int .i64 f, .pointer (some ⟨g2, 0, none⟩), undef, .int .i64 0, .agg (sqv s), .bool true, .bool false, .bool false, .int .i64 f, .bool true, .bool true, .bool true, undef, undef, .bool true, undef, undef, undef, undef, undef, undef, undef, undef], []⟩) (by kernel_rfl) ?_
      refine wp_cond_true (by kernel_rfl) ?_
      refine wp_seq_k (fun K9 hK9 => ?_)
      refine wl_region ?_
      refine st_val (.int .i64 0) (by kernel_rfl) (by kernel_rfl) ?_
      refine wl_nil ?_
      refine hK9 _ _ ?_
      try clear hK9 K9
      refine wp_ret ?_
      refine th_ret ?_
      exact done1 4 (.int .i64 0) (by kernel_rfl) (by kernel_rfl) (by kernel_rfl) ⟨by rw [arrS_f (by first | exact .inl hv | exact .inr (by omega))], M8.toBelow⟩
    ·
      refine st_val (.bool false) (by kernel_rfl) (bool_of (dec_f c10) (by kernel_rfl)) ?_
      refine st_val (.bool false) (by kernel_rfl) (by kernel_rfl) ?_
      refine st_val (.bool false) (by kernel_rfl) (by kernel_rfl) ?_
      refine st_val (.int .i64 f) (by kernel_rfl) (by kernel_rfl) ?_
      rcases Decidable.em ((f : Int) > 3) with c14 | c14
      ·
        refine st_val (.bool true) (by kernel_rfl) (bool_of (dec_t c14) (by kernel_rfl)) ?_
        refine st_val (.bool true) (by kernel_rfl) (by kernel_rfl) ?_
        refine wl_nil ?_
        refine hK6 _ _ ?_
        try clear hK6 K6
        refine wp_frame (a' := ⟨#[.agg (sqv s), .int .i64 f, .pointer (some ⟨g2, 0, none⟩), undef, .int .i64 0, .agg (sqv s), .bool true, .bool false, .bool false, .int .i64 f, .bool false, .bool false, .bool false, .int .i64 f, .bool true, .bool true, undef, undef, undef, undef, undef, undef, undef, undef], []⟩) (by kernel_rfl) ?_
        refine wp_cond_true (by kernel_rfl) ?_
        refine wp_seq_k (fun K10 hK10 => ?_)
        refine wl_region ?_
        refine st_val (.int .i64 0) (by kernel_rfl) (by kernel_rfl) ?_
        refine wl_nil ?_
        refine hK10 _ _ ?_
        try clear hK10 K10
        refine wp_ret ?_
        refine th_ret ?_
        exact done1 4 (.int .i64 0) (by kernel_rfl) (by kernel_rfl) (by kernel_rfl) ⟨by rw [arrS_f (by first | exact .inl hv | exact .inr (by omega))], M8.toBelow⟩
      ·
        refine st_val (.bool false) (by kernel_rfl) (bool_of (dec_f c14) (by kernel_rfl)) ?_
        refine st_val (.bool false) (by kernel_rfl) (by kernel_rfl) ?_
        refine wl_nil ?_
        refine hK6 _ _ ?_
        try clear hK6 K6
        refine wp_frame (a' := ⟨#[.agg (sqv s), .int .i64 f, .pointer (some ⟨g2, 0, none⟩), undef, .int .i64 0, .agg (sqv s), .bool true, .bool false, .bool false, .int .i64 f, .bool false, .bool false, .bool false, .int .i64 f, .bool false, .bool false, undef, undef, undef, undef, undef, undef, undef, undef], []⟩) (by kernel_rfl) ?_
        refine wp_cond_false (by kernel_rfl) ?_
        refine wp_skip ?_
        refine hK5 _ _ ?_
        try clear hK5 K5
        refine wp_seq_k (fun K11 hK11 => ?_)
        refine wl_region ?_
        refine st_val (.pointer (some ⟨g2, 5, none⟩)) (by kernel_rfl) (by kernel_rfl) ?_
        refine st_val (.int .i64 s.br) (by kernel_rfl) (run_load_cell 3 (.tmp 16) rfl ⟨g2, 5, none⟩ (by kernel_rfl) _ (M8.cell 0 rfl 5 _ (sqv_br _)) (by kernel_rfl)) ?_
        refine st_val (.pointer (some ⟨g2, 2, none⟩)) (by kernel_rfl) (by kernel_rfl) ?_
        refine st_val (.pointer (some ⟨g2, 3, none⟩)) (by kernel_rfl) (by kernel_rfl) ?_
        refine st_val (.int .i64 s.den) (by kernel_rfl) (run_load_cell 2 (.tmp 19) rfl ⟨g2, 3, none⟩ (by kernel_rfl) _ (M8.cell 0 rfl 3 _ (sqv_den _)) (by kernel_rfl)) ?_
        refine st_val (.int .i64 (s.br * s.den)) (by kernel_rfl) (i64_of (by omega) (by kernel_rfl)) ?_
        refine st_val (.int .i64 f) (by kernel_rfl) (by kernel_rfl) ?_
        refine st_val (.int .i64 ((s.br * s.den) * f)) (by kernel_rfl) (i64_of (mul_bd (m := 1099511627776) (n := 3) vQ (by omega) (by decide)) (by kernel_rfl)) ?_
        refine st_val (.int .i64 ((s.br * s.den) * f)) (by kernel_rfl) (by kernel_rfl) ?_
        refine wl_nil ?_
        refine hK11 _ _ ?_
        try clear hK11 K11
        refine wp_ret ?_
        exact done1 4 (.int .i64 ((s.br * s.den) * f)) (by kernel_rfl) (by kernel_rfl) (by kernel_rfl) ⟨by rw [arrS_t hv (by omega)], M8.toBelow⟩
  ·
    refine st_callB M4 (.bool false) (by kernel_rfl) (args := #[.agg (sqv s)]) (run_value_call 28 #[(Operand.tmp 5)] _ rfl Try.func28 (by kernel_rfl) (by kernel_rfl) _ (by kernel_rfl)) ((by have := refVseq_walk W3 s hs; rw [hv] at this; exact this)) ?_
    intro W12 M13
    refine st_val (.bool true) (by kernel_rfl) (by kernel_rfl) ?_
    refine st_val (.bool true) (by kernel_rfl) (by kernel_rfl) ?_
    refine st_skip (by kernel_rfl) ?_
    refine st_skip (by kernel_rfl) ?_
    refine st_val (.bool true) (by kernel_rfl) (by kernel_rfl) ?_
    refine st_val (.bool true) (by kernel_rfl) (by kernel_rfl) ?_
    refine st_skip (by kernel_rfl) ?_
    refine st_skip (by kernel_rfl) ?_
    refine st_val (.bool true) (by kernel_rfl) (by kernel_rfl) ?_
    refine wl_nil ?_
    refine hK6 _ _ ?_
    try clear hK6 K6
    refine wp_frame (a' := ⟨#[.agg (sqv s), .int .i64 f, .pointer (some ⟨g2, 0, none⟩), undef, .int .i64 0, .agg (sqv s), .bool false, .bool true, .bool true, undef, undef, .bool true, .bool true, undef, undef, .bool true, undef, undef, undef, undef, undef, undef, undef, undef], []⟩) (by kernel_rfl) ?_
    refine wp_cond_true (by kernel_rfl) ?_
    refine wp_seq_k (fun K14 hK14 => ?_)
    refine wl_region ?_
    refine st_val (.int .i64 0) (by kernel_rfl) (by kernel_rfl) ?_
    refine wl_nil ?_
    refine hK14 _ _ ?_
    try clear hK14 K14
    refine wp_ret ?_
    refine th_ret ?_
    exact done1 4 (.int .i64 0) (by kernel_rfl) (by kernel_rfl) (by kernel_rfl) ⟨by rw [arrS_f (by first | exact .inl hv | exact .inr (by omega))], M13.toBelow⟩
set_option maxHeartbeats 4000000 in
set_option maxRecDepth 100000 in
theorem cost_walk (w : World) (s : SeqD) (hs : SOk s) (b : Int)  : Calls Try.prog 16 #[.agg (sqv s), .int .i64 b] w fun e w' => e = .returned (.int .i64 (costS s b)) ∧ Below w.heap.size w w' := by
  refine calls_of_wp Try.func16 rfl ?_
  refine wp_frame (a' := ⟨#[.agg (sqv s), .int .i64 b, undef, undef, undef, undef, undef, undef, undef, undef, undef, undef, undef, undef, undef, undef, undef, undef, undef, undef], []⟩) (by kernel_rfl) ?_
  have M0 : Mem NoS w w [] := Mem.start _ _
  refine wp_seq_k (fun K1 hK1 => ?_)
  refine wl_region ?_
  refine st_alloc M0 (.cells (sqv s) 26 (0, 0)) (by kernel_rfl) (by kernel_rfl) ?_
  intro g2 W3 M4
  refine st_val (.int .i64 0) (by kernel_rfl) (by kernel_rfl) ?_
  refine wl_nil ?_
  refine hK1 _ _ ?_
  try clear hK1 K1
  refine wp_seq_k (fun K5 hK5 => ?_)
  refine wp_seq_k (fun K6 hK6 => ?_)
  refine wl_region ?_
  refine st_val (.agg (sqv s)) (by kernel_rfl) (run_load_row 26 (.tmp 2) rfl g2 (by kernel_rfl) 26 (sqv s) (0, 0) _ (M4.get 0 rfl) Try.underlying26 rfl (infoSq hs.la hs.lb)) ?_
  rcases Bool.eq_false_or_eq_true (sB s) with hv | hv
  ·
    refine st_callB M4 (.bool true) (by kernel_rfl) (args := #[.agg (sqv s)]) (run_value_call 30 #[(Operand.tmp 5)] _ rfl Try.func30 (by kernel_rfl) (by kernel_rfl) _ (by kernel_rfl)) ((by have := vseq_walk W3 s hs; rw [hv] at this; exact this)) ?_
    intro W7 M8
    obtain ⟨vn1, vn2, vd1, vd2, vb1, vb2, vu1, vu2, vP, vQ, vR⟩ := SV_facts hv
    refine st_val (.bool false) (by kernel_rfl) (by kernel_rfl) ?_
    refine st_val (.bool false) (by kernel_rfl) (by kernel_rfl) ?_
    refine st_val (.int .i64 b) (by kernel_rfl) (by kernel_rfl) ?_
    rcases Decidable.em ((b : Int) < 0) with c10 | c10
    ·
      refine st_val (.bool true) (by kernel_rfl) (bool_of (dec_t c10) (by kernel_rfl)) ?_
      refine st_val (.bool true) (by kernel_rfl) (by kernel_rfl) ?_
      refine st_val (.bool true) (by kernel_rfl) (by kernel_rfl) ?_
      refine st_skip (by kernel_rfl) ?_
      refine st_skip (by kernel_rfl) ?_
      refine st_val (.bool true) (by kernel_rfl) (by kernel_rfl) ?_
      refine wl_nil ?_
      refine hK6 _ _ ?_
      try clear hK6 K6
      refine wp_frame (a' := ⟨#[.agg (sqv s), .int .i64 b, .pointer (some ⟨g2, 0, none⟩), undef, .int .i64 0, .agg (sqv s), .bool true, .bool false, .bool false, .int .i64 b, .bool true, .bool true, .bool true, undef, undef, .bool true, undef, undef, undef, undef], []⟩) (by kernel_rfl) ?_
      refine wp_cond_true (by kernel_rfl) ?_
      refine wp_seq_k (fun K9 hK9 => ?_)
      refine wl_region ?_
      refine st_val (.int .i64 0) (by kernel_rfl) (by kernel_rfl) ?_
      refine wl_nil ?_
      refine hK9 _ _ ?_
      try clear hK9 K9
      refine wp_ret ?_
      refine th_ret ?_
      exact done1 4 (.int .i64 0) (by kernel_rfl) (by kernel_rfl) (by kernel_rfl) ⟨by rw [costS_f (by first | exact .inl hv | exact .inr (by omega))], M8.toBelow⟩
    ·
      refine st_val (.bool false) (by kernel_rfl) (bool_of (dec_f c10) (by kernel_rfl)) ?_
      refine st_val (.bool false) (by kernel_rfl) (by kernel_rfl) ?_
      refine st_val (.bool false) (by kernel_rfl) (by kernel_rfl) ?_
      refine st_val (.int .i64 b) (by kernel_rfl) (by kernel_rfl) ?_
      rcases Decidable.em ((b : Int) > 8388608) with c14 | c14
      ·
        refine st_val (.bool true) (by kernel_rfl) (bool_of (dec_t c14) (by kernel_rfl)) ?_
        refine st_val (.bool true) (by kernel_rfl) (by kernel_rfl) ?_
        refine wl_nil ?_
        refine hK6 _ _ ?_
        try clear hK6 K6
        refine wp_frame (a' := ⟨#[.agg (sqv s), .int .i64 b, .pointer (some ⟨g2, 0, none⟩), undef, .int .i64 0, .agg (sqv s), .bool true, .bool false, .bool false, .int .i64 b, .bool false, .bool false, .bool false, .int .i64 b, .bool true, .bool true, undef, undef, undef, undef], []⟩) (by kernel_rfl) ?_
        refine wp_cond_true (by kernel_rfl) ?_
        refine wp_seq_k (fun K10 hK10 => ?_)
        refine wl_region ?_
        refine st_val (.int .i64 0) (by kernel_rfl) (by kernel_rfl) ?_
        refine wl_nil ?_
        refine hK10 _ _ ?_
        try clear hK10 K10
        refine wp_ret ?_
        refine th_ret ?_
        exact done1 4 (.int .i64 0) (by kernel_rfl) (by kernel_rfl) (by kernel_rfl) ⟨by rw [costS_f (by first | exact .inl hv | exact .inr (by omega))], M8.toBelow⟩
      ·
        refine st_val (.bool false) (by kernel_rfl) (bool_of (dec_f c14) (by kernel_rfl)) ?_
        refine st_val (.bool false) (by kernel_rfl) (by kernel_rfl) ?_
        refine wl_nil ?_
        refine hK6 _ _ ?_
        try clear hK6 K6
        refine wp_frame (a' := ⟨#[.agg (sqv s), .int .i64 b, .pointer (some ⟨g2, 0, none⟩), undef, .int .i64 0, .agg (sqv s), .bool true, .bool false, .bool false, .int .i64 b, .bool false, .bool false, .bool false, .int .i64 b, .bool false, .bool false, undef, undef, undef, undef], []⟩) (by kernel_rfl) ?_
        refine wp_cond_false (by kernel_rfl) ?_
        refine wp_skip ?_
        refine hK5 _ _ ?_
        try clear hK5 K5
        refine wp_seq_k (fun K11 hK11 => ?_)
        refine wl_region ?_
        refine st_val (.agg (sqv s)) (by kernel_rfl) (run_load_row 26 (.tmp 2) rfl g2 (by kernel_rfl) 26 (sqv s) (0, 0) _ (M8.get 0 rfl) Try.underlying26 rfl (infoSq hs.la hs.lb)) ?_
        refine st_val (.agg (sqv s)) (by kernel_rfl) (run_build_model (.tmp 16) rfl (sqv s) (by kernel_rfl) (sqv_size hs.la hs.lb)) ?_
        refine st_val (.int .i64 b) (by kernel_rfl) (by kernel_rfl) ?_
        refine st_callB M8 (.int .i64 (2 * s.num * b)) (by kernel_rfl) (args := #[.agg (sqv s), .int .i64 b]) (run_value_call 34 #[(Operand.tmp 17), (Operand.tmp 18)] _ rfl Try.func34 (by kernel_rfl) (by kernel_rfl) _ (by kernel_rfl)) (mcost_walk W7 s hs hv b (mul_bd (m := 2097152) (n := 8388608) (by omega) (by omega) (by decide))) ?_
        intro W12 M13
        refine st_val (.int .i64 (2 * s.num * b)) (by kernel_rfl) (by kernel_rfl) ?_
        refine wl_nil ?_
        refine hK11 _ _ ?_
        try clear hK11 K11
        refine wp_ret ?_
        exact done1 4 (.int .i64 (2 * s.num * b)) (by kernel_rfl) (by kernel_rfl) (by kernel_rfl) ⟨by rw [costS_t hv (by omega)], M13.toBelow⟩
  ·
    refine st_callB M4 (.bool false) (by kernel_rfl) (args := #[.agg (sqv s)]) (run_value_call 30 #[(Operand.tmp 5)] _ rfl Try.func30 (by kernel_rfl) (by kernel_rfl) _ (by kernel_rfl)) ((by have := vseq_walk W3 s hs; rw [hv] at this; exact this)) ?_
    intro W14 M15
    refine st_val (.bool true) (by kernel_rfl) (by kernel_rfl) ?_
    refine st_val (.bool true) (by kernel_rfl) (by kernel_rfl) ?_
    refine st_skip (by kernel_rfl) ?_
    refine st_skip (by kernel_rfl) ?_
    refine st_val (.bool true) (by kernel_rfl) (by kernel_rfl) ?_
    refine st_val (.bool true) (by kernel_rfl) (by kernel_rfl) ?_
    refine st_skip (by kernel_rfl) ?_
    refine st_skip (by kernel_rfl) ?_
    refine st_val (.bool true) (by kernel_rfl) (by kernel_rfl) ?_
    refine wl_nil ?_
    refine hK6 _ _ ?_
    try clear hK6 K6
    refine wp_frame (a' := ⟨#[.agg (sqv s), .int .i64 b, .pointer (some ⟨g2, 0, none⟩), undef, .int .i64 0, .agg (sqv s), .bool false, .bool true, .bool true, undef, undef, .bool true, .bool true, undef, undef, .bool true, undef, undef, undef, undef], []⟩) (by kernel_rfl) ?_
    refine wp_cond_true (by kernel_rfl) ?_
    refine wp_seq_k (fun K16 hK16 => ?_)
    refine wl_region ?_
    refine st_val (.int .i64 0) (by kernel_rfl) (by kernel_rfl) ?_
    refine wl_nil ?_
    refine hK16 _ _ ?_
    try clear hK16 K16
    refine wp_ret ?_
    refine th_ret ?_
    exact done1 4 (.int .i64 0) (by kernel_rfl) (by kernel_rfl) (by kernel_rfl) ⟨by rw [costS_f (by first | exact .inl hv | exact .inr (by omega))], M15.toBelow⟩
set_option maxHeartbeats 4000000 in
set_option maxRecDepth 100000 in
theorem refCost_walk (w : World) (s : SeqD) (hs : SOk s) (b : Int)  : Calls Try.prog 17 #[.agg (sqv s), .int .i64 b] w fun e w' => e = .returned (.int .i64 (costS s b)) ∧ Below w.heap.size w w' := by
  refine calls_of_wp Try.func17 rfl ?_
  refine wp_frame (a' := ⟨#[.agg (sqv s), .int .i64 b, undef, undef, undef, undef, undef, undef, undef, undef, undef, undef, undef, undef, undef, undef, undef, undef, undef, undef], []⟩) (by kernel_rfl) ?_
  have M0 : Mem NoS w w [] := Mem.start _ _
  refine wp_seq_k (fun K1 hK1 => ?_)
  refine wl_region ?_
  refine st_alloc M0 (.cells (sqv s) 26 (0, 0)) (by kernel_rfl) (by kernel_rfl) ?_
  intro g2 W3 M4
  refine st_val (.int .i64 0) (by kernel_rfl) (by kernel_rfl) ?_
  refine wl_nil ?_
  refine hK1 _ _ ?_
  try clear hK1 K1
  refine wp_seq_k (fun K5 hK5 => ?_)
  refine wp_seq_k (fun K6 hK6 => ?_)
  refine wl_region ?_
  refine st_val (.agg (sqv s)) (by kernel_rfl) (run_load_row 26 (.tmp 2) rfl g2 (by kernel_rfl) 26 (sqv s) (0, 0) _ (M4.get 0 rfl) Try.underlying26 rfl (infoSq hs.la hs.lb)) ?_
  rcases Bool.eq_false_or_eq_true (sB s) with hv | hv
  ·
    refine st_callB M4 (.bool true) (by kernel_rfl) (args := #[.agg (sqv s)]) (run_value_call 28 #[(Operand.tmp 5)] _ rfl Try.func28 (by kernel_rfl) (by kernel_rfl) _ (by kernel_rfl)) ((by have := refVseq_walk W3 s hs; rw [hv] at this; exact this)) ?_
    intro W7 M8
    obtain ⟨vn1, vn2, vd1, vd2, vb1, vb2, vu1, vu2, vP, vQ, vR⟩ := SV_facts hv
    refine st_val (.bool false) (by kernel_rfl) (by kernel_rfl) ?_
    refine st_val (.bool false) (by kernel_rfl) (by kernel_rfl) ?_
    refine st_val (.int .i64 b) (by kernel_rfl) (by kernel_rfl) ?_
    rcases Decidable.em ((b : Int) < 0) with c10 | c10
    ·
      refine st_val (.bool true) (by kernel_rfl) (bool_of (dec_t c10) (by kernel_rfl)) ?_
      refine st_val (.bool true) (by kernel_rfl) (by kernel_rfl) ?_
      refine st_val (.bool true) (by kernel_rfl) (by kernel_rfl) ?_
      refine st_skip (by kernel_rfl) ?_
      refine st_skip (by kernel_rfl) ?_
      refine st_val (.bool true) (by kernel_rfl) (by kernel_rfl) ?_
      refine wl_nil ?_
      refine hK6 _ _ ?_
      try clear hK6 K6
      refine wp_frame (a' := ⟨#[.agg (sqv s), .int .i64 b, .pointer (some ⟨g2, 0, none⟩), undef, .int .i64 0, .agg (sqv s), .bool true, .bool false, .bool false, .int .i64 b, .bool true, .bool true, .bool true, undef, undef, .bool true, undef, undef, undef, undef], []⟩) (by kernel_rfl) ?_
      refine wp_cond_true (by kernel_rfl) ?_
      refine wp_seq_k (fun K9 hK9 => ?_)
      refine wl_region ?_
      refine st_val (.int .i64 0) (by kernel_rfl) (by kernel_rfl) ?_
      refine wl_nil ?_
      refine hK9 _ _ ?_
      try clear hK9 K9
      refine wp_ret ?_
      refine th_ret ?_
      exact done1 4 (.int .i64 0) (by kernel_rfl) (by kernel_rfl) (by kernel_rfl) ⟨by rw [costS_f (by first | exact .inl hv | exact .inr (by omega))], M8.toBelow⟩
    ·
      refine st_val (.bool false) (by kernel_rfl) (bool_of (dec_f c10) (by kernel_rfl)) ?_
      refine st_val (.bool false) (by kernel_rfl) (by kernel_rfl) ?_
      refine st_val (.bool false) (by kernel_rfl) (by kernel_rfl) ?_
      refine st_val (.int .i64 b) (by kernel_rfl) (by kernel_rfl) ?_
      rcases Decidable.em ((b : Int) > 8388608) with c14 | c14
      ·
        refine st_val (.bool true) (by kernel_rfl) (bool_of (dec_t c14) (by kernel_rfl)) ?_
        refine st_val (.bool true) (by kernel_rfl) (by kernel_rfl) ?_
        refine wl_nil ?_
        refine hK6 _ _ ?_
        try clear hK6 K6
        refine wp_frame (a' := ⟨#[.agg (sqv s), .int .i64 b, .pointer (some ⟨g2, 0, none⟩), undef, .int .i64 0, .agg (sqv s), .bool true, .bool false, .bool false, .int .i64 b, .bool false, .bool false, .bool false, .int .i64 b, .bool true, .bool true, undef, undef, undef, undef], []⟩) (by kernel_rfl) ?_
        refine wp_cond_true (by kernel_rfl) ?_
        refine wp_seq_k (fun K10 hK10 => ?_)
        refine wl_region ?_
        refine st_val (.int .i64 0) (by kernel_rfl) (by kernel_rfl) ?_
        refine wl_nil ?_
        refine hK10 _ _ ?_
        try clear hK10 K10
        refine wp_ret ?_
        refine th_ret ?_
        exact done1 4 (.int .i64 0) (by kernel_rfl) (by kernel_rfl) (by kernel_rfl) ⟨by rw [costS_f (by first | exact .inl hv | exact .inr (by omega))], M8.toBelow⟩
      ·
        refine st_val (.bool false) (by kernel_rfl) (bool_of (dec_f c14) (by kernel_rfl)) ?_
        refine st_val (.bool false) (by kernel_rfl) (by kernel_rfl) ?_
        refine wl_nil ?_
        refine hK6 _ _ ?_
        try clear hK6 K6
        refine wp_frame (a' := ⟨#[.agg (sqv s), .int .i64 b, .pointer (some ⟨g2, 0, none⟩), undef, .int .i64 0, .agg (sqv s), .bool true, .bool false, .bool false, .int .i64 b, .bool false, .bool false, .bool false, .int .i64 b, .bool false, .bool false, undef, undef, undef, undef], []⟩) (by kernel_rfl) ?_
        refine wp_cond_false (by kernel_rfl) ?_
        refine wp_skip ?_
        refine hK5 _ _ ?_
        try clear hK5 K5
        refine wp_seq_k (fun K11 hK11 => ?_)
        refine wl_region ?_
        refine st_val (.agg (sqv s)) (by kernel_rfl) (run_load_row 26 (.tmp 2) rfl g2 (by kernel_rfl) 26 (sqv s) (0, 0) _ (M8.get 0 rfl) Try.underlying26 rfl (infoSq hs.la hs.lb)) ?_
        refine st_callB M8 (.int .i64 (2 * s.num)) (by kernel_rfl) (args := #[.agg (sqv s)]) (run_value_call 32 #[(Operand.tmp 16)] _ rfl Try.func32 (by kernel_rfl) (by kernel_rfl) _ (by kernel_rfl)) (part_walk W7 s hs hv) ?_
        intro W12 M13
        refine st_val (.int .i64 b) (by kernel_rfl) (by kernel_rfl) ?_
        refine st_val (.int .i64 ((2 * s.num) * b)) (by kernel_rfl) (i64_of (mul_bd (m := 2097152) (n := 8388608) (by omega) (by omega) (by decide)) (by kernel_rfl)) ?_
        refine st_val (.int .i64 ((2 * s.num) * b)) (by kernel_rfl) (by kernel_rfl) ?_
        refine wl_nil ?_
        refine hK11 _ _ ?_
        try clear hK11 K11
        refine wp_ret ?_
        exact done1 4 (.int .i64 ((2 * s.num) * b)) (by kernel_rfl) (by kernel_rfl) (by kernel_rfl) ⟨by rw [costS_t hv (by omega)], M13.toBelow⟩
  ·
    refine st_callB M4 (.bool false) (by kernel_rfl) (args := #[.agg (sqv s)]) (run_value_call 28 #[(Operand.tmp 5)] _ rfl Try.func28 (by kernel_rfl) (by kernel_rfl) _ (by kernel_rfl)) ((by have := refVseq_walk W3 s hs; rw [hv] at this; exact this)) ?_
    intro W14 M15
    refine st_val (.bool true) (by kernel_rfl) (by kernel_rfl) ?_
    refine st_val (.bool true) (by kernel_rfl) (by kernel_rfl) ?_
    refine st_skip (by kernel_rfl) ?_
    refine st_skip (by kernel_rfl) ?_
    refine st_val (.bool true) (by kernel_rfl) (by kernel_rfl) ?_
    refine st_val (.bool true) (by kernel_rfl) (by kernel_rfl) ?_
    refine st_skip (by kernel_rfl) ?_
    refine st_skip (by kernel_rfl) ?_
    refine st_val (.bool true) (by kernel_rfl) (by kernel_rfl) ?_
    refine wl_nil ?_
    refine hK6 _ _ ?_
    try clear hK6 K6
    refine wp_frame (a' := ⟨#[.agg (sqv s), .int .i64 b, .pointer (some ⟨g2, 0, none⟩), undef, .int .i64 0, .agg (sqv s), .bool false, .bool true, .bool true, undef, undef, .bool true, .bool true, undef, undef, .bool true, undef, undef, undef, undef], []⟩) (by kernel_rfl) ?_
    refine wp_cond_true (by kernel_rfl) ?_
    refine wp_seq_k (fun K16 hK16 => ?_)
    refine wl_region ?_
    refine st_val (.int .i64 0) (by kernel_rfl) (by kernel_rfl) ?_
    refine wl_nil ?_
    refine hK16 _ _ ?_
    try clear hK16 K16
    refine wp_ret ?_
    refine th_ret ?_
    exact done1 4 (.int .i64 0) (by kernel_rfl) (by kernel_rfl) (by kernel_rfl) ⟨by rw [costS_f (by first | exact .inl hv | exact .inr (by omega))], M15.toBelow⟩
end Go.Proofs.Ytolfkaljbgpkhaa
