/- Blocks in scan order. -/
import Derived.Test.YtjclncmpfdfkfaaSg
import Derived.Test.YtjclncmpfdfkfaaEq
namespace Go.Proofs.Ytjclncmpfdfkfaa
open Go.RowKit

theorem neq_same (w : World) (l : List Int) (hl : l.length = 64) : (binOp .neq 30 (.agg (iv l)) (.agg (iv l))).run Try.prog w = .ok (.bool false) w := by
  rw [run_neq_struct, equal_same w l hl]
  rfl
open Go.Great in
theorem part_bv {P : Program} {w : World} {e : TypeId} (l : List Int) (ha : (isAgg e).run P w = .ok false w) (n : Nat) (hl : n < l.length) : (part e (bv l) n).run P w = .ok (.int .u8 (l.getD n 0)) w := by
  simp [part, ha, bv_get _ _ hl]

theorem equalB_same (w : World) (l : List Int) (hl : l.length = 64) : (Op.equalIn 10000 23 (.agg (bv l)) (.agg (bv l))).run Try.prog w = .ok true w := by
  show (Op.equalIn (9999 + 1) 23 (.agg (bv l)) (.agg (bv l))).run Try.prog w = .ok true w
  unfold Op.equalIn
  have hu : Try.prog.underlying 23 = some (.array 64 5) := rfl
  simp only [Sem.run_bind, run_underlying hu, Result.andThen_ok]
  have hs : (sizeOf 5).run Try.prog w = .ok 1 w := rfl
  simp only [hs, Result.andThen_ok]
  simp only [Std.Legacy.Range.forIn_eq_forIn_range', Std.Legacy.Range.size, Nat.sub_zero, Nat.add_one_sub_one, Nat.div_one]
  have key : ∀ n s, s + n ≤ 64 → (forIn (List.range' s n) ((none : Option Bool), ()) fun i _ => do
      let a ← part 5 (bv l) (i * 1)
      let b ← part 5 (bv l) (i * 1)
      let c ← Op.equalIn 9999 5 a b
      if (!c) = true then pure (ForInStep.done (some false, ())) else pure (ForInStep.yield (none, ()))).run Try.prog w = .ok (none, ()) w := by
    intro n
    induction n with
    | zero => intro s _; rfl
    | succ n ih =>
      intro s hs2
      have hp := part_bv (P := Try.prog) (w := w) (e := 5) l rfl (s * 1) (by omega)
      have he := run_equalIn_int (P := Try.prog) w 9998 5 .u8 .u8 (l.getD (s * 1) 0) (l.getD (s * 1) 0) rfl
      simp only [List.range'_succ, List.forIn_cons, Sem.run_bind, hp, Result.andThen_ok]
      rw [show (9998 + 1) = 9999 from rfl] at he
      simp only [he, Result.andThen_ok, beq_self_eq_true, Bool.not_true, Bool.false_eq_true, if_false, Sem.run_pure]
      exact ih (s + 1) (by omega)
  have k := key 64 0 (by omega)
  refine Eq.trans (congrArg (fun r => Result.andThen r _) (a₂ := Result.ok (none, ()) w) ?_) ?_
  · exact k
  · rfl

/-- equal arrays compare as equal -/
theorem eqlB_same (w : World) (l : List Int) (hl : l.length = 64) : (binOp .eql 23 (.agg (bv l)) (.agg (bv l))).run Try.prog w = .ok (.bool true) w := by
  rw [run_eql_struct, equalB_same w l hl]
  rfl
set_option maxHeartbeats 4000000 in
set_option maxRecDepth 100000 in
theorem toScan_true (w : World) (x : List Int) (hx : x.length = 64) : Calls Try.prog 30 #[.agg (iv x), .bool true] w fun e w' => e = .returned (.agg (iv (toS true x))) ∧ Below w.heap.size w w' := by
  refine calls_of_wp Try.func30 rfl ?_
  refine wp_frame (a' := ⟨#[.agg (iv x), .bool true, undef, undef, undef, undef, undef, undef, undef, undef, undef, undef, undef, undef, undef, undef, undef, undef, undef, undef, undef], []⟩) (by kernel_rfl) ?_
  have M0 : Mem NoS w w [] := Mem.start _ _
  refine wp_seq_k (fun K1 hK1 => ?_)
  refine wl_region ?_
  refine st_alloc M0 (.cells (iv x) 30 (0, 0)) (by kernel_rfl) (by kernel_rfl) ?_
  intro g2 W3 M4
  refine st_alloc M4 (.cells (iv zeros) 30 (0, 0)) (by kernel_rfl) (by kernel_rfl) ?_
  intro g5 W6 M7
  refine wl_nil ?_
  refine hK1 _ _ ?_
  try clear hK1 K1
  refine wp_seq_k (fun K8 hK8 => ?_)
  refine wl_region ?_
  refine st_alloc M7 (.cells (iv zeros) 30 (0, 0)) (by kernel_rfl) (by kernel_rfl) ?_
  intro g9 W10 M11
  refine wl_nil ?_
  refine hK8 _ _ ?_
  try clear hK8 K8
  refine wp_seq_k (fun K12 hK12 => ?_)
  refine wp_seq_k (fun K13 hK13 => ?_)
  refine wl_region ?_
  refine st_val (.bool true) (by kernel_rfl) (by kernel_rfl) ?_
  refine st_callB M11 (.agg (iv (scL true))) (by kernel_rfl) (args := #[.bool true]) (run_value_call 31 #[(Operand.tmp 8)] _ rfl Try.func31 (by kernel_rfl) (by kernel_rfl) _ (by kernel_rfl)) (scan_true W10) ?_
  intro W14 M15
  refine st_val (.int .i64 0) (by kernel_rfl) (by kernel_rfl) ?_
  refine wl_nil ?_
  refine hK13 _ _ ?_
  try clear hK13 K13
  refine wp_block ?_
  refine wp_loop_ghost (fun gn a' w' => ∃ (k : Nat) (u16 : Nat → Value), ((k ≤ 64) ∧ Mem NoS w w' [(g9, .cells (iv (tab 64 (fiTo (toS true x) k))) 30 (0, 0)), (g5, .cells (iv zeros) 30 (0, 0)), (g2, .cells (iv x) 30 (0, 0))]) ∧ gn = 64 - k ∧ a' = ⟨#[.agg (iv x), .bool true, .pointer (some ⟨g2, 0, none⟩), undef, .pointer (some ⟨g5, 0, none⟩), .pointer (some ⟨g9, 0, none⟩), (u16 6), (u16 7), .bool true, .agg (iv (scL true)), .int .i64 (k : Int), (u16 11), (u16 12), (u16 13), (u16 14), (u16 15), (u16 16), (u16 17), (u16 18), (u16 19), undef], []⟩) _ ⟨0, (fun zz => Array.getD #[undef, undef, undef, undef, undef, undef, undef, undef, undef, undef, undef, undef, undef, undef, undef, undef, undef, undef, undef, undef] zz undef), ⟨by omega, (by rw [fiTo_zero]; exact M15)⟩, rfl, (by kernel_rfl)⟩ ?_
  rintro gn _ W17 ⟨k, u16, ⟨rk, M18⟩, rfl, rfl⟩
  refine wp_seq_k (fun K19 hK19 => ?_)
  refine wl_region ?_
  rcases Decidable.em (((k : Int) : Int) < 64) with c11 | c11
  ·
    refine st_val (.bool true) (by kernel_rfl) (bool_of (dec_t c11) (by kernel_rfl)) ?_
    refine wl_nil ?_
    refine hK19 _ _ ?_
    try clear hK19 K19
    refine wp_seq_k (fun K20 hK20 => ?_)
    refine wp_cond_true (by kernel_rfl) ?_
    refine wp_skip ?_
    refine hK20 _ _ ?_
    try clear hK20 K20
    refine wp_seq_k (fun K21 hK21 => ?_)
    refine wp_block ?_
    refine wp_seq_k (fun K22 hK22 => ?_)
    refine wl_region ?_
    refine st_val (.int .i64 (k : Int)) (by kernel_rfl) (by kernel_rfl) ?_
    refine st_val (.int .i64 (((scN true).getD k 0 : Nat) : Int)) (by kernel_rfl) (int_of (scL_get true k) (run_indexVal 30 (.tmp 9) (.tmp 10) rfl (iv (scL true)) .i64 k (by kernel_rfl) (by kernel_rfl) Try.underlying30 (by kernel_rfl) (by kernel_rfl) (by omega) _ (iv_get (scL true) k (by rw [(scL_length _)]; omega)))) ?_
    refine st_val (.int .i64 (k : Int)) (by kernel_rfl) (by kernel_rfl) ?_
    refine st_val (.int .i64 (((scN true).getD k 0 : Nat) : Int)) (by kernel_rfl) (by kernel_rfl) ?_
    refine wl_nil ?_
    refine hK22 _ _ ?_
    try clear hK22 K22
    have hsc := (sc_facts true (p := k) (by omega)).1
    refine wl_region ?_
    refine st_val (.int .i64 (k : Int)) (by kernel_rfl) (by kernel_rfl) ?_
    refine st_val (.int .i64 (((scN true).getD k 0 : Nat) : Int)) (by kernel_rfl) (by kernel_rfl) ?_
    refine st_val (.pointer (some ⟨g2, (scN true).getD k 0, none⟩)) (by kernel_rfl) (run_indexAddr 30 (.tmp 2) (.tmp 15) rfl ⟨g2, 0, none⟩ .i64 ((scN true).getD k 0) (by kernel_rfl) (by kernel_rfl) Try.underlying30 1 (by kernel_rfl) (by omega) ⟨g2, (scN true).getD k 0, none⟩ (addr_at0 _ _)) ?_
    refine st_val (.int .i64 (x.getD ((scN true).getD k 0) 0)) (by kernel_rfl) (run_load_cell 3 (.tmp 16) rfl ⟨g2, (scN true).getD k 0, none⟩ (by kernel_rfl) _ (M18.cell 2 rfl ((scN true).getD k 0) _ (iv_get x ((scN true).getD k 0) (by rw [hx]; omega))) (by kernel_rfl)) ?_
    refine st_val (.pointer (some ⟨g9, k, none⟩)) (by kernel_rfl) (run_indexAddr 30 (.tmp 5) (.tmp 14) rfl ⟨g9, 0, none⟩ .i64 k (by kernel_rfl) (by kernel_rfl) Try.underlying30 1 (by kernel_rfl) (by omega) ⟨g9, k, none⟩ (addr_at0 _ _)) ?_
    refine st_storeCell M18 0 rfl 3 (.tmp 18) (.tmp 17) (by rfl) k (.int .i64 (x.getD ((scN true).getD k 0) 0)) (iv ((tab 64 (fiTo (toS true x) k)).set k (x.getD ((scN true).getD k 0) 0))) (by kernel_rfl) (by kernel_rfl) (by rw [iv_size, (tab_length _ _)]; omega) (by kernel_rfl) rfl (by kernel_rfl) (iv_set _ _ _) (by kernel_rfl) [(g9, .cells (iv ((tab 64 (fiTo (toS true x) k)).set k (x.getD ((scN true).getD k 0) 0))) 30 (0, 0)), (g5, .cells (iv zeros) 30 (0, 0)), (g2, .cells (iv x) 30 (0, 0))] rfl ?_
    intro W23 M24
    refine wl_nil ?_
    refine blk_normal ?_
    refine hK21 _ _ ?_
    try clear hK21 K21
    refine wl_region ?_
    refine st_val (.int .i64 ((k : Int) + 1)) (by kernel_rfl) (i64_of (by omega) (by kernel_rfl)) ?_
    refine st_val (.int .i64 ((k : Int) + 1)) (by kernel_rfl) (by kernel_rfl) ?_
    refine wl_nil ?_
    refine th_normal ?_
    exact ⟨_, by omega, (k + 1), (fun zz => Array.getD #[undef, undef, undef, undef, undef, undef, .int .i64 (k : Int), .int .i64 (((scN true).getD k 0 : Nat) : Int), undef, undef, undef, .bool true, .int .i64 (k : Int), .int .i64 (((scN true).getD k 0 : Nat) : Int), .int .i64 (k : Int), .int .i64 (((scN true).getD k 0 : Nat) : Int), .pointer (some ⟨g2, (scN true).getD k 0, none⟩), .int .i64 (x.getD ((scN true).getD k 0) 0), .pointer (some ⟨g9, k, none⟩), .int .i64 ((k : Int) + 1)] zz undef), ⟨by omega, (by rw [← fiTo_next, toS_get true x (by omega)]; exact M24)⟩, rfl, (by kernel_rfl)⟩
  ·
    refine st_val (.bool false) (by kernel_rfl) (bool_of (dec_f c11) (by kernel_rfl)) ?_
    refine wl_nil ?_
    refine hK19 _ _ ?_
    try clear hK19 K19
    refine wp_seq_k (fun K25 hK25 => ?_)
    refine wp_cond_false (by kernel_rfl) ?_
    refine wp_exit ?_
    refine th_exit ?_
    refine th_exit ?_
    refine blk_exit ?_
    refine hK12 _ _ ?_
    try clear hK12 K12
    refine wp_seq_k (fun K26 hK26 => ?_)
    have M27 : Mem NoS w W17 [(g9, .cells (iv (toS true x)) 30 (0, 0)), (g5, .cells (iv zeros) 30 (0, 0)), (g2, .cells (iv x) 30 (0, 0))] := by
      have hh := M18; rw [fiTo_end (toS true x) (tab_length _ _) k (by omega)] at hh; exact hh
    refine wl_region ?_
    refine st_val (.agg (iv (toS true x))) (by kernel_rfl) (run_load_row 30 (.tmp 5) rfl g9 (by kernel_rfl) 30 (iv (toS true x)) (0, 0) _ (M27.get 0 rfl) Try.underlying30 rfl (info64 _ (tab_length _ _))) ?_
    refine st_storeRow M27 1 rfl 30 (.tmp 4) (.tmp 20) (by rfl) (iv (toS true x)) (by kernel_rfl) (by kernel_rfl) (info64 _ (tab_length _ _)) (iv_same (tab_length _ _) zeros_length) (iv_one _) (by kernel_rfl) [(g9, .cells (iv (toS true x)) 30 (0, 0)), (g5, .cells (iv (toS true x)) 30 (0, 0)), (g2, .cells (iv x) 30 (0, 0))] rfl ?_
    intro W28 M29
    refine wl_nil ?_
    refine hK26 _ _ ?_
    try clear hK26 K26
    refine wp_ret ?_
    exact doneRow 4 30 g5 30 (iv (toS true x)) (0, 0) _ (by kernel_rfl) (by kernel_rfl) (M29.get 1 rfl) Try.underlying30 rfl (info64 _ (tab_length _ _)) (by kernel_rfl) ⟨rfl, M29.toBelow⟩
set_option maxHeartbeats 4000000 in
set_option maxRecDepth 100000 in
theorem toScan_false (w : World) (x : List Int) (hx : x.length = 64) : Calls Try.prog 30 #[.agg (iv x), .bool false] w fun e w' => e = .returned (.agg (iv (toS false x))) ∧ Below w.heap.size w w' := by
  refine calls_of_wp Try.func30 rfl ?_
  refine wp_frame (a' := ⟨#[.agg (iv x), .bool false, undef, undef, undef, undef, undef, undef, undef, undef, undef, undef, undef, undef, undef, undef, undef, undef, undef, undef, undef], []⟩) (by kernel_rfl) ?_
  have M0 : Mem NoS w w [] := Mem.start _ _
  refine wp_seq_k (fun K1 hK1 => ?_)
  refine wl_region ?_
  refine st_alloc M0 (.cells (iv x) 30 (0, 0)) (by kernel_rfl) (by kernel_rfl) ?_
  intro g2 W3 M4
  refine st_alloc M4 (.cells (iv zeros) 30 (0, 0)) (by kernel_rfl) (by kernel_rfl) ?_
  intro g5 W6 M7
  refine wl_nil ?_
  refine hK1 _ _ ?_
  try clear hK1 K1
  refine wp_seq_k (fun K8 hK8 => ?_)
  refine wl_region ?_
  refine st_alloc M7 (.cells (iv zeros) 30 (0, 0)) (by kernel_rfl) (by kernel_rfl) ?_
  intro g9 W10 M11
  refine wl_nil ?_
  refine hK8 _ _ ?_
  try clear hK8 K8
  refine wp_seq_k (fun K12 hK12 => ?_)
  refine wp_seq_k (fun K13 hK13 => ?_)
  refine wl_region ?_
  refine st_val (.bool false) (by kernel_rfl) (by kernel_rfl) ?_
  refine st_callB M11 (.agg (iv (scL false))) (by kernel_rfl) (args := #[.bool false]) (run_value_call 31 #[(Operand.tmp 8)] _ rfl Try.func31 (by kernel_rfl) (by kernel_rfl) _ (by kernel_rfl)) (scan_false W10) ?_
  intro W14 M15
  refine st_val (.int .i64 0) (by kernel_rfl) (by kernel_rfl) ?_
  refine wl_nil ?_
  refine hK13 _ _ ?_
  try clear hK13 K13
  refine wp_block ?_
  refine wp_loop_ghost (fun gn a' w' => ∃ (k : Nat) (u16 : Nat → Value), ((k ≤ 64) ∧ Mem NoS w w' [(g9, .cells (iv (tab 64 (fiTo (toS false x) k))) 30 (0, 0)), (g5, .cells (iv zeros) 30 (0, 0)), (g2, .cells (iv x) 30 (0, 0))]) ∧ gn = 64 - k ∧ a' = ⟨#[.agg (iv x), .bool false, .pointer (some ⟨g2, 0, none⟩), undef, .pointer (some ⟨g5, 0, none⟩), .pointer (some ⟨g9, 0, none⟩), (u16 6), (u16 7), .bool false, .agg (iv (scL false)), .int .i64 (k : Int), (u16 11), (u16 12), (u16 13), (u16 14), (u16 15), (u16 16), (u16 17), (u16 18), (u16 19), undef], []⟩) _ ⟨0, (fun zz => Array.getD #[undef, undef, undef, undef, undef, undef, undef, undef, undef, undef, undef, undef, undef, undef, undef, undef, undef, undef, undef, undef] zz undef), ⟨by omega, (by rw [fiTo_zero]; exact M15)⟩, rfl, (by kernel_rfl)⟩ ?_
  rintro gn _ W17 ⟨k, u16, ⟨rk, M18⟩, rfl, rfl⟩
  refine wp_seq_k (fun K19 hK19 => ?_)
  refine wl_region ?_
  rcases Decidable.em (((k : Int) : Int) < 64) with c11 | c11
  ·
    refine st_val (.bool true) (by kernel_rfl) (bool_of (dec_t c11) (by kernel_rfl)) ?_
    refine wl_nil ?_
    refine hK19 _ _ ?_
    try clear hK19 K19
    refine wp_seq_k (fun K20 hK20 => ?_)
    refine wp_cond_true (by kernel_rfl) ?_
    refine wp_skip ?_
    refine hK20 _ _ ?_
    try clear hK20 K20
    refine wp_seq_k (fun K21 hK21 => ?_)
    refine wp_block ?_
    refine wp_seq_k (fun K22 hK22 => ?_)
    refine wl_region ?_
    refine st_val (.int .i64 (k : Int)) (by kernel_rfl) (by kernel_rfl) ?_
    refine st_val (.int .i64 (((scN false).getD k 0 : Nat) : Int)) (by kernel_rfl) (int_of (scL_get false k) (run_indexVal 30 (.tmp 9) (.tmp 10) rfl (iv (scL false)) .i64 k (by kernel_rfl) (by kernel_rfl) Try.underlying30 (by kernel_rfl) (by kernel_rfl) (by omega) _ (iv_get (scL false) k (by rw [(scL_length _)]; omega)))) ?_
    refine st_val (.int .i64 (k : Int)) (by kernel_rfl) (by kernel_rfl) ?_
    refine st_val (.int .i64 (((scN false).getD k 0 : Nat) : Int)) (by kernel_rfl) (by kernel_rfl) ?_
    refine wl_nil ?_
    refine hK22 _ _ ?_
    try clear hK22 K22
    have hsc := (sc_facts false (p := k) (by omega)).1
    refine wl_region ?_
    refine st_val (.int .i64 (k : Int)) (by kernel_rfl) (by kernel_rfl) ?_
    refine st_val (.int .i64 (((scN false).getD k 0 : Nat) : Int)) (by kernel_rfl) (by kernel_rfl) ?_
    refine st_val (.pointer (some ⟨g2, (scN false).getD k 0, none⟩)) (by kernel_rfl) (run_indexAddr 30 (.tmp 2) (.tmp 15) rfl ⟨g2, 0, none⟩ .i64 ((scN false).getD k 0) (by kernel_rfl) (by kernel_rfl) Try.underlying30 1 (by kernel_rfl) (by omega) ⟨g2, (scN false).getD k 0, none⟩ (addr_at0 _ _)) ?_
    refine st_val (.int .i64 (x.getD ((scN false).getD k 0) 0)) (by kernel_rfl) (run_load_cell 3 (.tmp 16) rfl ⟨g2, (scN false).getD k 0, none⟩ (by kernel_rfl) _ (M18.cell 2 rfl ((scN false).getD k 0) _ (iv_get x ((scN false).getD k 0) (by rw [hx]; omega))) (by kernel_rfl)) ?_
    refine st_val (.pointer (some ⟨g9, k, none⟩)) (by kernel_rfl) (run_indexAddr 30 (.tmp 5) (.tmp 14) rfl ⟨g9, 0, none⟩ .i64 k (by kernel_rfl) (by kernel_rfl) Try.underlying30 1 (by kernel_rfl) (by omega) ⟨g9, k, none⟩ (addr_at0 _ _)) ?_
    refine st_storeCell M18 0 rfl 3 (.tmp 18) (.tmp 17) (by rfl) k (.int .i64 (x.getD ((scN false).getD k 0) 0)) (iv ((tab 64 (fiTo (toS false x) k)).set k (x.getD ((scN false).getD k 0) 0))) (by kernel_rfl) (by kernel_rfl) (by rw [iv_size, (tab_length _ _)]; omega) (by kernel_rfl) rfl (by kernel_rfl) (iv_set _ _ _) (by kernel_rfl) [(g9, .cells (iv ((tab 64 (fiTo (toS false x) k)).set k (x.getD ((scN false).getD k 0) 0))) 30 (0, 0)), (g5, .cells (iv zeros) 30 (0, 0)), (g2, .cells (iv x) 30 (0, 0))] rfl ?_
    intro W23 M24
    refine wl_nil ?_
    refine blk_normal ?_
    refine hK21 _ _ ?_
    try clear hK21 K21
    refine wl_region ?_
    refine st_val (.int .i64 ((k : Int) + 1)) (by kernel_rfl) (i64_of (by omega) (by kernel_rfl)) ?_
    refine st_val (.int .i64 ((k : Int) + 1)) (by kernel_rfl) (by kernel_rfl) ?_
    refine wl_nil ?_
    refine th_normal ?_
    exact ⟨_, by omega, (k + 1), (fun zz => Array.getD #[undef, undef, undef, undef, undef, undef, .int .i64 (k : Int), .int .i64 (((scN false).getD k 0 : Nat) : Int), undef, undef, undef, .bool true, .int .i64 (k : Int), .int .i64 (((scN false).getD k 0 : Nat) : Int), .int .i64 (k : Int), .int .i64 (((scN false).getD k 0 : Nat) : Int), .pointer (some ⟨g2, (scN false).getD k 0, none⟩), .int .i64 (x.getD ((scN false).getD k 0) 0), .pointer (some ⟨g9, k, none⟩), .int .i64 ((k : Int) + 1)] zz undef), ⟨by omega, (by rw [← fiTo_next, toS_get false x (by omega)]; exact M24)⟩, rfl, (by kernel_rfl)⟩
  ·
    refine st_val (.bool false) (by kernel_rfl) (bool_of (dec_f c11) (by kernel_rfl)) ?_
    refine wl_nil ?_
    refine hK19 _ _ ?_
    try clear hK19 K19
    refine wp_seq_k (fun K25 hK25 => ?_)
    refine wp_cond_false (by kernel_rfl) ?_
    refine wp_exit ?_
    refine th_exit ?_
    refine th_exit ?_
    refine blk_exit ?_
    refine hK12 _ _ ?_
    try clear hK12 K12
    refine wp_seq_k (fun K26 hK26 => ?_)
    have M27 : Mem NoS w W17 [(g9, .cells (iv (toS false x)) 30 (0, 0)), (g5, .cells (iv zeros) 30 (0, 0)), (g2, .cells (iv x) 30 (0, 0))] := by
      have hh := M18; rw [fiTo_end (toS false x) (tab_length _ _) k (by omega)] at hh; exact hh
    refine wl_region ?_
    refine st_val (.agg (iv (toS false x))) (by kernel_rfl) (run_load_row 30 (.tmp 5) rfl g9 (by kernel_rfl) 30 (iv (toS false x)) (0, 0) _ (M27.get 0 rfl) Try.underlying30 rfl (info64 _ (tab_length _ _))) ?_
    refine st_storeRow M27 1 rfl 30 (.tmp 4) (.tmp 20) (by rfl) (iv (toS false x)) (by kernel_rfl) (by kernel_rfl) (info64 _ (tab_length _ _)) (iv_same (tab_length _ _) zeros_length) (iv_one _) (by kernel_rfl) [(g9, .cells (iv (toS false x)) 30 (0, 0)), (g5, .cells (iv (toS false x)) 30 (0, 0)), (g2, .cells (iv x) 30 (0, 0))] rfl ?_
    intro W28 M29
    refine wl_nil ?_
    refine hK26 _ _ ?_
    try clear hK26 K26
    refine wp_ret ?_
    exact doneRow 4 30 g5 30 (iv (toS false x)) (0, 0) _ (by kernel_rfl) (by kernel_rfl) (M29.get 1 rfl) Try.underlying30 rfl (info64 _ (tab_length _ _)) (by kernel_rfl) ⟨rfl, M29.toBelow⟩
set_option maxHeartbeats 4000000 in
set_option maxRecDepth 100000 in
theorem refToScan_true (w : World) (x : List Int) (hx : x.length = 64) : Calls Try.prog 33 #[.agg (iv x), .bool true] w fun e w' => e = .returned (.agg (iv (toS true x))) ∧ Below w.heap.size w w' := by
  refine calls_of_wp Try.func33 rfl ?_
  refine wp_frame (a' := ⟨#[.agg (iv x), .bool true, undef, undef, undef, undef, undef, undef, undef, undef, undef, undef, undef, undef, undef, undef, undef, undef, undef, undef, undef, undef], []⟩) (by kernel_rfl) ?_
  have M0 : Mem NoS w w [] := Mem.start _ _
  refine wp_seq_k (fun K1 hK1 => ?_)
  refine wl_region ?_
  refine st_alloc M0 (.cells (iv x) 30 (0, 0)) (by kernel_rfl) (by kernel_rfl) ?_
  intro g2 W3 M4
  refine st_alloc M4 (.cells (iv zeros) 30 (0, 0)) (by kernel_rfl) (by kernel_rfl) ?_
  intro g5 W6 M7
  refine wl_nil ?_
  refine hK1 _ _ ?_
  try clear hK1 K1
  refine wp_seq_k (fun K8 hK8 => ?_)
  refine wl_region ?_
  refine st_val (.bool true) (by kernel_rfl) (by kernel_rfl) ?_
  refine st_callB M7 (.agg (iv (scL true))) (by kernel_rfl) (args := #[.bool true]) (run_value_call 32 #[(Operand.tmp 8)] _ rfl Try.func32 (by kernel_rfl) (by kernel_rfl) _ (by kernel_rfl)) (refScan_true W6) ?_
  intro W9 M10
  refine st_alloc M10 (.cells (iv zeros) 30 (0, 0)) (by kernel_rfl) (by kernel_rfl) ?_
  intro g11 W12 M13
  refine st_storeRow M13 0 rfl 30 (.tmp 5) (.tmp 9) (by rfl) (iv (scL true)) (by kernel_rfl) (by kernel_rfl) (info64 _ (scL_length _)) (iv_same (scL_length _) zeros_length) (iv_one _) (by kernel_rfl) [(g11, .cells (iv (scL true)) 30 (0, 0)), (g5, .cells (iv zeros) 30 (0, 0)), (g2, .cells (iv x) 30 (0, 0))] rfl ?_
  intro W14 M15
  refine wl_nil ?_
  refine hK8 _ _ ?_
  try clear hK8 K8
  refine wp_seq_k (fun K16 hK16 => ?_)
  refine wl_region ?_
  refine st_alloc M15 (.cells (iv zeros) 30 (0, 0)) (by kernel_rfl) (by kernel_rfl) ?_
  intro g17 W18 M19
  refine wl_nil ?_
  refine hK16 _ _ ?_
  try clear hK16 K16
  refine wp_seq_k (fun K20 hK20 => ?_)
  refine wp_seq_k (fun K21 hK21 => ?_)
  refine wl_region ?_
  refine st_val (.int .i64 0) (by kernel_rfl) (by kernel_rfl) ?_
  refine wl_nil ?_
  refine hK21 _ _ ?_
  try clear hK21 K21
  refine wp_block ?_
  refine wp_loop_ghost (fun gn a' w' => ∃ (k : Nat) (u22 : Nat → Value), ((k ≤ 64) ∧ Mem NoS w w' [(g17, .cells (iv (tab 64 (fiTo (toS true x) k))) 30 (0, 0)), (g11, .cells (iv (scL true)) 30 (0, 0)), (g5, .cells (iv zeros) 30 (0, 0)), (g2, .cells (iv x) 30 (0, 0))]) ∧ gn = 64 - k ∧ a' = ⟨#[.agg (iv x), .bool true, .pointer (some ⟨g2, 0, none⟩), undef, .pointer (some ⟨g5, 0, none⟩), .pointer (some ⟨g11, 0, none⟩), .pointer (some ⟨g17, 0, none⟩), .int .i64 (k : Int), .bool true, .agg (iv (scL true)), (u22 10), (u22 11), (u22 12), (u22 13), (u22 14), (u22 15), (u22 16), (u22 17), (u22 18), (u22 19), (u22 20), undef], []⟩) _ ⟨0, (fun zz => Array.getD #[undef, undef, undef, undef, undef, undef, undef, undef, undef, undef, undef, undef, undef, undef, undef, undef, undef, undef, undef, undef, undef] zz undef), ⟨by omega, (by rw [fiTo_zero]; exact M19)⟩, rfl, (by kernel_rfl)⟩ ?_
  rintro gn _ W23 ⟨k, u22, ⟨rk, M24⟩, rfl, rfl⟩
  refine wp_seq_k (fun K25 hK25 => ?_)
  refine wp_seq_k (fun K26 hK26 => ?_)
  refine wl_region ?_
  refine st_val (.int .i64 (k : Int)) (by kernel_rfl) (by kernel_rfl) ?_
  rcases Decidable.em (((k : Int) : Int) < 64) with c11 | c11
  ·
    refine st_val (.bool true) (by kernel_rfl) (bool_of (dec_t c11) (by kernel_rfl)) ?_
    refine wl_nil ?_
    refine hK26 _ _ ?_
    try clear hK26 K26
    refine wp_cond_true (by kernel_rfl) ?_
    refine wp_skip ?_
    refine hK25 _ _ ?_
    try clear hK25 K25
    refine wp_seq_k (fun K27 hK27 => ?_)
    refine wp_block ?_
    have hsc := (sc_facts true (p := k) (by omega)).1
    refine wl_region ?_
    refine st_val (.int .i64 (k : Int)) (by kernel_rfl) (by kernel_rfl) ?_
    refine st_val (.int .i64 (k : Int)) (by kernel_rfl) (by kernel_rfl) ?_
    refine st_val (.pointer (some ⟨g11, k, none⟩)) (by kernel_rfl) (run_indexAddr 30 (.tmp 5) (.tmp 15) rfl ⟨g11, 0, none⟩ .i64 k (by kernel_rfl) (by kernel_rfl) Try.underlying30 1 (by kernel_rfl) (by omega) ⟨g11, k, none⟩ (addr_at0 _ _)) ?_
    refine st_val (.int .i64 (((scN true).getD k 0 : Nat) : Int)) (by kernel_rfl) (int_of (scL_get true k) (run_load_cell 3 (.tmp 16) rfl ⟨g11, k, none⟩ (by kernel_rfl) _ (M24.cell 1 rfl k _ (iv_get (scL true) k (by rw [(scL_length _)]; omega))) (by kernel_rfl))) ?_
    refine st_val (.pointer (some ⟨g2, (scN true).getD k 0, none⟩)) (by kernel_rfl) (run_indexAddr 30 (.tmp 2) (.tmp 17) rfl ⟨g2, 0, none⟩ .i64 ((scN true).getD k 0) (by kernel_rfl) (by kernel_rfl) Try.underlying30 1 (by kernel_rfl) (by omega) ⟨g2, (scN true).getD k 0, none⟩ (addr_at0 _ _)) ?_
    refine st_val (.int .i64 (x.getD ((scN true).getD k 0) 0)) (by kernel_rfl) (run_load_cell 3 (.tmp 18) rfl ⟨g2, (scN true).getD k 0, none⟩ (by kernel_rfl) _ (M24.cell 3 rfl ((scN true).getD k 0) _ (iv_get x ((scN true).getD k 0) (by rw [hx]; omega))) (by kernel_rfl)) ?_
    refine st_val (.pointer (some ⟨g17, k, none⟩)) (by kernel_rfl) (run_indexAddr 30 (.tmp 6) (.tmp 14) rfl ⟨g17, 0, none⟩ .i64 k (by kernel_rfl) (by kernel_rfl) Try.underlying30 1 (by kernel_rfl) (by omega) ⟨g17, k, none⟩ (addr_at0 _ _)) ?_
    refine st_storeCell M24 0 rfl 3 (.tmp 20) (.tmp 19) (by rfl) k (.int .i64 (x.getD ((scN true).getD k 0) 0)) (iv ((tab 64 (fiTo (toS true x) k)).set k (x.getD ((scN true).getD k 0) 0))) (by kernel_rfl) (by kernel_rfl) (by rw [iv_size, (tab_length _ _)]; omega) (by kernel_rfl) rfl (by kernel_rfl) (iv_set _ _ _) (by kernel_rfl) [(g17, .cells (iv ((tab 64 (fiTo (toS true x) k)).set k (x.getD ((scN true).getD k 0) 0))) 30 (0, 0)), (g11, .cells (iv (scL true)) 30 (0, 0)), (g5, .cells (iv zeros) 30 (0, 0)), (g2, .cells (iv x) 30 (0, 0))] rfl ?_
    intro W28 M29
    refine wl_nil ?_
    refine blk_normal ?_
    refine hK27 _ _ ?_
    try clear hK27 K27
    refine wl_region ?_
    refine st_val (.int .i64 (k : Int)) (by kernel_rfl) (by kernel_rfl) ?_
    refine st_val (.int .i64 ((k : Int) + 1)) (by kernel_rfl) (i64_of (by omega) (by kernel_rfl)) ?_
    refine st_val (.int .i64 ((k : Int) + 1)) (by kernel_rfl) (by kernel_rfl) ?_
    refine wl_nil ?_
    refine th_normal ?_
    exact ⟨_, by omega, (k + 1), (fun zz => Array.getD #[undef, undef, undef, undef, undef, undef, undef, undef, undef, undef, .int .i64 (k : Int), .bool true, .int .i64 (k : Int), .int .i64 ((k : Int) + 1), .int .i64 (k : Int), .int .i64 (k : Int), .pointer (some ⟨g11, k, none⟩), .int .i64 (((scN true).getD k 0 : Nat) : Int), .pointer (some ⟨g2, (scN true).getD k 0, none⟩), .int .i64 (x.getD ((scN true).getD k 0) 0), .pointer (some ⟨g17, k, none⟩)] zz undef), ⟨by omega, (by rw [← fiTo_next, toS_get true x (by omega)]; exact M29)⟩, rfl, (by kernel_rfl)⟩
  ·
    refine st_val (.bool false) (by kernel_rfl) (bool_of (dec_f c11) (by kernel_rfl)) ?_
    refine wl_nil ?_
    refine hK26 _ _ ?_
    try clear hK26 K26
    refine wp_cond_false (by kernel_rfl) ?_
    refine wp_exit ?_
    refine th_exit ?_
    refine th_exit ?_
    refine blk_exit ?_
    refine hK20 _ _ ?_
    try clear hK20 K20
    refine wp_seq_k (fun K30 hK30 => ?_)
    have M31 : Mem NoS w W23 [(g17, .cells (iv (toS true x)) 30 (0, 0)), (g11, .cells (iv (scL true)) 30 (0, 0)), (g5, .cells (iv zeros) 30 (0, 0)), (g2, .cells (iv x) 30 (0, 0))] := by
      have hh := M24; rw [fiTo_end (toS true x) (tab_length _ _) k (by omega)] at hh; exact hh
    refine wl_region ?_
    refine st_val (.agg (iv (toS true x))) (by kernel_rfl) (run_load_row 30 (.tmp 6) rfl g17 (by kernel_rfl) 30 (iv (toS true x)) (0, 0) _ (M31.get 0 rfl) Try.underlying30 rfl (info64 _ (tab_length _ _))) ?_
    refine st_storeRow M31 2 rfl 30 (.tmp 4) (.tmp 21) (by rfl) (iv (toS true x)) (by kernel_rfl) (by kernel_rfl) (info64 _ (tab_length _ _)) (iv_same (tab_length _ _) zeros_length) (iv_one _) (by kernel_rfl) [(g17, .cells (iv (toS true x)) 30 (0, 0)), (g11, .cells (iv (scL true)) 30 (0, 0)), (g5, .cells (iv (toS true x)) 30 (0, 0)), (g2, .cells (iv x) 30 (0, 0))] rfl ?_
    intro W32 M33
    refine wl_nil ?_
    refine hK30 _ _ ?_
    try clear hK30 K30
    refine wp_ret ?_
    exact doneRow 4 30 g5 30 (iv (toS true x)) (0, 0) _ (by kernel_rfl) (by kernel_rfl) (M33.get 2 rfl) Try.underlying30 rfl (info64 _ (tab_length _ _)) (by kernel_rfl) ⟨rfl, M33.toBelow⟩
set_option maxHeartbeats 4000000 in
set_option maxRecDepth 100000 in
theorem refToScan_false (w : World) (x : List Int) (hx : x.length = 64) : Calls Try.prog 33 #[.agg (iv x), .bool false] w fun e w' => e = .returned (.agg (iv (toS false x))) ∧ Below w.heap.size w w' := by
  refine calls_of_wp Try.func33 rfl ?_
  refine wp_frame (a' := ⟨#[.agg (iv x), .bool false, undef, undef, undef, undef, undef, undef, undef, undef, undef, undef, undef, undef, undef, undef, undef, undef, undef, undef, undef, undef], []⟩) (by kernel_rfl) ?_
  have M0 : Mem NoS w w [] := Mem.start _ _
  refine wp_seq_k (fun K1 hK1 => ?_)
  refine wl_region ?_
  refine st_alloc M0 (.cells (iv x) 30 (0, 0)) (by kernel_rfl) (by kernel_rfl) ?_
  intro g2 W3 M4
  refine st_alloc M4 (.cells (iv zeros) 30 (0, 0)) (by kernel_rfl) (by kernel_rfl) ?_
  intro g5 W6 M7
  refine wl_nil ?_
  refine hK1 _ _ ?_
  try clear hK1 K1
  refine wp_seq_k (fun K8 hK8 => ?_)
  refine wl_region ?_
  refine st_val (.bool false) (by kernel_rfl) (by kernel_rfl) ?_
  refine st_callB M7 (.agg (iv (scL false))) (by kernel_rfl) (args := #[.bool false]) (run_value_call 32 #[(Operand.tmp 8)] _ rfl Try.func32 (by kernel_rfl) (by kernel_rfl) _ (by kernel_rfl)) (refScan_false W6) ?_
  intro W9 M10
  refine st_alloc M10 (.cells (iv zeros) 30 (0, 0)) (by kernel_rfl) (by kernel_rfl) ?_
  intro g11 W12 M13
  refine st_storeRow M13 0 rfl 30 (.tmp 5) (.tmp 9) (by rfl) (iv (scL false)) (by kernel_rfl) (by kernel_rfl) (info64 _ (scL_length _)) (iv_same (scL_length _) zeros_length) (iv_one _) (by kernel_rfl) [(g11, .cells (iv (scL false)) 30 (0, 0)), (g5, .cells (iv zeros) 30 (0, 0)), (g2, .cells (iv x) 30 (0, 0))] rfl ?_
  intro W14 M15
  refine wl_nil ?_
  refine hK8 _ _ ?_
  try clear hK8 K8
  refine wp_seq_k (fun K16 hK16 => ?_)
  refine wl_region ?_
  refine st_alloc M15 (.cells (iv zeros) 30 (0, 0)) (by kernel_rfl) (by kernel_rfl) ?_
  intro g17 W18 M19
  refine wl_nil ?_
  refine hK16 _ _ ?_
  try clear hK16 K16
  refine wp_seq_k (fun K20 hK20 => ?_)
  refine wp_seq_k (fun K21 hK21 => ?_)
  refine wl_region ?_
  refine st_val (.int .i64 0) (by kernel_rfl) (by kernel_rfl) ?_
  refine wl_nil ?_
  refine hK21 _ _ ?_
  try clear hK21 K21
  refine wp_block ?_
  refine wp_loop_ghost (fun gn a' w' => ∃ (k : Nat) (u22 : Nat → Value), ((k ≤ 64) ∧ Mem NoS w w' [(g17, .cells (iv (tab 64 (fiTo (toS false x) k))) 30 (0, 0)), (g11, .cells (iv (scL false)) 30 (0, 0)), (g5, .cells (iv zeros) 30 (0, 0)), (g2, .cells (iv x) 30 (0, 0))]) ∧ gn = 64 - k ∧ a' = ⟨#[.agg (iv x), .bool false, .pointer (some ⟨g2, 0, none⟩), undef, .pointer (some ⟨g5, 0, none⟩), .pointer (some ⟨g11, 0, none⟩), .pointer (some ⟨g17, 0, none⟩), .int .i64 (k : Int), .bool false, .agg (iv (scL false)), (u22 10), (u22 11), (u22 12), (u22 13), (u22 14), (u22 15), (u22 16), (u22 17), (u22 18), (u22 19), (u22 20), undef], []⟩) _ ⟨0, (fun zz => Array.getD #[undef, undef, undef, undef, undef, undef, undef, undef, undef, undef, undef, undef, undef, undef, undef, undef, undef, undef, undef, undef, undef] zz undef), ⟨by omega, (by rw [fiTo_zero]; exact M19)⟩, rfl, (by kernel_rfl)⟩ ?_
  rintro gn _ W23 ⟨k, u22, ⟨rk, M24⟩, rfl, rfl⟩
  refine wp_seq_k (fun K25 hK25 => ?_)
  refine wp_seq_k (fun K26 hK26 => ?_)
  refine wl_region ?_
  refine st_val (.int .i64 (k : Int)) (by kernel_rfl) (by kernel_rfl) ?_
  rcases Decidable.em (((k : Int) : Int) < 64) with c11 | c11
  ·
    refine st_val (.bool true) (by kernel_rfl) (bool_of (dec_t c11) (by kernel_rfl)) ?_
    refine wl_nil ?_
    refine hK26 _ _ ?_
    try clear hK26 K26
    refine wp_cond_true (by kernel_rfl) ?_
    refine wp_skip ?_
    refine hK25 _ _ ?_
    try clear hK25 K25
    refine wp_seq_k (fun K27 hK27 => ?_)
    refine wp_block ?_
    have hsc := (sc_facts false (p := k) (by omega)).1
    refine wl_region ?_
    refine st_val (.int .i64 (k : Int)) (by kernel_rfl) (by kernel_rfl) ?_
    refine st_val (.int .i64 (k : Int)) (by kernel_rfl) (by kernel_rfl) ?_
    refine st_val (.pointer (some ⟨g11, k, none⟩)) (by kernel_rfl) (run_indexAddr 30 (.tmp 5) (.tmp 15) rfl ⟨g11, 0, none⟩ .i64 k (by kernel_rfl) (by kernel_rfl) Try.underlying30 1 (by kernel_rfl) (by omega) ⟨g11, k, none⟩ (addr_at0 _ _)) ?_
    refine st_val (.int .i64 (((scN false).getD k 0 : Nat) : Int)) (by kernel_rfl) (int_of (scL_get false k) (run_load_cell 3 (.tmp 16) rfl ⟨g11, k, none⟩ (by kernel_rfl) _ (M24.cell 1 rfl k _ (iv_get (scL false) k (by rw [(scL_length _)]; omega))) (by kernel_rfl))) ?_
    refine st_val (.pointer (some ⟨g2, (scN false).getD k 0, none⟩)) (by kernel_rfl) (run_indexAddr 30 (.tmp 2) (.tmp 17) rfl ⟨g2, 0, none⟩ .i64 ((scN false).getD k 0) (by kernel_rfl) (by kernel_rfl) Try.underlying30 1 (by kernel_rfl) (by omega) ⟨g2, (scN false).getD k 0, none⟩ (addr_at0 _ _)) ?_
    refine st_val (.int .i64 (x.getD ((scN false).getD k 0) 0)) (by kernel_rfl) (run_load_cell 3 (.tmp 18) rfl ⟨g2, (scN false).getD k 0, none⟩ (by kernel_rfl) _ (M24.cell 3 rfl ((scN false).getD k 0) _ (iv_get x ((scN false).getD k 0) (by rw [hx]; omega))) (by kernel_rfl)) ?_
    refine st_val (.pointer (some ⟨g17, k, none⟩)) (by kernel_rfl) (run_indexAddr 30 (.tmp 6) (.tmp 14) rfl ⟨g17, 0, none⟩ .i64 k (by kernel_rfl) (by kernel_rfl) Try.underlying30 1 (by kernel_rfl) (by omega) ⟨g17, k, none⟩ (addr_at0 _ _)) ?_
    refine st_storeCell M24 0 rfl 3 (.tmp 20) (.tmp 19) (by rfl) k (.int .i64 (x.getD ((scN false).getD k 0) 0)) (iv ((tab 64 (fiTo (toS false x) k)).set k (x.getD ((scN false).getD k 0) 0))) (by kernel_rfl) (by kernel_rfl) (by rw [iv_size, (tab_length _ _)]; omega) (by kernel_rfl) rfl (by kernel_rfl) (iv_set _ _ _) (by kernel_rfl) [(g17, .cells (iv ((tab 64 (fiTo (toS false x) k)).set k (x.getD ((scN false).getD k 0) 0))) 30 (0, 0)), (g11, .cells (iv (scL false)) 30 (0, 0)), (g5, .cells (iv zeros) 30 (0, 0)), (g2, .cells (iv x) 30 (0, 0))] rfl ?_
    intro W28 M29
    refine wl_nil ?_
    refine blk_normal ?_
    refine hK27 _ _ ?_
    try clear hK27 K27
    refine wl_region ?_
    refine st_val (.int .i64 (k : Int)) (by kernel_rfl) (by kernel_rfl) ?_
    refine st_val (.int .i64 ((k : Int) + 1)) (by kernel_rfl) (i64_of (by omega) (by kernel_rfl)) ?_
    refine st_val (.int .i64 ((k : Int) + 1)) (by kernel_rfl) (by kernel_rfl) ?_
    refine wl_nil ?_
    refine th_normal ?_
    exact ⟨_, by omega, (k + 1), (fun zz => Array.getD #[undef, undef, undef, undef, undef, undef, undef, undef, undef, undef, .int .i64 (k : Int), .bool true, .int .i64 (k : Int), .int .i64 ((k : Int) + 1), .int .i64 (k : Int), .int .i64 (k : Int), .pointer (some ⟨g11, k, none⟩), .int .i64 (((scN false).getD k 0 : Nat) : Int), .pointer (some ⟨g2, (scN false).getD k 0, none⟩), .int .i64 (x.getD ((scN false).getD k 0) 0), .pointer (some ⟨g17, k, none⟩)] zz undef), ⟨by omega, (by rw [← fiTo_next, toS_get false x (by omega)]; exact M29)⟩, rfl, (by kernel_rfl)⟩
  ·
    refine st_val (.bool false) (by kernel_rfl) (bool_of (dec_f c11) (by kernel_rfl)) ?_
    refine wl_nil ?_
    refine hK26 _ _ ?_
    try clear hK26 K26
    refine wp_cond_false (by kernel_rfl) ?_
    refine wp_exit ?_
    refine th_exit ?_
    refine th_exit ?_
    refine blk_exit ?_
    refine hK20 _ _ ?_
    try clear hK20 K20
    refine wp_seq_k (fun K30 hK30 => ?_)
    have M31 : Mem NoS w W23 [(g17, .cells (iv (toS false x)) 30 (0, 0)), (g11, .cells (iv (scL false)) 30 (0, 0)), (g5, .cells (iv zeros) 30 (0, 0)), (g2, .cells (iv x) 30 (0, 0))] := by
      have hh := M24; rw [fiTo_end (toS false x) (tab_length _ _) k (by omega)] at hh; exact hh
    refine wl_region ?_
    refine st_val (.agg (iv (toS false x))) (by kernel_rfl) (run_load_row 30 (.tmp 6) rfl g17 (by kernel_rfl) 30 (iv (toS false x)) (0, 0) _ (M31.get 0 rfl) Try.underlying30 rfl (info64 _ (tab_length _ _))) ?_
    refine st_storeRow M31 2 rfl 30 (.tmp 4) (.tmp 21) (by rfl) (iv (toS false x)) (by kernel_rfl) (by kernel_rfl) (info64 _ (tab_length _ _)) (iv_same (tab_length _ _) zeros_length) (iv_one _) (by kernel_rfl) [(g17, .cells (iv (toS false x)) 30 (0, 0)), (g11, .cells (iv (scL false)) 30 (0, 0)), (g5, .cells (iv (toS false x)) 30 (0, 0)), (g2, .cells (iv x) 30 (0, 0))] rfl ?_
    intro W32 M33
    refine wl_nil ?_
    refine hK30 _ _ ?_
    try clear hK30 K30
    refine wp_ret ?_
    exact doneRow 4 30 g5 30 (iv (toS false x)) (0, 0) _ (by kernel_rfl) (by kernel_rfl) (M33.get 2 rfl) Try.underlying30 rfl (info64 _ (tab_length _ _)) (by kernel_rfl) ⟨rfl, M33.toBelow⟩
set_option maxHeartbeats 4000000 in
set_option maxRecDepth 100000 in
theorem fromScan_true (w : World) (x : List Int) (hx : x.length = 64) : Calls Try.prog 34 #[.agg (iv x), .bool true] w fun e w' => e = .returned (.agg (iv (frS true x))) ∧ Below w.heap.size w w' := by
  refine calls_of_wp Try.func34 rfl ?_
  refine wp_frame (a' := ⟨#[.agg (iv x), .bool true, undef, undef, undef, undef, undef, undef, undef, undef, undef, undef, undef, undef, undef, undef, undef, undef, undef, undef, undef], []⟩) (by kernel_rfl) ?_
  have M0 : Mem NoS w w [] := Mem.start _ _
  refine wp_seq_k (fun K1 hK1 => ?_)
  refine wl_region ?_
  refine st_alloc M0 (.cells (iv x) 30 (0, 0)) (by kernel_rfl) (by kernel_rfl) ?_
  intro g2 W3 M4
  refine st_alloc M4 (.cells (iv zeros) 30 (0, 0)) (by kernel_rfl) (by kernel_rfl) ?_
  intro g5 W6 M7
  refine wl_nil ?_
  refine hK1 _ _ ?_
  try clear hK1 K1
  refine wp_seq_k (fun K8 hK8 => ?_)
  refine wl_region ?_
  refine st_alloc M7 (.cells (iv zeros) 30 (0, 0)) (by kernel_rfl) (by kernel_rfl) ?_
  intro g9 W10 M11
  refine wl_nil ?_
  refine hK8 _ _ ?_
  try clear hK8 K8
  refine wp_seq_k (fun K12 hK12 => ?_)
  refine wp_seq_k (fun K13 hK13 => ?_)
  refine wl_region ?_
  refine st_val (.bool true) (by kernel_rfl) (by kernel_rfl) ?_
  refine st_callB M11 (.agg (iv (scL true))) (by kernel_rfl) (args := #[.bool true]) (run_value_call 31 #[(Operand.tmp 8)] _ rfl Try.func31 (by kernel_rfl) (by kernel_rfl) _ (by kernel_rfl)) (scan_true W10) ?_
  intro W14 M15
  refine st_val (.int .i64 0) (by kernel_rfl) (by kernel_rfl) ?_
  refine wl_nil ?_
  refine hK13 _ _ ?_
  try clear hK13 K13
  refine wp_block ?_
  refine wp_loop_ghost (fun gn a' w' => ∃ (k : Nat) (u16 : Nat → Value), ((k ≤ 64) ∧ Mem NoS w w' [(g9, .cells (iv (tab 64 (frTo true x k))) 30 (0, 0)), (g5, .cells (iv zeros) 30 (0, 0)), (g2, .cells (iv x) 30 (0, 0))]) ∧ gn = 64 - k ∧ a' = ⟨#[.agg (iv x), .bool true, .pointer (some ⟨g2, 0, none⟩), undef, .pointer (some ⟨g5, 0, none⟩), .pointer (some ⟨g9, 0, none⟩), (u16 6), (u16 7), .bool true, .agg (iv (scL true)), .int .i64 (k : Int), (u16 11), (u16 12), (u16 13), (u16 14), (u16 15), (u16 16), (u16 17), (u16 18), (u16 19), undef], []⟩) _ ⟨0, (fun zz => Array.getD #[undef, undef, undef, undef, undef, undef, undef, undef, undef, undef, undef, undef, undef, undef, undef, undef, undef, undef, undef, undef] zz undef), ⟨by omega, (by rw [frTo_zero]; exact M15)⟩, rfl, (by kernel_rfl)⟩ ?_
  rintro gn _ W17 ⟨k, u16, ⟨rk, M18⟩, rfl, rfl⟩
  refine wp_seq_k (fun K19 hK19 => ?_)
  refine wl_region ?_
  rcases Decidable.em (((k : Int) : Int) < 64) with c11 | c11
  ·
    refine st_val (.bool true) (by kernel_rfl) (bool_of (dec_t c11) (by kernel_rfl)) ?_
    refine wl_nil ?_
    refine hK19 _ _ ?_
    try clear hK19 K19
    refine wp_seq_k (fun K20 hK20 => ?_)
    refine wp_cond_true (by kernel_rfl) ?_
    refine wp_skip ?_
    refine hK20 _ _ ?_
    try clear hK20 K20
    refine wp_seq_k (fun K21 hK21 => ?_)
    refine wp_block ?_
    refine wp_seq_k (fun K22 hK22 => ?_)
    refine wl_region ?_
    refine st_val (.int .i64 (k : Int)) (by kernel_rfl) (by kernel_rfl) ?_
    refine st_val (.int .i64 (((scN true).getD k 0 : Nat) : Int)) (by kernel_rfl) (int_of (scL_get true k) (run_indexVal 30 (.tmp 9) (.tmp 10) rfl (iv (scL true)) .i64 k (by kernel_rfl) (by kernel_rfl) Try.underlying30 (by kernel_rfl) (by kernel_rfl) (by omega) _ (iv_get (scL true) k (by rw [(scL_length _)]; omega)))) ?_
    refine st_val (.int .i64 (k : Int)) (by kernel_rfl) (by kernel_rfl) ?_
    refine st_val (.int .i64 (((scN true).getD k 0 : Nat) : Int)) (by kernel_rfl) (by kernel_rfl) ?_
    refine wl_nil ?_
    refine hK22 _ _ ?_
    try clear hK22 K22
    have hsc := (sc_facts true (p := k) (by omega)).1
    refine wl_region ?_
    refine st_val (.int .i64 (((scN true).getD k 0 : Nat) : Int)) (by kernel_rfl) (by kernel_rfl) ?_
    refine st_val (.int .i64 (k : Int)) (by kernel_rfl) (by kernel_rfl) ?_
    refine st_val (.pointer (some ⟨g2, k, none⟩)) (by kernel_rfl) (run_indexAddr 30 (.tmp 2) (.tmp 15) rfl ⟨g2, 0, none⟩ .i64 k (by kernel_rfl) (by kernel_rfl) Try.underlying30 1 (by kernel_rfl) (by omega) ⟨g2, k, none⟩ (addr_at0 _ _)) ?_
    refine st_val (.int .i64 (x.getD k 0)) (by kernel_rfl) (run_load_cell 3 (.tmp 16) rfl ⟨g2, k, none⟩ (by kernel_rfl) _ (M18.cell 2 rfl k _ (iv_get x k (by rw [hx]; omega))) (by kernel_rfl)) ?_
    refine st_val (.pointer (some ⟨g9, (scN true).getD k 0, none⟩)) (by kernel_rfl) (run_indexAddr 30 (.tmp 5) (.tmp 14) rfl ⟨g9, 0, none⟩ .i64 ((scN true).getD k 0) (by kernel_rfl) (by kernel_rfl) Try.underlying30 1 (by kernel_rfl) (by omega) ⟨g9, (scN true).getD k 0, none⟩ (addr_at0 _ _)) ?_
    refine st_storeCell M18 0 rfl 3 (.tmp 18) (.tmp 17) (by rfl) ((scN true).getD k 0) (.int .i64 (x.getD k 0)) (iv ((tab 64 (frTo true x k)).set ((scN true).getD k 0) (x.getD k 0))) (by kernel_rfl) (by kernel_rfl) (by rw [iv_size, (tab_length _ _)]; omega) (by kernel_rfl) rfl (by kernel_rfl) (iv_set _ _ _) (by kernel_rfl) [(g9, .cells (iv ((tab 64 (frTo true x k)).set ((scN true).getD k 0) (x.getD k 0))) 30 (0, 0)), (g5, .cells (iv zeros) 30 (0, 0)), (g2, .cells (iv x) 30 (0, 0))] rfl ?_
    intro W23 M24
    refine wl_nil ?_
    refine blk_normal ?_
    refine hK21 _ _ ?_
    try clear hK21 K21
    refine wl_region ?_
    refine st_val (.int .i64 ((k : Int) + 1)) (by kernel_rfl) (i64_of (by omega) (by kernel_rfl)) ?_
    refine st_val (.int .i64 ((k : Int) + 1)) (by kernel_rfl) (by kernel_rfl) ?_
    refine wl_nil ?_
    refine th_normal ?_
    exact ⟨_, by omega, (k + 1), (fun zz => Array.getD #[undef, undef, undef, undef, undef, undef, .int .i64 (k : Int), .int .i64 (((scN true).getD k 0 : Nat) : Int), undef, undef, undef, .bool true, .int .i64 (k : Int), .int .i64 (((scN true).getD k 0 : Nat) : Int), .int .i64 (((scN true).getD k 0 : Nat) : Int), .int .i64 (k : Int), .pointer (some ⟨g2, k, none⟩), .int .i64 (x.getD k 0), .pointer (some ⟨g9, (scN true).getD k 0, none⟩), .int .i64 ((k : Int) + 1)] zz undef), ⟨by omega, (by rw [← frTo_next true x k (by omega)]; exact M24)⟩, rfl, (by kernel_rfl)⟩
  ·
    refine st_val (.bool false) (by kernel_rfl) (bool_of (dec_f c11) (by kernel_rfl)) ?_
    refine wl_nil ?_
    refine hK19 _ _ ?_
    try clear hK19 K19
    refine wp_seq_k (fun K25 hK25 => ?_)
    refine wp_cond_false (by kernel_rfl) ?_
    refine wp_exit ?_
    refine th_exit ?_
    refine th_exit ?_
    refine blk_exit ?_
    refine hK12 _ _ ?_
    try clear hK12 K12
    refine wp_seq_k (fun K26 hK26 => ?_)
    have M27 : Mem NoS w W17 [(g9, .cells (iv (frS true x)) 30 (0, 0)), (g5, .cells (iv zeros) 30 (0, 0)), (g2, .cells (iv x) 30 (0, 0))] := by
      have hh := M18; rw [frTo_end true x k (by omega)] at hh; exact hh
    refine wl_region ?_
    refine st_val (.agg (iv (frS true x))) (by kernel_rfl) (run_load_row 30 (.tmp 5) rfl g9 (by kernel_rfl) 30 (iv (frS true x)) (0, 0) _ (M27.get 0 rfl) Try.underlying30 rfl (info64 _ (tab_length _ _))) ?_
    refine st_storeRow M27 1 rfl 30 (.tmp 4) (.tmp 20) (by rfl) (iv (frS true x)) (by kernel_rfl) (by kernel_rfl) (info64 _ (tab_length _ _)) (iv_same (tab_length _ _) zeros_length) (iv_one _) (by kernel_rfl) [(g9, .cells (iv (frS true x)) 30 (0, 0)), (g5, .cells (iv (frS true x)) 30 (0, 0)), (g2, .cells (iv x) 30 (0, 0))] rfl ?_
    intro W28 M29
    refine wl_nil ?_
    refine hK26 _ _ ?_
    try clear hK26 K26
    refine wp_ret ?_
    exact doneRow 4 30 g5 30 (iv (frS true x)) (0, 0) _ (by kernel_rfl) (by kernel_rfl) (M29.get 1 rfl) Try.underlying30 rfl (info64 _ (tab_length _ _)) (by kernel_rfl) ⟨rfl, M29.toBelow⟩
set_option maxHeartbeats 4000000 in
set_option maxRecDepth 100000 in
theorem fromScan_false (w : World) (x : List Int) (hx : x.length = 64) : Calls Try.prog 34 #[.agg (iv x), .bool false] w fun e w' => e = .returned (.agg (iv (frS false x))) ∧ Below w.heap.size w w' := by
  refine calls_of_wp Try.func34 rfl ?_
  refine wp_frame (a' := ⟨#[.agg (iv x), .bool false, undef, undef, undef, undef, undef, undef, undef, undef, undef, undef, undef, undef, undef, undef, undef, undef, undef, undef, undef], []⟩) (by kernel_rfl) ?_
  have M0 : Mem NoS w w [] := Mem.start _ _
  refine wp_seq_k (fun K1 hK1 => ?_)
  refine wl_region ?_
  refine st_alloc M0 (.cells (iv x) 30 (0, 0)) (by kernel_rfl) (by kernel_rfl) ?_
  intro g2 W3 M4
  refine st_alloc M4 (.cells (iv zeros) 30 (0, 0)) (by kernel_rfl) (by kernel_rfl) ?_
  intro g5 W6 M7
  refine wl_nil ?_
  refine hK1 _ _ ?_
  try clear hK1 K1
  refine wp_seq_k (fun K8 hK8 => ?_)
  refine wl_region ?_
  refine st_alloc M7 (.cells (iv zeros) 30 (0, 0)) (by kernel_rfl) (by kernel_rfl) ?_
  intro g9 W10 M11
  refine wl_nil ?_
  refine hK8 _ _ ?_
  try clear hK8 K8
  refine wp_seq_k (fun K12 hK12 => ?_)
  refine wp_seq_k (fun K13 hK13 => ?_)
  refine wl_region ?_
  refine st_val (.bool false) (by kernel_rfl) (by kernel_rfl) ?_
  refine st_callB M11 (.agg (iv (scL false))) (by kernel_rfl) (args := #[.bool false]) (run_value_call 31 #[(Operand.tmp 8)] _ rfl Try.func31 (by kernel_rfl) (by kernel_rfl) _ (by kernel_rfl)) (scan_false W10) ?_
  intro W14 M15
  refine st_val (.int .i64 0) (by kernel_rfl) (by kernel_rfl) ?_
  refine wl_nil ?_
  refine hK13 _ _ ?_
  try clear hK13 K13
  refine wp_block ?_
  refine wp_loop_ghost (fun gn a' w' => ∃ (k : Nat) (u16 : Nat → Value), ((k ≤ 64) ∧ Mem NoS w w' [(g9, .cells (iv (tab 64 (frTo false x k))) 30 (0, 0)), (g5, .cells (iv zeros) 30 (0, 0)), (g2, .cells (iv x) 30 (0, 0))]) ∧ gn = 64 - k ∧ a' = ⟨#[.agg (iv x), .bool false, .pointer (some ⟨g2, 0, none⟩), undef, .pointer (some ⟨g5, 0, none⟩), .pointer (some ⟨g9, 0, none⟩), (u16 6), (u16 7), .bool false, .agg (iv (scL false)), .int .i64 (k : Int), (u16 11), (u16 12), (u16 13), (u16 14), (u16 15), (u16 16), (u16 17), (u16 18), (u16 19), undef], []⟩) _ ⟨0, (fun zz => Array.getD #[undef, undef, undef, undef, undef, undef, undef, undef, undef, undef, undef, undef, undef, undef, undef, undef, undef, undef, undef, undef] zz undef), ⟨by omega, (by rw [frTo_zero]; exact M15)⟩, rfl, (by kernel_rfl)⟩ ?_
  rintro gn _ W17 ⟨k, u16, ⟨rk, M18⟩, rfl, rfl⟩
  refine wp_seq_k (fun K19 hK19 => ?_)
  refine wl_region ?_
  rcases Decidable.em (((k : Int) : Int) < 64) with c11 | c11
  ·
    refine st_val (.bool true) (by kernel_rfl) (bool_of (dec_t c11) (by kernel_rfl)) ?_
    refine wl_nil ?_
    refine hK19 _ _ ?_
    try clear hK19 K19
    refine wp_seq_k (fun K20 hK20 => ?_)
    refine wp_cond_true (by kernel_rfl) ?_
    refine wp_skip ?_
    refine hK20 _ _ ?_
    try clear hK20 K20
    refine wp_seq_k (fun K21 hK21 => ?_)
    refine wp_block ?_
    refine wp_seq_k (fun K22 hK22 => ?_)
    refine wl_region ?_
    refine st_val (.int .i64 (k : Int)) (by kernel_rfl) (by kernel_rfl) ?_
    refine st_val (.int .i64 (((scN false).getD k 0 : Nat) : Int)) (by kernel_rfl) (int_of (scL_get false k) (run_indexVal 30 (.tmp 9) (.tmp 10) rfl (iv (scL false)) .i64 k (by kernel_rfl) (by kernel_rfl) Try.underlying30 (by kernel_rfl) (by kernel_rfl) (by omega) _ (iv_get (scL false) k (by rw [(scL_length _)]; omega)))) ?_
    refine st_val (.int .i64 (k : Int)) (by kernel_rfl) (by kernel_rfl) ?_
    refine st_val (.int .i64 (((scN false).getD k 0 : Nat) : Int)) (by kernel_rfl) (by kernel_rfl) ?_
    refine wl_nil ?_
    refine hK22 _ _ ?_
    try clear hK22 K22
    have hsc := (sc_facts false (p := k) (by omega)).1
    refine wl_region ?_
    refine st_val (.int .i64 (((scN false).getD k 0 : Nat) : Int)) (by kernel_rfl) (by kernel_rfl) ?_
    refine st_val (.int .i64 (k : Int)) (by kernel_rfl) (by kernel_rfl) ?_
    refine st_val (.pointer (some ⟨g2, k, none⟩)) (by kernel_rfl) (run_indexAddr 30 (.tmp 2) (.tmp 15) rfl ⟨g2, 0, none⟩ .i64 k (by kernel_rfl) (by kernel_rfl) Try.underlying30 1 (by kernel_rfl) (by omega) ⟨g2, k, none⟩ (addr_at0 _ _)) ?_
    refine st_val (.int .i64 (x.getD k 0)) (by kernel_rfl) (run_load_cell 3 (.tmp 16) rfl ⟨g2, k, none⟩ (by kernel_rfl) _ (M18.cell 2 rfl k _ (iv_get x k (by rw [hx]; omega))) (by kernel_rfl)) ?_
    refine st_val (.pointer (some ⟨g9, (scN false).getD k 0, none⟩)) (by kernel_rfl) (run_indexAddr 30 (.tmp 5) (.tmp 14) rfl ⟨g9, 0, none⟩ .i64 ((scN false).getD k 0) (by kernel_rfl) (by kernel_rfl) Try.underlying30 1 (by kernel_rfl) (by omega) ⟨g9, (scN false).getD k 0, none⟩ (addr_at0 _ _)) ?_
    refine st_storeCell M18 0 rfl 3 (.tmp 18) (.tmp 17) (by rfl) ((scN false).getD k 0) (.int .i64 (x.getD k 0)) (iv ((tab 64 (frTo false x k)).set ((scN false).getD k 0) (x.getD k 0))) (by kernel_rfl) (by kernel_rfl) (by rw [iv_size, (tab_length _ _)]; omega) (by kernel_rfl) rfl (by kernel_rfl) (iv_set _ _ _) (by kernel_rfl) [(g9, .cells (iv ((tab 64 (frTo false x k)).set ((scN false).getD k 0) (x.getD k 0))) 30 (0, 0)), (g5, .cells (iv zeros) 30 (0, 0)), (g2, .cells (iv x) 30 (0, 0))] rfl ?_
    intro W23 M24
    refine wl_nil ?_
    refine blk_normal ?_
    refine hK21 _ _ ?_
    try clear hK21 K21
    refine wl_region ?_
    refine st_val (.int .i64 ((k : Int) + 1)) (by kernel_rfl) (i64_of (by omega) (by kernel_rfl)) ?_
    refine st_val (.int .i64 ((k : Int) + 1)) (by kernel_rfl) (by kernel_rfl) ?_
    refine wl_nil ?_
    refine th_normal ?_
    exact ⟨_, by omega, (k + 1), (fun zz => Array.getD #[undef, undef, undef, undef, undef, undef, .int .i64 (k : Int), .int .i64 (((scN false).getD k 0 : Nat) : Int), undef, undef, undef, .bool true, .int .i64 (k : Int), .int .i64 (((scN false).getD k 0 : Nat) : Int), .int .i64 (((scN false).getD k 0 : Nat) : Int), .int .i64 (k : Int), .pointer (some ⟨g2, k, none⟩), .int .i64 (x.getD k 0), .pointer (some ⟨g9, (scN false).getD k 0, none⟩), .int .i64 ((k : Int) + 1)] zz undef), ⟨by omega, (by rw [← frTo_next false x k (by omega)]; exact M24)⟩, rfl, (by kernel_rfl)⟩
  ·
    refine st_val (.bool false) (by kernel_rfl) (bool_of (dec_f c11) (by kernel_rfl)) ?_
    refine wl_nil ?_
    refine hK19 _ _ ?_
    try clear hK19 K19
    refine wp_seq_k (fun K25 hK25 => ?_)
    refine wp_cond_false (by kernel_rfl) ?_
    refine wp_exit ?_
    refine th_exit ?_
    refine th_exit ?_
    refine blk_exit ?_
    refine hK12 _ _ ?_
    try clear hK12 K12
    refine wp_seq_k (fun K26 hK26 => ?_)
    have M27 : Mem NoS w W17 [(g9, .cells (iv (frS false x)) 30 (0, 0)), (g5, .cells (iv zeros) 30 (0, 0)), (g2, .cells (iv x) 30 (0, 0))] := by
      have hh := M18; rw [frTo_end false x k (by omega)] at hh; exact hh
    refine wl_region ?_
    refine st_val (.agg (iv (frS false x))) (by kernel_rfl) (run_load_row 30 (.tmp 5) rfl g9 (by kernel_rfl) 30 (iv (frS false x)) (0, 0) _ (M27.get 0 rfl) Try.underlying30 rfl (info64 _ (tab_length _ _))) ?_
    refine st_storeRow M27 1 rfl 30 (.tmp 4) (.tmp 20) (by rfl) (iv (frS false x)) (by kernel_rfl) (by kernel_rfl) (info64 _ (tab_length _ _)) (iv_same (tab_length _ _) zeros_length) (iv_one _) (by kernel_rfl) [(g9, .cells (iv (frS false x)) 30 (0, 0)), (g5, .cells (iv (frS false x)) 30 (0, 0)), (g2, .cells (iv x) 30 (0, 0))] rfl ?_
    intro W28 M29
    refine wl_nil ?_
    refine hK26 _ _ ?_
    try clear hK26 K26
    refine wp_ret ?_
    exact doneRow 4 30 g5 30 (iv (frS false x)) (0, 0) _ (by kernel_rfl) (by kernel_rfl) (M29.get 1 rfl) Try.underlying30 rfl (info64 _ (tab_length _ _)) (by kernel_rfl) ⟨rfl, M29.toBelow⟩
set_option maxHeartbeats 4000000 in
set_option maxRecDepth 100000 in
theorem refFromScan_true (w : World) (x : List Int) (hx : x.length = 64) : Calls Try.prog 35 #[.agg (iv x), .bool true] w fun e w' => e = .returned (.agg (iv (frS true x))) ∧ Below w.heap.size w w' := by
  refine calls_of_wp Try.func35 rfl ?_
  refine wp_frame (a' := ⟨#[.agg (iv x), .bool true, undef, undef, undef, undef, undef, undef, undef, undef, undef, undef, undef, undef, undef, undef, undef, undef, undef, undef, undef, undef], []⟩) (by kernel_rfl) ?_
  have M0 : Mem NoS w w [] := Mem.start _ _
  refine wp_seq_k (fun K1 hK1 => ?_)
  refine wl_region ?_
  refine st_alloc M0 (.cells (iv x) 30 (0, 0)) (by kernel_rfl) (by kernel_rfl) ?_
  intro g2 W3 M4
  refine st_alloc M4 (.cells (iv zeros) 30 (0, 0)) (by kernel_rfl) (by kernel_rfl) ?_
  intro g5 W6 M7
  refine wl_nil ?_
  refine hK1 _ _ ?_
  try clear hK1 K1
  refine wp_seq_k (fun K8 hK8 => ?_)
  refine wl_region ?_
  refine st_val (.bool true) (by kernel_rfl) (by kernel_rfl) ?_
  refine st_callB M7 (.agg (iv (scL true))) (by kernel_rfl) (args := #[.bool true]) (run_value_call 32 #[(Operand.tmp 8)] _ rfl Try.func32 (by kernel_rfl) (by kernel_rfl) _ (by kernel_rfl)) (refScan_true W6) ?_
  intro W9 M10
  refine st_alloc M10 (.cells (iv zeros) 30 (0, 0)) (by kernel_rfl) (by kernel_rfl) ?_
  intro g11 W12 M13
  refine st_storeRow M13 0 rfl 30 (.tmp 5) (.tmp 9) (by rfl) (iv (scL true)) (by kernel_rfl) (by kernel_rfl) (info64 _ (scL_length _)) (iv_same (scL_length _) zeros_length) (iv_one _) (by kernel_rfl) [(g11, .cells (iv (scL true)) 30 (0, 0)), (g5, .cells (iv zeros) 30 (0, 0)), (g2, .cells (iv x) 30 (0, 0))] rfl ?_
  intro W14 M15
  refine wl_nil ?_
  refine hK8 _ _ ?_
  try clear hK8 K8
  refine wp_seq_k (fun K16 hK16 => ?_)
  refine wl_region ?_
  refine st_alloc M15 (.cells (iv zeros) 30 (0, 0)) (by kernel_rfl) (by kernel_rfl) ?_
  intro g17 W18 M19
  refine wl_nil ?_
  refine hK16 _ _ ?_
  try clear hK16 K16
  refine wp_seq_k (fun K20 hK20 => ?_)
  refine wp_seq_k (fun K21 hK21 => ?_)
  refine wl_region ?_
  refine st_val (.int .i64 0) (by kernel_rfl) (by kernel_rfl) ?_
  refine wl_nil ?_
  refine hK21 _ _ ?_
  try clear hK21 K21
  refine wp_block ?_
  refine wp_loop_ghost (fun gn a' w' => ∃ (k : Nat) (u22 : Nat → Value), ((k ≤ 64) ∧ Mem NoS w w' [(g17, .cells (iv (tab 64 (frTo true x k))) 30 (0, 0)), (g11, .cells (iv (scL true)) 30 (0, 0)), (g5, .cells (iv zeros) 30 (0, 0)), (g2, .cells (iv x) 30 (0, 0))]) ∧ gn = 64 - k ∧ a' = ⟨#[.agg (iv x), .bool true, .pointer (some ⟨g2, 0, none⟩), undef, .pointer (some ⟨g5, 0, none⟩), .pointer (some ⟨g11, 0, none⟩), .pointer (some ⟨g17, 0, none⟩), .int .i64 (k : Int), .bool true, .agg (iv (scL true)), (u22 10), (u22 11), (u22 12), (u22 13), (u22 14), (u22 15), (u22 16), (u22 17), (u22 18), (u22 19), (u22 20), undef], []⟩) _ ⟨0, (fun zz => Array.getD #[undef, undef, undef, undef, undef, undef, undef, undef, undef, undef, undef, undef, undef, undef, undef, undef, undef, undef, undef, undef, undef] zz undef), ⟨by omega, (by rw [frTo_zero]; exact M19)⟩, rfl, (by kernel_rfl)⟩ ?_
  rintro gn _ W23 ⟨k, u22, ⟨rk, M24⟩, rfl, rfl⟩
  refine wp_seq_k (fun K25 hK25 => ?_)
  refine wp_seq_k (fun K26 hK26 => ?_)
  refine wl_region ?_
  refine st_val (.int .i64 (k : Int)) (by kernel_rfl) (by kernel_rfl) ?_
  rcases Decidable.em (((k : Int) : Int) < 64) with c11 | c11
  ·
    refine st_val (.bool true) (by kernel_rfl) (bool_of (dec_t c11) (by kernel_rfl)) ?_
    refine wl_nil ?_
    refine hK26 _ _ ?_
    try clear hK26 K26
    refine wp_cond_true (by kernel_rfl) ?_
    refine wp_skip ?_
    refine hK25 _ _ ?_
    try clear hK25 K25
    refine wp_seq_k (fun K27 hK27 => ?_)
    refine wp_block ?_
    have hsc := (sc_facts true (p := k) (by omega)).1
    refine wl_seq 7 (fun w' => Mem NoS w w' [(g17, .cells (iv (tab 64 (frTo true x k))) 30 (0, 0)), (g11, .cells (iv (scL true)) 30 (0, 0)), (g5, .cells (iv zeros) 30 (0, 0)), (g2, .cells (iv x) 30 (0, 0))]) (by decide) (by kernel_rfl) (by kernel_rfl) M24.drew ?_
    refine seq_run (v := .int .i64 (k : Int)) (by decide) (by kernel_rfl) (fun w' M' => (by kernel_rfl)) ?_
    refine seq_run (v := .pointer (some ⟨g11, k, none⟩)) (by decide) (by kernel_rfl) (fun w' M' => (run_indexAddr 30 (.tmp 5) (.tmp 14) rfl ⟨g11, 0, none⟩ .i64 k (by kernel_rfl) (by kernel_rfl) Try.underlying30 1 (by kernel_rfl) (by omega) ⟨g11, k, none⟩ (addr_at0 _ _))) ?_
    refine seq_run (v := .int .i64 (((scN true).getD k 0 : Nat) : Int)) (by decide) (by kernel_rfl) (fun w' M' => (int_of (scL_get true k) (run_load_cell 3 (.tmp 15) rfl ⟨g11, k, none⟩ (by kernel_rfl) _ (M'.cell 1 rfl k _ (iv_get (scL true) k (by rw [(scL_length _)]; omega))) (by kernel_rfl)))) ?_
    refine seq_run (v := .int .i64 (k : Int)) (by decide) (by kernel_rfl) (fun w' M' => (by kernel_rfl)) ?_
    refine seq_run (v := .pointer (some ⟨g2, k, none⟩)) (by decide) (by kernel_rfl) (fun w' M' => (run_indexAddr 30 (.tmp 2) (.tmp 17) rfl ⟨g2, 0, none⟩ .i64 k (by kernel_rfl) (by kernel_rfl) Try.underlying30 1 (by kernel_rfl) (by omega) ⟨g2, k, none⟩ (addr_at0 _ _))) ?_
    refine seq_run (v := .int .i64 (x.getD k 0)) (by decide) (by kernel_rfl) (fun w' M' => (run_load_cell 3 (.tmp 18) rfl ⟨g2, k, none⟩ (by kernel_rfl) _ (M'.cell 3 rfl k _ (iv_get x k (by rw [hx]; omega))) (by kernel_rfl))) ?_
    refine seq_run (v := .pointer (some ⟨g17, (scN true).getD k 0, none⟩)) (by decide) (by kernel_rfl) (fun w' M' => (run_indexAddr 30 (.tmp 6) (.tmp 16) rfl ⟨g17, 0, none⟩ .i64 ((scN true).getD k 0) (by kernel_rfl) (by kernel_rfl) Try.underlying30 1 (by kernel_rfl) (by omega) ⟨g17, (scN true).getD k 0, none⟩ (addr_at0 _ _))) ?_
    refine seq_end (by decide) ?_
    intro W28 M29
    refine st_storeCell M29 0 rfl 3 (.tmp 20) (.tmp 19) (by rfl) ((scN true).getD k 0) (.int .i64 (x.getD k 0)) (iv ((tab 64 (frTo true x k)).set ((scN true).getD k 0) (x.getD k 0))) (by kernel_rfl) (by kernel_rfl) (by rw [iv_size, (tab_length _ _)]; omega) (by kernel_rfl) rfl (by kernel_rfl) (iv_set _ _ _) (by kernel_rfl) [(g17, .cells (iv ((tab 64 (frTo true x k)).set ((scN true).getD k 0) (x.getD k 0))) 30 (0, 0)), (g11, .cells (iv (scL true)) 30 (0, 0)), (g5, .cells (iv zeros) 30 (0, 0)), (g2, .cells (iv x) 30 (0, 0))] rfl ?_
    intro W30 M31
    refine wl_nil ?_
    refine blk_normal ?_
    refine hK27 _ _ ?_
    try clear hK27 K27
    refine wl_region ?_
    refine st_val (.int .i64 (k : Int)) (by kernel_rfl) (by kernel_rfl) ?_
    refine st_val (.int .i64 ((k : Int) + 1)) (by kernel_rfl) (i64_of (by omega) (by kernel_rfl)) ?_
    refine st_val (.int .i64 ((k : Int) + 1)) (by kernel_rfl) (by kernel_rfl) ?_
    refine wl_nil ?_
    refine th_normal ?_
    exact ⟨_, by omega, (k + 1), (fun zz => Array.getD #[undef, undef, undef, undef, undef, undef, undef, undef, undef, undef, .int .i64 (k : Int), .bool true, .int .i64 (k : Int), .int .i64 ((k : Int) + 1), .int .i64 (k : Int), .pointer (some ⟨g11, k, none⟩), .int .i64 (((scN true).getD k 0 : Nat) : Int), .int .i64 (k : Int), .pointer (some ⟨g2, k, none⟩), .int .i64 (x.getD k 0), .pointer (some ⟨g17, (scN true).getD k 0, none⟩)] zz undef), ⟨by omega, (by rw [← frTo_next true x k (by omega)]; exact M31)⟩, rfl, (by kernel_rfl)⟩
  ·
    refine st_val (.bool false) (by kernel_rfl) (bool_of (dec_f c11) (by kernel_rfl)) ?_
    refine wl_nil ?_
    refine hK26 _ _ ?_
    try clear hK26 K26
    refine wp_cond_false (by kernel_rfl) ?_
    refine wp_exit ?_
    refine th_exit ?_
    refine th_exit ?_
    refine blk_exit ?_
    refine hK20 _ _ ?_
    try clear hK20 K20
    refine wp_seq_k (fun K32 hK32 => ?_)
    have M33 : Mem NoS w W23 [(g17, .cells (iv (frS true x)) 30 (0, 0)), (g11, .cells (iv (scL true)) 30 (0, 0)), (g5, .cells (iv zeros) 30 (0, 0)), (g2, .cells (iv x) 30 (0, 0))] := by
      have hh := M24; rw [frTo_end true x k (by omega)] at hh; exact hh
    refine wl_region ?_
    refine st_val (.agg (iv (frS true x))) (by kernel_rfl) (run_load_row 30 (.tmp 6) rfl g17 (by kernel_rfl) 30 (iv (frS true x)) (0, 0) _ (M33.get 0 rfl) Try.underlying30 rfl (info64 _ (tab_length _ _))) ?_
    refine st_storeRow M33 2 rfl 30 (.tmp 4) (.tmp 21) (by rfl) (iv (frS true x)) (by kernel_rfl) (by kernel_rfl) (info64 _ (tab_length _ _)) (iv_same (tab_length _ _) zeros_length) (iv_one _) (by kernel_rfl) [(g17, .cells (iv (frS true x)) 30 (0, 0)), (g11, .cells (iv (scL true)) 30 (0, 0)), (g5, .cells (iv (frS true x)) 30 (0, 0)), (g2, .cells (iv x) 30 (0, 0))] rfl ?_
    intro W34 M35
    refine wl_nil ?_
    refine hK32 _ _ ?_
    try clear hK32 K32
    refine wp_ret ?_
    exact doneRow 4 30 g5 30 (iv (frS true x)) (0, 0) _ (by kernel_rfl) (by kernel_rfl) (M35.get 2 rfl) Try.underlying30 rfl (info64 _ (tab_length _ _)) (by kernel_rfl) ⟨rfl, M35.toBelow⟩
set_option maxHeartbeats 4000000 in
set_option maxRecDepth 100000 in
theorem refFromScan_false (w : World) (x : List Int) (hx : x.length = 64) : Calls Try.prog 35 #[.agg (iv x), .bool false] w fun e w' => e = .returned (.agg (iv (frS false x))) ∧ Below w.heap.size w w' := by
  refine calls_of_wp Try.func35 rfl ?_
  refine wp_frame (a' := ⟨#[.agg (iv x), .bool false, undef, undef, undef, undef, undef, undef, undef, undef, undef, undef, undef, undef, undef, undef, undef, undef, undef, undef, undef, undef], []⟩) (by kernel_rfl) ?_
  have M0 : Mem NoS w w [] := Mem.start _ _
  refine wp_seq_k (fun K1 hK1 => ?_)
  refine wl_region ?_
  refine st_alloc M0 (.cells (iv x) 30 (0, 0)) (by kernel_rfl) (by kernel_rfl) ?_
  intro g2 W3 M4
  refine st_alloc M4 (.cells (iv zeros) 30 (0, 0)) (by kernel_rfl) (by kernel_rfl) ?_
  intro g5 W6 M7
  refine wl_nil ?_
  refine hK1 _ _ ?_
  try clear hK1 K1
  refine wp_seq_k (fun K8 hK8 => ?_)
  refine wl_region ?_
  refine st_val (.bool false) (by kernel_rfl) (by kernel_rfl) ?_
  refine st_callB M7 (.agg (iv (scL false))) (by kernel_rfl) (args := #[.bool false]) (run_value_call 32 #[(Operand.tmp 8)] _ rfl Try.func32 (by kernel_rfl) (by kernel_rfl) _ (by kernel_rfl)) (refScan_false W6) ?_
  intro W9 M10
  refine st_alloc M10 (.cells (iv zeros) 30 (0, 0)) (by kernel_rfl) (by kernel_rfl) ?_
  intro g11 W12 M13
  refine st_storeRow M13 0 rfl 30 (.tmp 5) (.tmp 9) (by rfl) (iv (scL false)) (by kernel_rfl) (by kernel_rfl) (info64 _ (scL_length _)) (iv_same (scL_length _) zeros_length) (iv_one _) (by kernel_rfl) [(g11, .cells (iv (scL false)) 30 (0, 0)), (g5, .cells (iv zeros) 30 (0, 0)), (g2, .cells (iv x) 30 (0, 0))] rfl ?_
  intro W14 M15
  refine wl_nil ?_
  refine hK8 _ _ ?_
  try clear hK8 K8
  refine wp_seq_k (fun K16 hK16 => ?_)
  refine wl_region ?_
  refine st_alloc M15 (.cells (iv zeros) 30 (0, 0)) (by kernel_rfl) (by kernel_rfl) ?_
  intro g17 W18 M19
  refine wl_nil ?_
  refine hK16 _ _ ?_
  try clear hK16 K16
  refine wp_seq_k (fun K20 hK20 => ?_)
  refine wp_seq_k (fun K21 hK21 => ?_)
  refine wl_region ?_
  refine st_val (.int .i64 0) (by kernel_rfl) (by kernel_rfl) ?_
  refine wl_nil ?_
  refine hK21 _ _ ?_
  try clear hK21 K21
  refine wp_block ?_
  refine wp_loop_ghost (fun gn a' w' => ∃ (k : Nat) (u22 : Nat → Value), ((k ≤ 64) ∧ Mem NoS w w' [(g17, .cells (iv (tab 64 (frTo false x k))) 30 (0, 0)), (g11, .cells (iv (scL false)) 30 (0, 0)), (g5, .cells (iv zeros) 30 (0, 0)), (g2, .cells (iv x) 30 (0, 0))]) ∧ gn = 64 - k ∧ a' = ⟨#[.agg (iv x), .bool false, .pointer (some ⟨g2, 0, none⟩), undef, .pointer (some ⟨g5, 0, none⟩), .pointer (some ⟨g11, 0, none⟩), .pointer (some ⟨g17, 0, none⟩), .int .i64 (k : Int), .bool false, .agg (iv (scL false)), (u22 10), (u22 11), (u22 12), (u22 13), (u22 14), (u22 15), (u22 16), (u22 17), (u22 18), (u22 19), (u22 20), undef], []⟩) _ ⟨0, (fun zz => Array.getD #[undef, undef, undef, undef, undef, undef, undef, undef, undef, undef, undef, undef, undef, undef, undef, undef, undef, undef, undef, undef, undef] zz undef), ⟨by omega, (by rw [frTo_zero]; exact M19)⟩, rfl, (by kernel_rfl)⟩ ?_
  rintro gn _ W23 ⟨k, u22, ⟨rk, M24⟩, rfl, rfl⟩
  refine wp_seq_k (fun K25 hK25 => ?_)
  refine wp_seq_k (fun K26 hK26 => ?_)
  refine wl_region ?_
  refine st_val (.int .i64 (k : Int)) (by kernel_rfl) (by kernel_rfl) ?_
  rcases Decidable.em (((k : Int) : Int) < 64) with c11 | c11
  ·
    refine st_val (.bool true) (by kernel_rfl) (bool_of (dec_t c11) (by kernel_rfl)) ?_
    refine wl_nil ?_
    refine hK26 _ _ ?_
    try clear hK26 K26
    refine wp_cond_true (by kernel_rfl) ?_
    refine wp_skip ?_
    refine hK25 _ _ ?_
    try clear hK25 K25
    refine wp_seq_k (fun K27 hK27 => ?_)
    refine wp_block ?_
    have hsc := (sc_facts false (p := k) (by omega)).1
    refine wl_seq 7 (fun w' => Mem NoS w w' [(g17, .cells (iv (tab 64 (frTo false x k))) 30 (0, 0)), (g11, .cells (iv (scL false)) 30 (0, 0)), (g5, .cells (iv zeros) 30 (0, 0)), (g2, .cells (iv x) 30 (0, 0))]) (by decide) (by kernel_rfl) (by kernel_rfl) M24.drew ?_
    refine seq_run (v := .int .i64 (k : Int)) (by decide) (by kernel_rfl) (fun w' M' => (by kernel_rfl)) ?_
    refine seq_run (v := .pointer (some ⟨g11, k, none⟩)) (by decide) (by kernel_rfl) (fun w' M' => (run_indexAddr 30 (.tmp 5) (.tmp 14) rfl ⟨g11, 0, none⟩ .i64 k (by kernel_rfl) (by kernel_rfl) Try.underlying30 1 (by kernel_rfl) (by omega) ⟨g11, k, none⟩ (addr_at0 _ _))) ?_
    refine seq_run (v := .int .i64 (((scN false).getD k 0 : Nat) : Int)) (by decide) (by kernel_rfl) (fun w' M' => (int_of (scL_get false k) (run_load_cell 3 (.tmp 15) rfl ⟨g11, k, none⟩ (by kernel_rfl) _ (M'.cell 1 rfl k _ (iv_get (scL false) k (by rw [(scL_length _)]; omega))) (by kernel_rfl)))) ?_
    refine seq_run (v := .int .i64 (k : Int)) (by decide) (by kernel_rfl) (fun w' M' => (by kernel_rfl)) ?_
    refine seq_run (v := .pointer (some ⟨g2, k, none⟩)) (by decide) (by kernel_rfl) (fun w' M' => (run_indexAddr 30 (.tmp 2) (.tmp 17) rfl ⟨g2, 0, none⟩ .i64 k (by kernel_rfl) (by kernel_rfl) Try.underlying30 1 (by kernel_rfl) (by omega) ⟨g2, k, none⟩ (addr_at0 _ _))) ?_
    refine seq_run (v := .int .i64 (x.getD k 0)) (by decide) (by kernel_rfl) (fun w' M' => (run_load_cell 3 (.tmp 18) rfl ⟨g2, k, none⟩ (by kernel_rfl) _ (M'.cell 3 rfl k _ (iv_get x k (by rw [hx]; omega))) (by kernel_rfl))) ?_
    refine seq_run (v := .pointer (some ⟨g17, (scN false).getD k 0, none⟩)) (by decide) (by kernel_rfl) (fun w' M' => (run_indexAddr 30 (.tmp 6) (.tmp 16) rfl ⟨g17, 0, none⟩ .i64 ((scN false).getD k 0) (by kernel_rfl) (by kernel_rfl) Try.underlying30 1 (by kernel_rfl) (by omega) ⟨g17, (scN false).getD k 0, none⟩ (addr_at0 _ _))) ?_
    refine seq_end (by decide) ?_
    intro W28 M29
    refine st_storeCell M29 0 rfl 3 (.tmp 20) (.tmp 19) (by rfl) ((scN false).getD k 0) (.int .i64 (x.getD k 0)) (iv ((tab 64 (frTo false x k)).set ((scN false).getD k 0) (x.getD k 0))) (by kernel_rfl) (by kernel_rfl) (by rw [iv_size, (tab_length _ _)]; omega) (by kernel_rfl) rfl (by kernel_rfl) (iv_set _ _ _) (by kernel_rfl) [(g17, .cells (iv ((tab 64 (frTo false x k)).set ((scN false).getD k 0) (x.getD k 0))) 30 (0, 0)), (g11, .cells (iv (scL false)) 30 (0, 0)), (g5, .cells (iv zeros) 30 (0, 0)), (g2, .cells (iv x) 30 (0, 0))] rfl ?_
    intro W30 M31
    refine wl_nil ?_
    refine blk_normal ?_
    refine hK27 _ _ ?_
    try clear hK27 K27
    refine wl_region ?_
    refine st_val (.int .i64 (k : Int)) (by kernel_rfl) (by kernel_rfl) ?_
    refine st_val (.int .i64 ((k : Int) + 1)) (by kernel_rfl) (i64_of (by omega) (by kernel_rfl)) ?_
    refine st_val (.int .i64 ((k : Int) + 1)) (by kernel_rfl) (by kernel_rfl) ?_
    refine wl_nil ?_
    refine th_normal ?_
    exact ⟨_, by omega, (k + 1), (fun zz => Array.getD #[undef, undef, undef, undef, undef, undef, undef, undef, undef, undef, .int .i64 (k : Int), .bool true, .int .i64 (k : Int), .int .i64 ((k : Int) + 1), .int .i64 (k : Int), .pointer (some ⟨g11, k, none⟩), .int .i64 (((scN false).getD k 0 : Nat) : Int), .int .i64 (k : Int), .pointer (some ⟨g2, k, none⟩), .int .i64 (x.getD k 0), .pointer (some ⟨g17, (scN false).getD k 0, none⟩)] zz undef), ⟨by omega, (by rw [← frTo_next false x k (by omega)]; exact M31)⟩, rfl, (by kernel_rfl)⟩
  ·
    refine st_val (.bool false) (by kernel_rfl) (bool_of (dec_f c11) (by kernel_rfl)) ?_
    refine wl_nil ?_
    refine hK26 _ _ ?_
    try clear hK26 K26
    refine wp_cond_false (by kernel_rfl) ?_
    refine wp_exit ?_
    refine th_exit ?_
    refine th_exit ?_
    refine blk_exit ?_
    refine hK20 _ _ ?_
    try clear hK20 K20
    refine wp_seq_k (fun K32 hK32 => ?_)
    have M33 : Mem NoS w W23 [(g17, .cells (iv (frS false x)) 30 (0, 0)), (g11, .cells (iv (scL false)) 30 (0, 0)), (g5, .cells (iv zeros) 30 (0, 0)), (g2, .cells (iv x) 30 (0, 0))] := by
      have hh := M24; rw [frTo_end false x k (by omega)] at hh; exact hh
    refine wl_region ?_
    refine st_val (.agg (iv (frS false x))) (by kernel_rfl) (run_load_row 30 (.tmp 6) rfl g17 (by kernel_rfl) 30 (iv (frS false x)) (0, 0) _ (M33.get 0 rfl) Try.underlying30 rfl (info64 _ (tab_length _ _))) ?_
    refine st_storeRow M33 2 rfl 30 (.tmp 4) (.tmp 21) (by rfl) (iv (frS false x)) (by kernel_rfl) (by kernel_rfl) (info64 _ (tab_length _ _)) (iv_same (tab_length _ _) zeros_length) (iv_one _) (by kernel_rfl) [(g17, .cells (iv (frS false x)) 30 (0, 0)), (g11, .cells (iv (scL false)) 30 (0, 0)), (g5, .cells (iv (frS false x)) 30 (0, 0)), (g2, .cells (iv x) 30 (0, 0))] rfl ?_
    intro W34 M35
    refine wl_nil ?_
    refine hK32 _ _ ?_
    try clear hK32 K32
    refine wp_ret ?_
    exact doneRow 4 30 g5 30 (iv (frS false x)) (0, 0) _ (by kernel_rfl) (by kernel_rfl) (M35.get 2 rfl) Try.underlying30 rfl (info64 _ (tab_length _ _)) (by kernel_rfl) ⟨rfl, M35.toBelow⟩
end Go.Proofs.Ytjclncmpfdfkfaa
