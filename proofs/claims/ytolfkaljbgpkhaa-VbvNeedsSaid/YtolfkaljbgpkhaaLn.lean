/- The walk of VbvNeeds. -/
import Derived.Test.YtolfkaljbgpkhaaNr
import Derived.Test.YtolfkaljbgpkhaaGi
namespace Go.Proofs.Ytolfkaljbgpkhaa
open Go.RowKit
set_option maxHeartbeats 4000000 in
set_option maxRecDepth 100000 in
theorem VbvNeeds_walk (w : World) (s : SeqD) (hs : SOk s) (v0 : Value) (us0 : List UnitD) (hr0 : RdK w v0 us0.length (flat us0)) (hu0 : UOk us0) (w0 : Int) (hw0 : -9223372036854775808 ≤ w0 ∧ w0 ≤ 9223372036854775807) : Calls Try.prog 4 #[.agg (sqv s), v0, .int .i64 w0] w fun e w' => e = .returned (.bool true) ∧ Below w.heap.size w w' := by
  obtain ⟨A0, c0, rfl, hc0⟩ := hr0.shape
  refine calls_of_wp Try.func4 rfl ?_
  refine wp_frame (a' := ⟨#[.agg (sqv s), .slice A0 us0.length c0, .int .i64 w0, undef, undef, undef, undef, undef, undef, undef, undef, undef, undef, undef, undef, undef, undef, undef, undef, undef, undef, undef, undef, undef, undef, undef, undef, undef, undef, undef, undef, undef, undef, undef, undef, undef, undef, undef, undef, undef], []⟩) (by kernel_rfl) ?_
  have M0 : Mem NoS w w [] := Mem.start _ _
  refine wp_seq_k (fun K1 hK1 => ?_)
  refine wl_region ?_
  refine st_alloc M0 (.cells (sqv s) 26 (0, 0)) (by kernel_rfl) (by kernel_rfl) ?_
  intro g2 W3 M4
  refine st_val (.bool false) (by kernel_rfl) (by kernel_rfl) ?_
  refine wl_nil ?_
  refine hK1 _ _ ?_
  try clear hK1 K1
  refine wp_seq_k (fun K5 hK5 => ?_)
  refine wp_seq_k (fun K6 hK6 => ?_)
  refine wl_region ?_
  refine st_val (.slice A0 us0.length c0) (by kernel_rfl) (by kernel_rfl) ?_
  refine st_val (.int .i64 ((us0.length : Nat) : Int)) (by kernel_rfl) (by kernel_rfl) ?_
  rcases Decidable.em ((((us0.length : Nat) : Int) : Int) > 300) with c13 | c13
  ·
    refine st_val (.bool true) (by kernel_rfl) (bool_of (dec_t c13) (by kernel_rfl)) ?_
    refine wl_nil ?_
    refine hK6 _ _ ?_
    try clear hK6 K6
    refine wp_cond_true (by kernel_rfl) ?_
    refine wp_seq_k (fun K7 hK7 => ?_)
    refine wl_region ?_
    refine st_val (.bool true) (by kernel_rfl) (by kernel_rfl) ?_
    refine wl_nil ?_
    refine hK7 _ _ ?_
    try clear hK7 K7
    refine wp_ret ?_
    refine th_ret ?_
    exact done1 6 (.bool true) (by kernel_rfl) (by kernel_rfl) (by kernel_rfl) ⟨rfl, M4.toBelow⟩
  ·
    refine st_val (.bool false) (by kernel_rfl) (bool_of (dec_f c13) (by kernel_rfl)) ?_
    refine wl_nil ?_
    refine hK6 _ _ ?_
    try clear hK6 K6
    refine wp_cond_false (by kernel_rfl) ?_
    refine wp_skip ?_
    refine hK5 _ _ ?_
    try clear hK5 K5
    refine wp_seq_k (fun K8 hK8 => ?_)
    refine wh_region (fun w' => Mem NoS w w' [(g2, .cells (sqv s) 26 (0, 0))]) (by kernel_rfl) (by kernel_rfl) (fun d _ _ _ _ h => by cases d <;> exact h) 10 rfl #[false, false, false, false, false, false, false, false, false, false] rfl ?_
    intro R9
    have M11 := M4.drew
    have hS12 : Mem NoS w W3.drew [(g2, .cells (sqv s) 26 (0, 0))] := M11
    refine wh_take R9 0 (.agg (sqv s)) rfl (by kernel_rfl) (by kernel_rfl) (by kernel_rfl) (fun w' M' => (run_load_row 26 (.tmp 3) rfl g2 (by kernel_rfl) 26 (sqv s) (0, 0) _ (M'.get 0 rfl) Try.underlying26 rfl (infoSq hs.la hs.lb))) hS12 #[true, false, false, false, false, false, false, false, false, false] rfl ?_
    refine wh_take R9 1 (.slice A0 us0.length c0) rfl (by kernel_rfl) (by kernel_rfl) (by kernel_rfl) (fun w' M' => (by kernel_rfl)) hS12 #[true, true, false, false, false, false, false, false, false, false] rfl ?_
    refine wh_take R9 3 (.int .i64 w0) rfl (by kernel_rfl) (by kernel_rfl) (by kernel_rfl) (fun w' M' => (by kernel_rfl)) hS12 #[true, true, false, true, false, false, false, false, false, false] rfl ?_
    refine wh_callR (A := [(g2, .cells (sqv s) 26 (0, 0))]) (B := []) M11 2 rfl (by kernel_rfl) (by kernel_rfl) (run_value_call 19 #[(Operand.tmp 16)] _ rfl Try.func19 (by kernel_rfl) (by kernel_rfl) _ (by kernel_rfl)) #[true, true, true, true, false, false, false, false, false, false] rfl (given_walk W3.drew (.slice A0 us0.length c0) us0 (hr0.keep M11.keep (fun _ _ h => h)) (by omega)) ?_
    intro v13 T14 W15 O16 M17
    have M17 : Mem NoS w W15 ((g2, .cells (sqv s) 26 (0, 0)) :: (T14 ++ [])) := M17
    obtain ⟨A18, c19, rfl, hc20⟩ := O16.shape
    have hS21 : Mem NoS w W15 [(g2, .cells (sqv s) 26 (0, 0))] := M17.sub (((List.Sublist.refl []).trans (List.sublist_append_right T14 _)).cons_cons _)
    refine ⟨hS21, ?_⟩
    refine wh_callB M17 4 (.tuple #[.int .i64 ((needR s us0 w0).1), .int .i64 ((needR s us0 w0).2)]) rfl (by kernel_rfl) (by kernel_rfl) (run_value_call 18 #[(Operand.tmp 15), (Operand.tmp 17), (Operand.tmp 18)] _ rfl Try.func18 (by kernel_rfl) (by kernel_rfl) _ (by kernel_rfl)) #[true, true, true, true, true, false, false, false, false, false] rfl (need_walk W15 s hs (.slice A18 us0.length c19) us0 (O16.rd (fun p hp => M17.at_ p (List.mem_cons_of_mem _ (List.mem_append_left _ hp)))) w0 hw0) ?_
    intro W22 M23
    have hS24 : Mem NoS w W22 [(g2, .cells (sqv s) 26 (0, 0))] := M23.sub (((List.Sublist.refl []).trans (List.sublist_append_right T14 _)).cons_cons _)
    refine ⟨hS24, ?_⟩
    refine wh_take R9 5 (.tuple #[.int .i64 ((needR s us0 w0).1), .int .i64 ((needR s us0 w0).2)]) rfl (by kernel_rfl) (by kernel_rfl) (by kernel_rfl) (fun w' M' => (by kernel_rfl)) hS24 #[true, true, true, true, true, true, false, false, false, false] rfl ?_
    refine wh_take R9 6 (.int .i64 ((needR s us0 w0).1)) rfl (by kernel_rfl) (by kernel_rfl) (by kernel_rfl) (fun w' M' => (by kernel_rfl)) hS24 #[true, true, true, true, true, true, true, false, false, false] rfl ?_
    refine wh_take R9 7 (.int .i64 ((needR s us0 w0).2)) rfl (by kernel_rfl) (by kernel_rfl) (by kernel_rfl) (fun w' M' => (by kernel_rfl)) hS24 #[true, true, true, true, true, true, true, true, false, false] rfl ?_
    refine wh_take R9 8 (.int .i64 ((needR s us0 w0).1)) rfl (by kernel_rfl) (by kernel_rfl) (by kernel_rfl) (fun w' M' => (by kernel_rfl)) hS24 #[true, true, true, true, true, true, true, true, true, false] rfl ?_
    refine wh_take R9 9 (.int .i64 ((needR s us0 w0).2)) rfl (by kernel_rfl) (by kernel_rfl) (by kernel_rfl) (fun w' M' => (by kernel_rfl)) hS24 #[true, true, true, true, true, true, true, true, true, true] rfl ?_
    refine wh_done (by kernel_rfl) ?_
    refine hK8 _ _ ?_
    try clear hK8 K8
    refine wp_frame (a' := ⟨#[.agg (sqv s), .slice A0 us0.length c0, .int .i64 w0, .pointer (some ⟨g2, 0, none⟩), undef, undef, .bool false, .int .i64 ((needR s us0 w0).1), .int .i64 ((needR s us0 w0).2), undef, undef, .slice A0 us0.length c0, .int .i64 ((us0.length : Nat) : Int), .bool false, .tuple #[.int .i64 ((needR s us0 w0).1), .int .i64 ((needR s us0 w0).2)], .agg (sqv s), .slice A0 us0.length c0, .slice A18 us0.length c19, .int .i64 w0, .tuple #[.int .i64 ((needR s us0 w0).1), .int .i64 ((needR s us0 w0).2)], .int .i64 ((needR s us0 w0).1), .int .i64 ((needR s us0 w0).2), undef, undef, undef, undef, undef, undef, undef, undef, undef, undef, undef, undef, undef, undef, undef, undef, undef, undef], []⟩) (by kernel_rfl) ?_
    refine wp_seq_k (fun K25 hK25 => ?_)
    refine wl_region ?_
    refine st_val (.agg (sqv s)) (by kernel_rfl) (run_load_row 26 (.tmp 3) rfl g2 (by kernel_rfl) 26 (sqv s) (0, 0) _ (M23.get 0 rfl) Try.underlying26 rfl (infoSq hs.la hs.lb)) ?_
    refine st_val (.slice A0 us0.length c0) (by kernel_rfl) (by kernel_rfl) ?_
    refine st_val (.int .i64 w0) (by kernel_rfl) (by kernel_rfl) ?_
    refine st_callB M23 (.tuple #[.int .i64 ((needR s us0 w0).1), .int .i64 ((needR s us0 w0).2)]) (by kernel_rfl) (args := #[.agg (sqv s), .slice A0 us0.length c0, .int .i64 w0]) (run_value_call 20 #[(Operand.tmp 23), (Operand.tmp 24), (Operand.tmp 25)] _ rfl Try.func20 (by kernel_rfl) (by kernel_rfl) _ (by kernel_rfl)) (refNeed_walk W22 s hs (.slice A0 us0.length c0) us0 (hr0.keep M23.keep (fun _ _ h => h)) w0 hw0) ?_
    intro W26 M27
    refine st_val (.tuple #[.int .i64 ((needR s us0 w0).1), .int .i64 ((needR s us0 w0).2)]) (by kernel_rfl) (by kernel_rfl) ?_
    refine st_val (.int .i64 ((needR s us0 w0).1)) (by kernel_rfl) (by kernel_rfl) ?_
    refine st_val (.int .i64 ((needR s us0 w0).2)) (by kernel_rfl) (by kernel_rfl) ?_
    refine st_val (.int .i64 ((needR s us0 w0).1)) (by kernel_rfl) (by kernel_rfl) ?_
    refine st_val (.int .i64 ((needR s us0 w0).2)) (by kernel_rfl) (by kernel_rfl) ?_
    refine wl_nil ?_
    refine hK25 _ _ ?_
    try clear hK25 K25
    refine wp_seq_k (fun K28 hK28 => ?_)
    refine wl_region ?_
    refine st_callB M27 (.bool true) (by kernel_rfl) (args := #[]) (run_value_call 11 #[] _ rfl Try.func11 (by kernel_rfl) (by kernel_rfl) _ (by kernel_rfl)) (awake_walk W26) ?_
    intro W29 M30
    refine st_val (.bool true) (by kernel_rfl) (by kernel_rfl) ?_
    refine st_val (.int .i64 ((needR s us0 w0).1)) (by kernel_rfl) (by kernel_rfl) ?_
    refine st_val (.int .i64 ((needR s us0 w0).1)) (by kernel_rfl) (by kernel_rfl) ?_
    refine st_val (.bool true) (by kernel_rfl) (bool_of (dec_t (show ((needR s us0 w0).1 : Int) = (needR s us0 w0).1 from rfl)) (by kernel_rfl)) ?_
    refine st_val (.bool true) (by kernel_rfl) (by kernel_rfl) ?_
    refine st_val (.bool true) (by kernel_rfl) (by kernel_rfl) ?_
    refine st_val (.int .i64 ((needR s us0 w0).2)) (by kernel_rfl) (by kernel_rfl) ?_
    refine st_val (.int .i64 ((needR s us0 w0).2)) (by kernel_rfl) (by kernel_rfl) ?_
    refine st_val (.bool true) (by kernel_rfl) (bool_of (dec_t (show ((needR s us0 w0).2 : Int) = (needR s us0 w0).2 from rfl)) (by kernel_rfl)) ?_
    refine st_val (.bool true) (by kernel_rfl) (by kernel_rfl) ?_
    refine st_val (.bool true) (by kernel_rfl) (by kernel_rfl) ?_
    refine wl_nil ?_
    refine hK28 _ _ ?_
    try clear hK28 K28
    refine wp_frame (a' := ⟨#[.agg (sqv s), .slice A0 us0.length c0, .int .i64 w0, .pointer (some ⟨g2, 0, none⟩), undef, undef, .bool true, .int .i64 ((needR s us0 w0).1), .int .i64 ((needR s us0 w0).2), .int .i64 ((needR s us0 w0).1), .int .i64 ((needR s us0 w0).2), .slice A0 us0.length c0, .int .i64 ((us0.length : Nat) : Int), .bool false, .tuple #[.int .i64 ((needR s us0 w0).1), .int .i64 ((needR s us0 w0).2)], .agg (sqv s), .slice A0 us0.length c0, .slice A18 us0.length c19, .int .i64 w0, .tuple #[.int .i64 ((needR s us0 w0).1), .int .i64 ((needR s us0 w0).2)], .int .i64 ((needR s us0 w0).1), .int .i64 ((needR s us0 w0).2), .tuple #[.int .i64 ((needR s us0 w0).1), .int .i64 ((needR s us0 w0).2)], .agg (sqv s), .slice A0 us0.length c0, .int .i64 w0, .tuple #[.int .i64 ((needR s us0 w0).1), .int .i64 ((needR s us0 w0).2)], .int .i64 ((needR s us0 w0).1), .int .i64 ((needR s us0 w0).2), .bool true, .bool true, .int .i64 ((needR s us0 w0).1), .int .i64 ((needR s us0 w0).1), .bool true, .bool true, .bool true, .int .i64 ((needR s us0 w0).2), .int .i64 ((needR s us0 w0).2), .bool true, .bool true], []⟩) (by kernel_rfl) ?_
    refine wp_ret ?_
    exact done1 6 (.bool true) (by kernel_rfl) (by kernel_rfl) (by kernel_rfl) ⟨rfl, M30.toBelow⟩
end Go.Proofs.Ytolfkaljbgpkhaa
