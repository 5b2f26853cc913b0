/- The walk of VbvRuns. -/
import Derived.Test.YtolfkaljbgpkhaaRw
namespace Go.Proofs.Ytolfkaljbgpkhaa
open Go.RowKit
set_option maxHeartbeats 4000000 in
set_option maxRecDepth 100000 in
theorem VbvRuns_walk (w : World) (s : SeqD) (hs : SOk s) (v0 : Value) (us0 : List UnitD) (hr0 : RdK w v0 us0.length (flat us0)) (hu0 : UOk us0) (st : Int) (hst : -9223372036854775808 ≤ st ∧ st ≤ 9223372036854775807) : Calls Try.prog 7 #[.agg (sqv s), v0, .int .i64 st] w fun e w' => e = .returned (.bool true) ∧ Below w.heap.size w w' := by
  obtain ⟨A0, c0, rfl, hc0⟩ := hr0.shape
  refine calls_of_wp Try.func7 rfl ?_
  refine wp_frame (a' := ⟨#[.agg (sqv s), .slice A0 us0.length c0, .int .i64 st, undef, undef, undef, undef, undef, undef, undef, undef, undef, undef, undef, undef, undef, undef, undef, undef, undef, undef, undef, undef, undef, undef, undef, undef, undef, undef, undef, undef, undef, undef, undef, undef, undef, undef, undef, undef, undef, undef, undef, undef, undef, undef, undef, undef, undef, undef, undef, undef, undef, undef, undef, undef, undef, undef, undef, undef, undef, undef, undef, undef, undef, undef, undef, undef, undef, undef, undef, undef, undef, undef, undef, undef, undef, undef, undef, undef, undef, undef, undef, undef], []⟩) (by kernel_rfl) ?_
  have M0 : Mem NoS w w [] := Mem.start _ _
  refine wp_seq_k (fun K1 hK1 => ?_)
  refine wl_region ?_
  refine st_alloc M0 (.cells (sqv s) 26 (0, 0)) (by kernel_rfl) (by kernel_rfl) ?_
  intro g2 W3 M4
  refine st_val (.bool false) (by kernel_rfl) (by kernel_rfl) ?_
  refine wl_nil ?_
  refine hK1 _ _ ?_
  try clear hK1 K1
  refine wp_seq_k (fun K5 hK5 => ?_)
  refine wp_seq_k (fun K6 hK6 => ?_)
  refine wl_region ?_
  refine st_val (.slice A0 us0.length c0) (by kernel_rfl) (by kernel_rfl) ?_
  refine st_val (.int .i64 ((us0.length : Nat) : Int)) (by kernel_rfl) (by kernel_rfl) ?_
  rcases Decidable.em ((((us0.length : Nat) : Int) : Int) > 300) with c14 | c14
  ·
    refine st_val (.bool true) (by kernel_rfl) (bool_of (dec_t c14) (by kernel_rfl)) ?_
    refine wl_nil ?_
    refine hK6 _ _ ?_
    try clear hK6 K6
    refine wp_cond_true (by kernel_rfl) ?_
    refine wp_seq_k (fun K7 hK7 => ?_)
    refine wl_region ?_
    refine st_val (.bool true) (by kernel_rfl) (by kernel_rfl) ?_
    refine wl_nil ?_
    refine hK7 _ _ ?_
    try clear hK7 K7
    refine wp_ret ?_
    refine th_ret ?_
    exact done1 6 (.bool true) (by kernel_rfl) (by kernel_rfl) (by kernel_rfl) ⟨rfl, M4.toBelow⟩
  ·
    refine st_val (.bool false) (by kernel_rfl) (bool_of (dec_f c14) (by kernel_rfl)) ?_
    refine wl_nil ?_
    refine hK6 _ _ ?_
    try clear hK6 K6
    refine wp_cond_false (by kernel_rfl) ?_
    refine wp_skip ?_
    refine hK5 _ _ ?_
    try clear hK5 K5
    refine wp_seq_k (fun K8 hK8 => ?_)
    refine wh_region (fun w' => Mem NoS w w' [(g2, .cells (sqv s) 26 (0, 0))]) (by kernel_rfl) (by kernel_rfl) (fun d _ _ _ _ h => by cases d <;> exact h) 10 rfl #[false, false, false, false, false, false, false, false, false, false] rfl ?_
    intro R9
    have M11 := M4.drew
    have hS12 : Mem NoS w W3.drew [(g2, .cells (sqv s) 26 (0, 0))] := M11
    refine wh_take R9 0 (.agg (sqv s)) rfl (by kernel_rfl) (by kernel_rfl) (by kernel_rfl) (fun w' M' => (run_load_row 26 (.tmp 3) rfl g2 (by kernel_rfl) 26 (sqv s) (0, 0) _ (M'.get 0 rfl) Try.underlying26 rfl (infoSq hs.la hs.lb))) hS12 #[true, false, false, false, false, false, false, false, false, false] rfl ?_
    refine wh_take R9 1 (.slice A0 us0.length c0) rfl (by kernel_rfl) (by kernel_rfl) (by kernel_rfl) (fun w' M' => (by kernel_rfl)) hS12 #[true, true, false, false, false, false, false, false, false, false] rfl ?_
    refine wh_take R9 3 (.int .i64 st) rfl (by kernel_rfl) (by kernel_rfl) (by kernel_rfl) (fun w' M' => (by kernel_rfl)) hS12 #[true, true, false, true, false, false, false, false, false, false] rfl ?_
    refine wh_callR (A := [(g2, .cells (sqv s) 26 (0, 0))]) (B := []) M11 2 rfl (by kernel_rfl) (by kernel_rfl) (run_value_call 19 #[(Operand.tmp 17)] _ rfl Try.func19 (by kernel_rfl) (by kernel_rfl) _ (by kernel_rfl)) #[true, true, true, true, false, false, false, false, false, false] rfl (given_walk W3.drew (.slice A0 us0.length c0) us0 (hr0.keep M11.keep (fun _ _ h => h)) (by omega)) ?_
    intro v13 T14 W15 O16 M17
    have M17 : Mem NoS w W15 ((g2, .cells (sqv s) 26 (0, 0)) :: (T14 ++ [])) := M17
    obtain ⟨A18, c19, rfl, hc20⟩ := O16.shape
    have hS21 : Mem NoS w W15 [(g2, .cells (sqv s) 26 (0, 0))] := M17.sub (((List.Sublist.refl []).trans (List.sublist_append_right T14 _)).cons_cons _)
    refine ⟨hS21, ?_⟩
    refine wh_callR (A := [(g2, .cells (sqv s) 26 (0, 0))]) (B := (T14 ++ [])) M17 4 rfl (by kernel_rfl) (by kernel_rfl) (run_value_call 23 #[(Operand.tmp 16), (Operand.tmp 18), (Operand.tmp 19)] _ rfl Try.func23 (by kernel_rfl) (by kernel_rfl) _ (by kernel_rfl)) #[true, true, true, true, true, false, false, false, false, false] rfl (run_walk W15 s hs (.slice A18 us0.length c19) us0 (O16.rd (fun p hp => M17.at_ p (List.mem_cons_of_mem _ (List.mem_append_left _ hp)))) st) ?_
    intro v22 T23 W24 O25 M26
    have M26 : Mem NoS w W24 ((g2, .cells (sqv s) 26 (0, 0)) :: (T23 ++ (T14 ++ []))) := M26
    obtain ⟨v27, rfl, O28⟩ := O25
    obtain ⟨A29, c30, rfl, hc31⟩ := O28.shape
    have hS32 : Mem NoS w W24 [(g2, .cells (sqv s) 26 (0, 0))] := M26.sub ((((List.Sublist.refl []).trans (List.sublist_append_right T14 _)).trans (List.sublist_append_right T23 _)).cons_cons _)
    refine ⟨hS32, ?_⟩
    refine wh_take R9 5 (.tuple #[.slice A29 ((rL s us0 st).length) c30, .int .i64 (rE s us0 st)]) rfl (by kernel_rfl) (by kernel_rfl) (by kernel_rfl) (fun w' M' => (by kernel_rfl)) hS32 #[true, true, true, true, true, true, false, false, false, false] rfl ?_
    refine wh_take R9 6 (.slice A29 ((rL s us0 st).length) c30) rfl (by kernel_rfl) (by kernel_rfl) (by kernel_rfl) (fun w' M' => (by kernel_rfl)) hS32 #[true, true, true, true, true, true, true, false, false, false] rfl ?_
    refine wh_take R9 7 (.int .i64 (rE s us0 st)) rfl (by kernel_rfl) (by kernel_rfl) (by kernel_rfl) (fun w' M' => (by kernel_rfl)) hS32 #[true, true, true, true, true, true, true, true, false, false] rfl ?_
    refine wh_take R9 8 (.slice A29 ((rL s us0 st).length) c30) rfl (by kernel_rfl) (by kernel_rfl) (by kernel_rfl) (fun w' M' => (by kernel_rfl)) hS32 #[true, true, true, true, true, true, true, true, true, false] rfl ?_
    refine wh_take R9 9 (.int .i64 (rE s us0 st)) rfl (by kernel_rfl) (by kernel_rfl) (by kernel_rfl) (fun w' M' => (by kernel_rfl)) hS32 #[true, true, true, true, true, true, true, true, true, true] rfl ?_
    refine wh_done (by kernel_rfl) ?_
    refine hK8 _ _ ?_
    try clear hK8 K8
    refine wp_frame (a' := ⟨#[.agg (sqv s), .slice A0 us0.length c0, .int .i64 st, .pointer (some ⟨g2, 0, none⟩), undef, undef, .bool false, .slice A29 ((rL s us0 st).length) c30, .int .i64 (rE s us0 st), undef, undef, undef, .slice A0 us0.length c0, .int .i64 ((us0.length : Nat) : Int), .bool false, .tuple #[.slice A29 ((rL s us0 st).length) c30, .int .i64 (rE s us0 st)], .agg (sqv s), .slice A0 us0.length c0, .slice A18 us0.length c19, .int .i64 st, .tuple #[.slice A29 ((rL s us0 st).length) c30, .int .i64 (rE s us0 st)], .slice A29 ((rL s us0 st).length) c30, .int .i64 (rE s us0 st), undef, undef, undef, undef, undef, undef, undef, undef, undef, undef, undef, undef, undef, undef, undef, undef, undef, undef, undef, undef, undef, undef, undef, undef, undef, undef, undef, undef, undef, undef, undef, undef, undef, undef, undef, undef, undef, undef, undef, undef, undef, undef, undef, undef, undef, undef, undef, undef, undef, undef, undef, undef, undef, undef, undef, undef, undef, undef, undef, undef], []⟩) (by kernel_rfl) ?_
    refine wp_seq_k (fun K33 hK33 => ?_)
    refine wl_region ?_
    refine st_val (.agg (sqv s)) (by kernel_rfl) (run_load_row 26 (.tmp 3) rfl g2 (by kernel_rfl) 26 (sqv s) (0, 0) _ (M26.get 0 rfl) Try.underlying26 rfl (infoSq hs.la hs.lb)) ?_
    refine st_val (.slice A0 us0.length c0) (by kernel_rfl) (by kernel_rfl) ?_
    refine st_val (.int .i64 st) (by kernel_rfl) (by kernel_rfl) ?_
    refine st_callR (A := [(g2, .cells (sqv s) 26 (0, 0))]) (B := (T23 ++ (T14 ++ []))) M26 (by kernel_rfl) (run_value_call 24 #[(Operand.tmp 24), (Operand.tmp 25), (Operand.tmp 26)] _ rfl Try.func24 (by kernel_rfl) (by kernel_rfl) _ (by kernel_rfl)) (refRun_walk W24 s hs (.slice A0 us0.length c0) us0 (hr0.keep M26.keep (fun _ _ h => h)) st) ?_
    intro v34 T35 W36 O37 M38
    have M38 : Mem NoS w W36 ((g2, .cells (sqv s) 26 (0, 0)) :: (T35 ++ (T23 ++ (T14 ++ [])))) := M38
    obtain ⟨v39, rfl, O40⟩ := O37
    obtain ⟨A41, c42, rfl, hc43⟩ := O40.shape
    refine st_val (.tuple #[.slice A41 ((rL s us0 st).length) c42, .int .i64 (rE s us0 st)]) (by kernel_rfl) (by kernel_rfl) ?_
    refine st_val (.slice A41 ((rL s us0 st).length) c42) (by kernel_rfl) (by kernel_rfl) ?_
    refine st_val (.int .i64 (rE s us0 st)) (by kernel_rfl) (by kernel_rfl) ?_
    refine st_val (.slice A41 ((rL s us0 st).length) c42) (by kernel_rfl) (by kernel_rfl) ?_
    refine st_val (.int .i64 (rE s us0 st)) (by kernel_rfl) (by kernel_rfl) ?_
    refine wl_nil ?_
    refine hK33 _ _ ?_
    try clear hK33 K33
    refine wp_seq_k (fun K44 hK44 => ?_)
    refine wp_seq_k (fun K45 hK45 => ?_)
    refine wh_region (fun w' => Mem NoS w w' ((g2, .cells (sqv s) 26 (0, 0)) :: (T35 ++ (T23 ++ (T14 ++ []))))) (by kernel_rfl) (by kernel_rfl) (fun d _ _ _ _ h => by cases d <;> exact h) 22 rfl #[false, false, false, false, false, false, false, false, false, false, false, false, false, false, false, false, false, false, false, false, false, false] rfl ?_
    intro R46
    have M48 := M38.drew
    have hS49 : Mem NoS w W36.drew ((g2, .cells (sqv s) 26 (0, 0)) :: (T35 ++ (T23 ++ (T14 ++ [])))) := M48
    refine wh_take R46 0 (.int .i64 (rE s us0 st)) rfl (by kernel_rfl) (by kernel_rfl) (by kernel_rfl) (fun w' M' => (by kernel_rfl)) hS49 #[true, false, false, false, false, false, false, false, false, false, false, false, false, false, false, false, false, false, false, false, false, false] rfl ?_
    refine wh_take R46 1 (.int .i64 (rE s us0 st)) rfl (by kernel_rfl) (by kernel_rfl) (by kernel_rfl) (fun w' M' => (by kernel_rfl)) hS49 #[true, true, false, false, false, false, false, false, false, false, false, false, false, false, false, false, false, false, false, false, false, false] rfl ?_
    refine wh_take R46 2 (.bool false) rfl (by kernel_rfl) (by kernel_rfl) (by kernel_rfl) (fun w' M' => (bool_of (neq_f (show (rE s us0 st : Int) = rE s us0 st from rfl)) (by kernel_rfl))) hS49 #[true, true, true, false, false, false, false, false, false, false, false, false, false, false, false, false, false, false, false, false, false, false] rfl ?_
    refine wh_take R46 3 (.bool false) rfl (by kernel_rfl) (by kernel_rfl) (by kernel_rfl) (fun w' M' => (by kernel_rfl)) hS49 #[true, true, true, true, false, false, false, false, false, false, false, false, false, false, false, false, false, false, false, false, false, false] rfl ?_
    refine wh_take R46 4 (.slice A29 ((rL s us0 st).length) c30) rfl (by kernel_rfl) (by kernel_rfl) (by kernel_rfl) (fun w' M' => (by kernel_rfl)) hS49 #[true, true, true, true, true, false, false, false, false, false, false, false, false, false, false, false, false, false, false, false, false, false] rfl ?_
    refine wh_take R46 5 (.int .i64 (((rL s us0 st).length : Nat) : Int)) rfl (by kernel_rfl) (by kernel_rfl) (by kernel_rfl) (fun w' M' => (by kernel_rfl)) hS49 #[true, true, true, true, true, true, false, false, false, false, false, false, false, false, false, false, false, false, false, false, false, false] rfl ?_
    refine wh_take R46 6 (.slice A41 ((rL s us0 st).length) c42) rfl (by kernel_rfl) (by kernel_rfl) (by kernel_rfl) (fun w' M' => (by kernel_rfl)) hS49 #[true, true, true, true, true, true, true, false, false, false, false, false, false, false, false, false, false, false, false, false, false, false] rfl ?_
    refine wh_take R46 7 (.int .i64 (((rL s us0 st).length : Nat) : Int)) rfl (by kernel_rfl) (by kernel_rfl) (by kernel_rfl) (fun w' M' => (by kernel_rfl)) hS49 #[true, true, true, true, true, true, true, true, false, false, false, false, false, false, false, false, false, false, false, false, false, false] rfl ?_
    refine wh_take R46 8 (.bool false) rfl (by kernel_rfl) (by kernel_rfl) (by kernel_rfl) (fun w' M' => (bool_of (neq_f (show ((((rL s us0 st).length : Nat) : Int) : Int) = (((rL s us0 st).length : Nat) : Int) from rfl)) (by kernel_rfl))) hS49 #[true, true, true, true, true, true, true, true, true, false, false, false, false, false, false, false, false, false, false, false, false, false] rfl ?_
    refine wh_take R46 9 (.bool false) rfl (by kernel_rfl) (by kernel_rfl) (by kernel_rfl) (fun w' M' => (by kernel_rfl)) hS49 #[true, true, true, true, true, true, true, true, true, true, false, false, false, false, false, false, false, false, false, false, false, false] rfl ?_
    refine wh_take R46 10 (.bool false) rfl (by kernel_rfl) (by kernel_rfl) (by kernel_rfl) (fun w' M' => (by kernel_rfl)) hS49 #[true, true, true, true, true, true, true, true, true, true, true, false, false, false, false, false, false, false, false, false, false, false] rfl ?_
    refine wh_take R46 11 (.agg (sqv s)) rfl (by kernel_rfl) (by kernel_rfl) (by kernel_rfl) (fun w' M' => (run_load_row 26 (.tmp 3) rfl g2 (by kernel_rfl) 26 (sqv s) (0, 0) _ (M'.get 0 rfl) Try.underlying26 rfl (infoSq hs.la hs.lb))) hS49 #[true, true, true, true, true, true, true, true, true, true, true, true, false, false, false, false, false, false, false, false, false, false] rfl ?_
    refine wh_take R46 12 (.slice A0 us0.length c0) rfl (by kernel_rfl) (by kernel_rfl) (by kernel_rfl) (fun w' M' => (by kernel_rfl)) hS49 #[true, true, true, true, true, true, true, true, true, true, true, true, true, false, false, false, false, false, false, false, false, false] rfl ?_
    refine wh_take R46 14 (.int .i64 st) rfl (by kernel_rfl) (by kernel_rfl) (by kernel_rfl) (fun w' M' => (by kernel_rfl)) hS49 #[true, true, true, true, true, true, true, true, true, true, true, true, true, false, true, false, false, false, false, false, false, false] rfl ?_
    refine wh_take R46 16 (.agg (sqv s)) rfl (by kernel_rfl) (by kernel_rfl) (by kernel_rfl) (fun w' M' => (run_load_row 26 (.tmp 3) rfl g2 (by kernel_rfl) 26 (sqv s) (0, 0) _ (M'.get 0 rfl) Try.underlying26 rfl (infoSq hs.la hs.lb))) hS49 #[true, true, true, true, true, true, true, true, true, true, true, true, true, false, true, false, true, false, false, false, false, false] rfl ?_
    refine wh_take R46 17 (.slice A0 us0.length c0) rfl (by kernel_rfl) (by kernel_rfl) (by kernel_rfl) (fun w' M' => (by kernel_rfl)) hS49 #[true, true, true, true, true, true, true, true, true, true, true, true, true, false, true, false, true, true, false, false, false, false] rfl ?_
    refine wh_take R46 18 (.int .i64 st) rfl (by kernel_rfl) (by kernel_rfl) (by kernel_rfl) (fun w' M' => (by kernel_rfl)) hS49 #[true, true, true, true, true, true, true, true, true, true, true, true, true, false, true, false, true, true, true, false, false, false] rfl ?_
    refine wh_callR (A := [(g2, .cells (sqv s) 26 (0, 0))]) (B := (T35 ++ (T23 ++ (T14 ++ [])))) M48 13 rfl (by kernel_rfl) (by kernel_rfl) (run_value_call 19 #[(Operand.tmp 42)] _ rfl Try.func19 (by kernel_rfl) (by kernel_rfl) _ (by kernel_rfl)) #[true, true, true, true, true, true, true, true, true, true, true, true, true, true, true, false, true, true, true, false, false, false] rfl (given_walk W36.drew (.slice A0 us0.length c0) us0 (hr0.keep M48.keep (fun _ _ h => h)) (by omega)) ?_
    intro v50 T51 W52 O53 M54
    have M54 : Mem NoS w W52 ((g2, .cells (sqv s) 26 (0, 0)) :: (T51 ++ (T35 ++ (T23 ++ (T14 ++ []))))) := M54
    obtain ⟨A55, c56, rfl, hc57⟩ := O53.shape
    have hS58 : Mem NoS w W52 ((g2, .cells (sqv s) 26 (0, 0)) :: (T35 ++ (T23 ++ (T14 ++ [])))) := M54.sub ((((((List.Sublist.refl []).append_left T14).append_left T23).append_left T35).trans (List.sublist_append_right T51 _)).cons_cons _)
    refine ⟨hS58, ?_⟩
    refine wh_callB M54 15 (.int .i64 (fI s us0 st)) rfl (by kernel_rfl) (by kernel_rfl) (run_value_call 25 #[(Operand.tmp 41), (Operand.tmp 43), (Operand.tmp 44)] _ rfl Try.func25 (by kernel_rfl) (by kernel_rfl) _ (by kernel_rfl)) #[true, true, true, true, true, true, true, true, true, true, true, true, true, true, true, true, true, true, true, false, false, false] rfl (first_walk W52 s hs (.slice A55 us0.length c56) us0 (O53.rd (fun p hp => M54.at_ p (List.mem_cons_of_mem _ (List.mem_append_left _ hp)))) st) ?_
    intro W59 M60
    have hS61 : Mem NoS w W59 ((g2, .cells (sqv s) 26 (0, 0)) :: (T35 ++ (T23 ++ (T14 ++ [])))) := M60.sub ((((((List.Sublist.refl []).append_left T14).append_left T23).append_left T35).trans (List.sublist_append_right T51 _)).cons_cons _)
    refine ⟨hS61, ?_⟩
    refine wh_callB M60 19 (.int .i64 (fI s us0 st)) rfl (by kernel_rfl) (by kernel_rfl) (run_value_call 26 #[(Operand.tmp 46), (Operand.tmp 47), (Operand.tmp 48)] _ rfl Try.func26 (by kernel_rfl) (by kernel_rfl) _ (by kernel_rfl)) #[true, true, true, true, true, true, true, true, true, true, true, true, true, true, true, true, true, true, true, true, false, false] rfl (refFirst_walk W59 s hs (.slice A0 us0.length c0) us0 (hr0.keep M60.keep (fun _ _ h => h)) st) ?_
    intro W62 M63
    have hS64 : Mem NoS w W62 ((g2, .cells (sqv s) 26 (0, 0)) :: (T35 ++ (T23 ++ (T14 ++ [])))) := M63.sub ((((((List.Sublist.refl []).append_left T14).append_left T23).append_left T35).trans (List.sublist_append_right T51 _)).cons_cons _)
    refine ⟨hS64, ?_⟩
    refine wh_take R46 20 (.bool false) rfl (by kernel_rfl) (by kernel_rfl) (by kernel_rfl) (fun w' M' => (bool_of (neq_f (show (fI s us0 st : Int) = fI s us0 st from rfl)) (by kernel_rfl))) hS64 #[true, true, true, true, true, true, true, true, true, true, true, true, true, true, true, true, true, true, true, true, true, false] rfl ?_
    refine wh_take R46 21 (.bool false) rfl (by kernel_rfl) (by kernel_rfl) (by kernel_rfl) (fun w' M' => (by kernel_rfl)) hS64 #[true, true, true, true, true, true, true, true, true, true, true, true, true, true, true, true, true, true, true, true, true, true] rfl ?_
    refine wh_done (by kernel_rfl) ?_
    refine hK45 _ _ ?_
    try clear hK45 K45
    refine wp_frame (a' := ⟨#[.agg (sqv s), .slice A0 us0.length c0, .int .i64 st, .pointer (some ⟨g2, 0, none⟩), undef, undef, .bool false, .slice A29 ((rL s us0 st).length) c30, .int .i64 (rE s us0 st), .slice A41 ((rL s us0 st).length) c42, .int .i64 (rE s us0 st), undef, .slice A0 us0.length c0, .int .i64 ((us0.length : Nat) : Int), .bool false, .tuple #[.slice A29 ((rL s us0 st).length) c30, .int .i64 (rE s us0 st)], .agg (sqv s), .slice A0 us0.length c0, .slice A18 us0.length c19, .int .i64 st, .tuple #[.slice A29 ((rL s us0 st).length) c30, .int .i64 (rE s us0 st)], .slice A29 ((rL s us0 st).length) c30, .int .i64 (rE s us0 st), .tuple #[.slice A41 ((rL s us0 st).length) c42, .int .i64 (rE s us0 st)], .agg (sqv s), .slice A0 us0.length c0, .int .i64 st, .tuple #[.slice A41 ((rL s us0 st).length) c42, .int .i64 (rE s us0 st)], .slice A41 ((rL s us0 st).length) c42, .int .i64 (rE s us0 st), .int .i64 (rE s us0 st), .int .i64 (rE s us0 st), .bool false, .bool false, .slice A29 ((rL s us0 st).length) c30, .int .i64 (((rL s us0 st).length : Nat) : Int), .slice A41 ((rL s us0 st).length) c42, .int .i64 (((rL s us0 st).length : Nat) : Int), .bool false, .bool false, .bool false, .agg (sqv s), .slice A0 us0.length c0, .slice A55 us0.length c56, .int .i64 st, .int .i64 (fI s us0 st), .agg (sqv s), .slice A0 us0.length c0, .int .i64 st, .int .i64 (fI s us0 st), .bool false, .bool false, undef, undef, undef, undef, undef, undef, undef, undef, undef, undef, undef, undef, undef, undef, undef, undef, undef, undef, undef, undef, undef, undef, undef, undef, undef, undef, undef, undef, undef, undef, undef], []⟩) (by kernel_rfl) ?_
    refine wp_cond_false (by kernel_rfl) ?_
    refine wp_skip ?_
    refine hK44 _ _ ?_
    try clear hK44 K44
    refine wp_seq_k (fun K65 hK65 => ?_)
    refine wp_seq_k (fun K66 hK66 => ?_)
    have hpl := rL_len s us0 st
    refine wl_region ?_
    refine st_val (.int .i64 0) (by kernel_rfl) (by kernel_rfl) ?_
    refine wl_nil ?_
    refine hK66 _ _ ?_
    try clear hK66 K66
    refine wp_block ?_
    refine wp_loop_ghost (fun gn a' w' => ∃ (n : Nat) (u67 : Nat → Value), ((n ≤ (rL s us0 st).length) ∧ Mem NoS w w' ((g2, .cells (sqv s) 26 (0, 0)) :: (T51 ++ (T35 ++ (T23 ++ (T14 ++ [])))))) ∧ gn = (rL s us0 st).length - n ∧ a' = ⟨#[.agg (sqv s), .slice A0 us0.length c0, .int .i64 st, .pointer (some ⟨g2, 0, none⟩), undef, undef, (u67 6), .slice A29 ((rL s us0 st).length) c30, .int .i64 (rE s us0 st), .slice A41 ((rL s us0 st).length) c42, .int .i64 (rE s us0 st), .int .i64 (n : Int), .slice A0 us0.length c0, .int .i64 ((us0.length : Nat) : Int), .bool false, .tuple #[.slice A29 ((rL s us0 st).length) c30, .int .i64 (rE s us0 st)], .agg (sqv s), .slice A0 us0.length c0, .slice A18 us0.length c19, .int .i64 st, .tuple #[.slice A29 ((rL s us0 st).length) c30, .int .i64 (rE s us0 st)], .slice A29 ((rL s us0 st).length) c30, .int .i64 (rE s us0 st), .tuple #[.slice A41 ((rL s us0 st).length) c42, .int .i64 (rE s us0 st)], .agg (sqv s), .slice A0 us0.length c0, .int .i64 st, .tuple #[.slice A41 ((rL s us0 st).length) c42, .int .i64 (rE s us0 st)], .slice A41 ((rL s us0 st).length) c42, .int .i64 (rE s us0 st), .int .i64 (rE s us0 st), .int .i64 (rE s us0 st), .bool false, .bool false, .slice A29 ((rL s us0 st).length) c30, .int .i64 (((rL s us0 st).length : Nat) : Int), .slice A41 ((rL s us0 st).length) c42, .int .i64 (((rL s us0 st).length : Nat) : Int), .bool false, .bool false, .bool false, .agg (sqv s), .slice A0 us0.length c0, .slice A55 us0.length c56, .int .i64 st, .int .i64 (fI s us0 st), .agg (sqv s), .slice A0 us0.length c0, .int .i64 st, .int .i64 (fI s us0 st), .bool false, .bool false, (u67 52), (u67 53), (u67 54), (u67 55), (u67 56), (u67 57), (u67 58), (u67 59), (u67 60), (u67 61), (u67 62), (u67 63), (u67 64), (u67 65), (u67 66), (u67 67), (u67 68), (u67 69), (u67 70), (u67 71), (u67 72), (u67 73), (u67 74), (u67 75), (u67 76), (u67 77), (u67 78), (u67 79), (u67 80), (u67 81), undef], []⟩) _ ⟨0, (fun zz => Array.getD #[.agg (sqv s), .slice A0 us0.length c0, .int .i64 st, .pointer (some ⟨g2, 0, none⟩), undef, undef, .bool false, .slice A29 ((rL s us0 st).length) c30, .int .i64 (rE s us0 st), .slice A41 ((rL s us0 st).length) c42, .int .i64 (rE s us0 st), .int .i64 0, .slice A0 us0.length c0, .int .i64 ((us0.length : Nat) : Int), .bool false, .tuple #[.slice A29 ((rL s us0 st).length) c30, .int .i64 (rE s us0 st)], .agg (sqv s), .slice A0 us0.length c0, .slice A18 us0.length c19, .int .i64 st, .tuple #[.slice A29 ((rL s us0 st).length) c30, .int .i64 (rE s us0 st)], .slice A29 ((rL s us0 st).length) c30, .int .i64 (rE s us0 st), .tuple #[.slice A41 ((rL s us0 st).length) c42, .int .i64 (rE s us0 st)], .agg (sqv s), .slice A0 us0.length c0, .int .i64 st, .tuple #[.slice A41 ((rL s us0 st).length) c42, .int .i64 (rE s us0 st)], .slice A41 ((rL s us0 st).length) c42, .int .i64 (rE s us0 st), .int .i64 (rE s us0 st), .int .i64 (rE s us0 st), .bool false, .bool false, .slice A29 ((rL s us0 st).length) c30, .int .i64 (((rL s us0 st).length : Nat) : Int), .slice A41 ((rL s us0 st).length) c42, .int .i64 (((rL s us0 st).length : Nat) : Int), .bool false, .bool false, .bool false, .agg (sqv s), .slice A0 us0.length c0, .slice A55 us0.length c56, .int .i64 st, .int .i64 (fI s us0 st), .agg (sqv s), .slice A0 us0.length c0, .int .i64 st, .int .i64 (fI s us0 st), .bool false, .bool false, undef, undef, undef, undef, undef, undef, undef, undef, undef, undef, undef, undef, undef, undef, undef, undef, undef, undef, undef, undef, undef, undef, undef, undef, undef, undef, undef, undef, undef, undef, undef] zz undef), ⟨by omega, M63⟩, rfl, (by kernel_rfl)⟩ ?_
    rintro gn _ W68 ⟨n, u67, ⟨rn, M69⟩, rfl, rfl⟩
    refine wp_seq_k (fun K70 hK70 => ?_)
    refine wp_seq_k (fun K71 hK71 => ?_)
    refine wl_region ?_
    refine st_val (.int .i64 (n : Int)) (by kernel_rfl) (by kernel_rfl) ?_
    refine st_val (.slice A29 ((rL s us0 st).length) c30) (by kernel_rfl) (by kernel_rfl) ?_
    refine st_val (.int .i64 (((rL s us0 st).length : Nat) : Int)) (by kernel_rfl) (by kernel_rfl) ?_
    rcases Decidable.em (((n : Int) : Int) < (((rL s us0 st).length : Nat) : Int)) with c55 | c55
    ·
      refine st_val (.bool true) (by kernel_rfl) (bool_of (dec_t c55) (by kernel_rfl)) ?_
      refine wl_nil ?_
      refine hK71 _ _ ?_
      try clear hK71 K71
      refine wp_cond_true (by kernel_rfl) ?_
      refine wp_skip ?_
      refine hK70 _ _ ?_
      try clear hK70 K70
      refine wp_seq_k (fun K72 hK72 => ?_)
      refine wp_block ?_
      refine wp_seq_k (fun K73 hK73 => ?_)
      refine wl_seq 24 (fun w' => Mem NoS w w' ((g2, .cells (sqv s) 26 (0, 0)) :: (T51 ++ (T35 ++ (T23 ++ (T14 ++ [])))))) (by decide) (by kernel_rfl) (by kernel_rfl) M69.drew ?_
      refine seq_run (v := .slice A29 ((rL s us0 st).length) c30) (by decide) (by kernel_rfl) (fun w' M' => (by kernel_rfl)) ?_
      refine seq_run (v := .int .i64 (n : Int)) (by decide) (by kernel_rfl) (fun w' M' => (by kernel_rfl)) ?_
      obtain ⟨b74, o75, eA76⟩ := RdK.addr (O28.rd (fun p hp => M69.at_ p (List.mem_cons_of_mem _ (List.mem_append_right _ (List.mem_append_right _ (List.mem_append_left _ hp)))))) (j := n * 2) (by rw [lflat_len]; omega)
      refine seq_run (v := .pointer (some ⟨b74, o75 + n * 2, none⟩)) (by decide) (by kernel_rfl) (fun w' M' => (run_indexSliceA 45 (.tmp 58) (.tmp 59) rfl A29 ⟨b74, o75, none⟩ eA76 ((rL s us0 st).length) c30 .i64 n (by kernel_rfl) (by kernel_rfl) Try.underlying45 2 (by kernel_rfl) (by omega) ⟨b74, o75 + n * 2, none⟩ (addr_atK _ _ _ _))) ?_
      refine seq_run (v := .pointer (some ⟨b74, o75 + n * 2, none⟩)) (by decide) (by kernel_rfl) (fun w' M' => (by kernel_rfl)) ?_
      refine seq_run (v := .int .i64 (((rL s us0 st).getD n (0, 0)).1)) (by decide) (by kernel_rfl) (fun w' M' => (run_load_cell 2 (.tmp 61) rfl ⟨b74, o75 + n * 2, none⟩ (by kernel_rfl) _ ((O28.rd (fun p hp => M'.at_ p (List.mem_cons_of_mem _ (List.mem_append_right _ (List.mem_append_right _ (List.mem_append_left _ hp)))))).cellF eA76 (f := 0) (lflat_get (rL s us0 st) n 0 (by omega) (by omega))) (by kernel_rfl))) ?_
      refine seq_run (v := .slice A41 ((rL s us0 st).length) c42) (by decide) (by kernel_rfl) (fun w' M' => (by kernel_rfl)) ?_
      refine seq_run (v := .int .i64 (n : Int)) (by decide) (by kernel_rfl) (fun w' M' => (by kernel_rfl)) ?_
      obtain ⟨b77, o78, eA79⟩ := RdK.addr (O40.rd (fun p hp => M69.at_ p (List.mem_cons_of_mem _ (List.mem_append_right _ (List.mem_append_left _ hp))))) (j := n * 2) (by rw [lflat_len]; omega)
      refine seq_run (v := .pointer (some ⟨b77, o78 + n * 2, none⟩)) (by decide) (by kernel_rfl) (fun w' M' => (run_indexSliceA 48 (.tmp 63) (.tmp 64) rfl A41 ⟨b77, o78, none⟩ eA79 ((rL s us0 st).length) c42 .i64 n (by kernel_rfl) (by kernel_rfl) Try.underlying48 2 (by kernel_rfl) (by omega) ⟨b77, o78 + n * 2, none⟩ (addr_atK _ _ _ _))) ?_
      refine seq_run (v := .pointer (some ⟨b77, o78 + n * 2, none⟩)) (by decide) (by kernel_rfl) (fun w' M' => (by kernel_rfl)) ?_
      refine seq_run (v := .int .i64 (((rL s us0 st).getD n (0, 0)).1)) (by decide) (by kernel_rfl) (fun w' M' => (run_load_cell 2 (.tmp 66) rfl ⟨b77, o78 + n * 2, none⟩ (by kernel_rfl) _ ((O40.rd (fun p hp => M'.at_ p (List.mem_cons_of_mem _ (List.mem_append_right _ (List.mem_append_left _ hp))))).cellF eA79 (f := 0) (lflat_get (rL s us0 st) n 0 (by omega) (by omega))) (by kernel_rfl))) ?_
      refine seq_run (v := .bool false) (by decide) (by kernel_rfl) (fun w' M' => (bool_of (neq_f (show (((rL s us0 st).getD n (0, 0)).1 : Int) = ((rL s us0 st).getD n (0, 0)).1 from rfl)) (by kernel_rfl))) ?_
      refine seq_run (v := .bool false) (by decide) (by kernel_rfl) (fun w' M' => (by kernel_rfl)) ?_
      refine seq_run (v := .slice A29 ((rL s us0 st).length) c30) (by decide) (by kernel_rfl) (fun w' M' => (by kernel_rfl)) ?_
      refine seq_run (v := .int .i64 (n : Int)) (by decide) (by kernel_rfl) (fun w' M' => (by kernel_rfl)) ?_
      obtain ⟨b80, o81, eA82⟩ := RdK.addr (O28.rd (fun p hp => M69.at_ p (List.mem_cons_of_mem _ (List.mem_append_right _ (List.mem_append_right _ (List.mem_append_left _ hp)))))) (j := n * 2) (by rw [lflat_len]; omega)
      refine seq_run (v := .pointer (some ⟨b80, o81 + n * 2, none⟩)) (by decide) (by kernel_rfl) (fun w' M' => (run_indexSliceA 45 (.tmp 70) (.tmp 71) rfl A29 ⟨b80, o81, none⟩ eA82 ((rL s us0 st).length) c30 .i64 n (by kernel_rfl) (by kernel_rfl) Try.underlying45 2 (by kernel_rfl) (by omega) ⟨b80, o81 + n * 2, none⟩ (addr_atK _ _ _ _))) ?_
      refine seq_run (v := .pointer (some ⟨b80, o81 + n * 2 + 1, none⟩)) (by decide) (by kernel_rfl) (fun w' M' => (by kernel_rfl)) ?_
      refine seq_run (v := .int .i64 (((rL s us0 st).getD n (0, 0)).2)) (by decide) (by kernel_rfl) (fun w' M' => (run_load_cell 2 (.tmp 73) rfl ⟨b80, o81 + n * 2 + 1, none⟩ (by kernel_rfl) _ ((O28.rd (fun p hp => M'.at_ p (List.mem_cons_of_mem _ (List.mem_append_right _ (List.mem_append_right _ (List.mem_append_left _ hp)))))).cellF eA82 (f := 1) (lflat_get (rL s us0 st) n 1 (by omega) (by omega))) (by kernel_rfl))) ?_
      refine seq_run (v := .slice A41 ((rL s us0 st).length) c42) (by decide) (by kernel_rfl) (fun w' M' => (by kernel_rfl)) ?_
      refine seq_run (v := .int .i64 (n : Int)) (by decide) (by kernel_rfl) (fun w' M' => (by kernel_rfl)) ?_
      obtain ⟨b83, o84, eA85⟩ := RdK.addr (O40.rd (fun p hp => M69.at_ p (List.mem_cons_of_mem _ (List.mem_append_right _ (List.mem_append_left _ hp))))) (j := n * 2) (by rw [lflat_len]; omega)
      refine seq_run (v := .pointer (some ⟨b83, o84 + n * 2, none⟩)) (by decide) (by kernel_rfl) (fun w' M' => (run_indexSliceA 48 (.tmp 75) (.tmp 76) rfl A41 ⟨b83, o84, none⟩ eA85 ((rL s us0 st).length) c42 .i64 n (by kernel_rfl) (by kernel_rfl) Try.underlying48 2 (by kernel_rfl) (by omega) ⟨b83, o84 + n * 2, none⟩ (addr_atK _ _ _ _))) ?_
      refine seq_run (v := .pointer (some ⟨b83, o84 + n * 2 + 1, none⟩)) (by decide) (by kernel_rfl) (fun w' M' => (by kernel_rfl)) ?_
      refine seq_run (v := .int .i64 (((rL s us0 st).getD n (0, 0)).2)) (by decide) (by kernel_rfl) (fun w' M' => (run_load_cell 2 (.tmp 78) rfl ⟨b83, o84 + n * 2 + 1, none⟩ (by kernel_rfl) _ ((O40.rd (fun p hp => M'.at_ p (List.mem_cons_of_mem _ (List.mem_append_right _ (List.mem_append_left _ hp))))).cellF eA85 (f := 1) (lflat_get (rL s us0 st) n 1 (by omega) (by omega))) (by kernel_rfl))) ?_
      refine seq_run (v := .bool false) (by decide) (by kernel_rfl) (fun w' M' => (bool_of (neq_f (show (((rL s us0 st).getD n (0, 0)).2 : Int) = ((rL s us0 st).getD n (0, 0)).2 from rfl)) (by kernel_rfl))) ?_
      refine seq_run (v := .bool false) (by decide) (by kernel_rfl) (fun w' M' => (by kernel_rfl)) ?_
      refine seq_end (by decide) ?_
      intro W86 M87
      refine wl_nil ?_
      refine hK73 _ _ ?_
      try clear hK73 K73
      refine wp_frame (a' := ⟨#[.agg (sqv s), .slice A0 us0.length c0, .int .i64 st, .pointer (some ⟨g2, 0, none⟩), undef, undef, (u67 6), .slice A29 ((rL s us0 st).length) c30, .int .i64 (rE s us0 st), .slice A41 ((rL s us0 st).length) c42, .int .i64 (rE s us0 st), .int .i64 (n : Int), .slice A0 us0.length c0, .int .i64 ((us0.length : Nat) : Int), .bool false, .tuple #[.slice A29 ((rL s us0 st).length) c30, .int .i64 (rE s us0 st)], .agg (sqv s), .slice A0 us0.length c0, .slice A18 us0.length c19, .int .i64 st, .tuple #[.slice A29 ((rL s us0 st).length) c30, .int .i64 (rE s us0 st)], .slice A29 ((rL s us0 st).length) c30, .int .i64 (rE s us0 st), .tuple #[.slice A41 ((rL s us0 st).length) c42, .int .i64 (rE s us0 st)], .agg (sqv s), .slice A0 us0.length c0, .int .i64 st, .tuple #[.slice A41 ((rL s us0 st).length) c42, .int .i64 (rE s us0 st)], .slice A41 ((rL s us0 st).length) c42, .int .i64 (rE s us0 st), .int .i64 (rE s us0 st), .int .i64 (rE s us0 st), .bool false, .bool false, .slice A29 ((rL s us0 st).length) c30, .int .i64 (((rL s us0 st).length : Nat) : Int), .slice A41 ((rL s us0 st).length) c42, .int .i64 (((rL s us0 st).length : Nat) : Int), .bool false, .bool false, .bool false, .agg (sqv s), .slice A0 us0.length c0, .slice A55 us0.length c56, .int .i64 st, .int .i64 (fI s us0 st), .agg (sqv s), .slice A0 us0.length c0, .int .i64 st, .int .i64 (fI s us0 st), .bool false, .bool false, .int .i64 (n : Int), .slice A29 ((rL s us0 st).length) c30, .int .i64 (((rL s us0 st).length : Nat) : Int), .bool true, (u67 56), (u67 57), .slice A29 ((rL s us0 st).length) c30, .int .i64 (n : Int), .pointer (some ⟨b74, o75 + n * 2, none⟩), .pointer (some ⟨b74, o75 + n * 2, none⟩), .int .i64 (((rL s us0 st).getD n (0, 0)).1), .slice A41 ((rL s us0 st).length) c42, .int .i64 (n : Int), .pointer (some ⟨b77, o78 + n * 2, none⟩), .pointer (some ⟨b77, o78 + n * 2, none⟩), .int .i64 (((rL s us0 st).getD n (0, 0)).1), .bool false, .bool false, .slice A29 ((rL s us0 st).length) c30, .int .i64 (n : Int), .pointer (some ⟨b80, o81 + n * 2, none⟩), .pointer (some ⟨b80, o81 + n * 2 + 1, none⟩), .int .i64 (((rL s us0 st).getD n (0, 0)).2), .slice A41 ((rL s us0 st).length) c42, .int .i64 (n : Int), .pointer (some ⟨b83, o84 + n * 2, none⟩), .pointer (some ⟨b83, o84 + n * 2 + 1, none⟩), .int .i64 (((rL s us0 st).getD n (0, 0)).2), .bool false, .bool false, undef], []⟩) (by kernel_rfl) ?_
      refine wp_cond_false (by kernel_rfl) ?_
      refine wp_skip ?_
      refine blk_normal ?_
      refine hK72 _ _ ?_
      try clear hK72 K72
      refine wl_region ?_
      refine st_val (.int .i64 (n : Int)) (by kernel_rfl) (by kernel_rfl) ?_
      refine st_val (.int .i64 ((n : Int) + 1)) (by kernel_rfl) (i64_of (by omega) (by kernel_rfl)) ?_
      refine st_val (.int .i64 ((n : Int) + 1)) (by kernel_rfl) (by kernel_rfl) ?_
      refine wl_nil ?_
      refine th_normal ?_
      exact ⟨_, by omega, (n + 1), (fun zz => Array.getD #[.agg (sqv s), .slice A0 us0.length c0, .int .i64 st, .pointer (some ⟨g2, 0, none⟩), undef, undef, (u67 6), .slice A29 ((rL s us0 st).length) c30, .int .i64 (rE s us0 st), .slice A41 ((rL s us0 st).length) c42, .int .i64 (rE s us0 st), .int .i64 ((n : Int) + 1), .slice A0 us0.length c0, .int .i64 ((us0.length : Nat) : Int), .bool false, .tuple #[.slice A29 ((rL s us0 st).length) c30, .int .i64 (rE s us0 st)], .agg (sqv s), .slice A0 us0.length c0, .slice A18 us0.length c19, .int .i64 st, .tuple #[.slice A29 ((rL s us0 st).length) c30, .int .i64 (rE s us0 st)], .slice A29 ((rL s us0 st).length) c30, .int .i64 (rE s us0 st), .tuple #[.slice A41 ((rL s us0 st).length) c42, .int .i64 (rE s us0 st)], .agg (sqv s), .slice A0 us0.length c0, .int .i64 st, .tuple #[.slice A41 ((rL s us0 st).length) c42, .int .i64 (rE s us0 st)], .slice A41 ((rL s us0 st).length) c42, .int .i64 (rE s us0 st), .int .i64 (rE s us0 st), .int .i64 (rE s us0 st), .bool false, .bool false, .slice A29 ((rL s us0 st).length) c30, .int .i64 (((rL s us0 st).length : Nat) : Int), .slice A41 ((rL s us0 st).length) c42, .int .i64 (((rL s us0 st).length : Nat) : Int), .bool false, .bool false, .bool false, .agg (sqv s), .slice A0 us0.length c0, .slice A55 us0.length c56, .int .i64 st, .int .i64 (fI s us0 st), .agg (sqv s), .slice A0 us0.length c0, .int .i64 st, .int .i64 (fI s us0 st), .bool false, .bool false, .int .i64 (n : Int), .slice A29 ((rL s us0 st).length) c30, .int .i64 (((rL s us0 st).length : Nat) : Int), .bool true, .int .i64 (n : Int), .int .i64 ((n : Int) + 1), .slice A29 ((rL s us0 st).length) c30, .int .i64 (n : Int), .pointer (some ⟨b74, o75 + n * 2, none⟩), .pointer (some ⟨b74, o75 + n * 2, none⟩), .int .i64 (((rL s us0 st).getD n (0, 0)).1), .slice A41 ((rL s us0 st).length) c42, .int .i64 (n : Int), .pointer (some ⟨b77, o78 + n * 2, none⟩), .pointer (some ⟨b77, o78 + n * 2, none⟩), .int .i64 (((rL s us0 st).getD n (0, 0)).1), .bool false, .bool false, .slice A29 ((rL s us0 st).length) c30, .int .i64 (n : Int), .pointer (some ⟨b80, o81 + n * 2, none⟩), .pointer (some ⟨b80, o81 + n * 2 + 1, none⟩), .int .i64 (((rL s us0 st).getD n (0, 0)).2), .slice A41 ((rL s us0 st).length) c42, .int .i64 (n : Int), .pointer (some ⟨b83, o84 + n * 2, none⟩), .pointer (some ⟨b83, o84 + n * 2 + 1, none⟩), .int .i64 (((rL s us0 st).getD n (0, 0)).2), .bool false, .bool false, undef] zz undef), ⟨by omega, M87⟩, rfl, (by kernel_rfl)⟩
    ·
      refine st_val (.bool false) (by kernel_rfl) (bool_of (dec_f c55) (by kernel_rfl)) ?_
      refine wl_nil ?_
      refine hK71 _ _ ?_
      try clear hK71 K71
      refine wp_cond_false (by kernel_rfl) ?_
      refine wp_exit ?_
      refine th_exit ?_
      refine th_exit ?_
      refine blk_exit ?_
      refine hK65 _ _ ?_
      try clear hK65 K65
      refine wp_seq_k (fun K88 hK88 => ?_)
      refine wl_region ?_
      refine st_callB M69 (.bool true) (by kernel_rfl) (args := #[]) (run_value_call 11 #[] _ rfl Try.func11 (by kernel_rfl) (by kernel_rfl) _ (by kernel_rfl)) (awake_walk W68) ?_
      intro W89 M90
      refine st_val (.bool true) (by kernel_rfl) (by kernel_rfl) ?_
      refine wl_nil ?_
      refine hK88 _ _ ?_
      try clear hK88 K88
      refine wp_ret ?_
      exact done1 6 (.bool true) (by kernel_rfl) (by kernel_rfl) (by kernel_rfl) ⟨rfl, M90.toBelow⟩
end Go.Proofs.Ytolfkaljbgpkhaa
