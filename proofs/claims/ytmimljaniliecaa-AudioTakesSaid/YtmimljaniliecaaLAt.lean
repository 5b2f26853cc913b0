/- AudioTakes. -/
import Derived.Test.YtmimljaniliecaaAo
namespace Go.Proofs.Ytmimljaniliecaa
open Go.RowKit Bt
set_option maxHeartbeats 4000000 in
set_option maxRecDepth 100000 in
theorem AudioTakes_walk (w : World) (v : Value) (l : List Nat) (hr : RdK w v l.length (u8s l)) (hb : ∀ x ∈ l, x < 256) : Calls Try.prog 4 #[v] w fun e w' => e = .returned (.bool true) ∧ Below w.heap.size w w' := by
  obtain ⟨A, c, rfl, hc⟩ := hr.shape
  refine calls_of_wp Try.func4 rfl ?_
  refine wp_frame (a' := ⟨#[.slice A l.length c, undef, undef, undef, undef, undef, undef, undef, undef, undef, undef, undef, undef, undef, undef, undef, undef, undef, undef, undef, undef, undef, undef, undef, undef, undef, undef, undef, undef, undef, undef], []⟩) (by kernel_rfl) ?_
  have M0 : Mem NoS w w [] := Mem.start _ _
  refine wp_seq_k (fun K1 hK1 => ?_)
  refine wl_region ?_
  refine st_val (.bool false) (by kernel_rfl) (by kernel_rfl) ?_
  refine wl_nil ?_
  refine hK1 _ _ ?_
  try clear hK1 K1
  refine wp_seq_k (fun K2 hK2 => ?_)
  refine wp_seq_k (fun K3 hK3 => ?_)
  refine wl_region ?_
  refine st_val (.slice A l.length c) (by kernel_rfl) (by kernel_rfl) ?_
  refine st_val (.int .i64 ((l.length : Nat) : Int)) (by kernel_rfl) (by kernel_rfl) ?_
  rcases Decidable.em ((((l.length : Nat) : Int) : Int) > 500) with c9 | c9
  ·
    refine st_val (.bool true) (by kernel_rfl) (bool_of (dec_t c9) (by kernel_rfl)) ?_
    refine wl_nil ?_
    refine hK3 _ _ ?_
    try clear hK3 K3
    refine wp_cond_true (by kernel_rfl) ?_
    refine wp_seq_k (fun K4 hK4 => ?_)
    refine wl_region ?_
    refine st_val (.bool true) (by kernel_rfl) (by kernel_rfl) ?_
    refine wl_nil ?_
    refine hK4 _ _ ?_
    try clear hK4 K4
    refine wp_ret ?_
    refine th_ret ?_
    exact done1 2 (.bool true) (by kernel_rfl) (by kernel_rfl) (by kernel_rfl) ⟨rfl, M0.toBelow⟩
  ·
    refine st_val (.bool false) (by kernel_rfl) (bool_of (dec_f c9) (by kernel_rfl)) ?_
    refine wl_nil ?_
    refine hK3 _ _ ?_
    try clear hK3 K3
    refine wp_cond_false (by kernel_rfl) ?_
    refine wp_skip ?_
    refine hK2 _ _ ?_
    try clear hK2 K2
    refine wp_seq_k (fun K5 hK5 => ?_)
    refine wl_region ?_
    refine st_val (.slice A l.length c) (by kernel_rfl) (by kernel_rfl) ?_
    refine st_callR (A := []) (B := []) M0 (by kernel_rfl) (run_value_call 17 #[(Operand.tmp 11)] _ rfl Try.func17 (by kernel_rfl) (by kernel_rfl) _ (by kernel_rfl)) (takeB_walk w (.slice A l.length c) l (hr.keep M0.keep (fun _ _ h => h)) hb (by omega)) ?_
    intro v6 T7 W8 O9 M10
    have M10 : Mem NoS w W8 ((T7 ++ [])) := M10
    obtain ⟨v11, rfl, O12⟩ := O9
    obtain ⟨As13, cs14, To15, Ts16, O17, OI18, eT19⟩ := O12
    obtain ⟨A20, cq21, rfl, hc22⟩ := O17.shape
    refine st_val (.tuple #[.slice A20 ((tbL l).length) cq21, .int .i64 (tbE l)]) (by kernel_rfl) (by kernel_rfl) ?_
    refine st_val (.slice A20 ((tbL l).length) cq21) (by kernel_rfl) (by kernel_rfl) ?_
    refine st_val (.int .i64 (tbE l)) (by kernel_rfl) (by kernel_rfl) ?_
    refine st_val (.slice A20 ((tbL l).length) cq21) (by kernel_rfl) (by kernel_rfl) ?_
    refine st_val (.int .i64 (tbE l)) (by kernel_rfl) (by kernel_rfl) ?_
    refine wl_nil ?_
    refine hK5 _ _ ?_
    try clear hK5 K5
    refine wp_seq_k (fun K23 hK23 => ?_)
    refine wl_region ?_
    refine st_val (.slice A l.length c) (by kernel_rfl) (by kernel_rfl) ?_
    refine st_callR (A := []) (B := (T7 ++ [])) M10 (by kernel_rfl) (run_value_call 18 #[(Operand.tmp 16)] _ rfl Try.func18 (by kernel_rfl) (by kernel_rfl) _ (by kernel_rfl)) (refTakeB_walk W8 (.slice A l.length c) l (hr.keep M10.keep (fun _ _ h => h)) hb (by omega)) ?_
    intro v24 T25 W26 O27 M28
    have M28 : Mem NoS w W26 ((T25 ++ (T7 ++ []))) := M28
    obtain ⟨v29, rfl, O30⟩ := O27
    obtain ⟨As31, cs32, To33, Ts34, O35, OI36, eT37⟩ := O30
    obtain ⟨A38, cq39, rfl, hc40⟩ := O35.shape
    refine st_val (.tuple #[.slice A38 ((tbL l).length) cq39, .int .i64 (tbE l)]) (by kernel_rfl) (by kernel_rfl) ?_
    refine st_val (.slice A38 ((tbL l).length) cq39) (by kernel_rfl) (by kernel_rfl) ?_
    refine st_val (.int .i64 (tbE l)) (by kernel_rfl) (by kernel_rfl) ?_
    refine st_val (.slice A38 ((tbL l).length) cq39) (by kernel_rfl) (by kernel_rfl) ?_
    refine st_val (.int .i64 (tbE l)) (by kernel_rfl) (by kernel_rfl) ?_
    refine wl_nil ?_
    refine hK23 _ _ ?_
    try clear hK23 K23
    refine wp_frame (a' := ⟨#[.slice A l.length c, undef, .bool false, .slice A20 ((tbL l).length) cq21, .int .i64 (tbE l), .slice A38 ((tbL l).length) cq39, .int .i64 (tbE l), .slice A l.length c, .int .i64 ((l.length : Nat) : Int), .bool false, .tuple #[.slice A20 ((tbL l).length) cq21, .int .i64 (tbE l)], .slice A l.length c, .tuple #[.slice A20 ((tbL l).length) cq21, .int .i64 (tbE l)], .slice A20 ((tbL l).length) cq21, .int .i64 (tbE l), .tuple #[.slice A38 ((tbL l).length) cq39, .int .i64 (tbE l)], .slice A l.length c, .tuple #[.slice A38 ((tbL l).length) cq39, .int .i64 (tbE l)], .slice A38 ((tbL l).length) cq39, .int .i64 (tbE l), undef, undef, undef, undef, undef, undef, undef, undef, undef, undef, undef], []⟩) (by kernel_rfl) ?_
    refine wp_seq_k (fun K41 hK41 => ?_)
    refine wl_region ?_
    refine st_callB M28 (.bool true) (by kernel_rfl) (args := #[]) (run_value_call 12 #[] _ rfl Try.func12 (by kernel_rfl) (by kernel_rfl) _ (by kernel_rfl)) (awake_walk W26) ?_
    intro W42 M43
    refine st_val (.bool true) (by kernel_rfl) (by kernel_rfl) ?_
    refine st_val (.int .i64 (tbE l)) (by kernel_rfl) (by kernel_rfl) ?_
    refine st_val (.int .i64 (tbE l)) (by kernel_rfl) (by kernel_rfl) ?_
    refine st_val (.bool true) (by kernel_rfl) (bool_of (dec_t (show (tbE l : Int) = tbE l from rfl)) (by kernel_rfl)) ?_
    refine st_val (.bool true) (by kernel_rfl) (by kernel_rfl) ?_
    refine st_val (.bool true) (by kernel_rfl) (by kernel_rfl) ?_
    refine st_val (.slice A20 ((tbL l).length) cq21) (by kernel_rfl) (by kernel_rfl) ?_
    refine st_val (.slice A38 ((tbL l).length) cq39) (by kernel_rfl) (by kernel_rfl) ?_
    refine st_callB M43 (.bool true) (by kernel_rfl) (args := #[.slice A20 ((tbL l).length) cq21, .slice A38 ((tbL l).length) cq39]) (run_value_call 19 #[(Operand.tmp 27), (Operand.tmp 28)] _ rfl Try.func19 (by kernel_rfl) (by kernel_rfl) _ (by kernel_rfl)) ((by have := samePcm_walk W42 (.slice A20 ((tbL l).length) cq21) (.slice A38 ((tbL l).length) cq39) (tbL l) As13 cs14 (tbL l) As31 cs32 ((rdP_of O17 OI18 (fun p hp => M43.at_ p ((List.mem_append_right _ (List.mem_append_left _ (by rw [eT19]; exact List.mem_append_left _ hp))))) (fun p hp => M43.at_ p ((List.mem_append_right _ (List.mem_append_left _ (by rw [eT19]; exact List.mem_append_right _ hp))))))) ((rdP_of O35 OI36 (fun p hp => M43.at_ p ((List.mem_append_left _ (by rw [eT37]; exact List.mem_append_left _ hp)))) (fun p hp => M43.at_ p ((List.mem_append_left _ (by rw [eT37]; exact List.mem_append_right _ hp)))))) (tbL_bd _); rw [decide_eq_true rfl] at this; exact this)) ?_
    intro W44 M45
    refine st_val (.bool true) (by kernel_rfl) (by kernel_rfl) ?_
    refine st_val (.bool true) (by kernel_rfl) (by kernel_rfl) ?_
    refine wl_nil ?_
    refine hK41 _ _ ?_
    try clear hK41 K41
    refine wp_ret ?_
    exact done1 2 (.bool true) (by kernel_rfl) (by kernel_rfl) (by kernel_rfl) ⟨rfl, M45.toBelow⟩
end Go.Proofs.Ytmimljaniliecaa
