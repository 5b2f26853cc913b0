/- Units that are given to the program. -/
import Derived.Test.YtolfkaljbgpkhaaUn
import Derived.Test.YtolfkaljbgpkhaaPa
namespace Go.Proofs.Ytolfkaljbgpkhaa
open Go.RowKit
set_option maxHeartbeats 4000000 in
set_option maxRecDepth 100000 in
theorem given_walk (w : World) (v : Value) (us : List UnitD) (hr : RdK w v us.length (flat us)) (hlen : us.length ≤ 300) : MakesRow Try.prog 19 #[v] w (fun v T => Own 60 4 v us.length (flat us) T) := by
  unfold MakesRow
  obtain ⟨A, c, rfl, hc⟩ := hr.shape
  refine calls_of_wp Try.func19 rfl ?_
  refine wp_frame (a' := ⟨#[.slice A us.length c, undef, undef, undef, undef, undef, undef, undef, undef, undef, undef, undef, undef, undef, undef, undef, undef, undef, undef, undef, undef, undef, undef, undef, undef, undef, undef, undef, undef, undef, undef, undef, undef, undef, undef, undef], []⟩) (by kernel_rfl) ?_
  have M0 : Mem NoS w w [] := Mem.start _ _
  refine wp_seq_k (fun K1 hK1 => ?_)
  refine wl_region ?_
  refine st_val ((Go.Value.slice none 0 0)) (by kernel_rfl) (by kernel_rfl) ?_
  refine wl_nil ?_
  refine hK1 _ _ ?_
  try clear hK1 K1
  refine wp_seq_k (fun K2 hK2 => ?_)
  refine wl_region ?_
  refine st_val ((Go.Value.slice none 0 0)) (by kernel_rfl) (by kernel_rfl) ?_
  refine wl_nil ?_
  refine hK2 _ _ ?_
  try clear hK2 K2
  refine wp_seq_k (fun K3 hK3 => ?_)
  refine wp_seq_k (fun K4 hK4 => ?_)
  refine wl_region ?_
  refine st_val (.int .i64 0) (by kernel_rfl) (by kernel_rfl) ?_
  refine wl_nil ?_
  refine hK4 _ _ ?_
  try clear hK4 K4
  refine wp_block ?_
  refine wp_loop_ghost (fun gn a' w' => ∃ (i : Nat) (A1 : Option Addr) (c1 : Nat) (T1 : List (Nat × Obj)) (u5 : Nat → Value), ((i ≤ us.length ∧ Own 60 4 (.slice A1 i c1) i (flat (us.take i)) T1) ∧ Mem NoS w w' ((T1 ++ []))) ∧ gn = us.length - i ∧ a' = ⟨#[.slice A us.length c, undef, (Go.Value.slice none 0 0), .slice A1 i c1, .int .i64 (i : Int), (u5 5), (u5 6), (u5 7), (u5 8), (u5 9), (u5 10), (u5 11), (u5 12), (u5 13), (u5 14), (u5 15), (u5 16), (u5 17), (u5 18), (u5 19), (u5 20), (u5 21), (u5 22), (u5 23), (u5 24), (u5 25), (u5 26), (u5 27), (u5 28), (u5 29), (u5 30), (u5 31), (u5 32), (u5 33), (u5 34), undef], []⟩) _ ⟨0, none, 0, ([]), (fun zz => Array.getD #[.slice A us.length c, undef, (Go.Value.slice none 0 0), (Go.Value.slice none 0 0), .int .i64 0, undef, undef, undef, undef, undef, undef, undef, undef, undef, undef, undef, undef, undef, undef, undef, undef, undef, undef, undef, undef, undef, undef, undef, undef, undef, undef, undef, undef, undef, undef, undef] zz undef), ⟨⟨by omega, Own.nil _ _⟩, M0⟩, rfl, (by kernel_rfl)⟩ ?_
  rintro gn _ W6 ⟨i, A1, c1, T1, u5, ⟨⟨ri, O1⟩, M7⟩, rfl, rfl⟩
  refine wp_seq_k (fun K8 hK8 => ?_)
  refine wp_seq_k (fun K9 hK9 => ?_)
  refine wl_region ?_
  refine st_val (.int .i64 (i : Int)) (by kernel_rfl) (by kernel_rfl) ?_
  refine st_val (.slice A us.length c) (by kernel_rfl) (by kernel_rfl) ?_
  refine st_val (.int .i64 ((us.length : Nat) : Int)) (by kernel_rfl) (by kernel_rfl) ?_
  rcases Decidable.em (((i : Int) : Int) < ((us.length : Nat) : Int)) with c8 | c8
  ·
    refine st_val (.bool true) (by kernel_rfl) (bool_of (dec_t c8) (by kernel_rfl)) ?_
    refine wl_nil ?_
    refine hK9 _ _ ?_
    try clear hK9 K9
    refine wp_cond_true (by kernel_rfl) ?_
    refine wp_skip ?_
    refine hK8 _ _ ?_
    try clear hK8 K8
    refine wp_seq_k (fun K10 hK10 => ?_)
    refine wp_block ?_
    refine wh_region (fun w' => Mem NoS w w' []) (by kernel_rfl) (by kernel_rfl) (fun d _ _ _ _ h => by cases d <;> exact h) 25 rfl #[false, false, false, false, false, false, false, false, false, false, false, false, false, false, false, false, false, false, false, false, false, false, false, false, false] rfl ?_
    intro R11
    have M13 := M7.drew
    have hS14 : Mem NoS w W6.drew [] := M13.sub ((List.Sublist.refl []).trans (List.sublist_append_right T1 _))
    refine wh_take R11 0 (.slice A1 i c1) rfl (by kernel_rfl) (by kernel_rfl) (by kernel_rfl) (fun w' M' => (by kernel_rfl)) hS14 #[true, false, false, false, false, false, false, false, false, false, false, false, false, false, false, false, false, false, false, false, false, false, false, false, false] rfl ?_
    refine wh_take R11 1 (.slice A us.length c) rfl (by kernel_rfl) (by kernel_rfl) (by kernel_rfl) (fun w' M' => (by kernel_rfl)) hS14 #[true, true, false, false, false, false, false, false, false, false, false, false, false, false, false, false, false, false, false, false, false, false, false, false, false] rfl ?_
    refine wh_take R11 2 (.int .i64 (i : Int)) rfl (by kernel_rfl) (by kernel_rfl) (by kernel_rfl) (fun w' M' => (by kernel_rfl)) hS14 #[true, true, true, false, false, false, false, false, false, false, false, false, false, false, false, false, false, false, false, false, false, false, false, false, false] rfl ?_
    obtain ⟨b15, o16, eA17⟩ := RdK.addr (hr.keep hS14.keep (fun _ _ h => h)) (j := i * 4) (by rw [flat_len]; omega)
    refine wh_take R11 3 (.pointer (some ⟨b15, o16 + i * 4, none⟩)) rfl (by kernel_rfl) (by kernel_rfl) (by kernel_rfl) (fun w' M' => (run_indexSliceA 32 (.tmp 12) (.tmp 13) rfl A ⟨b15, o16, none⟩ eA17 us.length c .i64 i (by kernel_rfl) (by kernel_rfl) Try.underlying32 4 (by kernel_rfl) (by omega) ⟨b15, o16 + i * 4, none⟩ (addr_atK _ _ _ _))) hS14 #[true, true, true, true, false, false, false, false, false, false, false, false, false, false, false, false, false, false, false, false, false, false, false, false, false] rfl ?_
    refine wh_take R11 4 (.pointer (some ⟨b15, o16 + i * 4, none⟩)) rfl (by kernel_rfl) (by kernel_rfl) (by kernel_rfl) (fun w' M' => (by kernel_rfl)) hS14 #[true, true, true, true, true, false, false, false, false, false, false, false, false, false, false, false, false, false, false, false, false, false, false, false, false] rfl ?_
    refine wh_take R11 5 (.int .i64 ((us.getD i u0).first)) rfl (by kernel_rfl) (by kernel_rfl) (by kernel_rfl) (fun w' M' => (run_load_cell 3 (.tmp 15) rfl ⟨b15, o16 + i * 4, none⟩ (by kernel_rfl) _ ((hr.keep M'.keep (fun _ _ h => h)).cellF eA17 (f := 0) (flat_get us i 0 (by omega) (by omega))) (by kernel_rfl))) hS14 #[true, true, true, true, true, true, false, false, false, false, false, false, false, false, false, false, false, false, false, false, false, false, false, false, false] rfl ?_
    refine wh_take R11 6 (.slice A us.length c) rfl (by kernel_rfl) (by kernel_rfl) (by kernel_rfl) (fun w' M' => (by kernel_rfl)) hS14 #[true, true, true, true, true, true, true, false, false, false, false, false, false, false, false, false, false, false, false, false, false, false, false, false, false] rfl ?_
    refine wh_take R11 7 (.int .i64 (i : Int)) rfl (by kernel_rfl) (by kernel_rfl) (by kernel_rfl) (fun w' M' => (by kernel_rfl)) hS14 #[true, true, true, true, true, true, true, true, false, false, false, false, false, false, false, false, false, false, false, false, false, false, false, false, false] rfl ?_
    obtain ⟨b18, o19, eA20⟩ := RdK.addr (hr.keep hS14.keep (fun _ _ h => h)) (j := i * 4) (by rw [flat_len]; omega)
    refine wh_take R11 8 (.pointer (some ⟨b18, o19 + i * 4, none⟩)) rfl (by kernel_rfl) (by kernel_rfl) (by kernel_rfl) (fun w' M' => (run_indexSliceA 32 (.tmp 17) (.tmp 18) rfl A ⟨b18, o19, none⟩ eA20 us.length c .i64 i (by kernel_rfl) (by kernel_rfl) Try.underlying32 4 (by kernel_rfl) (by omega) ⟨b18, o19 + i * 4, none⟩ (addr_atK _ _ _ _))) hS14 #[true, true, true, true, true, true, true, true, true, false, false, false, false, false, false, false, false, false, false, false, false, false, false, false, false] rfl ?_
    refine wh_take R11 9 (.pointer (some ⟨b18, o19 + i * 4 + 1, none⟩)) rfl (by kernel_rfl) (by kernel_rfl) (by kernel_rfl) (fun w' M' => (by kernel_rfl)) hS14 #[true, true, true, true, true, true, true, true, true, true, false, false, false, false, false, false, false, false, false, false, false, false, false, false, false] rfl ?_
    refine wh_take R11 10 (.int .i64 ((us.getD i u0).last)) rfl (by kernel_rfl) (by kernel_rfl) (by kernel_rfl) (fun w' M' => (run_load_cell 3 (.tmp 20) rfl ⟨b18, o19 + i * 4 + 1, none⟩ (by kernel_rfl) _ ((hr.keep M'.keep (fun _ _ h => h)).cellF eA20 (f := 1) (flat_get us i 1 (by omega) (by omega))) (by kernel_rfl))) hS14 #[true, true, true, true, true, true, true, true, true, true, true, false, false, false, false, false, false, false, false, false, false, false, false, false, false] rfl ?_
    refine wh_take R11 11 (.slice A us.length c) rfl (by kernel_rfl) (by kernel_rfl) (by kernel_rfl) (fun w' M' => (by kernel_rfl)) hS14 #[true, true, true, true, true, true, true, true, true, true, true, true, false, false, false, false, false, false, false, false, false, false, false, false, false] rfl ?_
    refine wh_take R11 12 (.int .i64 (i : Int)) rfl (by kernel_rfl) (by kernel_rfl) (by kernel_rfl) (fun w' M' => (by kernel_rfl)) hS14 #[true, true, true, true, true, true, true, true, true, true, true, true, true, false, false, false, false, false, false, false, false, false, false, false, false] rfl ?_
    obtain ⟨b21, o22, eA23⟩ := RdK.addr (hr.keep hS14.keep (fun _ _ h => h)) (j := i * 4) (by rw [flat_len]; omega)
    refine wh_take R11 13 (.pointer (some ⟨b21, o22 + i * 4, none⟩)) rfl (by kernel_rfl) (by kernel_rfl) (by kernel_rfl) (fun w' M' => (run_indexSliceA 32 (.tmp 22) (.tmp 23) rfl A ⟨b21, o22, none⟩ eA23 us.length c .i64 i (by kernel_rfl) (by kernel_rfl) Try.underlying32 4 (by kernel_rfl) (by omega) ⟨b21, o22 + i * 4, none⟩ (addr_atK _ _ _ _))) hS14 #[true, true, true, true, true, true, true, true, true, true, true, true, true, true, false, false, false, false, false, false, false, false, false, false, false] rfl ?_
    refine wh_take R11 14 (.pointer (some ⟨b21, o22 + i * 4 + 2, none⟩)) rfl (by kernel_rfl) (by kernel_rfl) (by kernel_rfl) (fun w' M' => (by kernel_rfl)) hS14 #[true, true, true, true, true, true, true, true, true, true, true, true, true, true, true, false, false, false, false, false, false, false, false, false, false] rfl ?_
    refine wh_take R11 15 (.int .i64 ((us.getD i u0).bits)) rfl (by kernel_rfl) (by kernel_rfl) (by kernel_rfl) (fun w' M' => (run_load_cell 2 (.tmp 25) rfl ⟨b21, o22 + i * 4 + 2, none⟩ (by kernel_rfl) _ ((hr.keep M'.keep (fun _ _ h => h)).cellF eA23 (f := 2) (flat_get us i 2 (by omega) (by omega))) (by kernel_rfl))) hS14 #[true, true, true, true, true, true, true, true, true, true, true, true, true, true, true, true, false, false, false, false, false, false, false, false, false] rfl ?_
    refine wh_take R11 16 (.slice A us.length c) rfl (by kernel_rfl) (by kernel_rfl) (by kernel_rfl) (fun w' M' => (by kernel_rfl)) hS14 #[true, true, true, true, true, true, true, true, true, true, true, true, true, true, true, true, true, false, false, false, false, false, false, false, false] rfl ?_
    refine wh_take R11 17 (.int .i64 (i : Int)) rfl (by kernel_rfl) (by kernel_rfl) (by kernel_rfl) (fun w' M' => (by kernel_rfl)) hS14 #[true, true, true, true, true, true, true, true, true, true, true, true, true, true, true, true, true, true, false, false, false, false, false, false, false] rfl ?_
    obtain ⟨b24, o25, eA26⟩ := RdK.addr (hr.keep hS14.keep (fun _ _ h => h)) (j := i * 4) (by rw [flat_len]; omega)
    refine wh_take R11 18 (.pointer (some ⟨b24, o25 + i * 4, none⟩)) rfl (by kernel_rfl) (by kernel_rfl) (by kernel_rfl) (fun w' M' => (run_indexSliceA 32 (.tmp 27) (.tmp 28) rfl A ⟨b24, o25, none⟩ eA26 us.length c .i64 i (by kernel_rfl) (by kernel_rfl) Try.underlying32 4 (by kernel_rfl) (by omega) ⟨b24, o25 + i * 4, none⟩ (addr_atK _ _ _ _))) hS14 #[true, true, true, true, true, true, true, true, true, true, true, true, true, true, true, true, true, true, true, false, false, false, false, false, false] rfl ?_
    refine wh_take R11 19 (.pointer (some ⟨b24, o25 + i * 4 + 3, none⟩)) rfl (by kernel_rfl) (by kernel_rfl) (by kernel_rfl) (fun w' M' => (by kernel_rfl)) hS14 #[true, true, true, true, true, true, true, true, true, true, true, true, true, true, true, true, true, true, true, true, false, false, false, false, false] rfl ?_
    refine wh_take R11 20 (.int .i64 ((us.getD i u0).fields)) rfl (by kernel_rfl) (by kernel_rfl) (by kernel_rfl) (fun w' M' => (run_load_cell 3 (.tmp 30) rfl ⟨b24, o25 + i * 4 + 3, none⟩ (by kernel_rfl) _ ((hr.keep M'.keep (fun _ _ h => h)).cellF eA26 (f := 3) (flat_get us i 3 (by omega) (by omega))) (by kernel_rfl))) hS14 #[true, true, true, true, true, true, true, true, true, true, true, true, true, true, true, true, true, true, true, true, true, false, false, false, false] rfl ?_
    refine wh_take R11 21 (.agg #[.int .i64 ((us.getD i u0).first), .int .i64 ((us.getD i u0).last), .int .i64 ((us.getD i u0).bits), .int .i64 ((us.getD i u0).fields)]) rfl (by kernel_rfl) (by kernel_rfl) (by kernel_rfl) (fun w' M' => (by kernel_rfl)) hS14 #[true, true, true, true, true, true, true, true, true, true, true, true, true, true, true, true, true, true, true, true, true, true, false, false, false] rfl ?_
    refine wh_new M13 22 (.cells #[.int .i64 ((us.getD i u0).first), .int .i64 ((us.getD i u0).last), .int .i64 ((us.getD i u0).bits), .int .i64 ((us.getD i u0).fields)] 60 (0, 0)) (fun g => .slice (some ⟨g, 0, none⟩) 1 1) rfl (by kernel_rfl) (by kernel_rfl) (by kernel_rfl) #[true, true, true, true, true, true, true, true, true, true, true, true, true, true, true, true, true, true, true, true, true, true, true, false, false] rfl ?_
    intro g27 W28 M29
    have hS30 : Mem NoS w W28 [] := M29.sub (((List.Sublist.refl []).trans (List.sublist_append_right T1 _)).cons _)
    refine ⟨hS30, ?_⟩
    obtain ⟨v31, T32, W33, hr34, O35, M36⟩ := append_unit (A := [(g27, .cells #[.int .i64 ((us.getD i u0).first), .int .i64 ((us.getD i u0).last), .int .i64 ((us.getD i u0).bits), .int .i64 ((us.getD i u0).fields)] 60 (0, 0))]) (T := T1) (B := []) M29 36 _ _ _ O1 _ 1 ([.int .i64 ((us.getD i u0).first), .int .i64 ((us.getD i u0).last), .int .i64 ((us.getD i u0).bits), .int .i64 ((us.getD i u0).fields)]) (rdk_new (M29.get 0 rfl)) rfl (by intro x hx; simp only [List.mem_cons, List.not_mem_nil, or_false] at hx; rcases hx with rfl | rfl | rfl | rfl <;> rfl) (by omega)
    have M36 : Mem NoS w W33 ((g27, .cells #[.int .i64 ((us.getD i u0).first), .int .i64 ((us.getD i u0).last), .int .i64 ((us.getD i u0).bits), .int .i64 ((us.getD i u0).fields)] 60 (0, 0)) :: (T32 ++ [])) := M36
    obtain ⟨A37, c38, rfl, hc39⟩ := O35.shape
    have hS40 : Mem NoS w W33 [] := M36.sub (((List.Sublist.refl []).trans (List.sublist_append_right T32 _)).cons _)
    refine wh_world 23 (.slice A37 (i + 1) c38) W33 rfl (by kernel_rfl) (by kernel_rfl) (run_append_op (.tmp 11) (.tmp 33) _ rfl (.slice A1 i c1) (.slice (some ⟨g27, 0, none⟩) 1 1) _ (by kernel_rfl) (by kernel_rfl) hr34) #[true, true, true, true, true, true, true, true, true, true, true, true, true, true, true, true, true, true, true, true, true, true, true, true, false] rfl hS40 ?_
    refine wh_take R11 24 (.slice A37 (i + 1) c38) rfl (by kernel_rfl) (by kernel_rfl) (by kernel_rfl) (fun w' M' => (by kernel_rfl)) hS40 #[true, true, true, true, true, true, true, true, true, true, true, true, true, true, true, true, true, true, true, true, true, true, true, true, true] rfl ?_
    refine wh_done (by kernel_rfl) ?_
    refine blk_normal ?_
    refine hK10 _ _ ?_
    try clear hK10 K10
    refine wp_frame (a' := ⟨#[.slice A us.length c, undef, (Go.Value.slice none 0 0), .slice A37 (i + 1) c38, .int .i64 (i : Int), .int .i64 (i : Int), .slice A us.length c, .int .i64 ((us.length : Nat) : Int), .bool true, (u5 9), (u5 10), .slice A1 i c1, .slice A us.length c, .int .i64 (i : Int), .pointer (some ⟨b15, o16 + i * 4, none⟩), .pointer (some ⟨b15, o16 + i * 4, none⟩), .int .i64 ((us.getD i u0).first), .slice A us.length c, .int .i64 (i : Int), .pointer (some ⟨b18, o19 + i * 4, none⟩), .pointer (some ⟨b18, o19 + i * 4 + 1, none⟩), .int .i64 ((us.getD i u0).last), .slice A us.length c, .int .i64 (i : Int), .pointer (some ⟨b21, o22 + i * 4, none⟩), .pointer (some ⟨b21, o22 + i * 4 + 2, none⟩), .int .i64 ((us.getD i u0).bits), .slice A us.length c, .int .i64 (i : Int), .pointer (some ⟨b24, o25 + i * 4, none⟩), .pointer (some ⟨b24, o25 + i * 4 + 3, none⟩), .int .i64 ((us.getD i u0).fields), .agg #[.int .i64 ((us.getD i u0).first), .int .i64 ((us.getD i u0).last), .int .i64 ((us.getD i u0).bits), .int .i64 ((us.getD i u0).fields)], .slice (some ⟨g27, 0, none⟩) 1 1, .slice A37 (i + 1) c38, undef], []⟩) (by kernel_rfl) ?_
    refine wl_region ?_
    refine st_val (.int .i64 (i : Int)) (by kernel_rfl) (by kernel_rfl) ?_
    refine st_val (.int .i64 ((i : Int) + 1)) (by kernel_rfl) (i64_of (by omega) (by kernel_rfl)) ?_
    refine st_val (.int .i64 ((i : Int) + 1)) (by kernel_rfl) (by kernel_rfl) ?_
    refine wl_nil ?_
    refine th_normal ?_
    exact ⟨_, by omega, (i + 1), A37, c38, T32, (fun zz => Array.getD #[.slice A us.length c, undef, (Go.Value.slice none 0 0), .slice A37 (i + 1) c38, .int .i64 ((i : Int) + 1), .int .i64 (i : Int), .slice A us.length c, .int .i64 ((us.length : Nat) : Int), .bool true, .int .i64 (i : Int), .int .i64 ((i : Int) + 1), .slice A1 i c1, .slice A us.length c, .int .i64 (i : Int), .pointer (some ⟨b15, o16 + i * 4, none⟩), .pointer (some ⟨b15, o16 + i * 4, none⟩), .int .i64 ((us.getD i u0).first), .slice A us.length c, .int .i64 (i : Int), .pointer (some ⟨b18, o19 + i * 4, none⟩), .pointer (some ⟨b18, o19 + i * 4 + 1, none⟩), .int .i64 ((us.getD i u0).last), .slice A us.length c, .int .i64 (i : Int), .pointer (some ⟨b21, o22 + i * 4, none⟩), .pointer (some ⟨b21, o22 + i * 4 + 2, none⟩), .int .i64 ((us.getD i u0).bits), .slice A us.length c, .int .i64 (i : Int), .pointer (some ⟨b24, o25 + i * 4, none⟩), .pointer (some ⟨b24, o25 + i * 4 + 3, none⟩), .int .i64 ((us.getD i u0).fields), .agg #[.int .i64 ((us.getD i u0).first), .int .i64 ((us.getD i u0).last), .int .i64 ((us.getD i u0).bits), .int .i64 ((us.getD i u0).fields)], .slice (some ⟨g27, 0, none⟩) 1 1, .slice A37 (i + 1) c38, undef] zz undef), ⟨⟨by omega, by rw [flat_take_succ us i (by omega)]; exact O35⟩, (M36.sub (((List.Sublist.refl []).append_left T32).cons _))⟩, rfl, (by kernel_rfl)⟩
  ·
    refine st_val (.bool false) (by kernel_rfl) (bool_of (dec_f c8) (by kernel_rfl)) ?_
    refine wl_nil ?_
    refine hK9 _ _ ?_
    try clear hK9 K9
    refine wp_cond_false (by kernel_rfl) ?_
    refine wp_exit ?_
    refine th_exit ?_
    refine th_exit ?_
    refine blk_exit ?_
    refine hK3 _ _ ?_
    try clear hK3 K3
    refine wp_seq_k (fun K41 hK41 => ?_)
    refine wl_region ?_
    refine st_val (.slice A1 i c1) (by kernel_rfl) (by kernel_rfl) ?_
    refine st_val (.slice A1 i c1) (by kernel_rfl) (by kernel_rfl) ?_
    refine wl_nil ?_
    refine hK41 _ _ ?_
    try clear hK41 K41
    refine wp_ret ?_
    exact done1 2 (.slice A1 i c1) (by kernel_rfl) (by kernel_rfl) (by kernel_rfl) ⟨_, T1, rfl, by obtain rfl : i = us.length := (by omega); rw [List.take_length] at O1; exact O1, M7.sub (List.sublist_append_left T1 [])⟩
end Go.Proofs.Ytolfkaljbgpkhaa
