/- The laws of sound are awake. -/
import Derived.Test.YtmimljaniliecaaAm
namespace Go.Proofs.Ytmimljaniliecaa
open Go.RowKit Bt

def awls : List (List Int) := [[300, -1]]
def awm : List (List Int) := [[301, -1]]
instance (ls : List (List Int)) : Decidable (PP ls) := by unfold PP; infer_instance
instance (ls : List (List Int)) : Decidable (BP ls) := by unfold BP; infer_instance
theorem aw_bp : BP awls := by decide +kernel
theorem aw_pe : pbE awls = 0 := (pb_t aw_bp).2
theorem aw_lb : pbL awls = [1, 2, 20, 183, 252, 0, 0, 0, 0, 0, 0, 0, 0, 0, 0, 0, 0, 0, 0, 0, 0, 0, 0, 0, 0, 0, 0, 0, 0, 0, 0, 0, 0, 0, 0, 0, 0, 0, 8, 95, 230] := by rw [(pb_t aw_bp).1]; decide +kernel
theorem aw_len : (pbL awls).length = 41 := by rw [aw_lb]; rfl
theorem aw_lt : ∀ x ∈ pbL awls, x < 256 := by rw [aw_lb]; decide +kernel
theorem aw_sp : SP awls := by
  intro j hj x hx
  obtain rfl : j = 0 := (by have : awls.length = 1 := rfl; omega)
  have : x ∈ [(300 : Int), -1] := hx
  simp only [List.mem_cons, List.not_mem_nil, or_false] at this
  omega
theorem aw_tt : tbA (pbL awls) ∧ intB (pbL awls) = true ∧ tbF (pbL awls) := by rw [aw_lb]; decide +kernel
theorem aw_te : tbE (pbL awls) = 0 := (tb_t aw_tt.1 aw_tt.2.1 aw_tt.2.2).1
theorem aw_tl : tbL (pbL awls) = awm := by rw [(tb_t aw_tt.1 aw_tt.2.1 aw_tt.2.2).2, aw_lb]; decide +kernel
/-- is the sound short? -/
def litB (ls : List (List Int)) (m : Int) : Bool := decide (ls.length ≤ 6 ∧ ∀ j, j < ls.length → (((ls.getD j []).length : Nat) : Int) ≤ m)
set_option maxHeartbeats 4000000 in
set_option maxRecDepth 100000 in
theorem awake_walk (w : World) : Calls Try.prog 12 #[] w fun e w' => e = .returned (.bool true) ∧ Below w.heap.size w w' := by
  refine calls_of_wp Try.func12 rfl ?_
  refine wp_frame (a' := ⟨#[undef, undef, undef, undef, undef, undef, undef, undef, undef, undef, undef, undef, undef, undef, undef, undef, undef, undef, undef, undef, undef, undef, undef, undef, undef, undef, undef, undef, undef, undef, undef, undef, undef, undef, undef, undef, undef, undef, undef, undef, undef, undef, undef, undef, undef, undef, undef, undef, undef, undef, undef, undef, undef, undef, undef], []⟩) (by kernel_rfl) ?_
  have M0 : Mem NoS w w [] := Mem.start _ _
  refine wp_seq_k (fun K1 hK1 => ?_)
  refine wl_region ?_
  refine st_val (.bool false) (by kernel_rfl) (by kernel_rfl) ?_
  refine wl_nil ?_
  refine hK1 _ _ ?_
  try clear hK1 K1
  refine wp_seq_k (fun K2 hK2 => ?_)
  refine wl_region ?_
  refine st_new M0 (.cells #[.int .i16 300, .int .i16 (-1)] 45 (0, 0)) (fun g => .slice (some ⟨g, 0, none⟩) 2 2) (by kernel_rfl) (by kernel_rfl) ?_
  intro g3 W4 M5
  refine st_new M5 (.cells #[.slice (some ⟨g3, 0, none⟩) 2 2] 39 (0, 0)) (fun g => .slice (some ⟨g, 0, none⟩) 1 1) (by kernel_rfl) (by kernel_rfl) ?_
  intro g6 W7 M8
  refine st_callR (A := [(g6, .cells #[.slice (some ⟨g3, 0, none⟩) 2 2] 39 (0, 0)), (g3, .cells #[.int .i16 300, .int .i16 (-1)] 45 (0, 0))]) (B := []) M8 (by kernel_rfl) (run_value_call 21 #[(Operand.tmp 7)] _ rfl Try.func21 (by kernel_rfl) (by kernel_rfl) _ (by kernel_rfl)) (putB_walk W7 (.slice (some ⟨g6, 0, none⟩) 1 1) awls (fun _ => (some ⟨g3, 0, none⟩)) (fun _ => 2) (⟨rdk_lit (xs := [.slice (some ⟨g3, 0, none⟩) 2 2]) (M8.get 0 rfl) rfl, fun j hj _ => by obtain rfl : j = 0 := (by have : awls.length = 1 := rfl; omega); exact rdk_lit (xs := i16s [300, -1]) (M8.get 1 rfl) rfl⟩) aw_sp (by decide)) ?_
  intro v9 T10 W11 O12 M13
  have M13 : Mem NoS w W11 ((g6, .cells #[.slice (some ⟨g3, 0, none⟩) 2 2] 39 (0, 0)) :: (g3, .cells #[.int .i16 300, .int .i16 (-1)] 45 (0, 0)) :: (T10 ++ [])) := M13
  rw [aw_pe, aw_len] at O12
  obtain ⟨v14, _, rfl, rfl, O15⟩ := O12
  obtain ⟨A16, cq17, rfl, hc18⟩ := O15.shape
  refine st_val (.tuple #[.slice A16 41 cq17, .int .i64 0]) (by kernel_rfl) (by kernel_rfl) ?_
  refine st_val (.slice A16 41 cq17) (by kernel_rfl) (by kernel_rfl) ?_
  refine st_val (.int .i64 0) (by kernel_rfl) (by kernel_rfl) ?_
  refine st_val (.slice A16 41 cq17) (by kernel_rfl) (by kernel_rfl) ?_
  refine st_val (.int .i64 0) (by kernel_rfl) (by kernel_rfl) ?_
  refine wl_nil ?_
  refine hK2 _ _ ?_
  try clear hK2 K2
  refine wp_seq_k (fun K19 hK19 => ?_)
  refine wl_region ?_
  refine st_val (.slice A16 41 cq17) (by kernel_rfl) (by kernel_rfl) ?_
  refine st_callR (A := [(g6, .cells #[.slice (some ⟨g3, 0, none⟩) 2 2] 39 (0, 0)), (g3, .cells #[.int .i16 300, .int .i16 (-1)] 45 (0, 0))]) (B := (T10 ++ [])) M13 (by kernel_rfl) (run_value_call 17 #[(Operand.tmp 12)] _ rfl Try.func17 (by kernel_rfl) (by kernel_rfl) _ (by kernel_rfl)) (takeB_walk W11 (.slice A16 41 cq17) (pbL awls) ((by rw [aw_len]; exact O15.rd (fun p hp => M13.at_ p (List.mem_cons_of_mem _ (List.mem_cons_of_mem _ (List.mem_append_left _ hp)))))) aw_lt (by rw [aw_len]; decide)) ?_
  intro v20 T21 W22 O23 M24
  have M24 : Mem NoS w W22 ((g6, .cells #[.slice (some ⟨g3, 0, none⟩) 2 2] 39 (0, 0)) :: (g3, .cells #[.int .i16 300, .int .i16 (-1)] 45 (0, 0)) :: (T21 ++ (T10 ++ []))) := M24
  rw [aw_te, aw_tl] at O23
  obtain ⟨v25, rfl, O26⟩ := O23
  obtain ⟨As27, cs28, To29, Ts30, O31, OI32, eT33⟩ := O26
  obtain ⟨A34, cq35, rfl, hc36⟩ := O31.shape
  refine st_val (.tuple #[.slice A34 1 cq35, .int .i64 0]) (by kernel_rfl) (by kernel_rfl) ?_
  refine st_val (.slice A34 1 cq35) (by kernel_rfl) (by kernel_rfl) ?_
  refine st_val (.int .i64 0) (by kernel_rfl) (by kernel_rfl) ?_
  refine st_val (.slice A34 1 cq35) (by kernel_rfl) (by kernel_rfl) ?_
  refine st_val (.int .i64 0) (by kernel_rfl) (by kernel_rfl) ?_
  refine wl_nil ?_
  refine hK19 _ _ ?_
  try clear hK19 K19
  refine wp_frame (a' := ⟨#[.bool false, .slice A16 41 cq17, .int .i64 0, .slice A34 1 cq35, .int .i64 0, .tuple #[.slice A16 41 cq17, .int .i64 0], .slice (some ⟨g3, 0, none⟩) 2 2, .slice (some ⟨g6, 0, none⟩) 1 1, .tuple #[.slice A16 41 cq17, .int .i64 0], .slice A16 41 cq17, .int .i64 0, .tuple #[.slice A34 1 cq35, .int .i64 0], .slice A16 41 cq17, .tuple #[.slice A34 1 cq35, .int .i64 0], .slice A34 1 cq35, .int .i64 0, undef, undef, undef, undef, undef, undef, undef, undef, undef, undef, undef, undef, undef, undef, undef, undef, undef, undef, undef, undef, undef, undef, undef, undef, undef, undef, undef, undef, undef, undef, undef, undef, undef, undef, undef, undef, undef, undef, undef], []⟩) (by kernel_rfl) ?_
  refine wp_seq_k (fun K37 hK37 => ?_)
  have hawl : awm.length = 1 := rfl
  have hawg : (awm.getD 0 []).length = 2 := rfl
  refine wl_region ?_
  refine st_val (.int .i64 0) (by kernel_rfl) (by kernel_rfl) ?_
  refine st_val (.bool true) (by kernel_rfl) (by kernel_rfl) ?_
  refine st_val (.bool true) (by kernel_rfl) (by kernel_rfl) ?_
  refine st_val (.int .i64 0) (by kernel_rfl) (by kernel_rfl) ?_
  refine st_val (.bool true) (by kernel_rfl) (by kernel_rfl) ?_
  refine st_val (.bool true) (by kernel_rfl) (by kernel_rfl) ?_
  refine st_val (.bool true) (by kernel_rfl) (by kernel_rfl) ?_
  refine st_val (.slice A16 41 cq17) (by kernel_rfl) (by kernel_rfl) ?_
  refine st_val (.int .i64 ((41 : Nat) : Int)) (by kernel_rfl) (by kernel_rfl) ?_
  refine st_val (.bool true) (by kernel_rfl) (bool_of (dec_t (show (((41 : Nat) : Int) : Int) = 41 by omega)) (by kernel_rfl)) ?_
  refine st_val (.bool true) (by kernel_rfl) (by kernel_rfl) ?_
  refine st_val (.bool true) (by kernel_rfl) (by kernel_rfl) ?_
  refine st_val (.slice A34 1 cq35) (by kernel_rfl) (by kernel_rfl) ?_
  refine st_val (.int .i64 ((1 : Nat) : Int)) (by kernel_rfl) (by kernel_rfl) ?_
  refine st_val (.bool true) (by kernel_rfl) (bool_of (dec_t (show (((1 : Nat) : Int) : Int) = 1 by omega)) (by kernel_rfl)) ?_
  refine st_val (.bool true) (by kernel_rfl) (by kernel_rfl) ?_
  refine st_val (.bool true) (by kernel_rfl) (by kernel_rfl) ?_
  refine st_val (.slice A34 1 cq35) (by kernel_rfl) (by kernel_rfl) ?_
  obtain ⟨b38, o39, eA40⟩ := RdK.addr ((rdP_of O31 OI32 (fun p hp => M24.at_ p ((List.mem_cons_of_mem _ (List.mem_cons_of_mem _ (List.mem_append_left _ (by rw [eT33]; exact List.mem_append_left _ hp)))))) (fun p hp => M24.at_ p ((List.mem_cons_of_mem _ (List.mem_cons_of_mem _ (List.mem_append_left _ (by rw [eT33]; exact List.mem_append_right _ hp))))))).rd) (j := 0 * 1) (by rw [pvs_length]; omega)
  refine st_val (.pointer (some ⟨b38, o39 + 0 * 1, none⟩)) (by kernel_rfl) (run_indexSliceA 28 (.tmp 33) _ rfl A34 ⟨b38, o39, none⟩ eA40 1 cq35 .i64 0 (by kernel_rfl) (by kernel_rfl) Try.underlying28 1 (by kernel_rfl) (by omega) ⟨b38, o39 + 0 * 1, none⟩ (addr_atK _ _ _ _)) ?_
  refine st_val (.slice (As27 0) (((awm).getD 0 []).length) (cs28 0)) (by kernel_rfl) (run_load_cell 39 (.tmp 34) rfl ⟨b38, o39 + 0 * 1, none⟩ (by kernel_rfl) _ (((rdP_of O31 OI32 (fun p hp => M24.at_ p ((List.mem_cons_of_mem _ (List.mem_cons_of_mem _ (List.mem_append_left _ (by rw [eT33]; exact List.mem_append_left _ hp)))))) (fun p hp => M24.at_ p ((List.mem_cons_of_mem _ (List.mem_cons_of_mem _ (List.mem_append_left _ (by rw [eT33]; exact List.mem_append_right _ hp))))))).rd).cellF eA40 (f := 0) (pvs_get awm As27 cs28 0 (by omega))) (by kernel_rfl)) ?_
  refine st_val (.int .i64 ((((awm).getD 0 []).length : Nat) : Int)) (by kernel_rfl) (by kernel_rfl) ?_
  refine st_val (.bool true) (by kernel_rfl) (bool_of (dec_t (show (((((awm).getD 0 []).length : Nat) : Int) : Int) = 2 by omega)) (by kernel_rfl)) ?_
  refine st_val (.bool true) (by kernel_rfl) (by kernel_rfl) ?_
  refine st_val (.bool true) (by kernel_rfl) (by kernel_rfl) ?_
  refine st_val (.slice A34 1 cq35) (by kernel_rfl) (by kernel_rfl) ?_
  obtain ⟨b41, o42, eA43⟩ := RdK.addr ((rdP_of O31 OI32 (fun p hp => M24.at_ p ((List.mem_cons_of_mem _ (List.mem_cons_of_mem _ (List.mem_append_left _ (by rw [eT33]; exact List.mem_append_left _ hp)))))) (fun p hp => M24.at_ p ((List.mem_cons_of_mem _ (List.mem_cons_of_mem _ (List.mem_append_left _ (by rw [eT33]; exact List.mem_append_right _ hp))))))).rd) (j := 0 * 1) (by rw [pvs_length]; omega)
  refine st_val (.pointer (some ⟨b41, o42 + 0 * 1, none⟩)) (by kernel_rfl) (run_indexSliceA 28 (.tmp 40) _ rfl A34 ⟨b41, o42, none⟩ eA43 1 cq35 .i64 0 (by kernel_rfl) (by kernel_rfl) Try.underlying28 1 (by kernel_rfl) (by omega) ⟨b41, o42 + 0 * 1, none⟩ (addr_atK _ _ _ _)) ?_
  refine st_val (.slice (As27 0) (((awm).getD 0 []).length) (cs28 0)) (by kernel_rfl) (run_load_cell 39 (.tmp 41) rfl ⟨b41, o42 + 0 * 1, none⟩ (by kernel_rfl) _ (((rdP_of O31 OI32 (fun p hp => M24.at_ p ((List.mem_cons_of_mem _ (List.mem_cons_of_mem _ (List.mem_append_left _ (by rw [eT33]; exact List.mem_append_left _ hp)))))) (fun p hp => M24.at_ p ((List.mem_cons_of_mem _ (List.mem_cons_of_mem _ (List.mem_append_left _ (by rw [eT33]; exact List.mem_append_right _ hp))))))).rd).cellF eA43 (f := 0) (pvs_get awm As27 cs28 0 (by omega))) (by kernel_rfl)) ?_
  obtain ⟨b44, o45, eA46⟩ := RdK.addr (((rdP_of O31 OI32 (fun p hp => M24.at_ p ((List.mem_cons_of_mem _ (List.mem_cons_of_mem _ (List.mem_append_left _ (by rw [eT33]; exact List.mem_append_left _ hp)))))) (fun p hp => M24.at_ p ((List.mem_cons_of_mem _ (List.mem_cons_of_mem _ (List.mem_append_left _ (by rw [eT33]; exact List.mem_append_right _ hp))))))).ch 0 (by omega) (by omega))) (j := 0 * 1) (by rw [i16s_length]; omega)
  refine st_val (.pointer (some ⟨b44, o45 + 0 * 1, none⟩)) (by kernel_rfl) (run_indexSliceA 39 (.tmp 42) _ rfl (As27 0) ⟨b44, o45, none⟩ eA46 (((awm).getD 0 []).length) (cs28 0) .i64 0 (by kernel_rfl) (by kernel_rfl) Try.underlying39 1 (by kernel_rfl) (by omega) ⟨b44, o45 + 0 * 1, none⟩ (addr_atK _ _ _ _)) ?_
  refine st_val (.int .i16 (((awm).getD 0 []).getD 0 0)) (by kernel_rfl) (run_load_cell 45 (.tmp 43) rfl ⟨b44, o45 + 0 * 1, none⟩ (by kernel_rfl) _ ((((rdP_of O31 OI32 (fun p hp => M24.at_ p ((List.mem_cons_of_mem _ (List.mem_cons_of_mem _ (List.mem_append_left _ (by rw [eT33]; exact List.mem_append_left _ hp)))))) (fun p hp => M24.at_ p ((List.mem_cons_of_mem _ (List.mem_cons_of_mem _ (List.mem_append_left _ (by rw [eT33]; exact List.mem_append_right _ hp))))))).ch 0 (by omega) (by omega))).cellF eA46 (f := 0) (i16s_get ((awm).getD 0 []) 0 (by omega))) (by kernel_rfl)) ?_
  refine st_val (.bool true) (by kernel_rfl) (bool_of (dec_t (show (((awm).getD 0 []).getD 0 0 : Int) = 301 from (by decide))) (by kernel_rfl)) ?_
  refine st_val (.bool true) (by kernel_rfl) (by kernel_rfl) ?_
  refine st_val (.bool true) (by kernel_rfl) (by kernel_rfl) ?_
  refine st_val (.slice A34 1 cq35) (by kernel_rfl) (by kernel_rfl) ?_
  obtain ⟨b47, o48, eA49⟩ := RdK.addr ((rdP_of O31 OI32 (fun p hp => M24.at_ p ((List.mem_cons_of_mem _ (List.mem_cons_of_mem _ (List.mem_append_left _ (by rw [eT33]; exact List.mem_append_left _ hp)))))) (fun p hp => M24.at_ p ((List.mem_cons_of_mem _ (List.mem_cons_of_mem _ (List.mem_append_left _ (by rw [eT33]; exact List.mem_append_right _ hp))))))).rd) (j := 0 * 1) (by rw [pvs_length]; omega)
  refine st_val (.pointer (some ⟨b47, o48 + 0 * 1, none⟩)) (by kernel_rfl) (run_indexSliceA 28 (.tmp 48) _ rfl A34 ⟨b47, o48, none⟩ eA49 1 cq35 .i64 0 (by kernel_rfl) (by kernel_rfl) Try.underlying28 1 (by kernel_rfl) (by omega) ⟨b47, o48 + 0 * 1, none⟩ (addr_atK _ _ _ _)) ?_
  refine st_val (.slice (As27 0) (((awm).getD 0 []).length) (cs28 0)) (by kernel_rfl) (run_load_cell 39 (.tmp 49) rfl ⟨b47, o48 + 0 * 1, none⟩ (by kernel_rfl) _ (((rdP_of O31 OI32 (fun p hp => M24.at_ p ((List.mem_cons_of_mem _ (List.mem_cons_of_mem _ (List.mem_append_left _ (by rw [eT33]; exact List.mem_append_left _ hp)))))) (fun p hp => M24.at_ p ((List.mem_cons_of_mem _ (List.mem_cons_of_mem _ (List.mem_append_left _ (by rw [eT33]; exact List.mem_append_right _ hp))))))).rd).cellF eA49 (f := 0) (pvs_get awm As27 cs28 0 (by omega))) (by kernel_rfl)) ?_
  obtain ⟨b50, o51, eA52⟩ := RdK.addr (((rdP_of O31 OI32 (fun p hp => M24.at_ p ((List.mem_cons_of_mem _ (List.mem_cons_of_mem _ (List.mem_append_left _ (by rw [eT33]; exact List.mem_append_left _ hp)))))) (fun p hp => M24.at_ p ((List.mem_cons_of_mem _ (List.mem_cons_of_mem _ (List.mem_append_left _ (by rw [eT33]; exact List.mem_append_right _ hp))))))).ch 0 (by omega) (by omega))) (j := 1 * 1) (by rw [i16s_length]; omega)
  refine st_val (.pointer (some ⟨b50, o51 + 1 * 1, none⟩)) (by kernel_rfl) (run_indexSliceA 39 (.tmp 50) _ rfl (As27 0) ⟨b50, o51, none⟩ eA52 (((awm).getD 0 []).length) (cs28 0) .i64 1 (by kernel_rfl) (by kernel_rfl) Try.underlying39 1 (by kernel_rfl) (by omega) ⟨b50, o51 + 1 * 1, none⟩ (addr_atK _ _ _ _)) ?_
  refine st_val (.int .i16 (((awm).getD 0 []).getD 1 0)) (by kernel_rfl) (run_load_cell 45 (.tmp 51) rfl ⟨b50, o51 + 1 * 1, none⟩ (by kernel_rfl) _ ((((rdP_of O31 OI32 (fun p hp => M24.at_ p ((List.mem_cons_of_mem _ (List.mem_cons_of_mem _ (List.mem_append_left _ (by rw [eT33]; exact List.mem_append_left _ hp)))))) (fun p hp => M24.at_ p ((List.mem_cons_of_mem _ (List.mem_cons_of_mem _ (List.mem_append_left _ (by rw [eT33]; exact List.mem_append_right _ hp))))))).ch 0 (by omega) (by omega))).cellF eA52 (f := 0) (i16s_get ((awm).getD 0 []) 1 (by omega))) (by kernel_rfl)) ?_
  refine st_val (.bool true) (by kernel_rfl) (bool_of (dec_t (show (((awm).getD 0 []).getD 1 0 : Int) = -1 from (by decide))) (by kernel_rfl)) ?_
  refine st_val (.bool true) (by kernel_rfl) (by kernel_rfl) ?_
  refine st_val (.bool true) (by kernel_rfl) (by kernel_rfl) ?_
  refine wl_nil ?_
  refine hK37 _ _ ?_
  try clear hK37 K37
  refine wp_frame (a' := ⟨#[.bool true, .slice A16 41 cq17, .int .i64 0, .slice A34 1 cq35, .int .i64 0, .tuple #[.slice A16 41 cq17, .int .i64 0], .slice (some ⟨g3, 0, none⟩) 2 2, .slice (some ⟨g6, 0, none⟩) 1 1, .tuple #[.slice A16 41 cq17, .int .i64 0], .slice A16 41 cq17, .int .i64 0, .tuple #[.slice A34 1 cq35, .int .i64 0], .slice A16 41 cq17, .tuple #[.slice A34 1 cq35, .int .i64 0], .slice A34 1 cq35, .int .i64 0, .int .i64 0, .bool true, .bool true, .int .i64 0, .bool true, .bool true, .bool true, .slice A16 41 cq17, .int .i64 ((41 : Nat) : Int), .bool true, .bool true, .bool true, .slice A34 1 cq35, .int .i64 ((1 : Nat) : Int), .bool true, .bool true, .bool true, .slice A34 1 cq35, .pointer (some ⟨b38, o39 + 0 * 1, none⟩), .slice (As27 0) (((awm).getD 0 []).length) (cs28 0), .int .i64 ((((awm).getD 0 []).length : Nat) : Int), .bool true, .bool true, .bool true, .slice A34 1 cq35, .pointer (some ⟨b41, o42 + 0 * 1, none⟩), .slice (As27 0) (((awm).getD 0 []).length) (cs28 0), .pointer (some ⟨b44, o45 + 0 * 1, none⟩), .int .i16 (((awm).getD 0 []).getD 0 0), .bool true, .bool true, .bool true, .slice A34 1 cq35, .pointer (some ⟨b47, o48 + 0 * 1, none⟩), .slice (As27 0) (((awm).getD 0 []).length) (cs28 0), .pointer (some ⟨b50, o51 + 1 * 1, none⟩), .int .i16 (((awm).getD 0 []).getD 1 0), .bool true, .bool true], []⟩) (by kernel_rfl) ?_
  refine wp_ret ?_
  exact done1 0 (.bool true) (by kernel_rfl) (by kernel_rfl) (by kernel_rfl) ⟨rfl, M24.toBelow⟩
set_option maxHeartbeats 4000000 in
set_option maxRecDepth 100000 in
theorem light_walk (w : World) (v : Value) (ls : List (List Int)) (As : Nat → Option Addr) (cs : Nat → Nat) (hP : RdP w v ls As cs) (m : Int) : Calls Try.prog 20 #[v, .int .i64 m] w fun e w' => e = .returned (.bool (litB ls m)) ∧ Below w.heap.size w w' := by
  obtain ⟨A, c, rfl, hc⟩ := hP.rd.shape
  refine calls_of_wp Try.func20 rfl ?_
  refine wp_frame (a' := ⟨#[.slice A ls.length c, .int .i64 m, undef, undef, undef, undef, undef, undef, undef, undef, undef, undef, undef, undef, undef, undef, undef, undef, undef, undef, undef, undef], []⟩) (by kernel_rfl) ?_
  have M0 : Mem NoS w w [] := Mem.start _ _
  refine wp_seq_k (fun K1 hK1 => ?_)
  refine wl_region ?_
  refine st_val (.bool false) (by kernel_rfl) (by kernel_rfl) ?_
  refine wl_nil ?_
  refine hK1 _ _ ?_
  try clear hK1 K1
  refine wp_seq_k (fun K2 hK2 => ?_)
  refine wp_seq_k (fun K3 hK3 => ?_)
  refine wl_region ?_
  refine st_val (.slice A ls.length c) (by kernel_rfl) (by kernel_rfl) ?_
  refine st_val (.int .i64 ((ls.length : Nat) : Int)) (by kernel_rfl) (by kernel_rfl) ?_
  rcases Decidable.em ((((ls.length : Nat) : Int) : Int) > 6) with c8 | c8
  ·
    refine st_val (.bool true) (by kernel_rfl) (bool_of (dec_t c8) (by kernel_rfl)) ?_
    refine wl_nil ?_
    refine hK3 _ _ ?_
    try clear hK3 K3
    refine wp_cond_true (by kernel_rfl) ?_
    refine wp_seq_k (fun K4 hK4 => ?_)
    refine wl_region ?_
    refine st_val (.bool false) (by kernel_rfl) (by kernel_rfl) ?_
    refine wl_nil ?_
    refine hK4 _ _ ?_
    try clear hK4 K4
    refine wp_ret ?_
    refine th_ret ?_
    exact done1 4 (.bool false) (by kernel_rfl) (by kernel_rfl) (by kernel_rfl) ⟨by rw [show litB ls m = false from decide_eq_false (fun h => by first | (have := h.1; omega) | (have := h.2 i (by omega); omega))], M0.toBelow⟩
  ·
    refine st_val (.bool false) (by kernel_rfl) (bool_of (dec_f c8) (by kernel_rfl)) ?_
    refine wl_nil ?_
    refine hK3 _ _ ?_
    try clear hK3 K3
    refine wp_cond_false (by kernel_rfl) ?_
    refine wp_skip ?_
    refine hK2 _ _ ?_
    try clear hK2 K2
    refine wp_seq_k (fun K5 hK5 => ?_)
    refine wp_seq_k (fun K6 hK6 => ?_)
    refine wl_region ?_
    refine st_val (.int .i64 0) (by kernel_rfl) (by kernel_rfl) ?_
    refine wl_nil ?_
    refine hK6 _ _ ?_
    try clear hK6 K6
    refine wp_block ?_
    refine wp_loop_ghost (fun gn a' w' => ∃ (i : Nat) (u7 : Nat → Value), ((i ≤ ls.length ∧ ∀ j, j < i → (((ls.getD j []).length : Nat) : Int) ≤ m) ∧ Mem NoS w w' []) ∧ gn = ls.length - i ∧ a' = ⟨#[.slice A ls.length c, .int .i64 m, undef, undef, (u7 4), .int .i64 ((i : Nat) : Int), .slice A ls.length c, .int .i64 ((ls.length : Nat) : Int), .bool false, (u7 9), (u7 10), (u7 11), (u7 12), (u7 13), (u7 14), (u7 15), (u7 16), (u7 17), (u7 18), (u7 19), (u7 20), (u7 21)], []⟩) _ ⟨0, (fun zz => Array.getD #[.slice A ls.length c, .int .i64 m, undef, undef, .bool false, .int .i64 0, .slice A ls.length c, .int .i64 ((ls.length : Nat) : Int), .bool false, undef, undef, undef, undef, undef, undef, undef, undef, undef, undef, undef, undef, undef] zz undef), ⟨⟨by omega, fun j hj => by omega⟩, M0⟩, rfl, (by kernel_rfl)⟩ ?_
    rintro gn _ W8 ⟨i, u7, ⟨⟨ri, hj⟩, M9⟩, rfl, rfl⟩
    refine wp_seq_k (fun K10 hK10 => ?_)
    refine wp_seq_k (fun K11 hK11 => ?_)
    refine wl_region ?_
    refine st_val (.int .i64 ((i : Nat) : Int)) (by kernel_rfl) (by kernel_rfl) ?_
    refine st_val (.slice A ls.length c) (by kernel_rfl) (by kernel_rfl) ?_
    refine st_val (.int .i64 ((ls.length : Nat) : Int)) (by kernel_rfl) (by kernel_rfl) ?_
    rcases Decidable.em ((((i : Nat) : Int) : Int) < ((ls.length : Nat) : Int)) with c12 | c12
    ·
      refine st_val (.bool true) (by kernel_rfl) (bool_of (dec_t c12) (by kernel_rfl)) ?_
      refine wl_nil ?_
      refine hK11 _ _ ?_
      try clear hK11 K11
      refine wp_cond_true (by kernel_rfl) ?_
      refine wp_skip ?_
      refine hK10 _ _ ?_
      try clear hK10 K10
      refine wp_seq_k (fun K12 hK12 => ?_)
      refine wp_block ?_
      refine wp_seq_k (fun K13 hK13 => ?_)
      refine wl_region ?_
      refine st_val (.slice A ls.length c) (by kernel_rfl) (by kernel_rfl) ?_
      refine st_val (.int .i64 ((i : Nat) : Int)) (by kernel_rfl) (by kernel_rfl) ?_
      obtain ⟨b14, o15, eA16⟩ := RdK.addr (hP.rd.keep M9.keep (fun _ _ h => h)) (j := i * 1) (by rw [pvs_length]; omega)
      refine st_val (.pointer (some ⟨b14, o15 + i * 1, none⟩)) (by kernel_rfl) (run_indexSliceA 28 (.tmp 15) (.tmp 16) rfl A ⟨b14, o15, none⟩ eA16 ls.length c .i64 i (by kernel_rfl) (by kernel_rfl) Try.underlying28 1 (by kernel_rfl) (by omega) ⟨b14, o15 + i * 1, none⟩ (addr_atK _ _ _ _)) ?_
      refine st_val (.slice (As i) ((ls.getD i []).length) (cs i)) (by kernel_rfl) (run_load_cell 39 (.tmp 17) rfl ⟨b14, o15 + i * 1, none⟩ (by kernel_rfl) _ ((hP.rd.keep M9.keep (fun _ _ h => h)).cellF eA16 (f := 0) (pvs_get ls As cs i (by omega))) (by kernel_rfl)) ?_
      refine st_val (.int .i64 (((ls.getD i []).length : Nat) : Int)) (by kernel_rfl) (by kernel_rfl) ?_
      refine st_val (.int .i64 m) (by kernel_rfl) (by kernel_rfl) ?_
      rcases Decidable.em (((((ls.getD i []).length : Nat) : Int) : Int) > m) with c21 | c21
      ·
        refine st_val (.bool true) (by kernel_rfl) (bool_of (dec_t c21) (by kernel_rfl)) ?_
        refine wl_nil ?_
        refine hK13 _ _ ?_
        try clear hK13 K13
        refine wp_cond_true (by kernel_rfl) ?_
        refine wp_seq_k (fun K17 hK17 => ?_)
        refine wl_region ?_
        refine st_val (.bool false) (by kernel_rfl) (by kernel_rfl) ?_
        refine wl_nil ?_
        refine hK17 _ _ ?_
        try clear hK17 K17
        refine wp_ret ?_
        refine blk_ret ?_
        refine th_ret ?_
        refine th_ret ?_
        refine blk_ret ?_
        refine th_ret ?_
        exact done1 4 (.bool false) (by kernel_rfl) (by kernel_rfl) (by kernel_rfl) ⟨by rw [show litB ls m = false from decide_eq_false (fun h => by first | (have := h.1; omega) | (have := h.2 i (by omega); omega))], M9.toBelow⟩
      ·
        refine st_val (.bool false) (by kernel_rfl) (bool_of (dec_f c21) (by kernel_rfl)) ?_
        refine wl_nil ?_
        refine hK13 _ _ ?_
        try clear hK13 K13
        refine wp_cond_false (by kernel_rfl) ?_
        refine wp_skip ?_
        refine blk_normal ?_
        refine hK12 _ _ ?_
        try clear hK12 K12
        refine wl_region ?_
        refine st_val (.int .i64 ((i : Nat) : Int)) (by kernel_rfl) (by kernel_rfl) ?_
        refine st_val (.int .i64 (((i : Nat) : Int) + 1)) (by kernel_rfl) (i64_of (by omega) (by kernel_rfl)) ?_
        refine st_val (.int .i64 (((i : Nat) : Int) + 1)) (by kernel_rfl) (by kernel_rfl) ?_
        refine wl_nil ?_
        refine th_normal ?_
        exact ⟨_, by omega, (i + 1), (fun zz => Array.getD #[.slice A ls.length c, .int .i64 m, undef, undef, (u7 4), .int .i64 (((i : Nat) : Int) + 1), .slice A ls.length c, .int .i64 ((ls.length : Nat) : Int), .bool false, .int .i64 ((i : Nat) : Int), .slice A ls.length c, .int .i64 ((ls.length : Nat) : Int), .bool true, .int .i64 ((i : Nat) : Int), .int .i64 (((i : Nat) : Int) + 1), .slice A ls.length c, .int .i64 ((i : Nat) : Int), .pointer (some ⟨b14, o15 + i * 1, none⟩), .slice (As i) ((ls.getD i []).length) (cs i), .int .i64 (((ls.getD i []).length : Nat) : Int), .int .i64 m, .bool false] zz undef), ⟨⟨by omega, fun j h => by by_cases e : j = i; subst e; omega; exact hj j (by omega)⟩, M9⟩, rfl, (by kernel_rfl)⟩
    ·
      refine st_val (.bool false) (by kernel_rfl) (bool_of (dec_f c12) (by kernel_rfl)) ?_
      refine wl_nil ?_
      refine hK11 _ _ ?_
      try clear hK11 K11
      refine wp_cond_false (by kernel_rfl) ?_
      refine wp_exit ?_
      refine th_exit ?_
      refine th_exit ?_
      refine blk_exit ?_
      refine hK5 _ _ ?_
      try clear hK5 K5
      refine wp_seq_k (fun K18 hK18 => ?_)
      refine wl_region ?_
      refine st_val (.bool true) (by kernel_rfl) (by kernel_rfl) ?_
      refine wl_nil ?_
      refine hK18 _ _ ?_
      try clear hK18 K18
      refine wp_ret ?_
      exact done1 4 (.bool true) (by kernel_rfl) (by kernel_rfl) (by kernel_rfl) ⟨by rw [show litB ls m = true from decide_eq_true ⟨by omega, fun j h => hj j (by omega)⟩], M9.toBelow⟩
end Go.Proofs.Ytmimljaniliecaa
