/- The reference codes sound. -/
import Derived.Test.YtmimljaniliecaaBb
namespace Go.Proofs.Ytmimljaniliecaa
open Go.RowKit Bt
set_option maxHeartbeats 4000000 in
set_option maxRecDepth 100000 in
theorem refCut_walk (w : World) (v : Value) (ls : List (List Int)) (As : Nat → Option Addr) (cs : Nat → Nat) (hP : RdP w v ls As cs) (hPP : PP ls) (q : Nat) (hq : q < (ls.getD 0 []).length) : MakesRow Try.prog 54 #[v, .int .i64 (q : Int), .int .i64 32] w (fun v T => ∃ A c, v = .slice A ls.length c ∧ Own 39 1 (.slice A ls.length c) ls.length ((pvs (cutL ls (q)) (cutA As cs (q)) (cutC cs (q))).take ls.length) T) := by
  unfold MakesRow
  obtain ⟨A, c, rfl, hc⟩ := hP.rd.shape
  have hPk := hP
  obtain ⟨hp1, hp2, hp3⟩ := (show PP ls from hPP)
  refine calls_of_wp Try.func54 rfl ?_
  refine wp_frame (a' := ⟨#[.slice A ls.length c, .int .i64 ((q : Nat) : Int), .int .i64 32, undef, undef, undef, undef, undef, undef, undef, undef, undef, undef, undef, undef, undef, undef, undef, undef, undef, undef, undef, undef, undef, undef, undef, undef, undef, undef, undef, undef, undef, undef, undef], []⟩) (by kernel_rfl) ?_
  have M0 : Mem NoS w w [] := Mem.start _ _
  refine wp_seq_k (fun K1 hK1 => ?_)
  refine wl_region ?_
  refine st_val ((Go.Value.slice none 0 0)) (by kernel_rfl) (by kernel_rfl) ?_
  refine wl_nil ?_
  refine hK1 _ _ ?_
  try clear hK1 K1
  refine wp_seq_k (fun K2 hK2 => ?_)
  refine wl_region ?_
  refine st_val ((Go.Value.slice none 0 0)) (by kernel_rfl) (by kernel_rfl) ?_
  refine wl_nil ?_
  refine hK2 _ _ ?_
  try clear hK2 K2
  refine wp_seq_k (fun K3 hK3 => ?_)
  refine wp_seq_k (fun K4 hK4 => ?_)
  refine wl_region ?_
  refine st_val (.int .i64 0) (by kernel_rfl) (by kernel_rfl) ?_
  refine wl_nil ?_
  refine hK4 _ _ ?_
  try clear hK4 K4
  refine wp_block ?_
  refine wp_loop_ghost (fun gn a' w' => ∃ (j : Nat) (A2 : Option Addr) (c2 : Nat) (T2 : List (Nat × Obj)) (u5 : Nat → Value), ((j ≤ ls.length ∧ Own 39 1 (.slice A2 j c2) j ((pvs (cutL ls (q)) (cutA As cs (q)) (cutC cs (q))).take j) T2) ∧ Mem NoS w w' ((T2 ++ []))) ∧ gn = ls.length - j ∧ a' = ⟨#[.slice A ls.length c, .int .i64 ((q : Nat) : Int), .int .i64 32, undef, undef, undef, (Go.Value.slice none 0 0), .slice A2 j c2, .int .i64 ((j : Nat) : Int), (u5 9), (u5 10), (u5 11), (u5 12), (u5 13), (u5 14), (u5 15), (u5 16), (u5 17), (u5 18), (u5 19), (u5 20), (u5 21), (u5 22), (u5 23), (u5 24), (u5 25), (u5 26), (u5 27), (u5 28), (u5 29), (u5 30), (u5 31), (u5 32), undef], []⟩) _ ⟨0, none, 0, ([]), (fun zz => Array.getD #[.slice A ls.length c, .int .i64 ((q : Nat) : Int), .int .i64 32, undef, undef, undef, (Go.Value.slice none 0 0), (Go.Value.slice none 0 0), .int .i64 0, undef, undef, undef, undef, undef, undef, undef, undef, undef, undef, undef, undef, undef, undef, undef, undef, undef, undef, undef, undef, undef, undef, undef, undef, undef] zz undef), ⟨⟨by omega, Own.nil _ _⟩, M0⟩, rfl, (by kernel_rfl)⟩ ?_
  rintro gn _ W6 ⟨j, A2, c2, T2, u5, ⟨⟨rj, O2⟩, M7⟩, rfl, rfl⟩
  refine wp_seq_k (fun K8 hK8 => ?_)
  refine wp_seq_k (fun K9 hK9 => ?_)
  refine wl_region ?_
  refine st_val (.int .i64 ((j : Nat) : Int)) (by kernel_rfl) (by kernel_rfl) ?_
  refine st_val (.slice A ls.length c) (by kernel_rfl) (by kernel_rfl) ?_
  refine st_val (.int .i64 ((ls.length : Nat) : Int)) (by kernel_rfl) (by kernel_rfl) ?_
  rcases Decidable.em ((((j : Nat) : Int) : Int) < ((ls.length : Nat) : Int)) with c12 | c12
  ·
    refine st_val (.bool true) (by kernel_rfl) (bool_of (dec_t c12) (by kernel_rfl)) ?_
    refine wl_nil ?_
    refine hK9 _ _ ?_
    try clear hK9 K9
    refine wp_cond_true (by kernel_rfl) ?_
    refine wp_skip ?_
    refine hK8 _ _ ?_
    try clear hK8 K8
    refine wp_seq_k (fun K10 hK10 => ?_)
    refine wp_block ?_
    have hlj := hp3 j (by omega)
    have hcj := RdK.cap (hP.ch j (by omega) (by omega))
    refine wh_region (fun w' => Mem NoS w w' []) (by kernel_rfl) (by kernel_rfl) (fun d _ _ _ _ h => by cases d <;> exact h) 19 rfl #[false, false, false, false, false, false, false, false, false, false, false, false, false, false, false, false, false, false, false] rfl ?_
    intro R11
    have M13 := M7.drew
    have hS14 : Mem NoS w W6.drew [] := M13.sub ((List.Sublist.refl []).trans (List.sublist_append_right T2 _))
    refine wh_take R11 0 (.slice A2 j c2) rfl (by kernel_rfl) (by kernel_rfl) (by kernel_rfl) (fun w' M' => (by kernel_rfl)) hS14 #[true, false, false, false, false, false, false, false, false, false, false, false, false, false, false, false, false, false, false] rfl ?_
    refine wh_take R11 1 (.slice A ls.length c) rfl (by kernel_rfl) (by kernel_rfl) (by kernel_rfl) (fun w' M' => (by kernel_rfl)) hS14 #[true, true, false, false, false, false, false, false, false, false, false, false, false, false, false, false, false, false, false] rfl ?_
    refine wh_take R11 2 (.int .i64 ((j : Nat) : Int)) rfl (by kernel_rfl) (by kernel_rfl) (by kernel_rfl) (fun w' M' => (by kernel_rfl)) hS14 #[true, true, true, false, false, false, false, false, false, false, false, false, false, false, false, false, false, false, false] rfl ?_
    obtain ⟨b15, o16, eA17⟩ := RdK.addr (hP.rd.keep hS14.keep (fun _ _ h => h)) (j := j * 1) (by rw [pvs_length]; omega)
    refine wh_take R11 3 (.pointer (some ⟨b15, o16 + j * 1, none⟩)) rfl (by kernel_rfl) (by kernel_rfl) (by kernel_rfl) (fun w' M' => (run_indexSliceA 28 (.tmp 16) (.tmp 17) rfl A ⟨b15, o16, none⟩ eA17 ls.length c .i64 j (by kernel_rfl) (by kernel_rfl) Try.underlying28 1 (by kernel_rfl) (by omega) ⟨b15, o16 + j * 1, none⟩ (addr_atK _ _ _ _))) hS14 #[true, true, true, true, false, false, false, false, false, false, false, false, false, false, false, false, false, false, false] rfl ?_
    refine wh_take R11 4 (.slice (As j) ((ls.getD j []).length) (cs j)) rfl (by kernel_rfl) (by kernel_rfl) (by kernel_rfl) (fun w' M' => (run_load_cell 39 (.tmp 18) rfl ⟨b15, o16 + j * 1, none⟩ (by kernel_rfl) _ ((hP.rd.keep M'.keep (fun _ _ h => h)).cellF eA17 (f := 0) (pvs_get ls As cs j (by omega))) (by kernel_rfl))) hS14 #[true, true, true, true, true, false, false, false, false, false, false, false, false, false, false, false, false, false, false] rfl ?_
    refine wh_take R11 5 (.int .i64 ((q : Nat) : Int)) rfl (by kernel_rfl) (by kernel_rfl) (by kernel_rfl) (fun w' M' => (by kernel_rfl)) hS14 #[true, true, true, true, true, true, false, false, false, false, false, false, false, false, false, false, false, false, false] rfl ?_
    refine wh_take R11 6 (.int .i64 ((q : Nat) : Int)) rfl (by kernel_rfl) (by kernel_rfl) (by kernel_rfl) (fun w' M' => (by kernel_rfl)) hS14 #[true, true, true, true, true, true, true, false, false, false, false, false, false, false, false, false, false, false, false] rfl ?_
    refine wh_take R11 7 (.int .i64 32) rfl (by kernel_rfl) (by kernel_rfl) (by kernel_rfl) (fun w' M' => (by kernel_rfl)) hS14 #[true, true, true, true, true, true, true, true, false, false, false, false, false, false, false, false, false, false, false] rfl ?_
    refine wh_take R11 8 (.int .i64 ((q + 32 : Nat) : Int)) rfl (by kernel_rfl) (by kernel_rfl) (by kernel_rfl) (fun w' M' => (int_of (show ((q : Nat) : Int) + 32 = ((q + 32 : Nat) : Int) by omega) (i64_of (by omega) (by kernel_rfl)))) hS14 #[true, true, true, true, true, true, true, true, true, false, false, false, false, false, false, false, false, false, false] rfl ?_
    refine wh_take R11 9 (.slice A ls.length c) rfl (by kernel_rfl) (by kernel_rfl) (by kernel_rfl) (fun w' M' => (by kernel_rfl)) hS14 #[true, true, true, true, true, true, true, true, true, true, false, false, false, false, false, false, false, false, false] rfl ?_
    refine wh_take R11 10 (.int .i64 ((j : Nat) : Int)) rfl (by kernel_rfl) (by kernel_rfl) (by kernel_rfl) (fun w' M' => (by kernel_rfl)) hS14 #[true, true, true, true, true, true, true, true, true, true, true, false, false, false, false, false, false, false, false] rfl ?_
    obtain ⟨b18, o19, eA20⟩ := RdK.addr (hP.rd.keep hS14.keep (fun _ _ h => h)) (j := j * 1) (by rw [pvs_length]; omega)
    refine wh_take R11 11 (.pointer (some ⟨b18, o19 + j * 1, none⟩)) rfl (by kernel_rfl) (by kernel_rfl) (by kernel_rfl) (fun w' M' => (run_indexSliceA 28 (.tmp 24) (.tmp 25) rfl A ⟨b18, o19, none⟩ eA20 ls.length c .i64 j (by kernel_rfl) (by kernel_rfl) Try.underlying28 1 (by kernel_rfl) (by omega) ⟨b18, o19 + j * 1, none⟩ (addr_atK _ _ _ _))) hS14 #[true, true, true, true, true, true, true, true, true, true, true, true, false, false, false, false, false, false, false] rfl ?_
    refine wh_take R11 12 (.slice (As j) ((ls.getD j []).length) (cs j)) rfl (by kernel_rfl) (by kernel_rfl) (by kernel_rfl) (fun w' M' => (run_load_cell 39 (.tmp 26) rfl ⟨b18, o19 + j * 1, none⟩ (by kernel_rfl) _ ((hP.rd.keep M'.keep (fun _ _ h => h)).cellF eA20 (f := 0) (pvs_get ls As cs j (by omega))) (by kernel_rfl))) hS14 #[true, true, true, true, true, true, true, true, true, true, true, true, true, false, false, false, false, false, false] rfl ?_
    refine wh_take R11 13 (.int .i64 (((ls.getD j []).length : Nat) : Int)) rfl (by kernel_rfl) (by kernel_rfl) (by kernel_rfl) (fun w' M' => (by kernel_rfl)) hS14 #[true, true, true, true, true, true, true, true, true, true, true, true, true, true, false, false, false, false, false] rfl ?_
    refine wh_take R11 14 (.int .i64 ((min (q + 32) (ls.getD j []).length : Nat) : Int)) rfl (by kernel_rfl) (by kernel_rfl) (by kernel_rfl) (fun w' M' => (int_of (show (if (((ls.getD j []).length : Nat) : Int) < ((q + 32 : Nat) : Int) then (((ls.getD j []).length : Nat) : Int) else ((q + 32 : Nat) : Int)) = ((min (q + 32) (ls.getD j []).length : Nat) : Int) by omega) (by kernel_rfl))) hS14 #[true, true, true, true, true, true, true, true, true, true, true, true, true, true, true, false, false, false, false] rfl ?_
    refine wh_take R11 15 (.slice (subA (As j) (cs j) q) ((min (q + 32) (ls.getD j []).length) - q) ((cs j) - q)) rfl (by kernel_rfl) (by kernel_rfl) (by kernel_rfl) (fun w' M' => (run_sub_lh 39 45 (.tmp 19) (.tmp 20) (.tmp 29) rfl Try.underlying39 (by kernel_rfl) (As j) ((ls.getD j []).length) (cs j) (by kernel_rfl) .i64 .i64 q (min (q + 32) (ls.getD j []).length) (by kernel_rfl) (by kernel_rfl) (by omega) (by omega))) hS14 #[true, true, true, true, true, true, true, true, true, true, true, true, true, true, true, true, false, false, false] rfl ?_
    refine wh_new M13 16 (.cells #[.slice (subA (As j) (cs j) q) ((min (q + 32) (ls.getD j []).length) - q) ((cs j) - q)] 39 (0, 0)) (fun g => .slice (some ⟨g, 0, none⟩) 1 1) rfl (by kernel_rfl) (by kernel_rfl) (by kernel_rfl) #[true, true, true, true, true, true, true, true, true, true, true, true, true, true, true, true, true, false, false] rfl ?_
    intro g21 W22 M23
    have hS24 : Mem NoS w W22 [] := M23.sub (((List.Sublist.refl []).trans (List.sublist_append_right T2 _)).cons _)
    refine ⟨hS24, ?_⟩
    obtain ⟨v25, T26, W27, hr28, O29, M30⟩ := append_s16 (A := [(g21, .cells #[.slice (subA (As j) (cs j) q) ((min (q + 32) (ls.getD j []).length) - q) ((cs j) - q)] 39 (0, 0))]) (T := T2) (B := []) M23 28 _ _ _ O2 _ 1 ([.slice (subA (As j) (cs j) q) ((min (q + 32) (ls.getD j []).length) - q) ((cs j) - q)]) (rdk_lit (xs := [.slice (subA (As j) (cs j) q) ((min (q + 32) (ls.getD j []).length) - q) ((cs j) - q)]) (M23.get 0 rfl) rfl) rfl (by intro x hx; simp only [List.mem_cons, List.not_mem_nil, or_false] at hx; subst hx; rfl) (by omega)
    have M30 : Mem NoS w W27 ((g21, .cells #[.slice (subA (As j) (cs j) q) ((min (q + 32) (ls.getD j []).length) - q) ((cs j) - q)] 39 (0, 0)) :: (T26 ++ [])) := M30
    obtain ⟨A31, cq32, rfl, hc33⟩ := O29.shape
    have hS34 : Mem NoS w W27 [] := M30.sub (((List.Sublist.refl []).trans (List.sublist_append_right T26 _)).cons _)
    refine wh_world 17 (.slice A31 (j + 1) cq32) W27 rfl (by kernel_rfl) (by kernel_rfl) (run_append_op (.tmp 15) (.tmp 31) _ rfl (.slice A2 j c2) (.slice (some ⟨g21, 0, none⟩) 1 1) _ (by kernel_rfl) (by kernel_rfl) hr28) #[true, true, true, true, true, true, true, true, true, true, true, true, true, true, true, true, true, true, false] rfl hS34 ?_
    refine wh_take R11 18 (.slice A31 (j + 1) cq32) rfl (by kernel_rfl) (by kernel_rfl) (by kernel_rfl) (fun w' M' => (by kernel_rfl)) hS34 #[true, true, true, true, true, true, true, true, true, true, true, true, true, true, true, true, true, true, true] rfl ?_
    refine wh_done (by kernel_rfl) ?_
    refine blk_normal ?_
    refine hK10 _ _ ?_
    try clear hK10 K10
    refine wp_frame (a' := ⟨#[.slice A ls.length c, .int .i64 ((q : Nat) : Int), .int .i64 32, undef, undef, undef, (Go.Value.slice none 0 0), .slice A31 (j + 1) cq32, .int .i64 ((j : Nat) : Int), .int .i64 ((j : Nat) : Int), .slice A ls.length c, .int .i64 ((ls.length : Nat) : Int), .bool true, (u5 13), (u5 14), .slice A2 j c2, .slice A ls.length c, .int .i64 ((j : Nat) : Int), .pointer (some ⟨b15, o16 + j * 1, none⟩), .slice (As j) ((ls.getD j []).length) (cs j), .int .i64 ((q : Nat) : Int), .int .i64 ((q : Nat) : Int), .int .i64 32, .int .i64 ((q + 32 : Nat) : Int), .slice A ls.length c, .int .i64 ((j : Nat) : Int), .pointer (some ⟨b18, o19 + j * 1, none⟩), .slice (As j) ((ls.getD j []).length) (cs j), .int .i64 (((ls.getD j []).length : Nat) : Int), .int .i64 ((min (q + 32) (ls.getD j []).length : Nat) : Int), .slice (subA (As j) (cs j) q) ((min (q + 32) (ls.getD j []).length) - q) ((cs j) - q), .slice (some ⟨g21, 0, none⟩) 1 1, .slice A31 (j + 1) cq32, undef], []⟩) (by kernel_rfl) ?_
    refine wl_region ?_
    refine st_val (.int .i64 ((j : Nat) : Int)) (by kernel_rfl) (by kernel_rfl) ?_
    refine st_val (.int .i64 (((j : Nat) : Int) + 1)) (by kernel_rfl) (i64_of (by omega) (by kernel_rfl)) ?_
    refine st_val (.int .i64 (((j : Nat) : Int) + 1)) (by kernel_rfl) (by kernel_rfl) ?_
    refine wl_nil ?_
    refine th_normal ?_
    have M35 : Mem NoS w W27 ((T26 ++ [])) := M30.sub (((List.Sublist.refl []).append_left T26).cons _)
    have hO5 := O29
    rw [cut_snoc rfl (by omega) rfl (by omega)] at hO5
    exact ⟨_, by omega, (j + 1), A31, cq32, T26, (fun zz => Array.getD #[.slice A ls.length c, .int .i64 ((q : Nat) : Int), .int .i64 32, undef, undef, undef, (Go.Value.slice none 0 0), .slice A31 (j + 1) cq32, .int .i64 (((j : Nat) : Int) + 1), .int .i64 ((j : Nat) : Int), .slice A ls.length c, .int .i64 ((ls.length : Nat) : Int), .bool true, .int .i64 ((j : Nat) : Int), .int .i64 (((j : Nat) : Int) + 1), .slice A2 j c2, .slice A ls.length c, .int .i64 ((j : Nat) : Int), .pointer (some ⟨b15, o16 + j * 1, none⟩), .slice (As j) ((ls.getD j []).length) (cs j), .int .i64 ((q : Nat) : Int), .int .i64 ((q : Nat) : Int), .int .i64 32, .int .i64 ((q + 32 : Nat) : Int), .slice A ls.length c, .int .i64 ((j : Nat) : Int), .pointer (some ⟨b18, o19 + j * 1, none⟩), .slice (As j) ((ls.getD j []).length) (cs j), .int .i64 (((ls.getD j []).length : Nat) : Int), .int .i64 ((min (q + 32) (ls.getD j []).length : Nat) : Int), .slice (subA (As j) (cs j) q) ((min (q + 32) (ls.getD j []).length) - q) ((cs j) - q), .slice (some ⟨g21, 0, none⟩) 1 1, .slice A31 (j + 1) cq32, undef] zz undef), ⟨⟨by omega, hO5⟩, M35⟩, rfl, (by kernel_rfl)⟩
  ·
    refine st_val (.bool false) (by kernel_rfl) (bool_of (dec_f c12) (by kernel_rfl)) ?_
    refine wl_nil ?_
    refine hK9 _ _ ?_
    try clear hK9 K9
    refine wp_cond_false (by kernel_rfl) ?_
    refine wp_exit ?_
    refine th_exit ?_
    refine th_exit ?_
    refine blk_exit ?_
    refine hK3 _ _ ?_
    try clear hK3 K3
    refine wp_seq_k (fun K36 hK36 => ?_)
    refine wl_region ?_
    refine st_val (.slice A2 j c2) (by kernel_rfl) (by kernel_rfl) ?_
    refine st_val (.slice A2 j c2) (by kernel_rfl) (by kernel_rfl) ?_
    refine wl_nil ?_
    refine hK36 _ _ ?_
    try clear hK36 K36
    refine wp_ret ?_
    have hjl : j = ls.length := (by omega)
    exact done1 6 (.slice A2 j c2) (by kernel_rfl) (by kernel_rfl) (by kernel_rfl) ⟨_, T2, rfl, ⟨A2, c2, by rw [hjl], by rw [← hjl]; exact O2⟩, M7.sub (List.sublist_append_left T2 [])⟩
set_option maxHeartbeats 4000000 in
set_option maxRecDepth 100000 in
theorem refEnc_walk (w : World) (v : Value) (ls : List (List Int)) (As : Nat → Option Addr) (cs : Nat → Nat) (hP : RdP w v ls As cs) (hsp : SP ls) (hl4 : ls.length ≤ 1000000) : MakesRow Try.prog 27 #[v] w (fun v T => ∃ v1 m, v = .tuple #[v1, .int .i64 (enE ls)] ∧ m = (enL ls).length ∧ Own 5 1 v1 m (u8s (enL ls)) T) := by
  unfold MakesRow
  obtain ⟨A, c, rfl, hc⟩ := hP.rd.shape
  have hPk := hP
  refine calls_of_wp Try.func27 rfl ?_
  refine wp_frame (a' := ⟨#[.slice A ls.length c, undef, undef, undef, undef, undef, undef, undef, undef, undef, undef, undef, undef, undef, undef, undef, undef, undef, undef, undef, undef, undef, undef, undef, undef, undef, undef, undef, undef, undef, undef, undef, undef, undef, undef, undef, undef, undef, undef, undef, undef, undef, undef, undef, undef], []⟩) (by kernel_rfl) ?_
  have M0 : Mem NoS w w [] := Mem.start _ _
  refine wp_seq_k (fun K1 hK1 => ?_)
  refine wl_region ?_
  refine st_val ((Go.Value.slice none 0 0)) (by kernel_rfl) (by kernel_rfl) ?_
  refine st_val (.int .i64 0) (by kernel_rfl) (by kernel_rfl) ?_
  refine wl_nil ?_
  refine hK1 _ _ ?_
  try clear hK1 K1
  refine wp_seq_k (fun K2 hK2 => ?_)
  refine wp_seq_k (fun K3 hK3 => ?_)
  refine wl_region ?_
  refine st_val (.slice A ls.length c) (by kernel_rfl) (by kernel_rfl) ?_
  rcases Bool.eq_false_or_eq_true (ppB ls) with hpp | hpp
  ·
    obtain ⟨hp1, hp2, hp3⟩ := ppB_of hpp
    refine st_callB M0 (.bool true) (by kernel_rfl) (args := #[.slice A ls.length c]) (run_value_call 31 #[(Operand.tmp 9)] _ rfl Try.func31 (by kernel_rfl) (by kernel_rfl) _ (by kernel_rfl)) ((by have := refProper_walk w (.slice A ls.length c) ls As cs (hP.keep M0.keep (fun _ h => h)) (by omega); rw [hpp] at this; exact this)) ?_
    intro W4 M5
    refine st_val (.bool false) (by kernel_rfl) (by kernel_rfl) ?_
    refine wl_nil ?_
    refine hK3 _ _ ?_
    try clear hK3 K3
    refine wp_cond_false (by kernel_rfl) ?_
    refine wp_skip ?_
    refine hK2 _ _ ?_
    try clear hK2 K2
    refine wp_seq_k (fun K6 hK6 => ?_)
    refine wl_region ?_
    refine st_val (.slice A ls.length c) (by kernel_rfl) (by kernel_rfl) ?_
    obtain ⟨b7, o8, eA9⟩ := RdK.addr (hP.rd.keep M5.keep (fun _ _ h => h)) (j := 0 * 1) (by rw [pvs_length]; omega)
    refine st_val (.pointer (some ⟨b7, o8 + 0 * 1, none⟩)) (by kernel_rfl) (run_indexSliceA 28 (.tmp 12) _ rfl A ⟨b7, o8, none⟩ eA9 ls.length c .i64 0 (by kernel_rfl) (by kernel_rfl) Try.underlying28 1 (by kernel_rfl) (by omega) ⟨b7, o8 + 0 * 1, none⟩ (addr_atK _ _ _ _)) ?_
    refine st_val (.slice (As 0) ((ls.getD 0 []).length) (cs 0)) (by kernel_rfl) (run_load_cell 39 (.tmp 13) rfl ⟨b7, o8 + 0 * 1, none⟩ (by kernel_rfl) _ ((hP.rd.keep M5.keep (fun _ _ h => h)).cellF eA9 (f := 0) (pvs_get ls As cs 0 (by omega))) (by kernel_rfl)) ?_
    refine st_val (.int .i64 (((ls.getD 0 []).length : Nat) : Int)) (by kernel_rfl) (by kernel_rfl) ?_
    refine st_val (.int .i64 (((ls.getD 0 []).length : Nat) : Int)) (by kernel_rfl) (by kernel_rfl) ?_
    refine wl_nil ?_
    refine hK6 _ _ ?_
    try clear hK6 K6
    refine wp_seq_k (fun K10 hK10 => ?_)
    have hPP : PP ls := ⟨hp1, hp2, hp3⟩
    refine wl_region ?_
    refine st_val (.slice A ls.length c) (by kernel_rfl) (by kernel_rfl) ?_
    refine st_val (.int .i64 ((ls.length : Nat) : Int)) (by kernel_rfl) (by kernel_rfl) ?_
    refine st_val (.int .u8 ((ls.length : Nat) : Int)) (by kernel_rfl) (int_of (wrap_u8 (by omega)) (by kernel_rfl)) ?_
    refine st_val (.int .i64 (((ls.getD 0 []).length : Nat) : Int)) (by kernel_rfl) (by kernel_rfl) ?_
    refine st_val (.int .i64 (((ls.getD 0 []).length / 65536 : Nat) : Int)) (by kernel_rfl) (int_of (show (((ls.getD 0 []).length : Nat) : Int) / 2 ^ 16 = (((ls.getD 0 []).length / 65536 : Nat) : Int) from (by omega)) (run_value_bin .shr 3 48 (.tmp 19) _ rfl (.int .i64 (((ls.getD 0 []).length : Nat) : Int)) (.int .u64 16) _ (by kernel_rfl) (by kernel_rfl) (by kernel_rfl) (bin_shr (n := 16) (by decide)))) ?_
    refine st_val (.int .u8 (((ls.getD 0 []).length / 65536 : Nat) : Int)) (by kernel_rfl) (int_of (wrap_u8 (by omega)) (by kernel_rfl)) ?_
    refine st_val (.int .i64 (((ls.getD 0 []).length : Nat) : Int)) (by kernel_rfl) (by kernel_rfl) ?_
    refine st_val (.int .i64 (((ls.getD 0 []).length / 256 : Nat) : Int)) (by kernel_rfl) (int_of (show (((ls.getD 0 []).length : Nat) : Int) / 2 ^ 8 = (((ls.getD 0 []).length / 256 : Nat) : Int) from (by omega)) (run_value_bin .shr 3 48 (.tmp 22) _ rfl (.int .i64 (((ls.getD 0 []).length : Nat) : Int)) (.int .u64 8) _ (by kernel_rfl) (by kernel_rfl) (by kernel_rfl) (bin_shr (n := 8) (by decide)))) ?_
    refine st_val (.int .u8 (((ls.getD 0 []).length / 256 % 256 : Nat) : Int)) (by kernel_rfl) (int_of (wrap_u8m ((ls.getD 0 []).length / 256)) (by kernel_rfl)) ?_
    refine st_val (.int .i64 (((ls.getD 0 []).length : Nat) : Int)) (by kernel_rfl) (by kernel_rfl) ?_
    refine st_val (.int .u8 (((ls.getD 0 []).length % 256 : Nat) : Int)) (by kernel_rfl) (int_of (wrap_u8m ((ls.getD 0 []).length)) (by kernel_rfl)) ?_
    refine st_new M5 (.cells #[.int .u8 67, .int .u8 82, .int .u8 83, .int .u8 68, .int .u8 ((ls.length : Nat) : Int), .int .u8 (((ls.getD 0 []).length / 65536 : Nat) : Int), .int .u8 (((ls.getD 0 []).length / 256 % 256 : Nat) : Int), .int .u8 (((ls.getD 0 []).length % 256 : Nat) : Int)] 5 (0, 0)) (fun g => .slice (some ⟨g, 0, none⟩) 8 8) (by kernel_rfl) (by kernel_rfl) ?_
    intro g11 W12 M13
    refine st_callR (A := [(g11, .cells #[.int .u8 67, .int .u8 82, .int .u8 83, .int .u8 68, .int .u8 ((ls.length : Nat) : Int), .int .u8 (((ls.getD 0 []).length / 65536 : Nat) : Int), .int .u8 (((ls.getD 0 []).length / 256 % 256 : Nat) : Int), .int .u8 (((ls.getD 0 []).length % 256 : Nat) : Int)] 5 (0, 0))]) (B := []) M13 (by kernel_rfl) (run_value_call 37 #[(Operand.tmp 27)] _ rfl Try.func37 (by kernel_rfl) (by kernel_rfl) _ (by kernel_rfl)) (refSummed_walk W12 (.slice (some ⟨g11, 0, none⟩) 8 8) ([67, 82, 83, 68, ls.length, (ls.getD 0 []).length / 65536, (ls.getD 0 []).length / 256 % 256, (ls.getD 0 []).length % 256]) (rdk_lit (xs := u8s [67, 82, 83, 68, ls.length, (ls.getD 0 []).length / 65536, (ls.getD 0 []).length / 256 % 256, (ls.getD 0 []).length % 256]) (M13.get 0 rfl) rfl) (hdR_lt hPP) (by show 8 ≤ _; decide)) ?_
    intro v14 T15 W16 O17 M18
    have M18 : Mem NoS w W16 ((g11, .cells #[.int .u8 67, .int .u8 82, .int .u8 83, .int .u8 68, .int .u8 ((ls.length : Nat) : Int), .int .u8 (((ls.getD 0 []).length / 65536 : Nat) : Int), .int .u8 (((ls.getD 0 []).length / 256 % 256 : Nat) : Int), .int .u8 (((ls.getD 0 []).length % 256 : Nat) : Int)] 5 (0, 0)) :: (T15 ++ [])) := M18
    obtain ⟨m19, hm20, O21⟩ := O17
    obtain ⟨A22, cq23, rfl, hc24⟩ := O21.shape
    refine st_val (.slice A22 m19 cq23) (by kernel_rfl) (by kernel_rfl) ?_
    refine wl_nil ?_
    refine hK10 _ _ ?_
    try clear hK10 K10
    refine wp_frame (a' := ⟨#[.slice A ls.length c, undef, (Go.Value.slice none 0 0), .int .i64 0, .int .i64 (((ls.getD 0 []).length : Nat) : Int), .slice A22 m19 cq23, undef, undef, undef, .slice A ls.length c, .bool true, .bool false, .slice A ls.length c, .pointer (some ⟨b7, o8 + 0 * 1, none⟩), .slice (As 0) ((ls.getD 0 []).length) (cs 0), .int .i64 (((ls.getD 0 []).length : Nat) : Int), .slice A ls.length c, .int .i64 ((ls.length : Nat) : Int), .int .u8 ((ls.length : Nat) : Int), .int .i64 (((ls.getD 0 []).length : Nat) : Int), .int .i64 (((ls.getD 0 []).length / 65536 : Nat) : Int), .int .u8 (((ls.getD 0 []).length / 65536 : Nat) : Int), .int .i64 (((ls.getD 0 []).length : Nat) : Int), .int .i64 (((ls.getD 0 []).length / 256 : Nat) : Int), .int .u8 (((ls.getD 0 []).length / 256 % 256 : Nat) : Int), .int .i64 (((ls.getD 0 []).length : Nat) : Int), .int .u8 (((ls.getD 0 []).length % 256 : Nat) : Int), .slice (some ⟨g11, 0, none⟩) 8 8, .slice A22 m19 cq23, undef, undef, undef, undef, undef, undef, undef, undef, undef, undef, undef, undef, undef, undef, undef, undef], []⟩) (by kernel_rfl) ?_
    refine wp_seq_k (fun K25 hK25 => ?_)
    refine wp_seq_k (fun K26 hK26 => ?_)
    refine wl_region ?_
    refine st_val (.int .i64 0) (by kernel_rfl) (by kernel_rfl) ?_
    refine wl_nil ?_
    refine hK26 _ _ ?_
    try clear hK26 K26
    refine wp_block ?_
    have M27 : Mem NoS w W16 ((T15 ++ [])) := M18.sub (((List.Sublist.refl []).append_left T15).cons _)
    refine wp_loop_ghost (fun gn a' w' => ∃ (k : Nat) (m : Nat) (A1 : Option Addr) (c1 : Nat) (T1 : List (Nat × Obj)) (u28 : Nat → Value), ((32 * k < (ls.getD 0 []).length + 32 ∧ m = (hdL ls ++ enB ls k).length ∧ Own 5 1 (.slice A1 m c1) m (u8s (hdL ls ++ enB ls k)) T1) ∧ Mem NoS w w' ((T1 ++ []))) ∧ gn = (ls.getD 0 []).length + 32 - 32 * k ∧ a' = ⟨#[.slice A ls.length c, undef, (Go.Value.slice none 0 0), .int .i64 0, .int .i64 (((ls.getD 0 []).length : Nat) : Int), .slice A1 m c1, .int .i64 ((32 * k : Nat) : Int), (u28 7), (u28 8), .slice A ls.length c, .bool true, .bool false, .slice A ls.length c, .pointer (some ⟨b7, o8 + 0 * 1, none⟩), .slice (As 0) ((ls.getD 0 []).length) (cs 0), .int .i64 (((ls.getD 0 []).length : Nat) : Int), .slice A ls.length c, .int .i64 ((ls.length : Nat) : Int), .int .u8 ((ls.length : Nat) : Int), .int .i64 (((ls.getD 0 []).length : Nat) : Int), .int .i64 (((ls.getD 0 []).length / 65536 : Nat) : Int), .int .u8 (((ls.getD 0 []).length / 65536 : Nat) : Int), .int .i64 (((ls.getD 0 []).length : Nat) : Int), .int .i64 (((ls.getD 0 []).length / 256 : Nat) : Int), .int .u8 (((ls.getD 0 []).length / 256 % 256 : Nat) : Int), .int .i64 (((ls.getD 0 []).length : Nat) : Int), .int .u8 (((ls.getD 0 []).length % 256 : Nat) : Int), .slice (some ⟨g11, 0, none⟩) 8 8, .slice A22 m19 cq23, (u28 29), (u28 30), (u28 31), (u28 32), (u28 33), (u28 34), (u28 35), (u28 36), (u28 37), (u28 38), (u28 39), (u28 40), (u28 41), (u28 42), (u28 43), undef], []⟩) _ ⟨0, m19, A22, cq23, T15, (fun zz => Array.getD #[.slice A ls.length c, undef, (Go.Value.slice none 0 0), .int .i64 0, .int .i64 (((ls.getD 0 []).length : Nat) : Int), .slice A22 m19 cq23, .int .i64 0, undef, undef, .slice A ls.length c, .bool true, .bool false, .slice A ls.length c, .pointer (some ⟨b7, o8 + 0 * 1, none⟩), .slice (As 0) ((ls.getD 0 []).length) (cs 0), .int .i64 (((ls.getD 0 []).length : Nat) : Int), .slice A ls.length c, .int .i64 ((ls.length : Nat) : Int), .int .u8 ((ls.length : Nat) : Int), .int .i64 (((ls.getD 0 []).length : Nat) : Int), .int .i64 (((ls.getD 0 []).length / 65536 : Nat) : Int), .int .u8 (((ls.getD 0 []).length / 65536 : Nat) : Int), .int .i64 (((ls.getD 0 []).length : Nat) : Int), .int .i64 (((ls.getD 0 []).length / 256 : Nat) : Int), .int .u8 (((ls.getD 0 []).length / 256 % 256 : Nat) : Int), .int .i64 (((ls.getD 0 []).length : Nat) : Int), .int .u8 (((ls.getD 0 []).length % 256 : Nat) : Int), .slice (some ⟨g11, 0, none⟩) 8 8, .slice A22 m19 cq23, undef, undef, undef, undef, undef, undef, undef, undef, undef, undef, undef, undef, undef, undef, undef, undef] zz undef), ⟨⟨by omega, by rw [List.length_append, hdL_len]; exact hm20, by show Own _ _ _ _ (u8s (hdL ls ++ [])) _; rw [List.append_nil]; exact O21⟩, M27⟩, rfl, (by kernel_rfl)⟩ ?_
    rintro gn _ W29 ⟨k, m, A1, c1, T1, u28, ⟨⟨rk, hm, O1⟩, M30⟩, rfl, rfl⟩
    refine wp_seq_k (fun K31 hK31 => ?_)
    refine wp_seq_k (fun K32 hK32 => ?_)
    refine wl_region ?_
    refine st_val (.int .i64 ((32 * k : Nat) : Int)) (by kernel_rfl) (by kernel_rfl) ?_
    refine st_val (.int .i64 (((ls.getD 0 []).length : Nat) : Int)) (by kernel_rfl) (by kernel_rfl) ?_
    rcases Decidable.em ((((32 * k : Nat) : Int) : Int) < (((ls.getD 0 []).length : Nat) : Int)) with c31 | c31
    ·
      refine st_val (.bool true) (by kernel_rfl) (bool_of (dec_t c31) (by kernel_rfl)) ?_
      refine wl_nil ?_
      refine hK32 _ _ ?_
      try clear hK32 K32
      refine wp_cond_true (by kernel_rfl) ?_
      refine wp_skip ?_
      refine hK31 _ _ ?_
      try clear hK31 K31
      refine wp_seq_k (fun K33 hK33 => ?_)
      refine wp_block ?_
      refine wp_seq_k (fun K34 hK34 => ?_)
      have hdl := hdL_len ls
      have hel := enB_len ls k
      have hpl := pbL_len (cutL ls (32 * k))
      have hml : m = 10 + (enB ls k).length := by rw [hm, List.length_append, hdl]
      refine wl_region ?_
      refine st_val (.slice A ls.length c) (by kernel_rfl) (by kernel_rfl) ?_
      refine st_val (.int .i64 ((32 * k : Nat) : Int)) (by kernel_rfl) (by kernel_rfl) ?_
      refine st_callR (A := []) (B := (T1 ++ [])) M30 (by kernel_rfl) (run_value_call 54 #[(Operand.tmp 35), (Operand.tmp 36), (Operand.const (Value.int IntKind.i64 32))] _ rfl Try.func54 (by kernel_rfl) (by kernel_rfl) _ (by kernel_rfl)) (refCut_walk W29 (.slice A ls.length c) ls As cs (hP.keep M30.keep (fun _ h => h)) hPP (32 * k) (by omega)) ?_
      intro v35 T36 W37 O38 M39
      have M39 : Mem NoS w W37 ((T36 ++ (T1 ++ []))) := M39
      obtain ⟨A40, cq41, rfl, O42⟩ := O38
      refine st_callR (A := []) (B := (T36 ++ (T1 ++ []))) M39 (by kernel_rfl) (run_value_call 22 #[(Operand.tmp 37)] _ rfl Try.func22 (by kernel_rfl) (by kernel_rfl) _ (by kernel_rfl)) (refPutB_walk W37 (.slice A40 ls.length cq41) (cutL ls (32 * k)) (cutA As cs (32 * k)) (cutC cs (32 * k)) ((cut_rdp (hP.keep M39.keep (fun _ h => h)) O42 (by omega) (fun p hp => M39.at_ p ((List.mem_append_left _ hp))))) (cut_sp hsp _) (by rw [cutL_length]; omega)) ?_
      intro v43 T44 W45 O46 M47
      have M47 : Mem NoS w W45 ((T44 ++ (T36 ++ (T1 ++ [])))) := M47
      obtain ⟨v48, m49, rfl, hm50, O51⟩ := O46
      obtain ⟨A52, cq53, rfl, hc54⟩ := O51.shape
      refine st_val (.tuple #[.slice A52 m49 cq53, .int .i64 (pbE (cutL ls (32 * k)))]) (by kernel_rfl) (by kernel_rfl) ?_
      refine st_val (.slice A52 m49 cq53) (by kernel_rfl) (by kernel_rfl) ?_
      refine st_val (.int .i64 (pbE (cutL ls (32 * k)))) (by kernel_rfl) (by kernel_rfl) ?_
      refine st_val (.slice A52 m49 cq53) (by kernel_rfl) (by kernel_rfl) ?_
      refine st_val (.int .i64 (pbE (cutL ls (32 * k)))) (by kernel_rfl) (by kernel_rfl) ?_
      refine wl_nil ?_
      refine hK34 _ _ ?_
      try clear hK34 K34
      refine wl_region ?_
      refine st_val (.slice A1 m c1) (by kernel_rfl) (by kernel_rfl) ?_
      refine st_val (.slice A52 m49 cq53) (by kernel_rfl) (by kernel_rfl) ?_
      have M64 : Mem NoS w W45 ((T1 ++ (T44 ++ (T36 ++ [])))) := Mem.pull (A := []) [T44, T36] T1 [] M47
      obtain ⟨v55, T56, W57, hr58, O59, M60⟩ := append_u8 (A := []) (T := T1) (B := (T44 ++ (T36 ++ []))) M64 22 _ _ _ O1 _ m49 (u8s (pbL (cutL ls (32 * k)))) (O51.rd (fun p hp => M64.at_ p (List.mem_append_right _ (List.mem_append_left _ hp)))) (by rw [u8s_length]; omega) (u8s_one _) (by omega)
      have M60 : Mem NoS w W57 ((T56 ++ (T44 ++ (T36 ++ [])))) := M60
      obtain ⟨A61, cq62, rfl, hc63⟩ := O59.shape
      rw [← u8s_append] at O59
      refine st_world (.slice A61 (m + m49) cq62) W57 (by kernel_rfl) (run_append_op (.tmp 41) (.tmp 42) _ rfl (.slice A1 m c1) (.slice A52 m49 cq53) _ (by kernel_rfl) (by kernel_rfl) hr58) ?_
      refine st_val (.slice A61 (m + m49) cq62) (by kernel_rfl) (by kernel_rfl) ?_
      refine wl_nil ?_
      refine blk_normal ?_
      refine hK33 _ _ ?_
      try clear hK33 K33
      refine wp_frame (a' := ⟨#[.slice A ls.length c, undef, (Go.Value.slice none 0 0), .int .i64 0, .int .i64 (((ls.getD 0 []).length : Nat) : Int), .slice A61 (m + m49) cq62, .int .i64 ((32 * k : Nat) : Int), .slice A52 m49 cq53, .int .i64 (pbE (cutL ls (32 * k))), .slice A ls.length c, .bool true, .bool false, .slice A ls.length c, .pointer (some ⟨b7, o8 + 0 * 1, none⟩), .slice (As 0) ((ls.getD 0 []).length) (cs 0), .int .i64 (((ls.getD 0 []).length : Nat) : Int), .slice A ls.length c, .int .i64 ((ls.length : Nat) : Int), .int .u8 ((ls.length : Nat) : Int), .int .i64 (((ls.getD 0 []).length : Nat) : Int), .int .i64 (((ls.getD 0 []).length / 65536 : Nat) : Int), .int .u8 (((ls.getD 0 []).length / 65536 : Nat) : Int), .int .i64 (((ls.getD 0 []).length : Nat) : Int), .int .i64 (((ls.getD 0 []).length / 256 : Nat) : Int), .int .u8 (((ls.getD 0 []).length / 256 % 256 : Nat) : Int), .int .i64 (((ls.getD 0 []).length : Nat) : Int), .int .u8 (((ls.getD 0 []).length % 256 : Nat) : Int), .slice (some ⟨g11, 0, none⟩) 8 8, .slice A22 m19 cq23, .int .i64 ((32 * k : Nat) : Int), .int .i64 (((ls.getD 0 []).length : Nat) : Int), .bool true, (u28 32), (u28 33), .tuple #[.slice A52 m49 cq53, .int .i64 (pbE (cutL ls (32 * k)))], .slice A ls.length c, .int .i64 ((32 * k : Nat) : Int), .slice A40 ls.length cq41, .tuple #[.slice A52 m49 cq53, .int .i64 (pbE (cutL ls (32 * k)))], .slice A52 m49 cq53, .int .i64 (pbE (cutL ls (32 * k))), .slice A1 m c1, .slice A52 m49 cq53, .slice A61 (m + m49) cq62, undef], []⟩) (by kernel_rfl) ?_
      refine wl_region ?_
      refine st_val (.int .i64 ((32 * k : Nat) : Int)) (by kernel_rfl) (by kernel_rfl) ?_
      refine st_val (.int .i64 ((32 * (k + 1) : Nat) : Int)) (by kernel_rfl) (int_of (show ((32 * k : Nat) : Int) + 32 = ((32 * (k + 1) : Nat) : Int) by omega) (i64_of (by omega) (by kernel_rfl))) ?_
      refine st_val (.int .i64 ((32 * (k + 1) : Nat) : Int)) (by kernel_rfl) (by kernel_rfl) ?_
      refine wl_nil ?_
      refine th_normal ?_
      have M65 : Mem NoS w W57 ((T56 ++ [])) := M60.sub ((((List.Sublist.refl []).trans (List.sublist_append_right T36 _)).trans (List.sublist_append_right T44 _)).append_left T56)
      have hO4 := O59
      rw [List.append_assoc] at hO4
      have hm4 : m + m49 = (hdL ls ++ enB ls (k + 1)).length := (by show _ = (hdL ls ++ (enB ls k ++ pbL (cutL ls (32 * k)))).length; rw [List.length_append, List.length_append] at *; omega)
      exact ⟨_, by omega, (k + 1), (m + m49), A61, cq62, T56, (fun zz => Array.getD #[.slice A ls.length c, undef, (Go.Value.slice none 0 0), .int .i64 0, .int .i64 (((ls.getD 0 []).length : Nat) : Int), .slice A61 (m + m49) cq62, .int .i64 ((32 * (k + 1) : Nat) : Int), .slice A52 m49 cq53, .int .i64 (pbE (cutL ls (32 * k))), .slice A ls.length c, .bool true, .bool false, .slice A ls.length c, .pointer (some ⟨b7, o8 + 0 * 1, none⟩), .slice (As 0) ((ls.getD 0 []).length) (cs 0), .int .i64 (((ls.getD 0 []).length : Nat) : Int), .slice A ls.length c, .int .i64 ((ls.length : Nat) : Int), .int .u8 ((ls.length : Nat) : Int), .int .i64 (((ls.getD 0 []).length : Nat) : Int), .int .i64 (((ls.getD 0 []).length / 65536 : Nat) : Int), .int .u8 (((ls.getD 0 []).length / 65536 : Nat) : Int), .int .i64 (((ls.getD 0 []).length : Nat) : Int), .int .i64 (((ls.getD 0 []).length / 256 : Nat) : Int), .int .u8 (((ls.getD 0 []).length / 256 % 256 : Nat) : Int), .int .i64 (((ls.getD 0 []).length : Nat) : Int), .int .u8 (((ls.getD 0 []).length % 256 : Nat) : Int), .slice (some ⟨g11, 0, none⟩) 8 8, .slice A22 m19 cq23, .int .i64 ((32 * k : Nat) : Int), .int .i64 (((ls.getD 0 []).length : Nat) : Int), .bool true, .int .i64 ((32 * k : Nat) : Int), .int .i64 ((32 * (k + 1) : Nat) : Int), .tuple #[.slice A52 m49 cq53, .int .i64 (pbE (cutL ls (32 * k)))], .slice A ls.length c, .int .i64 ((32 * k : Nat) : Int), .slice A40 ls.length cq41, .tuple #[.slice A52 m49 cq53, .int .i64 (pbE (cutL ls (32 * k)))], .slice A52 m49 cq53, .int .i64 (pbE (cutL ls (32 * k))), .slice A1 m c1, .slice A52 m49 cq53, .slice A61 (m + m49) cq62, undef] zz undef), ⟨⟨by omega, hm4, hO4⟩, M65⟩, rfl, (by kernel_rfl)⟩
    ·
      refine st_val (.bool false) (by kernel_rfl) (bool_of (dec_f c31) (by kernel_rfl)) ?_
      refine wl_nil ?_
      refine hK32 _ _ ?_
      try clear hK32 K32
      refine wp_cond_false (by kernel_rfl) ?_
      refine wp_exit ?_
      refine th_exit ?_
      refine th_exit ?_
      refine blk_exit ?_
      refine hK25 _ _ ?_
      try clear hK25 K25
      refine wp_seq_k (fun K66 hK66 => ?_)
      refine wl_region ?_
      refine st_val (.slice A1 m c1) (by kernel_rfl) (by kernel_rfl) ?_
      refine st_val (.slice A1 m c1) (by kernel_rfl) (by kernel_rfl) ?_
      refine st_val (.int .i64 0) (by kernel_rfl) (by kernel_rfl) ?_
      refine wl_nil ?_
      refine hK66 _ _ ?_
      try clear hK66 K66
      refine wp_ret ?_
      have hkk : k = ((ls.getD 0 []).length + 31) / 32 := (by omega)
      exact done2 2 3 (.slice A1 m c1) (.int .i64 0) (by kernel_rfl) (by kernel_rfl) (by kernel_rfl) (by kernel_rfl) ⟨_, T1, rfl, ⟨_, m, by rw [(en_t hPP).2], by rw [(en_t hPP).1, ← hkk]; exact hm, by rw [(en_t hPP).1, ← hkk]; exact O1⟩, M30.sub (List.sublist_append_left T1 [])⟩
  ·
    have hpn := ppB_not hpp
    refine st_callB M0 (.bool false) (by kernel_rfl) (args := #[.slice A ls.length c]) (run_value_call 31 #[(Operand.tmp 9)] _ rfl Try.func31 (by kernel_rfl) (by kernel_rfl) _ (by kernel_rfl)) ((by have := refProper_walk w (.slice A ls.length c) ls As cs (hP.keep M0.keep (fun _ h => h)) (by omega); rw [hpp] at this; exact this)) ?_
    intro W67 M68
    refine st_val (.bool true) (by kernel_rfl) (by kernel_rfl) ?_
    refine wl_nil ?_
    refine hK3 _ _ ?_
    try clear hK3 K3
    refine wp_cond_true (by kernel_rfl) ?_
    refine wp_seq_k (fun K69 hK69 => ?_)
    refine wl_region ?_
    refine st_val ((Go.Value.slice none 0 0)) (by kernel_rfl) (by kernel_rfl) ?_
    refine st_val (.int .i64 1) (by kernel_rfl) (by kernel_rfl) ?_
    refine wl_nil ?_
    refine hK69 _ _ ?_
    try clear hK69 K69
    refine wp_ret ?_
    refine th_ret ?_
    have hnp : ¬ PP ls := hpn
    exact done2 2 3 ((Go.Value.slice none 0 0)) (.int .i64 1) (by kernel_rfl) (by kernel_rfl) (by kernel_rfl) (by kernel_rfl) ⟨_, [], rfl, ⟨_, 0, by rw [(en_f hnp).2], by rw [(en_f hnp).1]; rfl, by rw [(en_f hnp).1]; exact Own.nil _ _⟩, M68.sub (List.nil_sublist _)⟩
end Go.Proofs.Ytmimljaniliecaa
