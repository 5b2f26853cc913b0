/- The walk of VbvJoins. -/
import Derived.Test.YtolfkaljbgpkhaaNr
import Derived.Test.YtolfkaljbgpkhaaGi
namespace Go.Proofs.Ytolfkaljbgpkhaa
open Go.RowKit

theorem getD_app_l {α : Type} (a b : List α) (d : α) {j : Nat} (h : j < a.length) : (a ++ b).getD j d = a.getD j d := by
  rw [List.getD_eq_getElem?_getD, List.getD_eq_getElem?_getD, List.getElem?_append_left h]
theorem getD_app_r {α : Type} (a b : List α) (d : α) {j : Nat} (h : a.length ≤ j) : (a ++ b).getD j d = b.getD (j - a.length) d := by
  rw [List.getD_eq_getElem?_getD, List.getD_eq_getElem?_getD, List.getElem?_append_right h]
theorem PR_append {s : SeqD} {a b : List UnitD} {x : Int} (h : PR s (a ++ b) x) : PR s a x ∧ PR s b x := by
  obtain ⟨h1, h2, h3, h4, h5⟩ := h
  rw [List.length_append] at h4 h5
  refine ⟨⟨h1, h2, h3, by omega, fun j hj => ?_⟩, ⟨h1, h2, h3, by omega, fun j hj => ?_⟩⟩
  · have := h5 j (by omega)
    rwa [getD_app_l _ _ _ hj] at this
  · have := h5 (a.length + j) (by omega)
    rwa [getD_app_r _ _ _ (by omega), show a.length + j - a.length = j by omega] at this
theorem PR_join {s : SeqD} {a b : List UnitD} {x : Int} (h : PR s a x) (h' : PR s b x) (hl : a.length + b.length ≤ 256) : PR s (a ++ b) x := by
  obtain ⟨h1, h2, h3, h4, h5⟩ := h
  refine ⟨h1, h2, h3, by rw [List.length_append]; exact hl, fun j hj => ?_⟩
  rw [List.length_append] at hj
  by_cases hj2 : j < a.length
  · rw [getD_app_l _ _ _ hj2]; exact h5 j hj2
  · rw [getD_app_r _ _ _ (by omega)]; exact h'.2.2.2.2 _ (by omega)
theorem needO_pos {s : SeqD} {us : List UnitD} {w n : Int} (hv : sB s = true) (h5 : ∀ j, j < us.length → PU (us.getD j u0)) (hw : 0 ≤ w) (h : needO (2 * s.num) (s.br * s.den) (mostS s) w us = some n) : 0 ≤ n := by
  cases us with
  | nil =>
    simp only [needO] at h
    split at h
    · cases h
    · cases h; exact hw
  | cons u r =>
    obtain ⟨vn1, _⟩ := SV_facts hv
    have hb := (h5 0 (by simp)).1
    have hb : 0 ≤ u.bits := hb
    have hm : 0 ≤ 2 * s.num * u.bits := Int.mul_nonneg (by omega) hb
    simp only [needO] at h
    split at h
    · cases h
    · split at h
      · cases h
      · cases h; omega
theorem joins_bad {s : SeqD} {a b : List UnitD} {w : Int} (h : ¬ (needR s b w).2 = 0) : (needR s (a ++ b) w).2 = (needR s b w).2 ∨ (needR s (a ++ b) w).2 = 1 := by
  by_cases hp : PR s (a ++ b) 0 ∧ 0 ≤ w
  · left
    have hb := (PR_append hp.1).2
    cases hn : needO (2 * s.num) (s.br * s.den) (mostS s) w b with
    | none =>
      rw [needR_none hb hp.2 hn, needR_none hp.1 hp.2 (by rw [needO_append, hn])]
    | some n => rw [needR_some hb hp.2 hn] at h; exact (h rfl).elim
  · right; rw [needR_arg hp]
theorem joins_ok {s : SeqD} {a b : List UnitD} {w : Int} (h : (needR s b w).2 = 0) (hl : a.length + b.length ≤ 256) : needR s a (needR s b w).1 = needR s (a ++ b) w := by
  by_cases hp : PR s b 0 ∧ 0 ≤ w
  · cases hn : needO (2 * s.num) (s.br * s.den) (mostS s) w b with
    | none => rw [needR_none hp.1 hp.2 hn] at h; cases h
    | some n =>
      rw [needR_some hp.1 hp.2 hn]
      have h0 := needO_pos hp.1.1 hp.1.2.2.2.2 hp.2 hn
      by_cases ha : PR s a 0
      · have hab := PR_join ha hp.1 hl
        have e : needO (2 * s.num) (s.br * s.den) (mostS s) w (a ++ b) = needO (2 * s.num) (s.br * s.den) (mostS s) n a := by rw [needO_append, hn]
        cases hk : needO (2 * s.num) (s.br * s.den) (mostS s) n a with
        | none => rw [needR_none ha h0 hk, needR_none hab hp.2 (by rw [e, hk])]
        | some k => rw [needR_some ha h0 hk, needR_some hab hp.2 (by rw [e, hk])]
      · rw [needR_arg (fun c => ha c.1), needR_arg (fun c => ha (PR_append c.1).1)]
  · rw [needR_arg hp] at h; cases h
theorem needR_rng {s : SeqD} {us : List UnitD} {w : Int} : -9223372036854775808 ≤ (needR s us w).1 ∧ (needR s us w).1 ≤ 9223372036854775807 := by
  by_cases hp : PR s us 0 ∧ 0 ≤ w
  · obtain ⟨_, _, _, _, _, _, _, _, vP, _⟩ := SV_facts hp.1.1
    cases hn : needO (2 * s.num) (s.br * s.den) (mostS s) w us with
    | none => rw [needR_none hp.1 hp.2 hn]; exact ⟨by decide, by decide⟩
    | some n =>
      rw [needR_some hp.1 hp.2 hn]
      have h0 := needO_pos hp.1.1 hp.1.2.2.2.2 hp.2 hn
      have h1 : n ≤ mostS s := by
        cases us with
        | nil =>
          simp only [needO] at hn
          split at hn
          · cases hn
          · cases hn; omega
        | cons u r =>
          simp only [needO] at hn
          split at hn
          · cases hn
          · split at hn
            · cases hn
            · cases hn; omega
      unfold mostS at h1
      show -9223372036854775808 ≤ n ∧ n ≤ 9223372036854775807
      have := (SV_facts hp.1.1).1
      omega
  · rw [needR_arg hp]; exact ⟨by decide, by decide⟩
set_option maxHeartbeats 4000000 in
set_option maxRecDepth 100000 in
theorem VbvJoins_walk (w : World) (s : SeqD) (hs : SOk s) (v1 : Value) (us1 : List UnitD) (hr1 : RdK w v1 us1.length (flat us1)) (hu1 : UOk us1) (v2 : Value) (us2 : List UnitD) (hr2 : RdK w v2 us2.length (flat us2)) (hu2 : UOk us2) (w0 : Int) (hw0 : -9223372036854775808 ≤ w0 ∧ w0 ≤ 9223372036854775807) : Calls Try.prog 5 #[.agg (sqv s), v1, v2, .int .i64 w0] w fun e w' => e = .returned (.bool true) ∧ Below w.heap.size w w' := by
  obtain ⟨A1, c1, rfl, hc1⟩ := hr1.shape
  obtain ⟨A2, c2, rfl, hc2⟩ := hr2.shape
  refine calls_of_wp Try.func5 rfl ?_
  refine wp_frame (a' := ⟨#[.agg (sqv s), .slice A1 us1.length c1, .slice A2 us2.length c2, .int .i64 w0, undef, undef, undef, undef, undef, undef, undef, undef, undef, undef, undef, undef, undef, undef, undef, undef, undef, undef, undef, undef, undef, undef, undef, undef, undef, undef, undef, undef, undef, undef, undef, undef, undef, undef, undef, undef, undef, undef, undef, undef, undef, undef, undef, undef, undef, undef, undef, undef, undef, undef, undef, undef, undef, undef, undef, undef, undef, undef, undef, undef, undef, undef, undef, undef, undef, undef, undef, undef, undef], []⟩) (by kernel_rfl) ?_
  have M0 : Mem NoS w w [] := Mem.start _ _
  refine wp_seq_k (fun K1 hK1 => ?_)
  refine wl_region ?_
  refine st_alloc M0 (.cells (sqv s) 26 (0, 0)) (by kernel_rfl) (by kernel_rfl) ?_
  intro g2 W3 M4
  refine st_val (.bool false) (by kernel_rfl) (by kernel_rfl) ?_
  refine wl_nil ?_
  refine hK1 _ _ ?_
  try clear hK1 K1
  refine wp_seq_k (fun K5 hK5 => ?_)
  refine wp_seq_k (fun K6 hK6 => ?_)
  refine wl_region ?_
  refine st_val (.slice A1 us1.length c1) (by kernel_rfl) (by kernel_rfl) ?_
  refine st_val (.int .i64 ((us1.length : Nat) : Int)) (by kernel_rfl) (by kernel_rfl) ?_
  rcases Decidable.em ((((us1.length : Nat) : Int) : Int) > 100) with c17 | c17
  ·
    refine st_val (.bool true) (by kernel_rfl) (bool_of (dec_t c17) (by kernel_rfl)) ?_
    refine st_val (.bool true) (by kernel_rfl) (by kernel_rfl) ?_
    refine st_skip (by kernel_rfl) ?_
    refine st_skip (by kernel_rfl) ?_
    refine st_skip (by kernel_rfl) ?_
    refine st_val (.bool true) (by kernel_rfl) (by kernel_rfl) ?_
    refine wl_nil ?_
    refine hK6 _ _ ?_
    try clear hK6 K6
    refine wp_cond_true (by kernel_rfl) ?_
    refine wp_seq_k (fun K7 hK7 => ?_)
    refine wl_region ?_
    refine st_val (.bool true) (by kernel_rfl) (by kernel_rfl) ?_
    refine wl_nil ?_
    refine hK7 _ _ ?_
    try clear hK7 K7
    refine wp_ret ?_
    refine th_ret ?_
    exact done1 8 (.bool true) (by kernel_rfl) (by kernel_rfl) (by kernel_rfl) ⟨rfl, M4.toBelow⟩
  ·
    refine st_val (.bool false) (by kernel_rfl) (bool_of (dec_f c17) (by kernel_rfl)) ?_
    refine st_val (.bool false) (by kernel_rfl) (by kernel_rfl) ?_
    refine st_val (.slice A2 us2.length c2) (by kernel_rfl) (by kernel_rfl) ?_
    refine st_val (.int .i64 ((us2.length : Nat) : Int)) (by kernel_rfl) (by kernel_rfl) ?_
    rcases Decidable.em ((((us2.length : Nat) : Int) : Int) > 100) with c21 | c21
    ·
      refine st_val (.bool true) (by kernel_rfl) (bool_of (dec_t c21) (by kernel_rfl)) ?_
      refine st_val (.bool true) (by kernel_rfl) (by kernel_rfl) ?_
      refine wl_nil ?_
      refine hK6 _ _ ?_
      try clear hK6 K6
      refine wp_cond_true (by kernel_rfl) ?_
      refine wp_seq_k (fun K8 hK8 => ?_)
      refine wl_region ?_
      refine st_val (.bool true) (by kernel_rfl) (by kernel_rfl) ?_
      refine wl_nil ?_
      refine hK8 _ _ ?_
      try clear hK8 K8
      refine wp_ret ?_
      refine th_ret ?_
      exact done1 8 (.bool true) (by kernel_rfl) (by kernel_rfl) (by kernel_rfl) ⟨rfl, M4.toBelow⟩
    ·
      refine st_val (.bool false) (by kernel_rfl) (bool_of (dec_f c21) (by kernel_rfl)) ?_
      refine st_val (.bool false) (by kernel_rfl) (by kernel_rfl) ?_
      refine wl_nil ?_
      refine hK6 _ _ ?_
      try clear hK6 K6
      refine wp_cond_false (by kernel_rfl) ?_
      refine wp_skip ?_
      refine hK5 _ _ ?_
      try clear hK5 K5
      refine wp_seq_k (fun K9 hK9 => ?_)
      refine wh_region (fun w' => Mem NoS w w' [(g2, .cells (sqv s) 26 (0, 0))]) (by kernel_rfl) (by kernel_rfl) (fun d _ _ _ _ h => by cases d <;> exact h) 10 rfl #[false, false, false, false, false, false, false, false, false, false] rfl ?_
      intro R10
      have M12 := M4.drew
      have hS13 : Mem NoS w W3.drew [(g2, .cells (sqv s) 26 (0, 0))] := M12
      refine wh_take R10 0 (.agg (sqv s)) rfl (by kernel_rfl) (by kernel_rfl) (by kernel_rfl) (fun w' M' => (run_load_row 26 (.tmp 4) rfl g2 (by kernel_rfl) 26 (sqv s) (0, 0) _ (M'.get 0 rfl) Try.underlying26 rfl (infoSq hs.la hs.lb))) hS13 #[true, false, false, false, false, false, false, false, false, false] rfl ?_
      refine wh_take R10 1 (.slice A2 us2.length c2) rfl (by kernel_rfl) (by kernel_rfl) (by kernel_rfl) (fun w' M' => (by kernel_rfl)) hS13 #[true, true, false, false, false, false, false, false, false, false] rfl ?_
      refine wh_take R10 3 (.int .i64 w0) rfl (by kernel_rfl) (by kernel_rfl) (by kernel_rfl) (fun w' M' => (by kernel_rfl)) hS13 #[true, true, false, true, false, false, false, false, false, false] rfl ?_
      refine wh_callR (A := [(g2, .cells (sqv s) 26 (0, 0))]) (B := []) M12 2 rfl (by kernel_rfl) (by kernel_rfl) (run_value_call 19 #[(Operand.tmp 25)] _ rfl Try.func19 (by kernel_rfl) (by kernel_rfl) _ (by kernel_rfl)) #[true, true, true, true, false, false, false, false, false, false] rfl (given_walk W3.drew (.slice A2 us2.length c2) us2 (hr2.keep M12.keep (fun _ _ h => h)) (by omega)) ?_
      intro v14 T15 W16 O17 M18
      have M18 : Mem NoS w W16 ((g2, .cells (sqv s) 26 (0, 0)) :: (T15 ++ [])) := M18
      obtain ⟨A19, c20, rfl, hc21⟩ := O17.shape
      have hS22 : Mem NoS w W16 [(g2, .cells (sqv s) 26 (0, 0))] := M18.sub (((List.Sublist.refl []).trans (List.sublist_append_right T15 _)).cons_cons _)
      refine ⟨hS22, ?_⟩
      refine wh_callB M18 4 (.tuple #[.int .i64 ((needR s us2 w0).1), .int .i64 ((needR s us2 w0).2)]) rfl (by kernel_rfl) (by kernel_rfl) (run_value_call 18 #[(Operand.tmp 24), (Operand.tmp 26), (Operand.tmp 27)] _ rfl Try.func18 (by kernel_rfl) (by kernel_rfl) _ (by kernel_rfl)) #[true, true, true, true, true, false, false, false, false, false] rfl (need_walk W16 s hs (.slice A19 us2.length c20) us2 (O17.rd (fun p hp => M18.at_ p (List.mem_cons_of_mem _ (List.mem_append_left _ hp)))) w0 hw0) ?_
      intro W23 M24
      have hS25 : Mem NoS w W23 [(g2, .cells (sqv s) 26 (0, 0))] := M24.sub (((List.Sublist.refl []).trans (List.sublist_append_right T15 _)).cons_cons _)
      refine ⟨hS25, ?_⟩
      refine wh_take R10 5 (.tuple #[.int .i64 ((needR s us2 w0).1), .int .i64 ((needR s us2 w0).2)]) rfl (by kernel_rfl) (by kernel_rfl) (by kernel_rfl) (fun w' M' => (by kernel_rfl)) hS25 #[true, true, true, true, true, true, false, false, false, false] rfl ?_
      refine wh_take R10 6 (.int .i64 ((needR s us2 w0).1)) rfl (by kernel_rfl) (by kernel_rfl) (by kernel_rfl) (fun w' M' => (by kernel_rfl)) hS25 #[true, true, true, true, true, true, true, false, false, false] rfl ?_
      refine wh_take R10 7 (.int .i64 ((needR s us2 w0).2)) rfl (by kernel_rfl) (by kernel_rfl) (by kernel_rfl) (fun w' M' => (by kernel_rfl)) hS25 #[true, true, true, true, true, true, true, true, false, false] rfl ?_
      refine wh_take R10 8 (.int .i64 ((needR s us2 w0).1)) rfl (by kernel_rfl) (by kernel_rfl) (by kernel_rfl) (fun w' M' => (by kernel_rfl)) hS25 #[true, true, true, true, true, true, true, true, true, false] rfl ?_
      refine wh_take R10 9 (.int .i64 ((needR s us2 w0).2)) rfl (by kernel_rfl) (by kernel_rfl) (by kernel_rfl) (fun w' M' => (by kernel_rfl)) hS25 #[true, true, true, true, true, true, true, true, true, true] rfl ?_
      refine wh_done (by kernel_rfl) ?_
      refine hK9 _ _ ?_
      try clear hK9 K9
      refine wp_frame (a' := ⟨#[.agg (sqv s), .slice A1 us1.length c1, .slice A2 us2.length c2, .int .i64 w0, .pointer (some ⟨g2, 0, none⟩), undef, undef, undef, .bool false, .int .i64 ((needR s us2 w0).1), .int .i64 ((needR s us2 w0).2), undef, undef, undef, undef, .slice A1 us1.length c1, .int .i64 ((us1.length : Nat) : Int), .bool false, .bool false, .slice A2 us2.length c2, .int .i64 ((us2.length : Nat) : Int), .bool false, .bool false, .tuple #[.int .i64 ((needR s us2 w0).1), .int .i64 ((needR s us2 w0).2)], .agg (sqv s), .slice A2 us2.length c2, .slice A19 us2.length c20, .int .i64 w0, .tuple #[.int .i64 ((needR s us2 w0).1), .int .i64 ((needR s us2 w0).2)], .int .i64 ((needR s us2 w0).1), .int .i64 ((needR s us2 w0).2), undef, undef, undef, undef, undef, undef, undef, undef, undef, undef, undef, undef, undef, undef, undef, undef, undef, undef, undef, undef, undef, undef, undef, undef, undef, undef, undef, undef, undef, undef, undef, undef, undef, undef, undef, undef, undef, undef, undef, undef, undef, undef], []⟩) (by kernel_rfl) ?_
      refine wp_seq_k (fun K26 hK26 => ?_)
      refine wh_region (fun w' => Mem NoS w w' ((g2, .cells (sqv s) 26 (0, 0)) :: (T15 ++ []))) (by kernel_rfl) (by kernel_rfl) (fun d _ _ _ _ h => by cases d <;> exact h) 13 rfl #[false, false, false, false, false, false, false, false, false, false, false, false, false] rfl ?_
      intro R27
      have M29 := M24.drew
      have hS30 : Mem NoS w W23.drew ((g2, .cells (sqv s) 26 (0, 0)) :: (T15 ++ [])) := M29
      refine wh_take R27 0 (.agg (sqv s)) rfl (by kernel_rfl) (by kernel_rfl) (by kernel_rfl) (fun w' M' => (run_load_row 26 (.tmp 4) rfl g2 (by kernel_rfl) 26 (sqv s) (0, 0) _ (M'.get 0 rfl) Try.underlying26 rfl (infoSq hs.la hs.lb))) hS30 #[true, false, false, false, false, false, false, false, false, false, false, false, false] rfl ?_
      refine wh_take R27 1 (.slice A1 us1.length c1) rfl (by kernel_rfl) (by kernel_rfl) (by kernel_rfl) (fun w' M' => (by kernel_rfl)) hS30 #[true, true, false, false, false, false, false, false, false, false, false, false, false] rfl ?_
      refine wh_take R27 3 (.slice A2 us2.length c2) rfl (by kernel_rfl) (by kernel_rfl) (by kernel_rfl) (fun w' M' => (by kernel_rfl)) hS30 #[true, true, false, true, false, false, false, false, false, false, false, false, false] rfl ?_
      refine wh_take R27 6 (.int .i64 w0) rfl (by kernel_rfl) (by kernel_rfl) (by kernel_rfl) (fun w' M' => (by kernel_rfl)) hS30 #[true, true, false, true, false, false, true, false, false, false, false, false, false] rfl ?_
      refine wh_callR (A := [(g2, .cells (sqv s) 26 (0, 0))]) (B := (T15 ++ [])) M29 2 rfl (by kernel_rfl) (by kernel_rfl) (run_value_call 19 #[(Operand.tmp 33)] _ rfl Try.func19 (by kernel_rfl) (by kernel_rfl) _ (by kernel_rfl)) #[true, true, true, true, false, false, true, false, false, false, false, false, false] rfl (given_walk W23.drew (.slice A1 us1.length c1) us1 (hr1.keep M29.keep (fun _ _ h => h)) (by omega)) ?_
      intro v31 T32 W33 O34 M35
      have M35 : Mem NoS w W33 ((g2, .cells (sqv s) 26 (0, 0)) :: (T32 ++ (T15 ++ []))) := M35
      obtain ⟨A36, c37, rfl, hc38⟩ := O34.shape
      have hS39 : Mem NoS w W33 ((g2, .cells (sqv s) 26 (0, 0)) :: (T15 ++ [])) := M35.sub ((((List.Sublist.refl []).append_left T15).trans (List.sublist_append_right T32 _)).cons_cons _)
      refine ⟨hS39, ?_⟩
      refine wh_callR (A := [(g2, .cells (sqv s) 26 (0, 0))]) (B := (T32 ++ (T15 ++ []))) M35 4 rfl (by kernel_rfl) (by kernel_rfl) (run_value_call 19 #[(Operand.tmp 35)] _ rfl Try.func19 (by kernel_rfl) (by kernel_rfl) _ (by kernel_rfl)) #[true, true, true, true, true, false, true, false, false, false, false, false, false] rfl (given_walk W33 (.slice A2 us2.length c2) us2 (hr2.keep M35.keep (fun _ _ h => h)) (by omega)) ?_
      intro v40 T41 W42 O43 M44
      have M44 : Mem NoS w W42 ((g2, .cells (sqv s) 26 (0, 0)) :: (T41 ++ (T32 ++ (T15 ++ [])))) := M44
      obtain ⟨A45, c46, rfl, hc47⟩ := O43.shape
      have hS48 : Mem NoS w W42 ((g2, .cells (sqv s) 26 (0, 0)) :: (T15 ++ [])) := M44.sub (((((List.Sublist.refl []).append_left T15).trans (List.sublist_append_right T32 _)).trans (List.sublist_append_right T41 _)).cons_cons _)
      refine ⟨hS48, ?_⟩
      have M58 : Mem NoS w W42 ((g2, .cells (sqv s) 26 (0, 0)) :: (T32 ++ (T41 ++ (T15 ++ [])))) := M44.swap (A := [(g2, .cells (sqv s) 26 (0, 0))]) (T := T41) (U := T32) (B := (T15 ++ []))
      obtain ⟨v49, T50, W51, hr52, O53, M54⟩ := append_unit (A := [(g2, .cells (sqv s) 26 (0, 0))]) (T := T32) (B := (T41 ++ (T15 ++ []))) M58 36 _ _ _ O34 _ us2.length (flat us2) (O43.rd (fun p hp => M58.at_ p (List.mem_cons_of_mem _ (List.mem_append_right _ (List.mem_append_left _ hp))))) (flat_len _) (flat_one _) (by omega)
      have M54 : Mem NoS w W51 ((g2, .cells (sqv s) 26 (0, 0)) :: (T50 ++ (T41 ++ (T15 ++ [])))) := M54
      obtain ⟨A55, c56, rfl, hc57⟩ := O53.shape
      have hS59 : Mem NoS w W51 ((g2, .cells (sqv s) 26 (0, 0)) :: (T15 ++ [])) := M54.sub (((((List.Sublist.refl []).append_left T15).trans (List.sublist_append_right T41 _)).trans (List.sublist_append_right T50 _)).cons_cons _)
      refine wh_world 5 (.slice A55 (us1.length + us2.length) c56) W51 rfl (by kernel_rfl) (by kernel_rfl) (run_append_op (.tmp 34) (.tmp 36) _ rfl (.slice A36 us1.length c37) (.slice A45 us2.length c46) _ (by kernel_rfl) (by kernel_rfl) hr52) #[true, true, true, true, true, true, true, false, false, false, false, false, false] rfl hS59 ?_
      refine wh_callB M54 7 (.tuple #[.int .i64 ((needR s (us1 ++ us2) w0).1), .int .i64 ((needR s (us1 ++ us2) w0).2)]) rfl (by kernel_rfl) (by kernel_rfl) (run_value_call 18 #[(Operand.tmp 32), (Operand.tmp 37), (Operand.tmp 38)] _ rfl Try.func18 (by kernel_rfl) (by kernel_rfl) _ (by kernel_rfl)) #[true, true, true, true, true, true, true, true, false, false, false, false, false] rfl (need_walk W51 s hs (.slice A55 (us1.length + us2.length) c56) (us1 ++ us2) ((by rw [flat_append, List.length_append]; exact O53.rd (fun p hp => M54.at_ p (List.mem_cons_of_mem _ (List.mem_append_left _ hp))))) w0 hw0) ?_
      intro W60 M61
      have hS62 : Mem NoS w W60 ((g2, .cells (sqv s) 26 (0, 0)) :: (T15 ++ [])) := M61.sub (((((List.Sublist.refl []).append_left T15).trans (List.sublist_append_right T41 _)).trans (List.sublist_append_right T50 _)).cons_cons _)
      refine ⟨hS62, ?_⟩
      refine wh_take R27 8 (.tuple #[.int .i64 ((needR s (us1 ++ us2) w0).1), .int .i64 ((needR s (us1 ++ us2) w0).2)]) rfl (by kernel_rfl) (by kernel_rfl) (by kernel_rfl) (fun w' M' => (by kernel_rfl)) hS62 #[true, true, true, true, true, true, true, true, true, false, false, false, false] rfl ?_
      refine wh_take R27 9 (.int .i64 ((needR s (us1 ++ us2) w0).1)) rfl (by kernel_rfl) (by kernel_rfl) (by kernel_rfl) (fun w' M' => (by kernel_rfl)) hS62 #[true, true, true, true, true, true, true, true, true, true, false, false, false] rfl ?_
      refine wh_take R27 10 (.int .i64 ((needR s (us1 ++ us2) w0).2)) rfl (by kernel_rfl) (by kernel_rfl) (by kernel_rfl) (fun w' M' => (by kernel_rfl)) hS62 #[true, true, true, true, true, true, true, true, true, true, true, false, false] rfl ?_
      refine wh_take R27 11 (.int .i64 ((needR s (us1 ++ us2) w0).1)) rfl (by kernel_rfl) (by kernel_rfl) (by kernel_rfl) (fun w' M' => (by kernel_rfl)) hS62 #[true, true, true, true, true, true, true, true, true, true, true, true, false] rfl ?_
      refine wh_take R27 12 (.int .i64 ((needR s (us1 ++ us2) w0).2)) rfl (by kernel_rfl) (by kernel_rfl) (by kernel_rfl) (fun w' M' => (by kernel_rfl)) hS62 #[true, true, true, true, true, true, true, true, true, true, true, true, true] rfl ?_
      refine wh_done (by kernel_rfl) ?_
      refine hK26 _ _ ?_
      try clear hK26 K26
      refine wp_frame (a' := ⟨#[.agg (sqv s), .slice A1 us1.length c1, .slice A2 us2.length c2, .int .i64 w0, .pointer (some ⟨g2, 0, none⟩), undef, undef, undef, .bool false, .int .i64 ((needR s us2 w0).1), .int .i64 ((needR s us2 w0).2), .int .i64 ((needR s (us1 ++ us2) w0).1), .int .i64 ((needR s (us1 ++ us2) w0).2), undef, undef, .slice A1 us1.length c1, .int .i64 ((us1.length : Nat) : Int), .bool false, .bool false, .slice A2 us2.length c2, .int .i64 ((us2.length : Nat) : Int), .bool false, .bool false, .tuple #[.int .i64 ((needR s us2 w0).1), .int .i64 ((needR s us2 w0).2)], .agg (sqv s), .slice A2 us2.length c2, .slice A19 us2.length c20, .int .i64 w0, .tuple #[.int .i64 ((needR s us2 w0).1), .int .i64 ((needR s us2 w0).2)], .int .i64 ((needR s us2 w0).1), .int .i64 ((needR s us2 w0).2), .tuple #[.int .i64 ((needR s (us1 ++ us2) w0).1), .int .i64 ((needR s (us1 ++ us2) w0).2)], .agg (sqv s), .slice A1 us1.length c1, .slice A36 us1.length c37, .slice A2 us2.length c2, .slice A45 us2.length c46, .slice A55 (us1.length + us2.length) c56, .int .i64 w0, .tuple #[.int .i64 ((needR s (us1 ++ us2) w0).1), .int .i64 ((needR s (us1 ++ us2) w0).2)], .int .i64 ((needR s (us1 ++ us2) w0).1), .int .i64 ((needR s (us1 ++ us2) w0).2), undef, undef, undef, undef, undef, undef, undef, undef, undef, undef, undef, undef, undef, undef, undef, undef, undef, undef, undef, undef, undef, undef, undef, undef, undef, undef, undef, undef, undef, undef, undef], []⟩) (by kernel_rfl) ?_
      refine wp_seq_k (fun K63 hK63 => ?_)
      refine wp_seq_k (fun K64 hK64 => ?_)
      refine wl_region ?_
      refine st_val (.int .i64 ((needR s us2 w0).2)) (by kernel_rfl) (by kernel_rfl) ?_
      rcases Decidable.em (((needR s us2 w0).2 : Int) = 0) with c43 | c43
      ·
        refine st_val (.bool false) (by kernel_rfl) (bool_of (neq_f c43) (by kernel_rfl)) ?_
        refine wl_nil ?_
        refine hK64 _ _ ?_
        try clear hK64 K64
        refine wp_cond_false (by kernel_rfl) ?_
        refine wp_skip ?_
        refine hK63 _ _ ?_
        try clear hK63 K63
        refine wp_seq_k (fun K65 hK65 => ?_)
        refine wh_region (fun w' => Mem NoS w w' ((g2, .cells (sqv s) 26 (0, 0)) :: (T50 ++ (T41 ++ (T15 ++ []))))) (by kernel_rfl) (by kernel_rfl) (fun d _ _ _ _ h => by cases d <;> exact h) 10 rfl #[false, false, false, false, false, false, false, false, false, false] rfl ?_
        intro R66
        have M68 := M61.drew
        have hS69 : Mem NoS w W60.drew ((g2, .cells (sqv s) 26 (0, 0)) :: (T50 ++ (T41 ++ (T15 ++ [])))) := M68
        refine wh_take R66 0 (.agg (sqv s)) rfl (by kernel_rfl) (by kernel_rfl) (by kernel_rfl) (fun w' M' => (run_load_row 26 (.tmp 4) rfl g2 (by kernel_rfl) 26 (sqv s) (0, 0) _ (M'.get 0 rfl) Try.underlying26 rfl (infoSq hs.la hs.lb))) hS69 #[true, false, false, false, false, false, false, false, false, false] rfl ?_
        refine wh_take R66 1 (.slice A1 us1.length c1) rfl (by kernel_rfl) (by kernel_rfl) (by kernel_rfl) (fun w' M' => (by kernel_rfl)) hS69 #[true, true, false, false, false, false, false, false, false, false] rfl ?_
        refine wh_take R66 3 (.int .i64 ((needR s us2 w0).1)) rfl (by kernel_rfl) (by kernel_rfl) (by kernel_rfl) (fun w' M' => (by kernel_rfl)) hS69 #[true, true, false, true, false, false, false, false, false, false] rfl ?_
        refine wh_callR (A := [(g2, .cells (sqv s) 26 (0, 0))]) (B := (T50 ++ (T41 ++ (T15 ++ [])))) M68 2 rfl (by kernel_rfl) (by kernel_rfl) (run_value_call 19 #[(Operand.tmp 56)] _ rfl Try.func19 (by kernel_rfl) (by kernel_rfl) _ (by kernel_rfl)) #[true, true, true, true, false, false, false, false, false, false] rfl (given_walk W60.drew (.slice A1 us1.length c1) us1 (hr1.keep M68.keep (fun _ _ h => h)) (by omega)) ?_
        intro v70 T71 W72 O73 M74
        have M74 : Mem NoS w W72 ((g2, .cells (sqv s) 26 (0, 0)) :: (T71 ++ (T50 ++ (T41 ++ (T15 ++ []))))) := M74
        obtain ⟨A75, c76, rfl, hc77⟩ := O73.shape
        have hS78 : Mem NoS w W72 ((g2, .cells (sqv s) 26 (0, 0)) :: (T50 ++ (T41 ++ (T15 ++ [])))) := M74.sub ((((((List.Sublist.refl []).append_left T15).append_left T41).append_left T50).trans (List.sublist_append_right T71 _)).cons_cons _)
        refine ⟨hS78, ?_⟩
        refine wh_callB M74 4 (.tuple #[.int .i64 ((needR s us1 ((needR s us2 w0).1)).1), .int .i64 ((needR s us1 ((needR s us2 w0).1)).2)]) rfl (by kernel_rfl) (by kernel_rfl) (run_value_call 18 #[(Operand.tmp 55), (Operand.tmp 57), (Operand.tmp 58)] _ rfl Try.func18 (by kernel_rfl) (by kernel_rfl) _ (by kernel_rfl)) #[true, true, true, true, true, false, false, false, false, false] rfl (need_walk W72 s hs (.slice A75 us1.length c76) us1 (O73.rd (fun p hp => M74.at_ p (List.mem_cons_of_mem _ (List.mem_append_left _ hp)))) ((needR s us2 w0).1) needR_rng) ?_
        intro W79 M80
        have hS81 : Mem NoS w W79 ((g2, .cells (sqv s) 26 (0, 0)) :: (T50 ++ (T41 ++ (T15 ++ [])))) := M80.sub ((((((List.Sublist.refl []).append_left T15).append_left T41).append_left T50).trans (List.sublist_append_right T71 _)).cons_cons _)
        refine ⟨hS81, ?_⟩
        refine wh_take R66 5 (.tuple #[.int .i64 ((needR s us1 ((needR s us2 w0).1)).1), .int .i64 ((needR s us1 ((needR s us2 w0).1)).2)]) rfl (by kernel_rfl) (by kernel_rfl) (by kernel_rfl) (fun w' M' => (by kernel_rfl)) hS81 #[true, true, true, true, true, true, false, false, false, false] rfl ?_
        refine wh_take R66 6 (.int .i64 ((needR s us1 ((needR s us2 w0).1)).1)) rfl (by kernel_rfl) (by kernel_rfl) (by kernel_rfl) (fun w' M' => (by kernel_rfl)) hS81 #[true, true, true, true, true, true, true, false, false, false] rfl ?_
        refine wh_take R66 7 (.int .i64 ((needR s us1 ((needR s us2 w0).1)).2)) rfl (by kernel_rfl) (by kernel_rfl) (by kernel_rfl) (fun w' M' => (by kernel_rfl)) hS81 #[true, true, true, true, true, true, true, true, false, false] rfl ?_
        refine wh_take R66 8 (.int .i64 ((needR s us1 ((needR s us2 w0).1)).1)) rfl (by kernel_rfl) (by kernel_rfl) (by kernel_rfl) (fun w' M' => (by kernel_rfl)) hS81 #[true, true, true, true, true, true, true, true, true, false] rfl ?_
        refine wh_take R66 9 (.int .i64 ((needR s us1 ((needR s us2 w0).1)).2)) rfl (by kernel_rfl) (by kernel_rfl) (by kernel_rfl) (fun w' M' => (by kernel_rfl)) hS81 #[true, true, true, true, true, true, true, true, true, true] rfl ?_
        refine wh_done (by kernel_rfl) ?_
        refine hK65 _ _ ?_
        try clear hK65 K65
        refine wp_seq_k (fun K82 hK82 => ?_)
        refine wl_region ?_
        refine st_callB M80 (.bool true) (by kernel_rfl) (args := #[]) (run_value_call 11 #[] _ rfl Try.func11 (by kernel_rfl) (by kernel_rfl) _ (by kernel_rfl)) (awake_walk W79) ?_
        intro W83 M84
        refine st_val (.bool true) (by kernel_rfl) (by kernel_rfl) ?_
        refine st_val (.int .i64 ((needR s us1 ((needR s us2 w0).1)).1)) (by kernel_rfl) (by kernel_rfl) ?_
        refine st_val (.int .i64 ((needR s (us1 ++ us2) w0).1)) (by kernel_rfl) (by kernel_rfl) ?_
        refine st_val (.bool true) (by kernel_rfl) (bool_of (dec_t (show ((needR s us1 ((needR s us2 w0).1)).1 : Int) = (needR s (us1 ++ us2) w0).1 from (congrArg Prod.fst (joins_ok c43 (by omega))))) (by kernel_rfl)) ?_
        refine st_val (.bool true) (by kernel_rfl) (by kernel_rfl) ?_
        refine st_val (.bool true) (by kernel_rfl) (by kernel_rfl) ?_
        refine st_val (.int .i64 ((needR s us1 ((needR s us2 w0).1)).2)) (by kernel_rfl) (by kernel_rfl) ?_
        refine st_val (.int .i64 ((needR s (us1 ++ us2) w0).2)) (by kernel_rfl) (by kernel_rfl) ?_
        refine st_val (.bool true) (by kernel_rfl) (bool_of (dec_t (show ((needR s us1 ((needR s us2 w0).1)).2 : Int) = (needR s (us1 ++ us2) w0).2 from (congrArg Prod.snd (joins_ok c43 (by omega))))) (by kernel_rfl)) ?_
        refine st_val (.bool true) (by kernel_rfl) (by kernel_rfl) ?_
        refine st_val (.bool true) (by kernel_rfl) (by kernel_rfl) ?_
        refine wl_nil ?_
        refine hK82 _ _ ?_
        try clear hK82 K82
        refine wp_frame (a' := ⟨#[.agg (sqv s), .slice A1 us1.length c1, .slice A2 us2.length c2, .int .i64 w0, .pointer (some ⟨g2, 0, none⟩), undef, undef, undef, .bool true, .int .i64 ((needR s us2 w0).1), .int .i64 ((needR s us2 w0).2), .int .i64 ((needR s (us1 ++ us2) w0).1), .int .i64 ((needR s (us1 ++ us2) w0).2), .int .i64 ((needR s us1 ((needR s us2 w0).1)).1), .int .i64 ((needR s us1 ((needR s us2 w0).1)).2), .slice A1 us1.length c1, .int .i64 ((us1.length : Nat) : Int), .bool false, .bool false, .slice A2 us2.length c2, .int .i64 ((us2.length : Nat) : Int), .bool false, .bool false, .tuple #[.int .i64 ((needR s us2 w0).1), .int .i64 ((needR s us2 w0).2)], .agg (sqv s), .slice A2 us2.length c2, .slice A19 us2.length c20, .int .i64 w0, .tuple #[.int .i64 ((needR s us2 w0).1), .int .i64 ((needR s us2 w0).2)], .int .i64 ((needR s us2 w0).1), .int .i64 ((needR s us2 w0).2), .tuple #[.int .i64 ((needR s (us1 ++ us2) w0).1), .int .i64 ((needR s (us1 ++ us2) w0).2)], .agg (sqv s), .slice A1 us1.length c1, .slice A36 us1.length c37, .slice A2 us2.length c2, .slice A45 us2.length c46, .slice A55 (us1.length + us2.length) c56, .int .i64 w0, .tuple #[.int .i64 ((needR s (us1 ++ us2) w0).1), .int .i64 ((needR s (us1 ++ us2) w0).2)], .int .i64 ((needR s (us1 ++ us2) w0).1), .int .i64 ((needR s (us1 ++ us2) w0).2), .int .i64 ((needR s us2 w0).2), .bool false, undef, undef, undef, undef, undef, undef, undef, undef, undef, undef, .tuple #[.int .i64 ((needR s us1 ((needR s us2 w0).1)).1), .int .i64 ((needR s us1 ((needR s us2 w0).1)).2)], .agg (sqv s), .slice A1 us1.length c1, .slice A75 us1.length c76, .int .i64 ((needR s us2 w0).1), .tuple #[.int .i64 ((needR s us1 ((needR s us2 w0).1)).1), .int .i64 ((needR s us1 ((needR s us2 w0).1)).2)], .int .i64 ((needR s us1 ((needR s us2 w0).1)).1), .int .i64 ((needR s us1 ((needR s us2 w0).1)).2), .bool true, .bool true, .int .i64 ((needR s us1 ((needR s us2 w0).1)).1), .int .i64 ((needR s (us1 ++ us2) w0).1), .bool true, .bool true, .bool true, .int .i64 ((needR s us1 ((needR s us2 w0).1)).2), .int .i64 ((needR s (us1 ++ us2) w0).2), .bool true, .bool true], []⟩) (by kernel_rfl) ?_
        refine wp_ret ?_
        exact done1 8 (.bool true) (by kernel_rfl) (by kernel_rfl) (by kernel_rfl) ⟨rfl, M84.toBelow⟩
      ·
        refine st_val (.bool true) (by kernel_rfl) (bool_of (neq_t c43) (by kernel_rfl)) ?_
        refine wl_nil ?_
        refine hK64 _ _ ?_
        try clear hK64 K64
        refine wp_cond_true (by kernel_rfl) ?_
        refine wp_seq_k (fun K85 hK85 => ?_)
        refine wl_region ?_
        refine st_callB M61 (.bool true) (by kernel_rfl) (args := #[]) (run_value_call 11 #[] _ rfl Try.func11 (by kernel_rfl) (by kernel_rfl) _ (by kernel_rfl)) (awake_walk W60) ?_
        intro W86 M87
        refine st_val (.bool true) (by kernel_rfl) (by kernel_rfl) ?_
        refine st_val (.int .i64 ((needR s (us1 ++ us2) w0).2)) (by kernel_rfl) (by kernel_rfl) ?_
        refine st_val (.int .i64 ((needR s us2 w0).2)) (by kernel_rfl) (by kernel_rfl) ?_
        rcases Decidable.em (((needR s (us1 ++ us2) w0).2 : Int) = (needR s us2 w0).2) with c48 | c48
        ·
          refine st_val (.bool true) (by kernel_rfl) (bool_of (dec_t c48) (by kernel_rfl)) ?_
          refine st_val (.bool true) (by kernel_rfl) (by kernel_rfl) ?_
          refine st_skip (by kernel_rfl) ?_
          refine st_skip (by kernel_rfl) ?_
          refine st_val (.bool true) (by kernel_rfl) (by kernel_rfl) ?_
          refine st_val (.bool true) (by kernel_rfl) (by kernel_rfl) ?_
          refine st_val (.bool true) (by kernel_rfl) (by kernel_rfl) ?_
          refine wl_nil ?_
          refine hK85 _ _ ?_
          try clear hK85 K85
          refine wp_frame (a' := ⟨#[.agg (sqv s), .slice A1 us1.length c1, .slice A2 us2.length c2, .int .i64 w0, .pointer (some ⟨g2, 0, none⟩), undef, undef, undef, .bool true, .int .i64 ((needR s us2 w0).1), .int .i64 ((needR s us2 w0).2), .int .i64 ((needR s (us1 ++ us2) w0).1), .int .i64 ((needR s (us1 ++ us2) w0).2), undef, undef, .slice A1 us1.length c1, .int .i64 ((us1.length : Nat) : Int), .bool false, .bool false, .slice A2 us2.length c2, .int .i64 ((us2.length : Nat) : Int), .bool false, .bool false, .tuple #[.int .i64 ((needR s us2 w0).1), .int .i64 ((needR s us2 w0).2)], .agg (sqv s), .slice A2 us2.length c2, .slice A19 us2.length c20, .int .i64 w0, .tuple #[.int .i64 ((needR s us2 w0).1), .int .i64 ((needR s us2 w0).2)], .int .i64 ((needR s us2 w0).1), .int .i64 ((needR s us2 w0).2), .tuple #[.int .i64 ((needR s (us1 ++ us2) w0).1), .int .i64 ((needR s (us1 ++ us2) w0).2)], .agg (sqv s), .slice A1 us1.length c1, .slice A36 us1.length c37, .slice A2 us2.length c2, .slice A45 us2.length c46, .slice A55 (us1.length + us2.length) c56, .int .i64 w0, .tuple #[.int .i64 ((needR s (us1 ++ us2) w0).1), .int .i64 ((needR s (us1 ++ us2) w0).2)], .int .i64 ((needR s (us1 ++ us2) w0).1), .int .i64 ((needR s (us1 ++ us2) w0).2), .int .i64 ((needR s us2 w0).2), .bool true, .bool true, .bool true, .int .i64 ((needR s (us1 ++ us2) w0).2), .int .i64 ((needR s us2 w0).2), .bool true, .bool true, undef, undef, .bool true, .bool true, undef, undef, undef, undef, undef, undef, undef, undef, undef, undef, undef, undef, undef, undef, undef, undef, undef, undef, undef], []⟩) (by kernel_rfl) ?_
          refine wp_ret ?_
          refine th_ret ?_
          exact done1 8 (.bool true) (by kernel_rfl) (by kernel_rfl) (by kernel_rfl) ⟨rfl, M87.toBelow⟩
        ·
          refine st_val (.bool false) (by kernel_rfl) (bool_of (dec_f c48) (by kernel_rfl)) ?_
          refine st_val (.bool false) (by kernel_rfl) (by kernel_rfl) ?_
          refine st_val (.int .i64 ((needR s (us1 ++ us2) w0).2)) (by kernel_rfl) (by kernel_rfl) ?_
          refine st_val (.bool true) (by kernel_rfl) (bool_of (dec_t (show ((needR s (us1 ++ us2) w0).2 : Int) = 1 from ((joins_bad c43).resolve_left c48))) (by kernel_rfl)) ?_
          refine st_val (.bool true) (by kernel_rfl) (by kernel_rfl) ?_
          refine st_val (.bool true) (by kernel_rfl) (by kernel_rfl) ?_
          refine st_val (.bool true) (by kernel_rfl) (by kernel_rfl) ?_
          refine wl_nil ?_
          refine hK85 _ _ ?_
          try clear hK85 K85
          refine wp_frame (a' := ⟨#[.agg (sqv s), .slice A1 us1.length c1, .slice A2 us2.length c2, .int .i64 w0, .pointer (some ⟨g2, 0, none⟩), undef, undef, undef, .bool true, .int .i64 ((needR s us2 w0).1), .int .i64 ((needR s us2 w0).2), .int .i64 ((needR s (us1 ++ us2) w0).1), .int .i64 ((needR s (us1 ++ us2) w0).2), undef, undef, .slice A1 us1.length c1, .int .i64 ((us1.length : Nat) : Int), .bool false, .bool false, .slice A2 us2.length c2, .int .i64 ((us2.length : Nat) : Int), .bool false, .bool false, .tuple #[.int .i64 ((needR s us2 w0).1), .int .i64 ((needR s us2 w0).2)], .agg (sqv s), .slice A2 us2.length c2, .slice A19 us2.length c20, .int .i64 w0, .tuple #[.int .i64 ((needR s us2 w0).1), .int .i64 ((needR s us2 w0).2)], .int .i64 ((needR s us2 w0).1), .int .i64 ((needR s us2 w0).2), .tuple #[.int .i64 ((needR s (us1 ++ us2) w0).1), .int .i64 ((needR s (us1 ++ us2) w0).2)], .agg (sqv s), .slice A1 us1.length c1, .slice A36 us1.length c37, .slice A2 us2.length c2, .slice A45 us2.length c46, .slice A55 (us1.length + us2.length) c56, .int .i64 w0, .tuple #[.int .i64 ((needR s (us1 ++ us2) w0).1), .int .i64 ((needR s (us1 ++ us2) w0).2)], .int .i64 ((needR s (us1 ++ us2) w0).1), .int .i64 ((needR s (us1 ++ us2) w0).2), .int .i64 ((needR s us2 w0).2), .bool true, .bool true, .bool true, .int .i64 ((needR s (us1 ++ us2) w0).2), .int .i64 ((needR s us2 w0).2), .bool false, .bool false, .int .i64 ((needR s (us1 ++ us2) w0).2), .bool true, .bool true, .bool true, undef, undef, undef, undef, undef, undef, undef, undef, undef, undef, undef, undef, undef, undef, undef, undef, undef, undef, undef], []⟩) (by kernel_rfl) ?_
          refine wp_ret ?_
          refine th_ret ?_
          exact done1 8 (.bool true) (by kernel_rfl) (by kernel_rfl) (by kernel_rfl) ⟨rfl, M87.toBelow⟩
end Go.Proofs.Ytolfkaljbgpkhaa
