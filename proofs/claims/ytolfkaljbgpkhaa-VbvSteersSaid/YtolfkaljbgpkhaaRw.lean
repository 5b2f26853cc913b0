/- Run and First. -/
import Derived.Test.YtolfkaljbgpkhaaRv
namespace Go.Proofs.Ytolfkaljbgpkhaa
open Go.RowKit

theorem runI_none {o : Option Nat} (h : ¬ runI o ≥ 0) : o = none := by
  cases o with
  | none => rfl
  | some n => exact (h (by show (n : Int) ≥ 0; omega)).elim
theorem runI_some {o : Option Nat} (h : runI o ≥ 0) : ∃ n, o = some n := by
  cases o with
  | none => exact absurd h (by decide)
  | some n => exact ⟨n, rfl⟩
noncomputable def rE (s : SeqD) (us : List UnitD) (start : Int) : Int := @ite _ (PR s us start) (Classical.propDecidable _) (match (runS s us start).2 with | none => 0 | some _ => 9) 1
noncomputable def rL (s : SeqD) (us : List UnitD) (start : Int) : List (Int × Int) := @ite _ (PR s us start) (Classical.propDecidable _) (match (runS s us start).2 with | none => (runS s us start).1 | some _ => []) []
noncomputable def fI (s : SeqD) (us : List UnitD) (start : Int) : Int := @ite _ (PR s us start) (Classical.propDecidable _) (runI (runS s us start).2) (-1)
theorem r_arg {s : SeqD} {us : List UnitD} {start : Int} (h : ¬ PR s us start) : rE s us start = 1 ∧ rL s us start = [] := by unfold rE rL; rw [if_neg h, if_neg h]; exact ⟨rfl, rfl⟩
theorem r_bad {s : SeqD} {us : List UnitD} {start : Int} (hp : PR s us start) {n : Nat} (h : (runS s us start).2 = some n) : rE s us start = 9 ∧ rL s us start = [] := by unfold rE rL; rw [if_pos hp, if_pos hp, h]; exact ⟨rfl, rfl⟩
theorem r_ok {s : SeqD} {us : List UnitD} {start : Int} (hp : PR s us start) (h : (runS s us start).2 = none) : rE s us start = 0 ∧ rL s us start = (runS s us start).1 := by unfold rE rL; rw [if_pos hp, if_pos hp, h]; exact ⟨rfl, rfl⟩
theorem fI_arg {s : SeqD} {us : List UnitD} {start : Int} (h : ¬ PR s us start) : fI s us start = -1 := by unfold fI; rw [if_neg h]
theorem fI_ok {s : SeqD} {us : List UnitD} {start : Int} (hp : PR s us start) : fI s us start = runI (runS s us start).2 := by unfold fI; rw [if_pos hp]
theorem runO_len {c d cap : Int} (us : List UnitD) : ∀ full, (runO c d cap full us).1.length ≤ us.length := by
  induction us with
  | nil => intro full; exact Nat.le_refl _
  | cons u r ih =>
    intro full
    simp only [runO]
    split
    · exact Nat.zero_le _
    · simp only [List.length_cons]; have := ih (full - c * u.bits + d * u.fields); omega
theorem rL_len (s : SeqD) (us : List UnitD) (x : Int) : (rL s us x).length ≤ us.length := by
  by_cases hp : PR s us x
  · cases h : (runS s us x).2 with
    | none => rw [(r_ok hp h).2]; exact runO_len us x
    | some n => rw [(r_bad hp h).2]; exact Nat.zero_le _
  · rw [(r_arg hp).2]; exact Nat.zero_le _
set_option maxHeartbeats 4000000 in
set_option maxRecDepth 100000 in
theorem run_walk (w : World) (s : SeqD) (hs : SOk s) (v : Value) (us : List UnitD) (hr : RdK w v us.length (flat us)) (start : Int) : MakesRow Try.prog 23 #[.agg (sqv s), v, .int .i64 start] w (fun v T => ∃ v1, v = .tuple #[v1, .int .i64 (rE s us start)] ∧ Own 54 2 v1 (rL s us start).length (lflat (rL s us start)) T) := by
  unfold MakesRow
  obtain ⟨A, c, rfl, hc⟩ := hr.shape
  refine calls_of_wp Try.func23 rfl ?_
  refine wp_frame (a' := ⟨#[.agg (sqv s), .slice A us.length c, .int .i64 start, undef, undef, undef, undef, undef, undef, undef, undef, undef, undef, undef, undef, undef, undef, undef, undef, undef, undef, undef, undef, undef, undef, undef], []⟩) (by kernel_rfl) ?_
  have M0 : Mem NoS w w [] := Mem.start _ _
  refine wp_seq_k (fun K1 hK1 => ?_)
  refine wl_region ?_
  refine st_alloc M0 (.cells (sqv s) 26 (0, 0)) (by kernel_rfl) (by kernel_rfl) ?_
  intro g2 W3 M4
  refine st_val ((Go.Value.slice none 0 0)) (by kernel_rfl) (by kernel_rfl) ?_
  refine st_val (.int .i64 0) (by kernel_rfl) (by kernel_rfl) ?_
  refine wl_nil ?_
  refine hK1 _ _ ?_
  try clear hK1 K1
  refine wp_seq_k (fun K5 hK5 => ?_)
  refine wp_seq_k (fun K6 hK6 => ?_)
  refine wl_region ?_
  refine st_val (.agg (sqv s)) (by kernel_rfl) (run_load_row 26 (.tmp 3) rfl g2 (by kernel_rfl) 26 (sqv s) (0, 0) _ (M4.get 0 rfl) Try.underlying26 rfl (infoSq hs.la hs.lb)) ?_
  refine st_val (.slice A us.length c) (by kernel_rfl) (by kernel_rfl) ?_
  refine st_val (.int .i64 start) (by kernel_rfl) (by kernel_rfl) ?_
  rcases Bool.eq_false_or_eq_true (prB s us start) with hp13 | hp13
  ·
    refine st_callB M4 (.bool true) (by kernel_rfl) (args := #[.agg (sqv s), .slice A us.length c, .int .i64 start]) (run_value_call 35 #[(Operand.tmp 10), (Operand.tmp 11), (Operand.tmp 12)] _ rfl Try.func35 (by kernel_rfl) (by kernel_rfl) _ (by kernel_rfl)) ((by have := proper_walk W3 s hs (.slice A us.length c) us (hr.keep M4.keep (fun _ _ h => h)) start; rw [hp13] at this; exact this)) ?_
    intro W7 M8
    have hpr := PR_of hp13
    have hv := hpr.1
    obtain ⟨vn1, vn2, vd1, vd2, vb1, vb2, vu1, vu2, vP, vQ, vR⟩ := SV_facts hv
    have hcap := capS_t hv
    have hul := hpr.2.2.2.1
    refine st_val (.bool false) (by kernel_rfl) (by kernel_rfl) ?_
    refine wl_nil ?_
    refine hK6 _ _ ?_
    try clear hK6 K6
    refine wp_cond_false (by kernel_rfl) ?_
    refine wp_skip ?_
    refine hK5 _ _ ?_
    try clear hK5 K5
    refine wp_seq_k (fun K9 hK9 => ?_)
    refine wl_region ?_
    refine st_val (.agg (sqv s)) (by kernel_rfl) (run_load_row 26 (.tmp 3) rfl g2 (by kernel_rfl) 26 (sqv s) (0, 0) _ (M8.get 0 rfl) Try.underlying26 rfl (infoSq hs.la hs.lb)) ?_
    refine st_val (.agg (sqv s)) (by kernel_rfl) (run_build_model (.tmp 16) rfl (sqv s) (by kernel_rfl) (sqv_size hs.la hs.lb)) ?_
    refine st_val (.slice A us.length c) (by kernel_rfl) (by kernel_rfl) ?_
    refine st_val (.int .i64 start) (by kernel_rfl) (by kernel_rfl) ?_
    refine st_callR (A := [(g2, .cells (sqv s) 26 (0, 0))]) (B := []) M8 (by kernel_rfl) (run_value_call 37 #[(Operand.tmp 17), (Operand.tmp 18), (Operand.tmp 19)] _ rfl Try.func37 (by kernel_rfl) (by kernel_rfl) _ (by kernel_rfl)) (mrun_walk W7 s hs (.slice A us.length c) us (hr.keep M8.keep (fun _ _ h => h)) start hpr) ?_
    intro v10 T11 W12 O13 M14
    have M14 : Mem NoS w W12 ((g2, .cells (sqv s) 26 (0, 0)) :: (T11 ++ [])) := M14
    obtain ⟨v15, rfl, O16⟩ := O13
    refine st_val (.tuple #[v15, .int .i64 (runI (runS s us start).2)]) (by kernel_rfl) (by kernel_rfl) ?_
    refine st_val (v15) (by kernel_rfl) (by kernel_rfl) ?_
    refine st_val (.int .i64 (runI (runS s us start).2)) (by kernel_rfl) (by kernel_rfl) ?_
    refine st_val (v15) (by kernel_rfl) (by kernel_rfl) ?_
    refine st_val (.int .i64 (runI (runS s us start).2)) (by kernel_rfl) (by kernel_rfl) ?_
    refine wl_nil ?_
    refine hK9 _ _ ?_
    try clear hK9 K9
    refine wp_frame (a' := ⟨#[.agg (sqv s), .slice A us.length c, .int .i64 start, .pointer (some ⟨g2, 0, none⟩), undef, undef, (Go.Value.slice none 0 0), .int .i64 0, v15, .int .i64 (runI (runS s us start).2), .agg (sqv s), .slice A us.length c, .int .i64 start, .bool true, .bool false, .tuple #[v15, .int .i64 (runI (runS s us start).2)], .agg (sqv s), .agg (sqv s), .slice A us.length c, .int .i64 start, .tuple #[v15, .int .i64 (runI (runS s us start).2)], v15, .int .i64 (runI (runS s us start).2), undef, undef, undef], []⟩) (by kernel_rfl) ?_
    refine wp_seq_k (fun K17 hK17 => ?_)
    refine wp_seq_k (fun K18 hK18 => ?_)
    refine wl_region ?_
    refine st_val (.int .i64 (runI (runS s us start).2)) (by kernel_rfl) (by kernel_rfl) ?_
    rcases Decidable.em ((runI (runS s us start).2 : Int) ≥ 0) with c24 | c24
    ·
      refine st_val (.bool true) (by kernel_rfl) (bool_of (dec_t c24) (by kernel_rfl)) ?_
      refine wl_nil ?_
      refine hK18 _ _ ?_
      try clear hK18 K18
      refine wp_cond_true (by kernel_rfl) ?_
      refine wp_seq_k (fun K19 hK19 => ?_)
      refine wl_region ?_
      refine st_val ((Go.Value.slice none 0 0)) (by kernel_rfl) (by kernel_rfl) ?_
      refine st_val (.int .i64 9) (by kernel_rfl) (by kernel_rfl) ?_
      refine wl_nil ?_
      refine hK19 _ _ ?_
      try clear hK19 K19
      refine wp_ret ?_
      refine th_ret ?_
      obtain ⟨nb, hnb⟩ := runI_some c24
      exact done2 6 7 ((Go.Value.slice none 0 0)) (.int .i64 9) (by kernel_rfl) (by kernel_rfl) (by kernel_rfl) (by kernel_rfl) ⟨_, [], rfl, ⟨_, by rw [(r_bad hpr hnb).1], by rw [(r_bad hpr hnb).2]; exact Own.nil _ _⟩, M14.sub (List.nil_sublist _)⟩
    ·
      refine st_val (.bool false) (by kernel_rfl) (bool_of (dec_f c24) (by kernel_rfl)) ?_
      refine wl_nil ?_
      refine hK18 _ _ ?_
      try clear hK18 K18
      refine wp_cond_false (by kernel_rfl) ?_
      refine wp_skip ?_
      refine hK17 _ _ ?_
      try clear hK17 K17
      refine wp_seq_k (fun K20 hK20 => ?_)
      refine wl_region ?_
      refine st_val (v15) (by kernel_rfl) (by kernel_rfl) ?_
      refine st_val (v15) (by kernel_rfl) (by kernel_rfl) ?_
      refine st_val (.int .i64 0) (by kernel_rfl) (by kernel_rfl) ?_
      refine wl_nil ?_
      refine hK20 _ _ ?_
      try clear hK20 K20
      refine wp_ret ?_
      have hno := runI_none c24
      exact done2 6 7 (v15) (.int .i64 0) (by kernel_rfl) (by kernel_rfl) (by kernel_rfl) (by kernel_rfl) ⟨_, T11, rfl, ⟨_, by rw [(r_ok hpr hno).1], by rw [(r_ok hpr hno).2]; exact O16 hno⟩, M14.sub ((List.sublist_append_left T11 []).cons _)⟩
  ·
    have hpn := prB_not hp13
    refine st_callB M4 (.bool false) (by kernel_rfl) (args := #[.agg (sqv s), .slice A us.length c, .int .i64 start]) (run_value_call 35 #[(Operand.tmp 10), (Operand.tmp 11), (Operand.tmp 12)] _ rfl Try.func35 (by kernel_rfl) (by kernel_rfl) _ (by kernel_rfl)) ((by have := proper_walk W3 s hs (.slice A us.length c) us (hr.keep M4.keep (fun _ _ h => h)) start; rw [hp13] at this; exact this)) ?_
    intro W21 M22
    refine st_val (.bool true) (by kernel_rfl) (by kernel_rfl) ?_
    refine wl_nil ?_
    refine hK6 _ _ ?_
    try clear hK6 K6
    refine wp_cond_true (by kernel_rfl) ?_
    refine wp_seq_k (fun K23 hK23 => ?_)
    refine wl_region ?_
    refine st_val ((Go.Value.slice none 0 0)) (by kernel_rfl) (by kernel_rfl) ?_
    refine st_val (.int .i64 1) (by kernel_rfl) (by kernel_rfl) ?_
    refine wl_nil ?_
    refine hK23 _ _ ?_
    try clear hK23 K23
    refine wp_ret ?_
    refine th_ret ?_
    exact done2 6 7 ((Go.Value.slice none 0 0)) (.int .i64 1) (by kernel_rfl) (by kernel_rfl) (by kernel_rfl) (by kernel_rfl) ⟨_, [], rfl, ⟨_, by rw [(r_arg hpn).1], by rw [(r_arg hpn).2]; exact Own.nil _ _⟩, M22.sub (List.nil_sublist _)⟩
set_option maxHeartbeats 4000000 in
set_option maxRecDepth 100000 in
theorem refRun_walk (w : World) (s : SeqD) (hs : SOk s) (v : Value) (us : List UnitD) (hr : RdK w v us.length (flat us)) (start : Int) : MakesRow Try.prog 24 #[.agg (sqv s), v, .int .i64 start] w (fun v T => ∃ v1, v = .tuple #[v1, .int .i64 (rE s us start)] ∧ Own 55 2 v1 (rL s us start).length (lflat (rL s us start)) T) := by
  unfold MakesRow
  obtain ⟨A, c, rfl, hc⟩ := hr.shape
  refine calls_of_wp Try.func24 rfl ?_
  refine wp_frame (a' := ⟨#[.agg (sqv s), .slice A us.length c, .int .i64 start, undef, undef, undef, undef, undef, undef, undef, undef, undef, undef, undef, undef, undef, undef, undef, undef, undef, undef, undef, undef, undef, undef], []⟩) (by kernel_rfl) ?_
  have M0 : Mem NoS w w [] := Mem.start _ _
  refine wp_seq_k (fun K1 hK1 => ?_)
  refine wl_region ?_
  refine st_alloc M0 (.cells (sqv s) 26 (0, 0)) (by kernel_rfl) (by kernel_rfl) ?_
  intro g2 W3 M4
  refine st_val ((Go.Value.slice none 0 0)) (by kernel_rfl) (by kernel_rfl) ?_
  refine st_val (.int .i64 0) (by kernel_rfl) (by kernel_rfl) ?_
  refine wl_nil ?_
  refine hK1 _ _ ?_
  try clear hK1 K1
  refine wp_seq_k (fun K5 hK5 => ?_)
  refine wp_seq_k (fun K6 hK6 => ?_)
  refine wl_region ?_
  refine st_val (.agg (sqv s)) (by kernel_rfl) (run_load_row 26 (.tmp 3) rfl g2 (by kernel_rfl) 26 (sqv s) (0, 0) _ (M4.get 0 rfl) Try.underlying26 rfl (infoSq hs.la hs.lb)) ?_
  refine st_val (.slice A us.length c) (by kernel_rfl) (by kernel_rfl) ?_
  refine st_val (.int .i64 start) (by kernel_rfl) (by kernel_rfl) ?_
  rcases Bool.eq_false_or_eq_true (prB s us start) with hp13 | hp13
  ·
    refine st_callB M4 (.bool true) (by kernel_rfl) (args := #[.agg (sqv s), .slice A us.length c, .int .i64 start]) (run_value_call 36 #[(Operand.tmp 10), (Operand.tmp 11), (Operand.tmp 12)] _ rfl Try.func36 (by kernel_rfl) (by kernel_rfl) _ (by kernel_rfl)) ((by have := refProper_walk W3 s hs (.slice A us.length c) us (hr.keep M4.keep (fun _ _ h => h)) start; rw [hp13] at this; exact this)) ?_
    intro W7 M8
    have hpr := PR_of hp13
    have hv := hpr.1
    obtain ⟨vn1, vn2, vd1, vd2, vb1, vb2, vu1, vu2, vP, vQ, vR⟩ := SV_facts hv
    have hcap := capS_t hv
    have hul := hpr.2.2.2.1
    refine st_val (.bool false) (by kernel_rfl) (by kernel_rfl) ?_
    refine wl_nil ?_
    refine hK6 _ _ ?_
    try clear hK6 K6
    refine wp_cond_false (by kernel_rfl) ?_
    refine wp_skip ?_
    refine hK5 _ _ ?_
    try clear hK5 K5
    refine wp_seq_k (fun K9 hK9 => ?_)
    refine wl_region ?_
    refine st_val (.agg (sqv s)) (by kernel_rfl) (run_load_row 26 (.tmp 3) rfl g2 (by kernel_rfl) 26 (sqv s) (0, 0) _ (M8.get 0 rfl) Try.underlying26 rfl (infoSq hs.la hs.lb)) ?_
    refine st_val (.slice A us.length c) (by kernel_rfl) (by kernel_rfl) ?_
    refine st_val (.int .i64 start) (by kernel_rfl) (by kernel_rfl) ?_
    refine st_callR (A := [(g2, .cells (sqv s) 26 (0, 0))]) (B := []) M8 (by kernel_rfl) (run_value_call 38 #[(Operand.tmp 16), (Operand.tmp 17), (Operand.tmp 18)] _ rfl Try.func38 (by kernel_rfl) (by kernel_rfl) _ (by kernel_rfl)) (ran_walk W7 s hs (.slice A us.length c) us (hr.keep M8.keep (fun _ _ h => h)) start hpr) ?_
    intro v10 T11 W12 O13 M14
    have M14 : Mem NoS w W12 ((g2, .cells (sqv s) 26 (0, 0)) :: (T11 ++ [])) := M14
    obtain ⟨v15, rfl, O16⟩ := O13
    refine st_val (.tuple #[v15, .int .i64 (runI (runS s us start).2)]) (by kernel_rfl) (by kernel_rfl) ?_
    refine st_val (v15) (by kernel_rfl) (by kernel_rfl) ?_
    refine st_val (.int .i64 (runI (runS s us start).2)) (by kernel_rfl) (by kernel_rfl) ?_
    refine st_val (v15) (by kernel_rfl) (by kernel_rfl) ?_
    refine st_val (.int .i64 (runI (runS s us start).2)) (by kernel_rfl) (by kernel_rfl) ?_
    refine wl_nil ?_
    refine hK9 _ _ ?_
    try clear hK9 K9
    refine wp_frame (a' := ⟨#[.agg (sqv s), .slice A us.length c, .int .i64 start, .pointer (some ⟨g2, 0, none⟩), undef, undef, (Go.Value.slice none 0 0), .int .i64 0, v15, .int .i64 (runI (runS s us start).2), .agg (sqv s), .slice A us.length c, .int .i64 start, .bool true, .bool false, .tuple #[v15, .int .i64 (runI (runS s us start).2)], .agg (sqv s), .slice A us.length c, .int .i64 start, .tuple #[v15, .int .i64 (runI (runS s us start).2)], v15, .int .i64 (runI (runS s us start).2), undef, undef, undef], []⟩) (by kernel_rfl) ?_
    refine wp_seq_k (fun K17 hK17 => ?_)
    refine wp_seq_k (fun K18 hK18 => ?_)
    refine wl_region ?_
    refine st_val (.int .i64 (runI (runS s us start).2)) (by kernel_rfl) (by kernel_rfl) ?_
    rcases Decidable.em ((runI (runS s us start).2 : Int) ≥ 0) with c23 | c23
    ·
      refine st_val (.bool true) (by kernel_rfl) (bool_of (dec_t c23) (by kernel_rfl)) ?_
      refine wl_nil ?_
      refine hK18 _ _ ?_
      try clear hK18 K18
      refine wp_cond_true (by kernel_rfl) ?_
      refine wp_seq_k (fun K19 hK19 => ?_)
      refine wl_region ?_
      refine st_val ((Go.Value.slice none 0 0)) (by kernel_rfl) (by kernel_rfl) ?_
      refine st_val (.int .i64 9) (by kernel_rfl) (by kernel_rfl) ?_
      refine wl_nil ?_
      refine hK19 _ _ ?_
      try clear hK19 K19
      refine wp_ret ?_
      refine th_ret ?_
      obtain ⟨nb, hnb⟩ := runI_some c23
      exact done2 6 7 ((Go.Value.slice none 0 0)) (.int .i64 9) (by kernel_rfl) (by kernel_rfl) (by kernel_rfl) (by kernel_rfl) ⟨_, [], rfl, ⟨_, by rw [(r_bad hpr hnb).1], by rw [(r_bad hpr hnb).2]; exact Own.nil _ _⟩, M14.sub (List.nil_sublist _)⟩
    ·
      refine st_val (.bool false) (by kernel_rfl) (bool_of (dec_f c23) (by kernel_rfl)) ?_
      refine wl_nil ?_
      refine hK18 _ _ ?_
      try clear hK18 K18
      refine wp_cond_false (by kernel_rfl) ?_
      refine wp_skip ?_
      refine hK17 _ _ ?_
      try clear hK17 K17
      refine wp_seq_k (fun K20 hK20 => ?_)
      refine wl_region ?_
      refine st_val (v15) (by kernel_rfl) (by kernel_rfl) ?_
      refine st_val (v15) (by kernel_rfl) (by kernel_rfl) ?_
      refine st_val (.int .i64 0) (by kernel_rfl) (by kernel_rfl) ?_
      refine wl_nil ?_
      refine hK20 _ _ ?_
      try clear hK20 K20
      refine wp_ret ?_
      have hno := runI_none c23
      exact done2 6 7 (v15) (.int .i64 0) (by kernel_rfl) (by kernel_rfl) (by kernel_rfl) (by kernel_rfl) ⟨_, T11, rfl, ⟨_, by rw [(r_ok hpr hno).1], by rw [(r_ok hpr hno).2]; exact O16 hno⟩, M14.sub ((List.sublist_append_left T11 []).cons _)⟩
  ·
    have hpn := prB_not hp13
    refine st_callB M4 (.bool false) (by kernel_rfl) (args := #[.agg (sqv s), .slice A us.length c, .int .i64 start]) (run_value_call 36 #[(Operand.tmp 10), (Operand.tmp 11), (Operand.tmp 12)] _ rfl Try.func36 (by kernel_rfl) (by kernel_rfl) _ (by kernel_rfl)) ((by have := refProper_walk W3 s hs (.slice A us.length c) us (hr.keep M4.keep (fun _ _ h => h)) start; rw [hp13] at this; exact this)) ?_
    intro W21 M22
    refine st_val (.bool true) (by kernel_rfl) (by kernel_rfl) ?_
    refine wl_nil ?_
    refine hK6 _ _ ?_
    try clear hK6 K6
    refine wp_cond_true (by kernel_rfl) ?_
    refine wp_seq_k (fun K23 hK23 => ?_)
    refine wl_region ?_
    refine st_val ((Go.Value.slice none 0 0)) (by kernel_rfl) (by kernel_rfl) ?_
    refine st_val (.int .i64 1) (by kernel_rfl) (by kernel_rfl) ?_
    refine wl_nil ?_
    refine hK23 _ _ ?_
    try clear hK23 K23
    refine wp_ret ?_
    refine th_ret ?_
    exact done2 6 7 ((Go.Value.slice none 0 0)) (.int .i64 1) (by kernel_rfl) (by kernel_rfl) (by kernel_rfl) (by kernel_rfl) ⟨_, [], rfl, ⟨_, by rw [(r_arg hpn).1], by rw [(r_arg hpn).2]; exact Own.nil _ _⟩, M22.sub (List.nil_sublist _)⟩
set_option maxHeartbeats 4000000 in
set_option maxRecDepth 100000 in
theorem first_walk (w : World) (s : SeqD) (hs : SOk s) (v : Value) (us : List UnitD) (hr : RdK w v us.length (flat us)) (start : Int) : Calls Try.prog 25 #[.agg (sqv s), v, .int .i64 start] w fun e w' => e = .returned (.int .i64 (fI s us start)) ∧ Below w.heap.size w w' := by
  obtain ⟨A, c, rfl, hc⟩ := hr.shape
  refine calls_of_wp Try.func25 rfl ?_
  refine wp_frame (a' := ⟨#[.agg (sqv s), .slice A us.length c, .int .i64 start, undef, undef, undef, undef, undef, undef, undef, undef, undef, undef, undef, undef, undef, undef, undef, undef, undef, undef, undef, undef], []⟩) (by kernel_rfl) ?_
  have M0 : Mem NoS w w [] := Mem.start _ _
  refine wp_seq_k (fun K1 hK1 => ?_)
  refine wl_region ?_
  refine st_alloc M0 (.cells (sqv s) 26 (0, 0)) (by kernel_rfl) (by kernel_rfl) ?_
  intro g2 W3 M4
  refine st_val (.int .i64 0) (by kernel_rfl) (by kernel_rfl) ?_
  refine wl_nil ?_
  refine hK1 _ _ ?_
  try clear hK1 K1
  refine wp_seq_k (fun K5 hK5 => ?_)
  refine wp_seq_k (fun K6 hK6 => ?_)
  refine wl_region ?_
  refine st_val (.agg (sqv s)) (by kernel_rfl) (run_load_row 26 (.tmp 3) rfl g2 (by kernel_rfl) 26 (sqv s) (0, 0) _ (M4.get 0 rfl) Try.underlying26 rfl (infoSq hs.la hs.lb)) ?_
  refine st_val (.slice A us.length c) (by kernel_rfl) (by kernel_rfl) ?_
  refine st_val (.int .i64 start) (by kernel_rfl) (by kernel_rfl) ?_
  rcases Bool.eq_false_or_eq_true (prB s us start) with hp12 | hp12
  ·
    refine st_callB M4 (.bool true) (by kernel_rfl) (args := #[.agg (sqv s), .slice A us.length c, .int .i64 start]) (run_value_call 35 #[(Operand.tmp 9), (Operand.tmp 10), (Operand.tmp 11)] _ rfl Try.func35 (by kernel_rfl) (by kernel_rfl) _ (by kernel_rfl)) ((by have := proper_walk W3 s hs (.slice A us.length c) us (hr.keep M4.keep (fun _ _ h => h)) start; rw [hp12] at this; exact this)) ?_
    intro W7 M8
    have hpr := PR_of hp12
    have hv := hpr.1
    obtain ⟨vn1, vn2, vd1, vd2, vb1, vb2, vu1, vu2, vP, vQ, vR⟩ := SV_facts hv
    have hcap := capS_t hv
    have hul := hpr.2.2.2.1
    refine st_val (.bool false) (by kernel_rfl) (by kernel_rfl) ?_
    refine wl_nil ?_
    refine hK6 _ _ ?_
    try clear hK6 K6
    refine wp_cond_false (by kernel_rfl) ?_
    refine wp_skip ?_
    refine hK5 _ _ ?_
    try clear hK5 K5
    refine wp_seq_k (fun K9 hK9 => ?_)
    refine wl_region ?_
    refine st_val (.agg (sqv s)) (by kernel_rfl) (run_load_row 26 (.tmp 3) rfl g2 (by kernel_rfl) 26 (sqv s) (0, 0) _ (M8.get 0 rfl) Try.underlying26 rfl (infoSq hs.la hs.lb)) ?_
    refine st_val (.agg (sqv s)) (by kernel_rfl) (run_build_model (.tmp 15) rfl (sqv s) (by kernel_rfl) (sqv_size hs.la hs.lb)) ?_
    refine st_val (.slice A us.length c) (by kernel_rfl) (by kernel_rfl) ?_
    refine st_val (.int .i64 start) (by kernel_rfl) (by kernel_rfl) ?_
    refine st_callR (A := [(g2, .cells (sqv s) 26 (0, 0))]) (B := []) M8 (by kernel_rfl) (run_value_call 37 #[(Operand.tmp 16), (Operand.tmp 17), (Operand.tmp 18)] _ rfl Try.func37 (by kernel_rfl) (by kernel_rfl) _ (by kernel_rfl)) (mrun_walk W7 s hs (.slice A us.length c) us (hr.keep M8.keep (fun _ _ h => h)) start hpr) ?_
    intro v10 T11 W12 O13 M14
    have M14 : Mem NoS w W12 ((g2, .cells (sqv s) 26 (0, 0)) :: (T11 ++ [])) := M14
    obtain ⟨v15, rfl, O16⟩ := O13
    refine st_val (.tuple #[v15, .int .i64 (runI (runS s us start).2)]) (by kernel_rfl) (by kernel_rfl) ?_
    refine st_val (v15) (by kernel_rfl) (by kernel_rfl) ?_
    refine st_val (.int .i64 (runI (runS s us start).2)) (by kernel_rfl) (by kernel_rfl) ?_
    refine st_val (v15) (by kernel_rfl) (by kernel_rfl) ?_
    refine st_val (.int .i64 (runI (runS s us start).2)) (by kernel_rfl) (by kernel_rfl) ?_
    refine wl_nil ?_
    refine hK9 _ _ ?_
    try clear hK9 K9
    refine wp_frame (a' := ⟨#[.agg (sqv s), .slice A us.length c, .int .i64 start, .pointer (some ⟨g2, 0, none⟩), undef, undef, .int .i64 0, v15, .int .i64 (runI (runS s us start).2), .agg (sqv s), .slice A us.length c, .int .i64 start, .bool true, .bool false, .tuple #[v15, .int .i64 (runI (runS s us start).2)], .agg (sqv s), .agg (sqv s), .slice A us.length c, .int .i64 start, .tuple #[v15, .int .i64 (runI (runS s us start).2)], v15, .int .i64 (runI (runS s us start).2), undef], []⟩) (by kernel_rfl) ?_
    refine wp_seq_k (fun K17 hK17 => ?_)
    refine wl_region ?_
    refine st_val (.int .i64 (runI (runS s us start).2)) (by kernel_rfl) (by kernel_rfl) ?_
    refine st_val (.int .i64 (runI (runS s us start).2)) (by kernel_rfl) (by kernel_rfl) ?_
    refine wl_nil ?_
    refine hK17 _ _ ?_
    try clear hK17 K17
    refine wp_ret ?_
    exact done1 6 (.int .i64 (runI (runS s us start).2)) (by kernel_rfl) (by kernel_rfl) (by kernel_rfl) ⟨by rw [fI_ok hpr], M14.toBelow⟩
  ·
    have hpn := prB_not hp12
    refine st_callB M4 (.bool false) (by kernel_rfl) (args := #[.agg (sqv s), .slice A us.length c, .int .i64 start]) (run_value_call 35 #[(Operand.tmp 9), (Operand.tmp 10), (Operand.tmp 11)] _ rfl Try.func35 (by kernel_rfl) (by kernel_rfl) _ (by kernel_rfl)) ((by have := proper_walk W3 s hs (.slice A us.length c) us (hr.keep M4.keep (fun _ _ h => h)) start; rw [hp12] at this; exact this)) ?_
    intro W18 M19
    refine st_val (.bool true) (by kernel_rfl) (by kernel_rfl) ?_
    refine wl_nil ?_
    refine hK6 _ _ ?_
    try clear hK6 K6
    refine wp_cond_true (by kernel_rfl) ?_
    refine wp_seq_k (fun K20 hK20 => ?_)
    refine wl_region ?_
    refine st_val (.int .i64 (-1)) (by kernel_rfl) (by kernel_rfl) ?_
    refine wl_nil ?_
    refine hK20 _ _ ?_
    try clear hK20 K20
    refine wp_ret ?_
    refine th_ret ?_
    exact done1 6 (.int .i64 (-1)) (by kernel_rfl) (by kernel_rfl) (by kernel_rfl) ⟨by rw [fI_arg hpn], M19.toBelow⟩
set_option maxHeartbeats 4000000 in
set_option maxRecDepth 100000 in
theorem refFirst_walk (w : World) (s : SeqD) (hs : SOk s) (v : Value) (us : List UnitD) (hr : RdK w v us.length (flat us)) (start : Int) : Calls Try.prog 26 #[.agg (sqv s), v, .int .i64 start] w fun e w' => e = .returned (.int .i64 (fI s us start)) ∧ Below w.heap.size w w' := by
  obtain ⟨A, c, rfl, hc⟩ := hr.shape
  refine calls_of_wp Try.func26 rfl ?_
  refine wp_frame (a' := ⟨#[.agg (sqv s), .slice A us.length c, .int .i64 start, undef, undef, undef, undef, undef, undef, undef, undef, undef, undef, undef, undef, undef, undef, undef, undef, undef, undef, undef], []⟩) (by kernel_rfl) ?_
  have M0 : Mem NoS w w [] := Mem.start _ _
  refine wp_seq_k (fun K1 hK1 => ?_)
  refine wl_region ?_
  refine st_alloc M0 (.cells (sqv s) 26 (0, 0)) (by kernel_rfl) (by kernel_rfl) ?_
  intro g2 W3 M4
  refine st_val (.int .i64 0) (by kernel_rfl) (by kernel_rfl) ?_
  refine wl_nil ?_
  refine hK1 _ _ ?_
  try clear hK1 K1
  refine wp_seq_k (fun K5 hK5 => ?_)
  refine wp_seq_k (fun K6 hK6 => ?_)
  refine wl_region ?_
  refine st_val (.agg (sqv s)) (by kernel_rfl) (run_load_row 26 (.tmp 3) rfl g2 (by kernel_rfl) 26 (sqv s) (0, 0) _ (M4.get 0 rfl) Try.underlying26 rfl (infoSq hs.la hs.lb)) ?_
  refine st_val (.slice A us.length c) (by kernel_rfl) (by kernel_rfl) ?_
  refine st_val (.int .i64 start) (by kernel_rfl) (by kernel_rfl) ?_
  rcases Bool.eq_false_or_eq_true (prB s us start) with hp12 | hp12
  ·
    refine st_callB M4 (.bool true) (by kernel_rfl) (args := #[.agg (sqv s), .slice A us.length c, .int .i64 start]) (run_value_call 36 #[(Operand.tmp 9), (Operand.tmp 10), (Operand.tmp 11)] _ rfl Try.func36 (by kernel_rfl) (by kernel_rfl) _ (by kernel_rfl)) ((by have := refProper_walk W3 s hs (.slice A us.length c) us (hr.keep M4.keep (fun _ _ h => h)) start; rw [hp12] at this; exact this)) ?_
    intro W7 M8
    have hpr := PR_of hp12
    have hv := hpr.1
    obtain ⟨vn1, vn2, vd1, vd2, vb1, vb2, vu1, vu2, vP, vQ, vR⟩ := SV_facts hv
    have hcap := capS_t hv
    have hul := hpr.2.2.2.1
    refine st_val (.bool false) (by kernel_rfl) (by kernel_rfl) ?_
    refine wl_nil ?_
    refine hK6 _ _ ?_
    try clear hK6 K6
    refine wp_cond_false (by kernel_rfl) ?_
    refine wp_skip ?_
    refine hK5 _ _ ?_
    try clear hK5 K5
    refine wp_seq_k (fun K9 hK9 => ?_)
    refine wl_region ?_
    refine st_val (.agg (sqv s)) (by kernel_rfl) (run_load_row 26 (.tmp 3) rfl g2 (by kernel_rfl) 26 (sqv s) (0, 0) _ (M8.get 0 rfl) Try.underlying26 rfl (infoSq hs.la hs.lb)) ?_
    refine st_val (.slice A us.length c) (by kernel_rfl) (by kernel_rfl) ?_
    refine st_val (.int .i64 start) (by kernel_rfl) (by kernel_rfl) ?_
    refine st_callR (A := [(g2, .cells (sqv s) 26 (0, 0))]) (B := []) M8 (by kernel_rfl) (run_value_call 38 #[(Operand.tmp 15), (Operand.tmp 16), (Operand.tmp 17)] _ rfl Try.func38 (by kernel_rfl) (by kernel_rfl) _ (by kernel_rfl)) (ran_walk W7 s hs (.slice A us.length c) us (hr.keep M8.keep (fun _ _ h => h)) start hpr) ?_
    intro v10 T11 W12 O13 M14
    have M14 : Mem NoS w W12 ((g2, .cells (sqv s) 26 (0, 0)) :: (T11 ++ [])) := M14
    obtain ⟨v15, rfl, O16⟩ := O13
    refine st_val (.tuple #[v15, .int .i64 (runI (runS s us start).2)]) (by kernel_rfl) (by kernel_rfl) ?_
    refine st_val (v15) (by kernel_rfl) (by kernel_rfl) ?_
    refine st_val (.int .i64 (runI (runS s us start).2)) (by kernel_rfl) (by kernel_rfl) ?_
    refine st_val (v15) (by kernel_rfl) (by kernel_rfl) ?_
    refine st_val (.int .i64 (runI (runS s us start).2)) (by kernel_rfl) (by kernel_rfl) ?_
    refine wl_nil ?_
    refine hK9 _ _ ?_
    try clear hK9 K9
    refine wp_frame (a' := ⟨#[.agg (sqv s), .slice A us.length c, .int .i64 start, .pointer (some ⟨g2, 0, none⟩), undef, undef, .int .i64 0, v15, .int .i64 (runI (runS s us start).2), .agg (sqv s), .slice A us.length c, .int .i64 start, .bool true, .bool false, .tuple #[v15, .int .i64 (runI (runS s us start).2)], .agg (sqv s), .slice A us.length c, .int .i64 start, .tuple #[v15, .int .i64 (runI (runS s us start).2)], v15, .int .i64 (runI (runS s us start).2), undef], []⟩) (by kernel_rfl) ?_
    refine wp_seq_k (fun K17 hK17 => ?_)
    refine wl_region ?_
    refine st_val (.int .i64 (runI (runS s us start).2)) (by kernel_rfl) (by kernel_rfl) ?_
    refine st_val (.int .i64 (runI (runS s us start).2)) (by kernel_rfl) (by kernel_rfl) ?_
    refine wl_nil ?_
    refine hK17 _ _ ?_
    try clear hK17 K17
    refine wp_ret ?_
    exact done1 6 (.int .i64 (runI (runS s us start).2)) (by kernel_rfl) (by kernel_rfl) (by kernel_rfl) ⟨by rw [fI_ok hpr], M14.toBelow⟩
  ·
    have hpn := prB_not hp12
    refine st_callB M4 (.bool false) (by kernel_rfl) (args := #[.agg (sqv s), .slice A us.length c, .int .i64 start]) (run_value_call 36 #[(Operand.tmp 9), (Operand.tmp 10), (Operand.tmp 11)] _ rfl Try.func36 (by kernel_rfl) (by kernel_rfl) _ (by kernel_rfl)) ((by have := refProper_walk W3 s hs (.slice A us.length c) us (hr.keep M4.keep (fun _ _ h => h)) start; rw [hp12] at this; exact this)) ?_
    intro W18 M19
    refine st_val (.bool true) (by kernel_rfl) (by kernel_rfl) ?_
    refine wl_nil ?_
    refine hK6 _ _ ?_
    try clear hK6 K6
    refine wp_cond_true (by kernel_rfl) ?_
    refine wp_seq_k (fun K20 hK20 => ?_)
    refine wl_region ?_
    refine st_val (.int .i64 (-1)) (by kernel_rfl) (by kernel_rfl) ?_
    refine wl_nil ?_
    refine hK20 _ _ ?_
    try clear hK20 K20
    refine wp_ret ?_
    refine th_ret ?_
    exact done1 6 (.int .i64 (-1)) (by kernel_rfl) (by kernel_rfl) (by kernel_rfl) ⟨by rw [fI_arg hpn], M19.toBelow⟩
end Go.Proofs.Ytolfkaljbgpkhaa
