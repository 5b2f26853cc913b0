/- The walk of VbvPads. -/
import Derived.Test.YtolfkaljbgpkhaaPe
import Derived.Test.YtolfkaljbgpkhaaGi
namespace Go.Proofs.Ytolfkaljbgpkhaa
open Go.RowKit

theorem padO_len {c d cap : Int} (us : List UnitD) : ∀ (full : Int) {q : List Int × Int}, padO c d cap full us = some q → q.1.length = us.length := by
  induction us with
  | nil => intro full q h; simp only [padO, Option.some.injEq] at h; subst h; rfl
  | cons u r ih =>
    intro full q h
    simp only [padO] at h
    split at h
    · cases h
    · cases hq : padO c d cap (full + (d * u.fields - c * u.bits) - c * (8 * padN c cap (full + (d * u.fields - c * u.bits)) r.isEmpty)) r with
      | none => rw [hq] at h; cases h
      | some q' =>
        rw [hq] at h
        simp only [Option.map_some, Option.some.injEq] at h
        subst h
        simp only [List.length_cons]
        rw [ih _ hq]
theorem padL_len (s : SeqD) (us : List UnitD) (x : Int) : (padL s us x).length ≤ us.length := by
  by_cases hp : PR s us x
  · cases h : padR s us x with
    | none => rw [(pad_none hp h).2]; exact Nat.zero_le _
    | some q => rw [(pad_some hp h).2, padO_len us x h]; exact Nat.le_refl _
  · rw [(pad_arg hp).2]; exact Nat.zero_le _
set_option maxHeartbeats 4000000 in
set_option maxRecDepth 100000 in
theorem VbvPads_walk (w : World) (s : SeqD) (hs : SOk s) (v0 : Value) (us0 : List UnitD) (hr0 : RdK w v0 us0.length (flat us0)) (hu0 : UOk us0) (st : Int) (hst : -9223372036854775808 ≤ st ∧ st ≤ 9223372036854775807) : Calls Try.prog 6 #[.agg (sqv s), v0, .int .i64 st] w fun e w' => e = .returned (.bool true) ∧ Below w.heap.size w w' := by
  obtain ⟨A0, c0, rfl, hc0⟩ := hr0.shape
  refine calls_of_wp Try.func6 rfl ?_
  refine wp_frame (a' := ⟨#[.agg (sqv s), .slice A0 us0.length c0, .int .i64 st, undef, undef, undef, undef, undef, undef, undef, undef, undef, undef, undef, undef, undef, undef, undef, undef, undef, undef, undef, undef, undef, undef, undef, undef, undef, undef, undef, undef, undef, undef, undef, undef, undef, undef, undef, undef, undef, undef, undef, undef, undef, undef, undef, undef, undef, undef, undef, undef, undef, undef, undef, undef, undef], []⟩) (by kernel_rfl) ?_
  have M0 : Mem NoS w w [] := Mem.start _ _
  refine wp_seq_k (fun K1 hK1 => ?_)
  refine wl_region ?_
  refine st_alloc M0 (.cells (sqv s) 26 (0, 0)) (by kernel_rfl) (by kernel_rfl) ?_
  intro g2 W3 M4
  refine st_val (.bool false) (by kernel_rfl) (by kernel_rfl) ?_
  refine wl_nil ?_
  refine hK1 _ _ ?_
  try clear hK1 K1
  refine wp_seq_k (fun K5 hK5 => ?_)
  refine wp_seq_k (fun K6 hK6 => ?_)
  refine wl_region ?_
  refine st_val (.slice A0 us0.length c0) (by kernel_rfl) (by kernel_rfl) ?_
  refine st_val (.int .i64 ((us0.length : Nat) : Int)) (by kernel_rfl) (by kernel_rfl) ?_
  rcases Decidable.em ((((us0.length : Nat) : Int) : Int) > 300) with c14 | c14
  ·
    refine st_val (.bool true) (by kernel_rfl) (bool_of (dec_t c14) (by kernel_rfl)) ?_
    refine wl_nil ?_
    refine hK6 _ _ ?_
    try clear hK6 K6
    refine wp_cond_true (by kernel_rfl) ?_
    refine wp_seq_k (fun K7 hK7 => ?_)
    refine wl_region ?_
    refine st_val (.bool true) (by kernel_rfl) (by kernel_rfl) ?_
    refine wl_nil ?_
    refine hK7 _ _ ?_
    try clear hK7 K7
    refine wp_ret ?_
    refine th_ret ?_
    exact done1 6 (.bool true) (by kernel_rfl) (by kernel_rfl) (by kernel_rfl) ⟨rfl, M4.toBelow⟩
  ·
    refine st_val (.bool false) (by kernel_rfl) (bool_of (dec_f c14) (by kernel_rfl)) ?_
    refine wl_nil ?_
    refine hK6 _ _ ?_
    try clear hK6 K6
    refine wp_cond_false (by kernel_rfl) ?_
    refine wp_skip ?_
    refine hK5 _ _ ?_
    try clear hK5 K5
    refine wp_seq_k (fun K8 hK8 => ?_)
    refine wh_region (fun w' => Mem NoS w w' [(g2, .cells (sqv s) 26 (0, 0))]) (by kernel_rfl) (by kernel_rfl) (fun d _ _ _ _ h => by cases d <;> exact h) 10 rfl #[false, false, false, false, false, false, false, false, false, false] rfl ?_
    intro R9
    have M11 := M4.drew
    have hS12 : Mem NoS w W3.drew [(g2, .cells (sqv s) 26 (0, 0))] := M11
    refine wh_take R9 0 (.agg (sqv s)) rfl (by kernel_rfl) (by kernel_rfl) (by kernel_rfl) (fun w' M' => (run_load_row 26 (.tmp 3) rfl g2 (by kernel_rfl) 26 (sqv s) (0, 0) _ (M'.get 0 rfl) Try.underlying26 rfl (infoSq hs.la hs.lb))) hS12 #[true, false, false, false, false, false, false, false, false, false] rfl ?_
    refine wh_take R9 1 (.slice A0 us0.length c0) rfl (by kernel_rfl) (by kernel_rfl) (by kernel_rfl) (fun w' M' => (by kernel_rfl)) hS12 #[true, true, false, false, false, false, false, false, false, false] rfl ?_
    refine wh_take R9 3 (.int .i64 st) rfl (by kernel_rfl) (by kernel_rfl) (by kernel_rfl) (fun w' M' => (by kernel_rfl)) hS12 #[true, true, false, true, false, false, false, false, false, false] rfl ?_
    refine wh_callR (A := [(g2, .cells (sqv s) 26 (0, 0))]) (B := []) M11 2 rfl (by kernel_rfl) (by kernel_rfl) (run_value_call 19 #[(Operand.tmp 17)] _ rfl Try.func19 (by kernel_rfl) (by kernel_rfl) _ (by kernel_rfl)) #[true, true, true, true, false, false, false, false, false, false] rfl (given_walk W3.drew (.slice A0 us0.length c0) us0 (hr0.keep M11.keep (fun _ _ h => h)) (by omega)) ?_
    intro v13 T14 W15 O16 M17
    have M17 : Mem NoS w W15 ((g2, .cells (sqv s) 26 (0, 0)) :: (T14 ++ [])) := M17
    obtain ⟨A18, c19, rfl, hc20⟩ := O16.shape
    have hS21 : Mem NoS w W15 [(g2, .cells (sqv s) 26 (0, 0))] := M17.sub (((List.Sublist.refl []).trans (List.sublist_append_right T14 _)).cons_cons _)
    refine ⟨hS21, ?_⟩
    refine wh_callR (A := [(g2, .cells (sqv s) 26 (0, 0))]) (B := (T14 ++ [])) M17 4 rfl (by kernel_rfl) (by kernel_rfl) (run_value_call 21 #[(Operand.tmp 16), (Operand.tmp 18), (Operand.tmp 19)] _ rfl Try.func21 (by kernel_rfl) (by kernel_rfl) _ (by kernel_rfl)) #[true, true, true, true, true, false, false, false, false, false] rfl (pad_walk W15 s hs (.slice A18 us0.length c19) us0 (O16.rd (fun p hp => M17.at_ p (List.mem_cons_of_mem _ (List.mem_append_left _ hp)))) st hst) ?_
    intro v22 T23 W24 O25 M26
    have M26 : Mem NoS w W24 ((g2, .cells (sqv s) 26 (0, 0)) :: (T23 ++ (T14 ++ []))) := M26
    obtain ⟨v27, rfl, O28⟩ := O25
    obtain ⟨A29, c30, rfl, hc31⟩ := O28.shape
    have hS32 : Mem NoS w W24 [(g2, .cells (sqv s) 26 (0, 0))] := M26.sub ((((List.Sublist.refl []).trans (List.sublist_append_right T14 _)).trans (List.sublist_append_right T23 _)).cons_cons _)
    refine ⟨hS32, ?_⟩
    refine wh_take R9 5 (.tuple #[.slice A29 ((padL s us0 st).length) c30, .int .i64 (padE s us0 st)]) rfl (by kernel_rfl) (by kernel_rfl) (by kernel_rfl) (fun w' M' => (by kernel_rfl)) hS32 #[true, true, true, true, true, true, false, false, false, false] rfl ?_
    refine wh_take R9 6 (.slice A29 ((padL s us0 st).length) c30) rfl (by kernel_rfl) (by kernel_rfl) (by kernel_rfl) (fun w' M' => (by kernel_rfl)) hS32 #[true, true, true, true, true, true, true, false, false, false] rfl ?_
    refine wh_take R9 7 (.int .i64 (padE s us0 st)) rfl (by kernel_rfl) (by kernel_rfl) (by kernel_rfl) (fun w' M' => (by kernel_rfl)) hS32 #[true, true, true, true, true, true, true, true, false, false] rfl ?_
    refine wh_take R9 8 (.slice A29 ((padL s us0 st).length) c30) rfl (by kernel_rfl) (by kernel_rfl) (by kernel_rfl) (fun w' M' => (by kernel_rfl)) hS32 #[true, true, true, true, true, true, true, true, true, false] rfl ?_
    refine wh_take R9 9 (.int .i64 (padE s us0 st)) rfl (by kernel_rfl) (by kernel_rfl) (by kernel_rfl) (fun w' M' => (by kernel_rfl)) hS32 #[true, true, true, true, true, true, true, true, true, true] rfl ?_
    refine wh_done (by kernel_rfl) ?_
    refine hK8 _ _ ?_
    try clear hK8 K8
    refine wp_frame (a' := ⟨#[.agg (sqv s), .slice A0 us0.length c0, .int .i64 st, .pointer (some ⟨g2, 0, none⟩), undef, undef, .bool false, .slice A29 ((padL s us0 st).length) c30, .int .i64 (padE s us0 st), undef, undef, undef, .slice A0 us0.length c0, .int .i64 ((us0.length : Nat) : Int), .bool false, .tuple #[.slice A29 ((padL s us0 st).length) c30, .int .i64 (padE s us0 st)], .agg (sqv s), .slice A0 us0.length c0, .slice A18 us0.length c19, .int .i64 st, .tuple #[.slice A29 ((padL s us0 st).length) c30, .int .i64 (padE s us0 st)], .slice A29 ((padL s us0 st).length) c30, .int .i64 (padE s us0 st), undef, undef, undef, undef, undef, undef, undef, undef, undef, undef, undef, undef, undef, undef, undef, undef, undef, undef, undef, undef, undef, undef, undef, undef, undef, undef, undef, undef, undef, undef, undef, undef, undef], []⟩) (by kernel_rfl) ?_
    refine wp_seq_k (fun K33 hK33 => ?_)
    refine wl_region ?_
    refine st_val (.agg (sqv s)) (by kernel_rfl) (run_load_row 26 (.tmp 3) rfl g2 (by kernel_rfl) 26 (sqv s) (0, 0) _ (M26.get 0 rfl) Try.underlying26 rfl (infoSq hs.la hs.lb)) ?_
    refine st_val (.slice A0 us0.length c0) (by kernel_rfl) (by kernel_rfl) ?_
    refine st_val (.int .i64 st) (by kernel_rfl) (by kernel_rfl) ?_
    refine st_callR (A := [(g2, .cells (sqv s) 26 (0, 0))]) (B := (T23 ++ (T14 ++ []))) M26 (by kernel_rfl) (run_value_call 22 #[(Operand.tmp 24), (Operand.tmp 25), (Operand.tmp 26)] _ rfl Try.func22 (by kernel_rfl) (by kernel_rfl) _ (by kernel_rfl)) (refPad_walk W24 s hs (.slice A0 us0.length c0) us0 (hr0.keep M26.keep (fun _ _ h => h)) st hst) ?_
    intro v34 T35 W36 O37 M38
    have M38 : Mem NoS w W36 ((g2, .cells (sqv s) 26 (0, 0)) :: (T35 ++ (T23 ++ (T14 ++ [])))) := M38
    obtain ⟨v39, rfl, O40⟩ := O37
    obtain ⟨A41, c42, rfl, hc43⟩ := O40.shape
    refine st_val (.tuple #[.slice A41 ((padL s us0 st).length) c42, .int .i64 (padE s us0 st)]) (by kernel_rfl) (by kernel_rfl) ?_
    refine st_val (.slice A41 ((padL s us0 st).length) c42) (by kernel_rfl) (by kernel_rfl) ?_
    refine st_val (.int .i64 (padE s us0 st)) (by kernel_rfl) (by kernel_rfl) ?_
    refine st_val (.slice A41 ((padL s us0 st).length) c42) (by kernel_rfl) (by kernel_rfl) ?_
    refine st_val (.int .i64 (padE s us0 st)) (by kernel_rfl) (by kernel_rfl) ?_
    refine wl_nil ?_
    refine hK33 _ _ ?_
    try clear hK33 K33
    refine wp_seq_k (fun K44 hK44 => ?_)
    refine wp_seq_k (fun K45 hK45 => ?_)
    refine wl_region ?_
    refine st_val (.int .i64 (padE s us0 st)) (by kernel_rfl) (by kernel_rfl) ?_
    refine st_val (.int .i64 (padE s us0 st)) (by kernel_rfl) (by kernel_rfl) ?_
    refine st_val (.bool false) (by kernel_rfl) (bool_of (neq_f (show (padE s us0 st : Int) = padE s us0 st from rfl)) (by kernel_rfl)) ?_
    refine st_val (.bool false) (by kernel_rfl) (by kernel_rfl) ?_
    refine st_val (.slice A29 ((padL s us0 st).length) c30) (by kernel_rfl) (by kernel_rfl) ?_
    refine st_val (.int .i64 (((padL s us0 st).length : Nat) : Int)) (by kernel_rfl) (by kernel_rfl) ?_
    refine st_val (.slice A41 ((padL s us0 st).length) c42) (by kernel_rfl) (by kernel_rfl) ?_
    refine st_val (.int .i64 (((padL s us0 st).length : Nat) : Int)) (by kernel_rfl) (by kernel_rfl) ?_
    refine st_val (.bool false) (by kernel_rfl) (bool_of (neq_f (show ((((padL s us0 st).length : Nat) : Int) : Int) = (((padL s us0 st).length : Nat) : Int) from rfl)) (by kernel_rfl)) ?_
    refine st_val (.bool false) (by kernel_rfl) (by kernel_rfl) ?_
    refine wl_nil ?_
    refine hK45 _ _ ?_
    try clear hK45 K45
    refine wp_frame (a' := ⟨#[.agg (sqv s), .slice A0 us0.length c0, .int .i64 st, .pointer (some ⟨g2, 0, none⟩), undef, undef, .bool false, .slice A29 ((padL s us0 st).length) c30, .int .i64 (padE s us0 st), .slice A41 ((padL s us0 st).length) c42, .int .i64 (padE s us0 st), undef, .slice A0 us0.length c0, .int .i64 ((us0.length : Nat) : Int), .bool false, .tuple #[.slice A29 ((padL s us0 st).length) c30, .int .i64 (padE s us0 st)], .agg (sqv s), .slice A0 us0.length c0, .slice A18 us0.length c19, .int .i64 st, .tuple #[.slice A29 ((padL s us0 st).length) c30, .int .i64 (padE s us0 st)], .slice A29 ((padL s us0 st).length) c30, .int .i64 (padE s us0 st), .tuple #[.slice A41 ((padL s us0 st).length) c42, .int .i64 (padE s us0 st)], .agg (sqv s), .slice A0 us0.length c0, .int .i64 st, .tuple #[.slice A41 ((padL s us0 st).length) c42, .int .i64 (padE s us0 st)], .slice A41 ((padL s us0 st).length) c42, .int .i64 (padE s us0 st), .int .i64 (padE s us0 st), .int .i64 (padE s us0 st), .bool false, .bool false, .slice A29 ((padL s us0 st).length) c30, .int .i64 (((padL s us0 st).length : Nat) : Int), .slice A41 ((padL s us0 st).length) c42, .int .i64 (((padL s us0 st).length : Nat) : Int), .bool false, .bool false, undef, undef, undef, undef, undef, undef, undef, undef, undef, undef, undef, undef, undef, undef, undef, undef], []⟩) (by kernel_rfl) ?_
    refine wp_cond_false (by kernel_rfl) ?_
    refine wp_skip ?_
    refine hK44 _ _ ?_
    try clear hK44 K44
    refine wp_seq_k (fun K46 hK46 => ?_)
    refine wp_seq_k (fun K47 hK47 => ?_)
    have hpl := padL_len s us0 st
    refine wl_region ?_
    refine st_val (.int .i64 0) (by kernel_rfl) (by kernel_rfl) ?_
    refine wl_nil ?_
    refine hK47 _ _ ?_
    try clear hK47 K47
    refine wp_block ?_
    refine wp_loop_ghost (fun gn a' w' => ∃ (n : Nat) (u48 : Nat → Value), ((n ≤ (padL s us0 st).length) ∧ Mem NoS w w' ((g2, .cells (sqv s) 26 (0, 0)) :: (T35 ++ (T23 ++ (T14 ++ []))))) ∧ gn = (padL s us0 st).length - n ∧ a' = ⟨#[.agg (sqv s), .slice A0 us0.length c0, .int .i64 st, .pointer (some ⟨g2, 0, none⟩), undef, undef, (u48 6), .slice A29 ((padL s us0 st).length) c30, .int .i64 (padE s us0 st), .slice A41 ((padL s us0 st).length) c42, .int .i64 (padE s us0 st), .int .i64 (n : Int), .slice A0 us0.length c0, .int .i64 ((us0.length : Nat) : Int), .bool false, .tuple #[.slice A29 ((padL s us0 st).length) c30, .int .i64 (padE s us0 st)], .agg (sqv s), .slice A0 us0.length c0, .slice A18 us0.length c19, .int .i64 st, .tuple #[.slice A29 ((padL s us0 st).length) c30, .int .i64 (padE s us0 st)], .slice A29 ((padL s us0 st).length) c30, .int .i64 (padE s us0 st), .tuple #[.slice A41 ((padL s us0 st).length) c42, .int .i64 (padE s us0 st)], .agg (sqv s), .slice A0 us0.length c0, .int .i64 st, .tuple #[.slice A41 ((padL s us0 st).length) c42, .int .i64 (padE s us0 st)], .slice A41 ((padL s us0 st).length) c42, .int .i64 (padE s us0 st), .int .i64 (padE s us0 st), .int .i64 (padE s us0 st), .bool false, .bool false, .slice A29 ((padL s us0 st).length) c30, .int .i64 (((padL s us0 st).length : Nat) : Int), .slice A41 ((padL s us0 st).length) c42, .int .i64 (((padL s us0 st).length : Nat) : Int), .bool false, .bool false, (u48 40), (u48 41), (u48 42), (u48 43), (u48 44), (u48 45), (u48 46), (u48 47), (u48 48), (u48 49), (u48 50), (u48 51), (u48 52), (u48 53), (u48 54), undef], []⟩) _ ⟨0, (fun zz => Array.getD #[.agg (sqv s), .slice A0 us0.length c0, .int .i64 st, .pointer (some ⟨g2, 0, none⟩), undef, undef, .bool false, .slice A29 ((padL s us0 st).length) c30, .int .i64 (padE s us0 st), .slice A41 ((padL s us0 st).length) c42, .int .i64 (padE s us0 st), .int .i64 0, .slice A0 us0.length c0, .int .i64 ((us0.length : Nat) : Int), .bool false, .tuple #[.slice A29 ((padL s us0 st).length) c30, .int .i64 (padE s us0 st)], .agg (sqv s), .slice A0 us0.length c0, .slice A18 us0.length c19, .int .i64 st, .tuple #[.slice A29 ((padL s us0 st).length) c30, .int .i64 (padE s us0 st)], .slice A29 ((padL s us0 st).length) c30, .int .i64 (padE s us0 st), .tuple #[.slice A41 ((padL s us0 st).length) c42, .int .i64 (padE s us0 st)], .agg (sqv s), .slice A0 us0.length c0, .int .i64 st, .tuple #[.slice A41 ((padL s us0 st).length) c42, .int .i64 (padE s us0 st)], .slice A41 ((padL s us0 st).length) c42, .int .i64 (padE s us0 st), .int .i64 (padE s us0 st), .int .i64 (padE s us0 st), .bool false, .bool false, .slice A29 ((padL s us0 st).length) c30, .int .i64 (((padL s us0 st).length : Nat) : Int), .slice A41 ((padL s us0 st).length) c42, .int .i64 (((padL s us0 st).length : Nat) : Int), .bool false, .bool false, undef, undef, undef, undef, undef, undef, undef, undef, undef, undef, undef, undef, undef, undef, undef, undef] zz undef), ⟨by omega, M38⟩, rfl, (by kernel_rfl)⟩ ?_
    rintro gn _ W49 ⟨n, u48, ⟨rn, M50⟩, rfl, rfl⟩
    refine wp_seq_k (fun K51 hK51 => ?_)
    refine wp_seq_k (fun K52 hK52 => ?_)
    refine wl_region ?_
    refine st_val (.int .i64 (n : Int)) (by kernel_rfl) (by kernel_rfl) ?_
    refine st_val (.slice A29 ((padL s us0 st).length) c30) (by kernel_rfl) (by kernel_rfl) ?_
    refine st_val (.int .i64 (((padL s us0 st).length : Nat) : Int)) (by kernel_rfl) (by kernel_rfl) ?_
    rcases Decidable.em (((n : Int) : Int) < (((padL s us0 st).length : Nat) : Int)) with c43 | c43
    ·
      refine st_val (.bool true) (by kernel_rfl) (bool_of (dec_t c43) (by kernel_rfl)) ?_
      refine wl_nil ?_
      refine hK52 _ _ ?_
      try clear hK52 K52
      refine wp_cond_true (by kernel_rfl) ?_
      refine wp_skip ?_
      refine hK51 _ _ ?_
      try clear hK51 K51
      refine wp_seq_k (fun K53 hK53 => ?_)
      refine wp_block ?_
      refine wp_seq_k (fun K54 hK54 => ?_)
      refine wl_seq 9 (fun w' => Mem NoS w w' ((g2, .cells (sqv s) 26 (0, 0)) :: (T35 ++ (T23 ++ (T14 ++ []))))) (by decide) (by kernel_rfl) (by kernel_rfl) M50.drew ?_
      refine seq_run (v := .slice A29 ((padL s us0 st).length) c30) (by decide) (by kernel_rfl) (fun w' M' => (by kernel_rfl)) ?_
      refine seq_run (v := .int .i64 (n : Int)) (by decide) (by kernel_rfl) (fun w' M' => (by kernel_rfl)) ?_
      obtain ⟨b55, o56, eA57⟩ := RdK.addr (O28.rd (fun p hp => M50.at_ p (List.mem_cons_of_mem _ (List.mem_append_right _ (List.mem_append_left _ hp))))) (j := n * 1) (by show _ < (List.map _ _).length; rw [List.length_map]; omega)
      refine seq_run (v := .pointer (some ⟨b55, o56 + n * 1, none⟩)) (by decide) (by kernel_rfl) (fun w' M' => (run_indexSliceA 41 (.tmp 46) (.tmp 47) rfl A29 ⟨b55, o56, none⟩ eA57 ((padL s us0 st).length) c30 .i64 n (by kernel_rfl) (by kernel_rfl) Try.underlying41 1 (by kernel_rfl) (by omega) ⟨b55, o56 + n * 1, none⟩ (addr_atK _ _ _ _))) ?_
      refine seq_run (v := .int .i64 ((padL s us0 st).getD n 0)) (by decide) (by kernel_rfl) (fun w' M' => (run_load_cell 2 (.tmp 48) rfl ⟨b55, o56 + n * 1, none⟩ (by kernel_rfl) _ ((O28.rd (fun p hp => M'.at_ p (List.mem_cons_of_mem _ (List.mem_append_right _ (List.mem_append_left _ hp))))).cellF eA57 (f := 0) (ints_get (padL s us0 st) n (by omega))) (by kernel_rfl))) ?_
      refine seq_run (v := .slice A41 ((padL s us0 st).length) c42) (by decide) (by kernel_rfl) (fun w' M' => (by kernel_rfl)) ?_
      refine seq_run (v := .int .i64 (n : Int)) (by decide) (by kernel_rfl) (fun w' M' => (by kernel_rfl)) ?_
      obtain ⟨b58, o59, eA60⟩ := RdK.addr (O40.rd (fun p hp => M50.at_ p (List.mem_cons_of_mem _ (List.mem_append_left _ hp)))) (j := n * 1) (by show _ < (List.map _ _).length; rw [List.length_map]; omega)
      refine seq_run (v := .pointer (some ⟨b58, o59 + n * 1, none⟩)) (by decide) (by kernel_rfl) (fun w' M' => (run_indexSliceA 41 (.tmp 50) (.tmp 51) rfl A41 ⟨b58, o59, none⟩ eA60 ((padL s us0 st).length) c42 .i64 n (by kernel_rfl) (by kernel_rfl) Try.underlying41 1 (by kernel_rfl) (by omega) ⟨b58, o59 + n * 1, none⟩ (addr_atK _ _ _ _))) ?_
      refine seq_run (v := .int .i64 ((padL s us0 st).getD n 0)) (by decide) (by kernel_rfl) (fun w' M' => (run_load_cell 2 (.tmp 52) rfl ⟨b58, o59 + n * 1, none⟩ (by kernel_rfl) _ ((O40.rd (fun p hp => M'.at_ p (List.mem_cons_of_mem _ (List.mem_append_left _ hp)))).cellF eA60 (f := 0) (ints_get (padL s us0 st) n (by omega))) (by kernel_rfl))) ?_
      refine seq_run (v := .bool false) (by decide) (by kernel_rfl) (fun w' M' => (bool_of (neq_f (show ((padL s us0 st).getD n 0 : Int) = (padL s us0 st).getD n 0 from rfl)) (by kernel_rfl))) ?_
      refine seq_end (by decide) ?_
      intro W61 M62
      refine wl_nil ?_
      refine hK54 _ _ ?_
      try clear hK54 K54
      refine wp_frame (a' := ⟨#[.agg (sqv s), .slice A0 us0.length c0, .int .i64 st, .pointer (some ⟨g2, 0, none⟩), undef, undef, (u48 6), .slice A29 ((padL s us0 st).length) c30, .int .i64 (padE s us0 st), .slice A41 ((padL s us0 st).length) c42, .int .i64 (padE s us0 st), .int .i64 (n : Int), .slice A0 us0.length c0, .int .i64 ((us0.length : Nat) : Int), .bool false, .tuple #[.slice A29 ((padL s us0 st).length) c30, .int .i64 (padE s us0 st)], .agg (sqv s), .slice A0 us0.length c0, .slice A18 us0.length c19, .int .i64 st, .tuple #[.slice A29 ((padL s us0 st).length) c30, .int .i64 (padE s us0 st)], .slice A29 ((padL s us0 st).length) c30, .int .i64 (padE s us0 st), .tuple #[.slice A41 ((padL s us0 st).length) c42, .int .i64 (padE s us0 st)], .agg (sqv s), .slice A0 us0.length c0, .int .i64 st, .tuple #[.slice A41 ((padL s us0 st).length) c42, .int .i64 (padE s us0 st)], .slice A41 ((padL s us0 st).length) c42, .int .i64 (padE s us0 st), .int .i64 (padE s us0 st), .int .i64 (padE s us0 st), .bool false, .bool false, .slice A29 ((padL s us0 st).length) c30, .int .i64 (((padL s us0 st).length : Nat) : Int), .slice A41 ((padL s us0 st).length) c42, .int .i64 (((padL s us0 st).length : Nat) : Int), .bool false, .bool false, .int .i64 (n : Int), .slice A29 ((padL s us0 st).length) c30, .int .i64 (((padL s us0 st).length : Nat) : Int), .bool true, (u48 44), (u48 45), .slice A29 ((padL s us0 st).length) c30, .int .i64 (n : Int), .pointer (some ⟨b55, o56 + n * 1, none⟩), .int .i64 ((padL s us0 st).getD n 0), .slice A41 ((padL s us0 st).length) c42, .int .i64 (n : Int), .pointer (some ⟨b58, o59 + n * 1, none⟩), .int .i64 ((padL s us0 st).getD n 0), .bool false, undef], []⟩) (by kernel_rfl) ?_
      refine wp_cond_false (by kernel_rfl) ?_
      refine wp_skip ?_
      refine blk_normal ?_
      refine hK53 _ _ ?_
      try clear hK53 K53
      refine wl_region ?_
      refine st_val (.int .i64 (n : Int)) (by kernel_rfl) (by kernel_rfl) ?_
      refine st_val (.int .i64 ((n : Int) + 1)) (by kernel_rfl) (i64_of (by omega) (by kernel_rfl)) ?_
      refine st_val (.int .i64 ((n : Int) + 1)) (by kernel_rfl) (by kernel_rfl) ?_
      refine wl_nil ?_
      refine th_normal ?_
      exact ⟨_, by omega, (n + 1), (fun zz => Array.getD #[.agg (sqv s), .slice A0 us0.length c0, .int .i64 st, .pointer (some ⟨g2, 0, none⟩), undef, undef, (u48 6), .slice A29 ((padL s us0 st).length) c30, .int .i64 (padE s us0 st), .slice A41 ((padL s us0 st).length) c42, .int .i64 (padE s us0 st), .int .i64 ((n : Int) + 1), .slice A0 us0.length c0, .int .i64 ((us0.length : Nat) : Int), .bool false, .tuple #[.slice A29 ((padL s us0 st).length) c30, .int .i64 (padE s us0 st)], .agg (sqv s), .slice A0 us0.length c0, .slice A18 us0.length c19, .int .i64 st, .tuple #[.slice A29 ((padL s us0 st).length) c30, .int .i64 (padE s us0 st)], .slice A29 ((padL s us0 st).length) c30, .int .i64 (padE s us0 st), .tuple #[.slice A41 ((padL s us0 st).length) c42, .int .i64 (padE s us0 st)], .agg (sqv s), .slice A0 us0.length c0, .int .i64 st, .tuple #[.slice A41 ((padL s us0 st).length) c42, .int .i64 (padE s us0 st)], .slice A41 ((padL s us0 st).length) c42, .int .i64 (padE s us0 st), .int .i64 (padE s us0 st), .int .i64 (padE s us0 st), .bool false, .bool false, .slice A29 ((padL s us0 st).length) c30, .int .i64 (((padL s us0 st).length : Nat) : Int), .slice A41 ((padL s us0 st).length) c42, .int .i64 (((padL s us0 st).length : Nat) : Int), .bool false, .bool false, .int .i64 (n : Int), .slice A29 ((padL s us0 st).length) c30, .int .i64 (((padL s us0 st).length : Nat) : Int), .bool true, .int .i64 (n : Int), .int .i64 ((n : Int) + 1), .slice A29 ((padL s us0 st).length) c30, .int .i64 (n : Int), .pointer (some ⟨b55, o56 + n * 1, none⟩), .int .i64 ((padL s us0 st).getD n 0), .slice A41 ((padL s us0 st).length) c42, .int .i64 (n : Int), .pointer (some ⟨b58, o59 + n * 1, none⟩), .int .i64 ((padL s us0 st).getD n 0), .bool false, undef] zz undef), ⟨by omega, M62⟩, rfl, (by kernel_rfl)⟩
    ·
      refine st_val (.bool false) (by kernel_rfl) (bool_of (dec_f c43) (by kernel_rfl)) ?_
      refine wl_nil ?_
      refine hK52 _ _ ?_
      try clear hK52 K52
      refine wp_cond_false (by kernel_rfl) ?_
      refine wp_exit ?_
      refine th_exit ?_
      refine th_exit ?_
      refine blk_exit ?_
      refine hK46 _ _ ?_
      try clear hK46 K46
      refine wp_seq_k (fun K63 hK63 => ?_)
      refine wl_region ?_
      refine st_callB M50 (.bool true) (by kernel_rfl) (args := #[]) (run_value_call 11 #[] _ rfl Try.func11 (by kernel_rfl) (by kernel_rfl) _ (by kernel_rfl)) (awake_walk W49) ?_
      intro W64 M65
      refine st_val (.bool true) (by kernel_rfl) (by kernel_rfl) ?_
      refine wl_nil ?_
      refine hK63 _ _ ?_
      try clear hK63 K63
      refine wp_ret ?_
      exact done1 6 (.bool true) (by kernel_rfl) (by kernel_rfl) (by kernel_rfl) ⟨rfl, M65.toBelow⟩
end Go.Proofs.Ytolfkaljbgpkhaa
