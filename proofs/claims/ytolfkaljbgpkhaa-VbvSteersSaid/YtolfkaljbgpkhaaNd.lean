/- Need. -/
import Derived.Test.YtolfkaljbgpkhaaPr
namespace Go.Proofs.Ytolfkaljbgpkhaa
open Go.RowKit

/-- the least fullness ahead of the units: none if it is beyond 'most' -/
def needO (c d most wanted : Int) : List UnitD → Option Int
  | [] => if wanted > most then none else some wanted
  | u :: r => match needO c d most wanted r with
    | none => none
    | some n => if c * u.bits + max 0 (n - d * u.fields) > most then none else some (c * u.bits + max 0 (n - d * u.fields))
theorem needO_nil {c d most wanted : Int} (h : ¬ wanted > most) : needO c d most wanted [] = some wanted := if_neg h
theorem needO_nil_none {c d most wanted : Int} (h : wanted > most) : needO c d most wanted [] = none := if_pos h
theorem needO_cons {c d most wanted n : Int} {u : UnitD} {r : List UnitD} (h : needO c d most wanted r = some n) (h2 : ¬ c * u.bits + max 0 (n - d * u.fields) > most) : needO c d most wanted (u :: r) = some (c * u.bits + max 0 (n - d * u.fields)) := by
  simp only [needO, h]; rw [if_neg h2]
theorem needO_cons_none {c d most wanted n : Int} {u : UnitD} {r : List UnitD} (h : needO c d most wanted r = some n) (h2 : c * u.bits + max 0 (n - d * u.fields) > most) : needO c d most wanted (u :: r) = none := by
  simp only [needO, h]; rw [if_pos h2]
theorem needO_append {c d most wanted : Int} (a b : List UnitD) : needO c d most wanted (a ++ b) = match needO c d most wanted b with
    | none => none
    | some n => needO c d most n a := by
  induction a with
  | nil =>
    rw [List.nil_append]
    cases h : needO c d most wanted b with
    | none => rfl
    | some n =>
      have hn : ¬ n > most := by
        cases b with
        | nil =>
          simp only [needO] at h
          split at h
          · cases h
          · cases h; assumption
        | cons u r =>
          simp only [needO] at h
          split at h
          · cases h
          · split at h
            · cases h
            · cases h; assumption
      show some n = needO c d most n []
      rw [needO_nil hn]
  | cons u a ih =>
    rw [List.cons_append]
    simp only [needO, ih]
    cases needO c d most wanted b <;> rfl
theorem needO_drop_none {c d most wanted : Int} (us : List UnitD) (k : Nat) (h : needO c d most wanted (us.drop k) = none) : needO c d most wanted us = none := by
  have := needO_append (c := c) (d := d) (most := most) (wanted := wanted) (us.take k) (us.drop k)
  rw [List.take_append_drop, h] at this
  exact this
def mostS (s : SeqD) : Int := 2 * s.num * s.bu - 2 * s.num * 8
noncomputable def needR (s : SeqD) (us : List UnitD) (wanted : Int) : Int × Int :=
  @ite _ (PR s us 0 ∧ 0 ≤ wanted) (Classical.propDecidable _) (match needO (2 * s.num) (s.br * s.den) (mostS s) wanted us with | none => (0, 9) | some n => (n, 0)) (0, 1)
theorem needR_arg {s : SeqD} {us : List UnitD} {wanted : Int} (h : ¬ (PR s us 0 ∧ 0 ≤ wanted)) : needR s us wanted = (0, 1) := by unfold needR; rw [if_neg h]
theorem needR_none {s : SeqD} {us : List UnitD} {wanted : Int} (hp : PR s us 0) (hw : 0 ≤ wanted) (h : needO (2 * s.num) (s.br * s.den) (mostS s) wanted us = none) : needR s us wanted = (0, 9) := by unfold needR; rw [if_pos ⟨hp, hw⟩, h]
theorem needR_some {s : SeqD} {us : List UnitD} {wanted n : Int} (hp : PR s us 0) (hw : 0 ≤ wanted) (h : needO (2 * s.num) (s.br * s.den) (mostS s) wanted us = some n) : needR s us wanted = (n, 0) := by unfold needR; rw [if_pos ⟨hp, hw⟩, h]
theorem prB_not {s : SeqD} {us : List UnitD} {start : Int} (h : prB s us start = false) : ¬ PR s us start := fun c => by rw [prB_t c] at h; cases h
set_option maxHeartbeats 4000000 in
set_option maxRecDepth 100000 in
theorem need_walk (w : World) (s : SeqD) (hs : SOk s) (v : Value) (us : List UnitD) (hr : RdK w v us.length (flat us)) (wanted : Int) (hw : -9223372036854775808 ≤ wanted ∧ wanted ≤ 9223372036854775807) : Calls Try.prog 18 #[.agg (sqv s), v, .int .i64 wanted] w fun e w' => e = .returned (.tuple #[.int .i64 (needR s us wanted).1, .int .i64 (needR s us wanted).2]) ∧ Below w.heap.size w w' := by
  obtain ⟨A, c, rfl, hc⟩ := hr.shape
  refine calls_of_wp Try.func18 rfl ?_
  refine wp_frame (a' := ⟨#[.agg (sqv s), .slice A us.length c, .int .i64 wanted, undef, undef, undef, undef, undef, undef, undef, undef, undef, undef, undef, undef, undef, undef, undef, undef, undef, undef, undef, undef, undef, undef, undef, undef, undef, undef, undef, undef, undef, undef, undef, undef, undef, undef, undef, undef, undef, undef, undef, undef, undef, undef, undef, undef, undef, undef, undef, undef, undef, undef, undef, undef, undef, undef, undef, undef, undef], []⟩) (by kernel_rfl) ?_
  have M0 : Mem NoS w w [] := Mem.start _ _
  refine wp_seq_k (fun K1 hK1 => ?_)
  refine wl_region ?_
  refine st_alloc M0 (.cells (sqv s) 26 (0, 0)) (by kernel_rfl) (by kernel_rfl) ?_
  intro g2 W3 M4
  refine st_val (.int .i64 0) (by kernel_rfl) (by kernel_rfl) ?_
  refine st_val (.int .i64 0) (by kernel_rfl) (by kernel_rfl) ?_
  refine wl_nil ?_
  refine hK1 _ _ ?_
  try clear hK1 K1
  refine wp_seq_k (fun K5 hK5 => ?_)
  refine wp_seq_k (fun K6 hK6 => ?_)
  refine wl_region ?_
  refine st_val (.agg (sqv s)) (by kernel_rfl) (run_load_row 26 (.tmp 3) rfl g2 (by kernel_rfl) 26 (sqv s) (0, 0) _ (M4.get 0 rfl) Try.underlying26 rfl (infoSq hs.la hs.lb)) ?_
  refine st_val (.slice A us.length c) (by kernel_rfl) (by kernel_rfl) ?_
  rcases Bool.eq_false_or_eq_true (prB s us 0) with hp14 | hp14
  ·
    refine st_callB M4 (.bool true) (by kernel_rfl) (args := #[.agg (sqv s), .slice A us.length c, .int .i64 0]) (run_value_call 35 #[(Operand.tmp 12), (Operand.tmp 13), (Operand.const (Value.int IntKind.i64 0))] _ rfl Try.func35 (by kernel_rfl) (by kernel_rfl) _ (by kernel_rfl)) ((by have := proper_walk W3 s hs (.slice A us.length c) us (hr.keep M4.keep (fun _ _ h => h)) 0; rw [hp14] at this; exact this)) ?_
    intro W7 M8
    have hpr := PR_of hp14
    have hv := hpr.1
    obtain ⟨vn1, vn2, vd1, vd2, vb1, vb2, vu1, vu2, vP, vQ, vR⟩ := SV_facts hv
    have hcap := capS_t hv
    have hul := hpr.2.2.2.1
    refine st_val (.bool false) (by kernel_rfl) (by kernel_rfl) ?_
    refine st_val (.bool false) (by kernel_rfl) (by kernel_rfl) ?_
    refine st_val (.int .i64 wanted) (by kernel_rfl) (by kernel_rfl) ?_
    rcases Decidable.em ((wanted : Int) < 0) with c18 | c18
    ·
      refine st_val (.bool true) (by kernel_rfl) (bool_of (dec_t c18) (by kernel_rfl)) ?_
      refine st_val (.bool true) (by kernel_rfl) (by kernel_rfl) ?_
      refine wl_nil ?_
      refine hK6 _ _ ?_
      try clear hK6 K6
      refine wp_cond_true (by kernel_rfl) ?_
      refine wp_seq_k (fun K9 hK9 => ?_)
      refine wl_region ?_
      refine st_val (.int .i64 0) (by kernel_rfl) (by kernel_rfl) ?_
      refine st_val (.int .i64 1) (by kernel_rfl) (by kernel_rfl) ?_
      refine wl_nil ?_
      refine hK9 _ _ ?_
      try clear hK9 K9
      refine wp_frame (a' := ⟨#[.agg (sqv s), .slice A us.length c, .int .i64 wanted, .pointer (some ⟨g2, 0, none⟩), undef, undef, .int .i64 0, .int .i64 1, undef, undef, undef, undef, .agg (sqv s), .slice A us.length c, .bool true, .bool false, .bool false, .int .i64 wanted, .bool true, .bool true, undef, undef, undef, undef, undef, undef, undef, undef, undef, undef, undef, undef, undef, undef, undef, undef, undef, undef, undef, undef, undef, undef, undef, undef, undef, undef, undef, undef, undef, undef, undef, undef, undef, undef, undef, undef, undef, undef, undef, undef], []⟩) (by kernel_rfl) ?_
      refine wp_ret ?_
      refine th_ret ?_
      exact done2 6 7 (.int .i64 0) (.int .i64 1) (by kernel_rfl) (by kernel_rfl) (by kernel_rfl) (by kernel_rfl) ⟨by rw [needR_arg (fun h => by first | exact hpn h.1 | omega)], M8.toBelow⟩
    ·
      refine st_val (.bool false) (by kernel_rfl) (bool_of (dec_f c18) (by kernel_rfl)) ?_
      refine st_val (.bool false) (by kernel_rfl) (by kernel_rfl) ?_
      refine wl_nil ?_
      refine hK6 _ _ ?_
      try clear hK6 K6
      refine wp_cond_false (by kernel_rfl) ?_
      refine wp_skip ?_
      refine hK5 _ _ ?_
      try clear hK5 K5
      refine wp_seq_k (fun K10 hK10 => ?_)
      refine wl_region ?_
      refine st_val (.agg (sqv s)) (by kernel_rfl) (run_load_row 26 (.tmp 3) rfl g2 (by kernel_rfl) 26 (sqv s) (0, 0) _ (M8.get 0 rfl) Try.underlying26 rfl (infoSq hs.la hs.lb)) ?_
      refine st_val (.agg (sqv s)) (by kernel_rfl) (run_build_model (.tmp 20) rfl (sqv s) (by kernel_rfl) (sqv_size hs.la hs.lb)) ?_
      refine st_alloc M8 (.cells (sqv zS) 63 (0, 0)) (by kernel_rfl) (by kernel_rfl) ?_
      intro g11 W12 M13
      refine st_storeRow M13 0 rfl 63 (.tmp 8) (.tmp 21) (by rfl) (sqv s) (by kernel_rfl) (by kernel_rfl) (infoMo hs.la hs.lb) (sqv_same (sqv_size hs.la hs.lb) (sqv_size rfl rfl) rfl) (sqv_one _) (by kernel_rfl) [(g11, .cells (sqv s) 63 (0, 0)), (g2, .cells (sqv s) 26 (0, 0))] rfl ?_
      intro W14 M15
      refine wl_nil ?_
      refine hK10 _ _ ?_
      try clear hK10 K10
      refine wp_frame (a' := ⟨#[.agg (sqv s), .slice A us.length c, .int .i64 wanted, .pointer (some ⟨g2, 0, none⟩), undef, undef, .int .i64 0, .int .i64 0, .pointer (some ⟨g11, 0, none⟩), undef, undef, undef, .agg (sqv s), .slice A us.length c, .bool true, .bool false, .bool false, .int .i64 wanted, .bool false, .bool false, .agg (sqv s), .agg (sqv s), undef, undef, undef, undef, undef, undef, undef, undef, undef, undef, undef, undef, undef, undef, undef, undef, undef, undef, undef, undef, undef, undef, undef, undef, undef, undef, undef, undef, undef, undef, undef, undef, undef, undef, undef, undef, undef, undef], []⟩) (by kernel_rfl) ?_
      refine wp_seq_k (fun K16 hK16 => ?_)
      refine wl_seq 6 (fun w' => Mem NoS w w' [(g11, .cells (sqv s) 63 (0, 0)), (g2, .cells (sqv s) 26 (0, 0))]) (by decide) (by kernel_rfl) (by kernel_rfl) M15.drew ?_
      refine seq_run (v := .agg (sqv s)) (by decide) (by kernel_rfl) (fun w' M' => (run_load_row 63 (.tmp 8) rfl g11 (by kernel_rfl) 63 (sqv s) (0, 0) _ (M'.get 0 rfl) Try.underlying63 rfl (infoMo hs.la hs.lb))) ?_
      refine seq_call (v := .int .i64 (2 * s.num * s.bu)) (f := 31) (args := #[.agg (sqv s)]) (by decide) (by kernel_rfl) (fun w' M' => (run_value_call 31 #[(Operand.tmp 22)] _ rfl Try.func31 (by kernel_rfl) (by kernel_rfl) _ (by kernel_rfl))) (fun w' M' => callB_mem M' (mcap_walk w' s hs hv)) ?_
      refine seq_run (v := .agg (sqv s)) (by decide) (by kernel_rfl) (fun w' M' => (run_load_row 63 (.tmp 8) rfl g11 (by kernel_rfl) 63 (sqv s) (0, 0) _ (M'.get 0 rfl) Try.underlying63 rfl (infoMo hs.la hs.lb))) ?_
      refine seq_call (v := .int .i64 (2 * s.num * 8)) (f := 34) (args := #[.agg (sqv s), .int .i64 8]) (by decide) (by kernel_rfl) (fun w' M' => (run_value_call 34 #[(Operand.tmp 24), (Operand.const (Value.int IntKind.i64 8))] _ rfl Try.func34 (by kernel_rfl) (by kernel_rfl) _ (by kernel_rfl))) (fun w' M' => callB_mem M' (mcost_walk w' s hs hv 8 (mul_bd (m := 2097152) (n := 8388608) (by omega) (by omega) (by decide)))) ?_
      refine seq_run (v := .int .i64 ((2 * s.num * s.bu) - (2 * s.num * 8))) (by decide) (by kernel_rfl) (fun w' M' => (i64_of (by omega) (by kernel_rfl))) ?_
      refine seq_run (v := .int .i64 ((2 * s.num * s.bu) - (2 * s.num * 8))) (by decide) (by kernel_rfl) (fun w' M' => (by kernel_rfl)) ?_
      refine seq_end (by decide) ?_
      intro W17 M18
      refine wl_nil ?_
      refine hK16 _ _ ?_
      try clear hK16 K16
      refine wp_seq_k (fun K19 hK19 => ?_)
      refine wl_region ?_
      refine st_val (.int .i64 wanted) (by kernel_rfl) (by kernel_rfl) ?_
      refine st_val (.int .i64 wanted) (by kernel_rfl) (by kernel_rfl) ?_
      refine wl_nil ?_
      refine hK19 _ _ ?_
      try clear hK19 K19
      refine wp_seq_k (fun K20 hK20 => ?_)
      refine wp_seq_k (fun K21 hK21 => ?_)
      refine wl_region ?_
      refine st_val (.int .i64 wanted) (by kernel_rfl) (by kernel_rfl) ?_
      refine st_val (.int .i64 ((2 * s.num * s.bu) - (2 * s.num * 8))) (by kernel_rfl) (by kernel_rfl) ?_
      rcases Decidable.em ((wanted : Int) > (2 * s.num * s.bu) - (2 * s.num * 8)) with c30 | c30
      ·
        refine st_val (.bool true) (by kernel_rfl) (bool_of (dec_t c30) (by kernel_rfl)) ?_
        refine wl_nil ?_
        refine hK21 _ _ ?_
        try clear hK21 K21
        refine wp_cond_true (by kernel_rfl) ?_
        refine wp_seq_k (fun K22 hK22 => ?_)
        refine wl_region ?_
        refine st_val (.int .i64 0) (by kernel_rfl) (by kernel_rfl) ?_
        refine st_val (.int .i64 9) (by kernel_rfl) (by kernel_rfl) ?_
        refine wl_nil ?_
        refine hK22 _ _ ?_
        try clear hK22 K22
        refine wp_frame (a' := ⟨#[.agg (sqv s), .slice A us.length c, .int .i64 wanted, .pointer (some ⟨g2, 0, none⟩), undef, undef, .int .i64 0, .int .i64 9, .pointer (some ⟨g11, 0, none⟩), .int .i64 ((2 * s.num * s.bu) - (2 * s.num * 8)), .int .i64 wanted, undef, .agg (sqv s), .slice A us.length c, .bool true, .bool false, .bool false, .int .i64 wanted, .bool false, .bool false, .agg (sqv s), .agg (sqv s), .agg (sqv s), .int .i64 (2 * s.num * s.bu), .agg (sqv s), .int .i64 (2 * s.num * 8), .int .i64 ((2 * s.num * s.bu) - (2 * s.num * 8)), .int .i64 wanted, .int .i64 wanted, .int .i64 ((2 * s.num * s.bu) - (2 * s.num * 8)), .bool true, undef, undef, undef, undef, undef, undef, undef, undef, undef, undef, undef, undef, undef, undef, undef, undef, undef, undef, undef, undef, undef, undef, undef, undef, undef, undef, undef, undef, undef], []⟩) (by kernel_rfl) ?_
        refine wp_ret ?_
        refine th_ret ?_
        exact done2 6 7 (.int .i64 0) (.int .i64 9) (by kernel_rfl) (by kernel_rfl) (by kernel_rfl) (by kernel_rfl) ⟨by rw [needR_none hpr (by omega) (by first | exact needO_drop_none us us.length (by rw [List.drop_length]; exact needO_nil_none (by unfold mostS; omega)) | exact needO_drop_none us k (by rw [drop_getD us u0 k (by omega)]; exact needO_cons_none hN (by unfold mostS; omega)) | exact needO_drop_none us k (rO rfl) | exact needO_drop_none us k (rO (by assumption)))], M18.toBelow⟩
      ·
        refine st_val (.bool false) (by kernel_rfl) (bool_of (dec_f c30) (by kernel_rfl)) ?_
        refine wl_nil ?_
        refine hK21 _ _ ?_
        try clear hK21 K21
        refine wp_cond_false (by kernel_rfl) ?_
        refine wp_skip ?_
        refine hK20 _ _ ?_
        try clear hK20 K20
        refine wp_seq_k (fun K23 hK23 => ?_)
        refine wp_seq_k (fun K24 hK24 => ?_)
        refine wl_region ?_
        refine st_val (.slice A us.length c) (by kernel_rfl) (by kernel_rfl) ?_
        refine st_val (.int .i64 ((us.length : Nat) : Int)) (by kernel_rfl) (by kernel_rfl) ?_
        refine st_val (.int .i64 (((us.length : Nat) : Int) - 1)) (by kernel_rfl) (i64_of (by omega) (by kernel_rfl)) ?_
        refine st_val (.int .i64 (((us.length : Nat) : Int) - 1)) (by kernel_rfl) (by kernel_rfl) ?_
        refine wl_nil ?_
        refine hK24 _ _ ?_
        try clear hK24 K24
        refine wp_frame (a' := ⟨#[.agg (sqv s), .slice A us.length c, .int .i64 wanted, .pointer (some ⟨g2, 0, none⟩), undef, undef, .int .i64 0, .int .i64 0, .pointer (some ⟨g11, 0, none⟩), .int .i64 ((2 * s.num * s.bu) - (2 * s.num * 8)), .int .i64 wanted, .int .i64 (((us.length : Nat) : Int) - 1), .agg (sqv s), .slice A us.length c, .bool true, .bool false, .bool false, .int .i64 wanted, .bool false, .bool false, .agg (sqv s), .agg (sqv s), .agg (sqv s), .int .i64 (2 * s.num * s.bu), .agg (sqv s), .int .i64 (2 * s.num * 8), .int .i64 ((2 * s.num * s.bu) - (2 * s.num * 8)), .int .i64 wanted, .int .i64 wanted, .int .i64 ((2 * s.num * s.bu) - (2 * s.num * 8)), .bool false, .slice A us.length c, .int .i64 ((us.length : Nat) : Int), .int .i64 (((us.length : Nat) : Int) - 1), undef, undef, undef, undef, undef, undef, undef, undef, undef, undef, undef, undef, undef, undef, undef, undef, undef, undef, undef, undef, undef, undef, undef, undef, undef, undef], []⟩) (by kernel_rfl) ?_
        refine wp_block ?_
        refine wp_loop_ghost (fun gn a' w' => ∃ (k : Nat) (n : Int) (u25 : Nat → Value), ((k ≤ us.length ∧ (0 ≤ n ∧ n ≤ mostS s) ∧ needO (2 * s.num) (s.br * s.den) (mostS s) wanted (us.drop k) = some n) ∧ Mem NoS w w' [(g11, .cells (sqv s) 63 (0, 0)), (g2, .cells (sqv s) 26 (0, 0))]) ∧ gn = k + 1 ∧ a' = ⟨#[.agg (sqv s), .slice A us.length c, .int .i64 wanted, .pointer (some ⟨g2, 0, none⟩), undef, undef, (u25 6), (u25 7), .pointer (some ⟨g11, 0, none⟩), .int .i64 ((2 * s.num * s.bu) - (2 * s.num * 8)), .int .i64 n, .int .i64 ((k : Int) - 1), .agg (sqv s), .slice A us.length c, .bool true, .bool false, .bool false, .int .i64 wanted, .bool false, .bool false, .agg (sqv s), .agg (sqv s), .agg (sqv s), .int .i64 (2 * s.num * s.bu), .agg (sqv s), .int .i64 (2 * s.num * 8), .int .i64 ((2 * s.num * s.bu) - (2 * s.num * 8)), .int .i64 wanted, .int .i64 wanted, .int .i64 ((2 * s.num * s.bu) - (2 * s.num * 8)), .bool false, .slice A us.length c, .int .i64 ((us.length : Nat) : Int), .int .i64 (((us.length : Nat) : Int) - 1), (u25 34), (u25 35), (u25 36), (u25 37), (u25 38), (u25 39), (u25 40), (u25 41), (u25 42), (u25 43), (u25 44), (u25 45), (u25 46), (u25 47), (u25 48), (u25 49), (u25 50), (u25 51), (u25 52), (u25 53), (u25 54), (u25 55), (u25 56), (u25 57), (u25 58), undef], []⟩) _ ⟨us.length, wanted, (fun zz => Array.getD #[.agg (sqv s), .slice A us.length c, .int .i64 wanted, .pointer (some ⟨g2, 0, none⟩), undef, undef, .int .i64 0, .int .i64 0, .pointer (some ⟨g11, 0, none⟩), .int .i64 ((2 * s.num * s.bu) - (2 * s.num * 8)), .int .i64 wanted, .int .i64 (((us.length : Nat) : Int) - 1), .agg (sqv s), .slice A us.length c, .bool true, .bool false, .bool false, .int .i64 wanted, .bool false, .bool false, .agg (sqv s), .agg (sqv s), .agg (sqv s), .int .i64 (2 * s.num * s.bu), .agg (sqv s), .int .i64 (2 * s.num * 8), .int .i64 ((2 * s.num * s.bu) - (2 * s.num * 8)), .int .i64 wanted, .int .i64 wanted, .int .i64 ((2 * s.num * s.bu) - (2 * s.num * 8)), .bool false, .slice A us.length c, .int .i64 ((us.length : Nat) : Int), .int .i64 (((us.length : Nat) : Int) - 1), undef, undef, undef, undef, undef, undef, undef, undef, undef, undef, undef, undef, undef, undef, undef, undef, undef, undef, undef, undef, undef, undef, undef, undef, undef, undef] zz undef), ⟨⟨by omega, ⟨by omega, by unfold mostS; omega⟩, by rw [List.drop_length, needO_nil (by unfold mostS; omega)]⟩, M18⟩, rfl, (by kernel_rfl)⟩ ?_
        rintro gn _ W26 ⟨k, n, u25, ⟨⟨rk, rn, hN⟩, M27⟩, rfl, rfl⟩
        refine wp_seq_k (fun K28 hK28 => ?_)
        refine wp_seq_k (fun K29 hK29 => ?_)
        refine wl_region ?_
        refine st_val (.int .i64 ((k : Int) - 1)) (by kernel_rfl) (by kernel_rfl) ?_
        rcases Decidable.em (((k : Int) - 1 : Int) ≥ 0) with c35 | c35
        ·
          refine st_val (.bool true) (by kernel_rfl) (bool_of (dec_t c35) (by kernel_rfl)) ?_
          refine wl_nil ?_
          refine hK29 _ _ ?_
          try clear hK29 K29
          refine wp_cond_true (by kernel_rfl) ?_
          refine wp_skip ?_
          refine hK28 _ _ ?_
          try clear hK28 K28
          refine wp_seq_k (fun K30 hK30 => ?_)
          refine wp_block ?_
          refine wp_seq_k (fun K31 hK31 => ?_)
          have hm : mostS s ≤ 17592186044416 := by unfold mostS; omega
          obtain ⟨k, rfl⟩ : ∃ j, k = j + 1 := ⟨k - 1, by omega⟩
          refine wp_frame (a' := ⟨#[.agg (sqv s), .slice A us.length c, .int .i64 wanted, .pointer (some ⟨g2, 0, none⟩), undef, undef, (u25 6), (u25 7), .pointer (some ⟨g11, 0, none⟩), .int .i64 ((2 * s.num * s.bu) - (2 * s.num * 8)), .int .i64 n, .int .i64 (k : Int), .agg (sqv s), .slice A us.length c, .bool true, .bool false, .bool false, .int .i64 wanted, .bool false, .bool false, .agg (sqv s), .agg (sqv s), .agg (sqv s), .int .i64 (2 * s.num * s.bu), .agg (sqv s), .int .i64 (2 * s.num * 8), .int .i64 ((2 * s.num * s.bu) - (2 * s.num * 8)), .int .i64 wanted, .int .i64 wanted, .int .i64 ((2 * s.num * s.bu) - (2 * s.num * 8)), .bool false, .slice A us.length c, .int .i64 ((us.length : Nat) : Int), .int .i64 (((us.length : Nat) : Int) - 1), .int .i64 (k : Int), .bool true, (u25 36), (u25 37), (u25 38), (u25 39), (u25 40), (u25 41), (u25 42), (u25 43), (u25 44), (u25 45), (u25 46), (u25 47), (u25 48), (u25 49), (u25 50), (u25 51), (u25 52), (u25 53), (u25 54), (u25 55), (u25 56), (u25 57), (u25 58), undef], []⟩) (by rw [show ((k + 1 : Nat) : Int) - 1 = (k : Int) by omega]; kernel_rfl) ?_
          have hu := hpr.2.2.2.2 k (by omega)
          unfold PU at hu
          obtain ⟨hu1, hu2, hu3⟩ := hu
          have hc1 := mul_in (m := 2097152) (n := 8388608) (x := 2 * s.num) (y := (us.getD k u0).bits) (by omega) (by omega)
          have hd1 := mul_in (m := 1099511627776) (n := 3) (x := s.br * s.den) (y := (us.getD k u0).fields) (by omega) (by omega)
          refine wl_seq 19 (fun w' => Mem NoS w w' [(g11, .cells (sqv s) 63 (0, 0)), (g2, .cells (sqv s) 26 (0, 0))]) (by decide) (by kernel_rfl) (by kernel_rfl) M27.drew ?_
          refine seq_run (v := .agg (sqv s)) (by decide) (by kernel_rfl) (fun w' M' => (run_load_row 63 (.tmp 8) rfl g11 (by kernel_rfl) 63 (sqv s) (0, 0) _ (M'.get 0 rfl) Try.underlying63 rfl (infoMo hs.la hs.lb))) ?_
          refine seq_run (v := .slice A us.length c) (by decide) (by kernel_rfl) (fun w' M' => (by kernel_rfl)) ?_
          refine seq_run (v := .int .i64 (k : Int)) (by decide) (by kernel_rfl) (fun w' M' => (by kernel_rfl)) ?_
          obtain ⟨b32, o33, eA34⟩ := RdK.addr (hr.keep M27.keep (fun _ _ h => h)) (j := k * 4) (by rw [flat_len]; omega)
          refine seq_run (v := .pointer (some ⟨b32, o33 + k * 4, none⟩)) (by decide) (by kernel_rfl) (fun w' M' => (run_indexSliceA 36 (.tmp 39) (.tmp 40) rfl A ⟨b32, o33, none⟩ eA34 us.length c .i64 k (by kernel_rfl) (by kernel_rfl) Try.underlying36 4 (by kernel_rfl) (by omega) ⟨b32, o33 + k * 4, none⟩ (addr_atK _ _ _ _))) ?_
          refine seq_run (v := .pointer (some ⟨b32, o33 + k * 4 + 2, none⟩)) (by decide) (by kernel_rfl) (fun w' M' => (by kernel_rfl)) ?_
          refine seq_run (v := .int .i64 ((us.getD k u0).bits)) (by decide) (by kernel_rfl) (fun w' M' => (run_load_cell 2 (.tmp 42) rfl ⟨b32, o33 + k * 4 + 2, none⟩ (by kernel_rfl) _ ((hr.keep M'.keep (fun _ _ h => h)).cellF eA34 (f := 2) (flat_get us k 2 (by omega) (by omega))) (by kernel_rfl))) ?_
          refine seq_call (v := .int .i64 (2 * s.num * ((us.getD k u0).bits))) (f := 34) (args := #[.agg (sqv s), .int .i64 ((us.getD k u0).bits)]) (by decide) (by kernel_rfl) (fun w' M' => (run_value_call 34 #[(Operand.tmp 38), (Operand.tmp 43)] _ rfl Try.func34 (by kernel_rfl) (by kernel_rfl) _ (by kernel_rfl))) (fun w' M' => callB_mem M' (mcost_walk w' s hs hv ((us.getD k u0).bits) (mul_bd (m := 2097152) (n := 8388608) (by omega) (by omega) (by decide)))) ?_
          refine seq_run (v := .int .i64 n) (by decide) (by kernel_rfl) (fun w' M' => (by kernel_rfl)) ?_
          refine seq_run (v := .agg (sqv s)) (by decide) (by kernel_rfl) (fun w' M' => (run_load_row 63 (.tmp 8) rfl g11 (by kernel_rfl) 63 (sqv s) (0, 0) _ (M'.get 0 rfl) Try.underlying63 rfl (infoMo hs.la hs.lb))) ?_
          refine seq_run (v := .slice A us.length c) (by decide) (by kernel_rfl) (fun w' M' => (by kernel_rfl)) ?_
          refine seq_run (v := .int .i64 (k : Int)) (by decide) (by kernel_rfl) (fun w' M' => (by kernel_rfl)) ?_
          obtain ⟨b35, o36, eA37⟩ := RdK.addr (hr.keep M27.keep (fun _ _ h => h)) (j := k * 4) (by rw [flat_len]; omega)
          refine seq_run (v := .pointer (some ⟨b35, o36 + k * 4, none⟩)) (by decide) (by kernel_rfl) (fun w' M' => (run_indexSliceA 36 (.tmp 47) (.tmp 48) rfl A ⟨b35, o36, none⟩ eA37 us.length c .i64 k (by kernel_rfl) (by kernel_rfl) Try.underlying36 4 (by kernel_rfl) (by omega) ⟨b35, o36 + k * 4, none⟩ (addr_atK _ _ _ _))) ?_
          refine seq_run (v := .pointer (some ⟨b35, o36 + k * 4 + 3, none⟩)) (by decide) (by kernel_rfl) (fun w' M' => (by kernel_rfl)) ?_
          refine seq_run (v := .int .i64 ((us.getD k u0).fields)) (by decide) (by kernel_rfl) (fun w' M' => (run_load_cell 3 (.tmp 50) rfl ⟨b35, o36 + k * 4 + 3, none⟩ (by kernel_rfl) _ ((hr.keep M'.keep (fun _ _ h => h)).cellF eA37 (f := 3) (flat_get us k 3 (by omega) (by omega))) (by kernel_rfl))) ?_
          refine seq_call (v := .int .i64 (s.br * s.den * ((us.getD k u0).fields))) (f := 33) (args := #[.agg (sqv s), .int .i64 ((us.getD k u0).fields)]) (by decide) (by kernel_rfl) (fun w' M' => (run_value_call 33 #[(Operand.tmp 46), (Operand.tmp 51)] _ rfl Try.func33 (by kernel_rfl) (by kernel_rfl) _ (by kernel_rfl))) (fun w' M' => callB_mem M' (marr_walk w' s hs hv ((us.getD k u0).fields) (by omega))) ?_
          refine seq_run (v := .int .i64 (n - (s.br * s.den * ((us.getD k u0).fields)))) (by decide) (by kernel_rfl) (fun w' M' => (i64_of (by omega) (by kernel_rfl))) ?_
          refine seq_run (v := .int .i64 (max 0 (n - (s.br * s.den * ((us.getD k u0).fields))))) (by decide) (by kernel_rfl) (fun w' M' => (int_of (ite_max 0 (n - (s.br * s.den * ((us.getD k u0).fields)))) (by kernel_rfl))) ?_
          refine seq_run (v := .int .i64 ((2 * s.num * ((us.getD k u0).bits)) + (max 0 (n - (s.br * s.den * ((us.getD k u0).fields)))))) (by decide) (by kernel_rfl) (fun w' M' => (i64_of (by omega) (by kernel_rfl))) ?_
          refine seq_run (v := .int .i64 ((2 * s.num * ((us.getD k u0).bits)) + (max 0 (n - (s.br * s.den * ((us.getD k u0).fields)))))) (by decide) (by kernel_rfl) (fun w' M' => (by kernel_rfl)) ?_
          refine seq_end (by decide) ?_
          intro W38 M39
          refine wl_nil ?_
          refine hK31 _ _ ?_
          try clear hK31 K31
          refine wp_frame (a' := ⟨#[.agg (sqv s), .slice A us.length c, .int .i64 wanted, .pointer (some ⟨g2, 0, none⟩), undef, undef, (u25 6), (u25 7), .pointer (some ⟨g11, 0, none⟩), .int .i64 ((2 * s.num * s.bu) - (2 * s.num * 8)), .int .i64 ((2 * s.num * ((us.getD k u0).bits)) + (max 0 (n - (s.br * s.den * ((us.getD k u0).fields))))), .int .i64 (k : Int), .agg (sqv s), .slice A us.length c, .bool true, .bool false, .bool false, .int .i64 wanted, .bool false, .bool false, .agg (sqv s), .agg (sqv s), .agg (sqv s), .int .i64 (2 * s.num * s.bu), .agg (sqv s), .int .i64 (2 * s.num * 8), .int .i64 ((2 * s.num * s.bu) - (2 * s.num * 8)), .int .i64 wanted, .int .i64 wanted, .int .i64 ((2 * s.num * s.bu) - (2 * s.num * 8)), .bool false, .slice A us.length c, .int .i64 ((us.length : Nat) : Int), .int .i64 (((us.length : Nat) : Int) - 1), .int .i64 (k : Int), .bool true, (u25 36), (u25 37), .agg (sqv s), .slice A us.length c, .int .i64 (k : Int), .pointer (some ⟨b32, o33 + k * 4, none⟩), .pointer (some ⟨b32, o33 + k * 4 + 2, none⟩), .int .i64 ((us.getD k u0).bits), .int .i64 (2 * s.num * ((us.getD k u0).bits)), .int .i64 n, .agg (sqv s), .slice A us.length c, .int .i64 (k : Int), .pointer (some ⟨b35, o36 + k * 4, none⟩), .pointer (some ⟨b35, o36 + k * 4 + 3, none⟩), .int .i64 ((us.getD k u0).fields), .int .i64 (s.br * s.den * ((us.getD k u0).fields)), .int .i64 (n - (s.br * s.den * ((us.getD k u0).fields))), .int .i64 (max 0 (n - (s.br * s.den * ((us.getD k u0).fields)))), .int .i64 ((2 * s.num * ((us.getD k u0).bits)) + (max 0 (n - (s.br * s.den * ((us.getD k u0).fields))))), (u25 56), (u25 57), (u25 58), undef], []⟩) (by kernel_rfl) ?_
          refine wp_seq_k (fun K40 hK40 => ?_)
          refine wl_region ?_
          refine st_val (.int .i64 ((2 * s.num * ((us.getD k u0).bits)) + (max 0 (n - (s.br * s.den * ((us.getD k u0).fields)))))) (by kernel_rfl) (by kernel_rfl) ?_
          refine st_val (.int .i64 ((2 * s.num * s.bu) - (2 * s.num * 8))) (by kernel_rfl) (by kernel_rfl) ?_
          rcases Decidable.em (((2 * s.num * ((us.getD k u0).bits)) + (max 0 (n - (s.br * s.den * ((us.getD k u0).fields)))) : Int) > (2 * s.num * s.bu) - (2 * s.num * 8)) with c58 | c58
          ·
            refine st_val (.bool true) (by kernel_rfl) (bool_of (dec_t c58) (by kernel_rfl)) ?_
            refine wl_nil ?_
            refine hK40 _ _ ?_
            try clear hK40 K40
            refine wp_cond_true (by kernel_rfl) ?_
            refine wp_seq_k (fun K41 hK41 => ?_)
            refine wl_region ?_
            refine st_val (.int .i64 0) (by kernel_rfl) (by kernel_rfl) ?_
            refine st_val (.int .i64 9) (by kernel_rfl) (by kernel_rfl) ?_
            refine wl_nil ?_
            refine hK41 _ _ ?_
            try clear hK41 K41
            refine wp_ret ?_
            refine blk_ret ?_
            refine th_ret ?_
            refine th_ret ?_
            refine blk_ret ?_
            refine th_ret ?_
            exact done2 6 7 (.int .i64 0) (.int .i64 9) (by kernel_rfl) (by kernel_rfl) (by kernel_rfl) (by kernel_rfl) ⟨by rw [needR_none hpr (by omega) (by first | exact needO_drop_none us us.length (by rw [List.drop_length]; exact needO_nil_none (by unfold mostS; omega)) | exact needO_drop_none us k (by rw [drop_getD us u0 k (by omega)]; exact needO_cons_none hN (by unfold mostS; omega)) | exact needO_drop_none us k (rO rfl) | exact needO_drop_none us k (rO (by assumption)))], M39.toBelow⟩
          ·
            refine st_val (.bool false) (by kernel_rfl) (bool_of (dec_f c58) (by kernel_rfl)) ?_
            refine wl_nil ?_
            refine hK40 _ _ ?_
            try clear hK40 K40
            refine wp_cond_false (by kernel_rfl) ?_
            refine wp_skip ?_
            refine blk_normal ?_
            refine hK30 _ _ ?_
            try clear hK30 K30
            refine wl_region ?_
            refine st_val (.int .i64 (k : Int)) (by kernel_rfl) (by kernel_rfl) ?_
            refine st_val (.int .i64 ((k : Int) - 1)) (by kernel_rfl) (i64_of (by omega) (by kernel_rfl)) ?_
            refine st_val (.int .i64 ((k : Int) - 1)) (by kernel_rfl) (by kernel_rfl) ?_
            refine wl_nil ?_
            refine th_normal ?_
            exact ⟨_, by omega, k, ((2 * s.num * ((us.getD k u0).bits)) + (max 0 (n - (s.br * s.den * ((us.getD k u0).fields))))), (fun zz => Array.getD #[.agg (sqv s), .slice A us.length c, .int .i64 wanted, .pointer (some ⟨g2, 0, none⟩), undef, undef, (u25 6), (u25 7), .pointer (some ⟨g11, 0, none⟩), .int .i64 ((2 * s.num * s.bu) - (2 * s.num * 8)), .int .i64 ((2 * s.num * ((us.getD k u0).bits)) + (max 0 (n - (s.br * s.den * ((us.getD k u0).fields))))), .int .i64 ((k : Int) - 1), .agg (sqv s), .slice A us.length c, .bool true, .bool false, .bool false, .int .i64 wanted, .bool false, .bool false, .agg (sqv s), .agg (sqv s), .agg (sqv s), .int .i64 (2 * s.num * s.bu), .agg (sqv s), .int .i64 (2 * s.num * 8), .int .i64 ((2 * s.num * s.bu) - (2 * s.num * 8)), .int .i64 wanted, .int .i64 wanted, .int .i64 ((2 * s.num * s.bu) - (2 * s.num * 8)), .bool false, .slice A us.length c, .int .i64 ((us.length : Nat) : Int), .int .i64 (((us.length : Nat) : Int) - 1), .int .i64 (k : Int), .bool true, .int .i64 (k : Int), .int .i64 ((k : Int) - 1), .agg (sqv s), .slice A us.length c, .int .i64 (k : Int), .pointer (some ⟨b32, o33 + k * 4, none⟩), .pointer (some ⟨b32, o33 + k * 4 + 2, none⟩), .int .i64 ((us.getD k u0).bits), .int .i64 (2 * s.num * ((us.getD k u0).bits)), .int .i64 n, .agg (sqv s), .slice A us.length c, .int .i64 (k : Int), .pointer (some ⟨b35, o36 + k * 4, none⟩), .pointer (some ⟨b35, o36 + k * 4 + 3, none⟩), .int .i64 ((us.getD k u0).fields), .int .i64 (s.br * s.den * ((us.getD k u0).fields)), .int .i64 (n - (s.br * s.den * ((us.getD k u0).fields))), .int .i64 (max 0 (n - (s.br * s.den * ((us.getD k u0).fields)))), .int .i64 ((2 * s.num * ((us.getD k u0).bits)) + (max 0 (n - (s.br * s.den * ((us.getD k u0).fields))))), .int .i64 ((2 * s.num * ((us.getD k u0).bits)) + (max 0 (n - (s.br * s.den * ((us.getD k u0).fields))))), .int .i64 ((2 * s.num * s.bu) - (2 * s.num * 8)), .bool false, undef] zz undef), ⟨⟨by omega, ⟨by omega, by unfold mostS; omega⟩, by rw [drop_getD us u0 k (by omega), needO_cons hN (by unfold mostS; omega)]⟩, M39⟩, rfl, (by kernel_rfl)⟩
        ·
          refine st_val (.bool false) (by kernel_rfl) (bool_of (dec_f c35) (by kernel_rfl)) ?_
          refine wl_nil ?_
          refine hK29 _ _ ?_
          try clear hK29 K29
          refine wp_cond_false (by kernel_rfl) ?_
          refine wp_exit ?_
          refine th_exit ?_
          refine th_exit ?_
          refine blk_exit ?_
          refine hK23 _ _ ?_
          try clear hK23 K23
          refine wp_seq_k (fun K42 hK42 => ?_)
          refine wl_region ?_
          refine st_val (.int .i64 n) (by kernel_rfl) (by kernel_rfl) ?_
          refine st_val (.int .i64 n) (by kernel_rfl) (by kernel_rfl) ?_
          refine st_val (.int .i64 0) (by kernel_rfl) (by kernel_rfl) ?_
          refine wl_nil ?_
          refine hK42 _ _ ?_
          try clear hK42 K42
          refine wp_ret ?_
          exact done2 6 7 (.int .i64 n) (.int .i64 0) (by kernel_rfl) (by kernel_rfl) (by kernel_rfl) (by kernel_rfl) ⟨by rw [needR_some hpr (by omega) (n := n) (by first | (exfalso; have h1 : (!ov) = false := (by assumption); have h2 : ov = false := (by assumption); rw [h2] at h1; exact Bool.noConfusion h1) | (obtain rfl : k = 0 := (by omega); exact hN) | (obtain ⟨_, hN⟩ := rn (by assumption); obtain rfl : k = 0 := (by omega); exact hN))], M27.toBelow⟩
  ·
    have hpn := prB_not hp14
    refine st_callB M4 (.bool false) (by kernel_rfl) (args := #[.agg (sqv s), .slice A us.length c, .int .i64 0]) (run_value_call 35 #[(Operand.tmp 12), (Operand.tmp 13), (Operand.const (Value.int IntKind.i64 0))] _ rfl Try.func35 (by kernel_rfl) (by kernel_rfl) _ (by kernel_rfl)) ((by have := proper_walk W3 s hs (.slice A us.length c) us (hr.keep M4.keep (fun _ _ h => h)) 0; rw [hp14] at this; exact this)) ?_
    intro W43 M44
    refine st_val (.bool true) (by kernel_rfl) (by kernel_rfl) ?_
    refine st_val (.bool true) (by kernel_rfl) (by kernel_rfl) ?_
    refine st_skip (by kernel_rfl) ?_
    refine st_skip (by kernel_rfl) ?_
    refine st_val (.bool true) (by kernel_rfl) (by kernel_rfl) ?_
    refine wl_nil ?_
    refine hK6 _ _ ?_
    try clear hK6 K6
    refine wp_cond_true (by kernel_rfl) ?_
    refine wp_seq_k (fun K45 hK45 => ?_)
    refine wl_region ?_
    refine st_val (.int .i64 0) (by kernel_rfl) (by kernel_rfl) ?_
    refine st_val (.int .i64 1) (by kernel_rfl) (by kernel_rfl) ?_
    refine wl_nil ?_
    refine hK45 _ _ ?_
    try clear hK45 K45
    refine wp_frame (a' := ⟨#[.agg (sqv s), .slice A us.length c, .int .i64 wanted, .pointer (some ⟨g2, 0, none⟩), undef, undef, .int .i64 0, .int .i64 1, undef, undef, undef, undef, .agg (sqv s), .slice A us.length c, .bool false, .bool true, .bool true, undef, undef, .bool true, undef, undef, undef, undef, undef, undef, undef, undef, undef, undef, undef, undef, undef, undef, undef, undef, undef, undef, undef, undef, undef, undef, undef, undef, undef, undef, undef, undef, undef, undef, undef, undef, undef, undef, undef, undef, undef, undef, undef, undef], []⟩) (by kernel_rfl) ?_
    refine wp_ret ?_
    refine th_ret ?_
    exact done2 6 7 (.int .i64 0) (.int .i64 1) (by kernel_rfl) (by kernel_rfl) (by kernel_rfl) (by kernel_rfl) ⟨by rw [needR_arg (fun h => by first | exact hpn h.1 | omega)], M44.toBelow⟩
end Go.Proofs.Ytolfkaljbgpkhaa
