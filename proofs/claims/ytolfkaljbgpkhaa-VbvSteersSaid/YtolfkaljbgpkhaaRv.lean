/- ran. -/
import Derived.Test.YtolfkaljbgpkhaaRu
namespace Go.Proofs.Ytolfkaljbgpkhaa
open Go.RowKit
set_option maxHeartbeats 4000000 in
set_option maxRecDepth 100000 in
theorem ran_walk (w : World) (s : SeqD) (hs : SOk s) (v : Value) (us : List UnitD) (hr : RdK w v us.length (flat us)) (start : Int) (hpr : PR s us start) : MakesRow Try.prog 38 #[.agg (sqv s), v, .int .i64 start] w (fun v T => ∃ v1, v = .tuple #[v1, .int .i64 (runI (runS s us start).2)] ∧ ((runS s us start).2 = none → Own 55 2 v1 (runS s us start).1.length (lflat (runS s us start).1) T)) := by
  unfold MakesRow
  obtain ⟨A, c, rfl, hc⟩ := hr.shape
  refine calls_of_wp Try.func38 rfl ?_
  refine wp_frame (a' := ⟨#[.agg (sqv s), .slice A us.length c, .int .i64 start, undef, undef, undef, undef, undef, undef, undef, undef, undef, undef, undef, undef, undef, undef, undef, undef, undef, undef, undef, undef, undef, undef, undef, undef, undef, undef, undef, undef, undef, undef, undef, undef, undef, undef, undef, undef, undef, undef, undef, undef, undef, undef, undef, undef, undef, undef, undef, undef, undef, undef, undef, undef, undef, undef, undef, undef, undef, undef, undef, undef, undef, undef, undef, undef, undef, undef], []⟩) (by kernel_rfl) ?_
  have M0 : Mem NoS w w [] := Mem.start _ _
  refine wp_seq_k (fun K1 hK1 => ?_)
  have hv := hpr.1
  obtain ⟨vn1, vn2, vd1, vd2, vb1, vb2, vu1, vu2, vP, vQ, vR⟩ := SV_facts hv
  have hcap := capS_t hv
  have hul := hpr.2.2.2.1
  have hst1 := hpr.2.1
  have hst2 := hpr.2.2.1
  refine wl_region ?_
  refine st_alloc M0 (.cells (sqv s) 26 (0, 0)) (by kernel_rfl) (by kernel_rfl) ?_
  intro g2 W3 M4
  refine st_val ((Go.Value.slice none 0 0)) (by kernel_rfl) (by kernel_rfl) ?_
  refine st_val (.int .i64 0) (by kernel_rfl) (by kernel_rfl) ?_
  refine wl_nil ?_
  refine hK1 _ _ ?_
  try clear hK1 K1
  refine wp_seq_k (fun K5 hK5 => ?_)
  refine wl_region ?_
  refine st_val ((Go.Value.slice none 0 0)) (by kernel_rfl) (by kernel_rfl) ?_
  refine wl_nil ?_
  refine hK5 _ _ ?_
  try clear hK5 K5
  refine wp_seq_k (fun K6 hK6 => ?_)
  refine wl_region ?_
  refine st_val (.int .i64 start) (by kernel_rfl) (by kernel_rfl) ?_
  refine st_val (.int .i64 start) (by kernel_rfl) (by kernel_rfl) ?_
  refine wl_nil ?_
  refine hK6 _ _ ?_
  try clear hK6 K6
  refine wp_seq_k (fun K7 hK7 => ?_)
  refine wp_seq_k (fun K8 hK8 => ?_)
  refine wl_region ?_
  refine st_val (.int .i64 0) (by kernel_rfl) (by kernel_rfl) ?_
  refine wl_nil ?_
  refine hK8 _ _ ?_
  try clear hK8 K8
  refine wp_block ?_
  refine wp_loop_ghost (fun gn a' w' => ∃ (i : Nat) (f : Int) (p : List (Int × Int)) (A1 : Option Addr) (c1 : Nat) (T1 : List (Nat × Obj)) (u9 : Nat → Value), ((i ≤ us.length ∧ (0 ≤ f ∧ f ≤ 2 * s.num * s.bu + 3 * (s.br * s.den)) ∧ (i < us.length → f ≤ 2 * s.num * s.bu) ∧ Own 55 2 (.slice A1 i c1) i (lflat p) T1 ∧ runO (2 * s.num) (s.br * s.den) (2 * s.num * s.bu) start us = (p ++ (runO (2 * s.num) (s.br * s.den) (2 * s.num * s.bu) f (us.drop i)).1, (runO (2 * s.num) (s.br * s.den) (2 * s.num * s.bu) f (us.drop i)).2.map (· + i))) ∧ Mem NoS w w' ((g2, .cells (sqv s) 26 (0, 0)) :: (T1 ++ []))) ∧ gn = us.length - i ∧ a' = ⟨#[.agg (sqv s), .slice A us.length c, .int .i64 start, .pointer (some ⟨g2, 0, none⟩), undef, undef, (u9 6), (u9 7), .slice A1 i c1, .int .i64 f, .int .i64 (i : Int), (u9 11), .int .i64 start, (u9 13), (u9 14), (u9 15), (u9 16), (u9 17), (u9 18), (u9 19), (u9 20), (u9 21), (u9 22), (u9 23), (u9 24), (u9 25), (u9 26), (u9 27), (u9 28), (u9 29), (u9 30), (u9 31), (u9 32), (u9 33), (u9 34), (u9 35), (u9 36), (u9 37), (u9 38), (u9 39), (u9 40), (u9 41), (u9 42), (u9 43), (u9 44), (u9 45), (u9 46), (u9 47), (u9 48), (u9 49), (u9 50), (u9 51), (u9 52), (u9 53), (u9 54), (u9 55), (u9 56), (u9 57), (u9 58), (u9 59), (u9 60), (u9 61), (u9 62), (u9 63), (u9 64), (u9 65), (u9 66), (u9 67), undef], []⟩) _ ⟨0, start, ([]), none, 0, ([]), (fun zz => Array.getD #[.agg (sqv s), .slice A us.length c, .int .i64 start, .pointer (some ⟨g2, 0, none⟩), undef, undef, (Go.Value.slice none 0 0), .int .i64 0, (Go.Value.slice none 0 0), .int .i64 start, .int .i64 0, undef, .int .i64 start, undef, undef, undef, undef, undef, undef, undef, undef, undef, undef, undef, undef, undef, undef, undef, undef, undef, undef, undef, undef, undef, undef, undef, undef, undef, undef, undef, undef, undef, undef, undef, undef, undef, undef, undef, undef, undef, undef, undef, undef, undef, undef, undef, undef, undef, undef, undef, undef, undef, undef, undef, undef, undef, undef, undef, undef] zz undef), ⟨⟨by omega, ⟨by omega, by omega⟩, fun _ => by omega, Own.nil _ _, by rw [List.drop_zero]; refine Prod.ext rfl ?_; show _ = Option.map (· + 0) _; cases (runO (2 * s.num) (s.br * s.den) (2 * s.num * s.bu) start us).2 <;> rfl⟩, M4⟩, rfl, (by kernel_rfl)⟩ ?_
  rintro gn _ W10 ⟨i, f, p, A1, c1, T1, u9, ⟨⟨ri, rf, rc, O1, hP⟩, M11⟩, rfl, rfl⟩
  refine wp_seq_k (fun K12 hK12 => ?_)
  refine wp_seq_k (fun K13 hK13 => ?_)
  refine wl_region ?_
  refine st_val (.int .i64 (i : Int)) (by kernel_rfl) (by kernel_rfl) ?_
  refine st_val (.slice A us.length c) (by kernel_rfl) (by kernel_rfl) ?_
  refine st_val (.int .i64 ((us.length : Nat) : Int)) (by kernel_rfl) (by kernel_rfl) ?_
  rcases Decidable.em (((i : Int) : Int) < ((us.length : Nat) : Int)) with c16 | c16
  ·
    refine st_val (.bool true) (by kernel_rfl) (bool_of (dec_t c16) (by kernel_rfl)) ?_
    refine wl_nil ?_
    refine hK13 _ _ ?_
    try clear hK13 K13
    refine wp_cond_true (by kernel_rfl) ?_
    refine wp_skip ?_
    refine hK12 _ _ ?_
    try clear hK12 K12
    refine wp_seq_k (fun K14 hK14 => ?_)
    refine wp_block ?_
    refine wp_seq_k (fun K15 hK15 => ?_)
    have hu := hpr.2.2.2.2 i (by omega)
    unfold PU at hu
    obtain ⟨hu1, hu2, hu3⟩ := hu
    have hc1 := mul_in (m := 2097152) (n := 8388608) (x := 2 * s.num) (y := (us.getD i u0).bits) (by omega) (by omega)
    have hd1 := mul_in (m := 1099511627776) (n := 3) (x := s.br * s.den) (y := (us.getD i u0).fields) (by omega) (by omega)
    have hdb : 0 ≤ 3 * s.den * s.br := Int.mul_nonneg (by omega) (by omega)
    have hd2 : s.br * s.den * (us.getD i u0).fields ≤ 3 * (s.br * s.den) := by rcases hu3 with h | h <;> rw [h] <;> omega
    obtain ⟨b17, o18, eA19⟩ := RdK.addr (hr.keep M11.keep (fun _ _ h => h)) (j := i * 4) (by rw [flat_len]; omega)
    obtain ⟨b20, o21, eA22⟩ := RdK.addr (hr.keep M11.keep (fun _ _ h => h)) (j := i * 4) (by rw [flat_len]; omega)
    refine wl_seqA M11 20 [] [.int .i64 f, .int .i64 f, .agg (sqv s), .slice A us.length c, .int .i64 (i : Int), .pointer (some ⟨b17, o18 + i * 4, none⟩), .pointer (some ⟨b17, o18 + i * 4 + 2, none⟩), .int .i64 ((us.getD i u0).bits), .int .i64 (2 * s.num * ((us.getD i u0).bits)), .int .i64 (f - (2 * s.num * ((us.getD i u0).bits))), .agg (sqv s), .slice A us.length c, .int .i64 (i : Int), .pointer (some ⟨b20, o21 + i * 4, none⟩), .pointer (some ⟨b20, o21 + i * 4 + 3, none⟩), .int .i64 ((us.getD i u0).fields), .int .i64 (s.br * s.den * ((us.getD i u0).fields)), .int .i64 ((f - (2 * s.num * ((us.getD i u0).bits))) + (s.br * s.den * ((us.getD i u0).fields))), .agg #[.int .i64 f, .int .i64 ((f - (2 * s.num * ((us.getD i u0).bits))) + (s.br * s.den * ((us.getD i u0).fields)))], undef] [(19, .cells #[.int .i64 0, .int .i64 0] 55 (0, 0))] (by decide) (by kernel_rfl) (by kernel_rfl) (fun d _ _ _ _ h => by cases d <;> exact h) rfl rfl (by decide) (fun G16 => ?_)
    refine sqa_run (.int .i64 f) (by decide) rfl rfl rfl (by kernel_rfl) (fun w' M' => (by kernel_rfl)) ?_
    refine sqa_run (.int .i64 f) (by decide) rfl rfl rfl (by kernel_rfl) (fun w' M' => (by kernel_rfl)) ?_
    refine sqa_run (.agg (sqv s)) (by decide) rfl rfl rfl (by kernel_rfl) (fun w' M' => (run_load_row 26 (.tmp 3) rfl g2 (by kernel_rfl) 26 (sqv s) (0, 0) _ (M'.get 0 rfl) Try.underlying26 rfl (infoSq hs.la hs.lb))) ?_
    refine sqa_run (.slice A us.length c) (by decide) rfl rfl rfl (by kernel_rfl) (fun w' M' => (by kernel_rfl)) ?_
    refine sqa_run (.int .i64 (i : Int)) (by decide) rfl rfl rfl (by kernel_rfl) (fun w' M' => (by kernel_rfl)) ?_
    refine sqa_run (.pointer (some ⟨b17, o18 + i * 4, none⟩)) (by decide) rfl rfl rfl (by kernel_rfl) (fun w' M' => (run_indexSliceA 32 (.tmp 22) (.tmp 23) rfl A ⟨b17, o18, none⟩ eA19 us.length c .i64 i (by kernel_rfl) (by kernel_rfl) Try.underlying32 4 (by kernel_rfl) (by omega) ⟨b17, o18 + i * 4, none⟩ (addr_atK _ _ _ _))) ?_
    refine sqa_run (.pointer (some ⟨b17, o18 + i * 4 + 2, none⟩)) (by decide) rfl rfl rfl (by kernel_rfl) (fun w' M' => (by kernel_rfl)) ?_
    refine sqa_run (.int .i64 ((us.getD i u0).bits)) (by decide) rfl rfl rfl (by kernel_rfl) (fun w' M' => (run_load_cell 2 (.tmp 25) rfl ⟨b17, o18 + i * 4 + 2, none⟩ (by kernel_rfl) _ ((hr.keep M'.keep (fun _ _ h => h)).cellF eA19 (f := 2) (flat_get us i 2 (by omega) (by omega))) (by kernel_rfl))) ?_
    refine sqa_call (.int .i64 (2 * s.num * ((us.getD i u0).bits))) (f := 17) (args := #[.agg (sqv s), .int .i64 ((us.getD i u0).bits)]) (by decide) rfl rfl rfl (by kernel_rfl) (fun w' M' => (run_value_call 17 #[(Operand.tmp 21), (Operand.tmp 26)] _ rfl Try.func17 (by kernel_rfl) (by kernel_rfl) _ (by kernel_rfl))) (fun w' M' => (by have := refCost_walk w' s hs ((us.getD i u0).bits); rw [costS_t hv (by omega)] at this; exact this)) ?_
    refine sqa_run (.int .i64 (f - (2 * s.num * ((us.getD i u0).bits)))) (by decide) rfl rfl rfl (by kernel_rfl) (fun w' M' => (i64_of (by omega) (by kernel_rfl))) ?_
    refine sqa_run (.agg (sqv s)) (by decide) rfl rfl rfl (by kernel_rfl) (fun w' M' => (run_load_row 26 (.tmp 3) rfl g2 (by kernel_rfl) 26 (sqv s) (0, 0) _ (M'.get 0 rfl) Try.underlying26 rfl (infoSq hs.la hs.lb))) ?_
    refine sqa_run (.slice A us.length c) (by decide) rfl rfl rfl (by kernel_rfl) (fun w' M' => (by kernel_rfl)) ?_
    refine sqa_run (.int .i64 (i : Int)) (by decide) rfl rfl rfl (by kernel_rfl) (fun w' M' => (by kernel_rfl)) ?_
    refine sqa_run (.pointer (some ⟨b20, o21 + i * 4, none⟩)) (by decide) rfl rfl rfl (by kernel_rfl) (fun w' M' => (run_indexSliceA 32 (.tmp 30) (.tmp 31) rfl A ⟨b20, o21, none⟩ eA22 us.length c .i64 i (by kernel_rfl) (by kernel_rfl) Try.underlying32 4 (by kernel_rfl) (by omega) ⟨b20, o21 + i * 4, none⟩ (addr_atK _ _ _ _))) ?_
    refine sqa_run (.pointer (some ⟨b20, o21 + i * 4 + 3, none⟩)) (by decide) rfl rfl rfl (by kernel_rfl) (fun w' M' => (by kernel_rfl)) ?_
    refine sqa_run (.int .i64 ((us.getD i u0).fields)) (by decide) rfl rfl rfl (by kernel_rfl) (fun w' M' => (run_load_cell 3 (.tmp 33) rfl ⟨b20, o21 + i * 4 + 3, none⟩ (by kernel_rfl) _ ((hr.keep M'.keep (fun _ _ h => h)).cellF eA22 (f := 3) (flat_get us i 3 (by omega) (by omega))) (by kernel_rfl))) ?_
    refine sqa_call (.int .i64 (s.br * s.den * ((us.getD i u0).fields))) (f := 15) (args := #[.agg (sqv s), .int .i64 ((us.getD i u0).fields)]) (by decide) rfl rfl rfl (by kernel_rfl) (fun w' M' => (run_value_call 15 #[(Operand.tmp 29), (Operand.tmp 34)] _ rfl Try.func15 (by kernel_rfl) (by kernel_rfl) _ (by kernel_rfl))) (fun w' M' => (by have := refArr_walk w' s hs ((us.getD i u0).fields); rw [arrS_t hv (by omega)] at this; exact this)) ?_
    refine sqa_run (.int .i64 ((f - (2 * s.num * ((us.getD i u0).bits))) + (s.br * s.den * ((us.getD i u0).fields)))) (by decide) rfl rfl rfl (by kernel_rfl) (fun w' M' => (i64_of (by omega) (by kernel_rfl))) ?_
    refine sqa_run (.agg #[.int .i64 f, .int .i64 ((f - (2 * s.num * ((us.getD i u0).bits))) + (s.br * s.den * ((us.getD i u0).fields)))]) (by decide) rfl rfl rfl (by kernel_rfl) (fun w' M' => (by kernel_rfl)) ?_
    refine sqa_alloc (.cells #[.int .i64 0, .int .i64 0] 55 (0, 0)) (by decide) rfl rfl rfl (fun w' => by kernel_rfl) ?_
    refine sqa_end (by decide) ?_
    intro W23 M24
    refine st_storeRow M24 0 rfl 55 (.tmp 11) (.tmp 37) (by rfl) #[.int .i64 f, .int .i64 ((f - (2 * s.num * ((us.getD i u0).bits))) + (s.br * s.den * ((us.getD i u0).fields)))] (by kernel_rfl) (by kernel_rfl) (by kernel_rfl) (by rfl) (by kernel_rfl) (by kernel_rfl) (((G16 19), .cells #[.int .i64 f, .int .i64 ((f - (2 * s.num * ((us.getD i u0).bits))) + (s.br * s.den * ((us.getD i u0).fields)))] 55 (0, 0)) :: (g2, .cells (sqv s) 26 (0, 0)) :: (T1 ++ [])) rfl ?_
    intro W25 M26
    refine wl_nil ?_
    refine hK15 _ _ ?_
    try clear hK15 K15
    refine wp_frame (a' := ⟨#[.agg (sqv s), .slice A us.length c, .int .i64 start, .pointer (some ⟨g2, 0, none⟩), undef, undef, (u9 6), (u9 7), .slice A1 i c1, .int .i64 f, .int .i64 (i : Int), .pointer (some ⟨(G16 19), 0, none⟩), .int .i64 start, .int .i64 (i : Int), .slice A us.length c, .int .i64 ((us.length : Nat) : Int), .bool true, (u9 17), (u9 18), .int .i64 f, .int .i64 f, .agg (sqv s), .slice A us.length c, .int .i64 (i : Int), .pointer (some ⟨b17, o18 + i * 4, none⟩), .pointer (some ⟨b17, o18 + i * 4 + 2, none⟩), .int .i64 ((us.getD i u0).bits), .int .i64 (2 * s.num * ((us.getD i u0).bits)), .int .i64 (f - (2 * s.num * ((us.getD i u0).bits))), .agg (sqv s), .slice A us.length c, .int .i64 (i : Int), .pointer (some ⟨b20, o21 + i * 4, none⟩), .pointer (some ⟨b20, o21 + i * 4 + 3, none⟩), .int .i64 ((us.getD i u0).fields), .int .i64 (s.br * s.den * ((us.getD i u0).fields)), .int .i64 ((f - (2 * s.num * ((us.getD i u0).bits))) + (s.br * s.den * ((us.getD i u0).fields))), .agg #[.int .i64 f, .int .i64 ((f - (2 * s.num * ((us.getD i u0).bits))) + (s.br * s.den * ((us.getD i u0).fields)))], (u9 38), (u9 39), (u9 40), (u9 41), (u9 42), (u9 43), (u9 44), (u9 45), (u9 46), (u9 47), (u9 48), (u9 49), (u9 50), (u9 51), (u9 52), (u9 53), (u9 54), (u9 55), (u9 56), (u9 57), (u9 58), (u9 59), (u9 60), (u9 61), (u9 62), (u9 63), (u9 64), (u9 65), (u9 66), (u9 67), undef], []⟩) (by kernel_rfl) ?_
    refine wp_seq_k (fun K27 hK27 => ?_)
    refine wp_seq_k (fun K28 hK28 => ?_)
    refine wl_seq 23 (fun w' => Mem NoS w w' (((G16 19), .cells #[.int .i64 f, .int .i64 ((f - (2 * s.num * ((us.getD i u0).bits))) + (s.br * s.den * ((us.getD i u0).fields)))] 55 (0, 0)) :: (g2, .cells (sqv s) 26 (0, 0)) :: (T1 ++ []))) (by decide) (by kernel_rfl) (by kernel_rfl) M26.drew ?_
    refine seq_run (v := .int .i64 f) (by decide) (by kernel_rfl) (fun w' M' => (by kernel_rfl)) ?_
    refine seq_run (v := .agg (sqv s)) (by decide) (by kernel_rfl) (fun w' M' => (run_load_row 26 (.tmp 3) rfl g2 (by kernel_rfl) 26 (sqv s) (0, 0) _ (M'.get 1 rfl) Try.underlying26 rfl (infoSq hs.la hs.lb))) ?_
    refine seq_run (v := .slice A us.length c) (by decide) (by kernel_rfl) (fun w' M' => (by kernel_rfl)) ?_
    refine seq_run (v := .int .i64 (i : Int)) (by decide) (by kernel_rfl) (fun w' M' => (by kernel_rfl)) ?_
    obtain ⟨b29, o30, eA31⟩ := RdK.addr (hr.keep M26.keep (fun _ _ h => h)) (j := i * 4) (by rw [flat_len]; omega)
    refine seq_run (v := .pointer (some ⟨b29, o30 + i * 4, none⟩)) (by decide) (by kernel_rfl) (fun w' M' => (run_indexSliceA 32 (.tmp 40) (.tmp 41) rfl A ⟨b29, o30, none⟩ eA31 us.length c .i64 i (by kernel_rfl) (by kernel_rfl) Try.underlying32 4 (by kernel_rfl) (by omega) ⟨b29, o30 + i * 4, none⟩ (addr_atK _ _ _ _))) ?_
    refine seq_run (v := .pointer (some ⟨b29, o30 + i * 4 + 2, none⟩)) (by decide) (by kernel_rfl) (fun w' M' => (by kernel_rfl)) ?_
    refine seq_run (v := .int .i64 ((us.getD i u0).bits)) (by decide) (by kernel_rfl) (fun w' M' => (run_load_cell 2 (.tmp 43) rfl ⟨b29, o30 + i * 4 + 2, none⟩ (by kernel_rfl) _ ((hr.keep M'.keep (fun _ _ h => h)).cellF eA31 (f := 2) (flat_get us i 2 (by omega) (by omega))) (by kernel_rfl))) ?_
    refine seq_call (v := .int .i64 (2 * s.num * ((us.getD i u0).bits))) (f := 17) (args := #[.agg (sqv s), .int .i64 ((us.getD i u0).bits)]) (by decide) (by kernel_rfl) (fun w' M' => (run_value_call 17 #[(Operand.tmp 39), (Operand.tmp 44)] _ rfl Try.func17 (by kernel_rfl) (by kernel_rfl) _ (by kernel_rfl))) (fun w' M' => callB_mem M' ((by have := refCost_walk w' s hs ((us.getD i u0).bits); rw [costS_t hv (by omega)] at this; exact this))) ?_
    rcases Decidable.em ((f : Int) < 2 * s.num * ((us.getD i u0).bits)) with c46 | c46
    ·
      refine seq_run (v := .bool true) (by decide) (by kernel_rfl) (fun w' M' => (bool_of (dec_t c46) (by kernel_rfl))) ?_
      refine seq_run (v := .bool true) (by decide) (by kernel_rfl) (fun w' M' => (by kernel_rfl)) ?_
      refine seq_skip (by decide) (by kernel_rfl) ?_
      refine seq_skip (by decide) (by kernel_rfl) ?_
      refine seq_skip (by decide) (by kernel_rfl) ?_
      refine seq_skip (by decide) (by kernel_rfl) ?_
      refine seq_skip (by decide) (by kernel_rfl) ?_
      refine seq_skip (by decide) (by kernel_rfl) ?_
      refine seq_skip (by decide) (by kernel_rfl) ?_
      refine seq_skip (by decide) (by kernel_rfl) ?_
      refine seq_skip (by decide) (by kernel_rfl) ?_
      refine seq_skip (by decide) (by kernel_rfl) ?_
      refine seq_skip (by decide) (by kernel_rfl) ?_
      refine seq_skip (by decide) (by kernel_rfl) ?_
      refine seq_run (v := .bool true) (by decide) (by kernel_rfl) (fun w' M' => (by kernel_rfl)) ?_
      refine seq_end (by decide) ?_
      intro W32 M33
      refine wl_nil ?_
      refine hK28 _ _ ?_
      try clear hK28 K28
      refine wp_frame (a' := ⟨#[.agg (sqv s), .slice A us.length c, .int .i64 start, .pointer (some ⟨g2, 0, none⟩), undef, undef, (u9 6), (u9 7), .slice A1 i c1, .int .i64 f, .int .i64 (i : Int), .pointer (some ⟨(G16 19), 0, none⟩), .int .i64 start, .int .i64 (i : Int), .slice A us.length c, .int .i64 ((us.length : Nat) : Int), .bool true, (u9 17), (u9 18), .int .i64 f, .int .i64 f, .agg (sqv s), .slice A us.length c, .int .i64 (i : Int), .pointer (some ⟨b17, o18 + i * 4, none⟩), .pointer (some ⟨b17, o18 + i * 4 + 2, none⟩), .int .i64 ((us.getD i u0).bits), .int .i64 (2 * s.num * ((us.getD i u0).bits)), .int .i64 (f - (2 * s.num * ((us.getD i u0).bits))), .agg (sqv s), .slice A us.length c, .int .i64 (i : Int), .pointer (some ⟨b20, o21 + i * 4, none⟩), .pointer (some ⟨b20, o21 + i * 4 + 3, none⟩), .int .i64 ((us.getD i u0).fields), .int .i64 (s.br * s.den * ((us.getD i u0).fields)), .int .i64 ((f - (2 * s.num * ((us.getD i u0).bits))) + (s.br * s.den * ((us.getD i u0).fields))), .agg #[.int .i64 f, .int .i64 ((f - (2 * s.num * ((us.getD i u0).bits))) + (s.br * s.den * ((us.getD i u0).fields)))], .int .i64 f, .agg (sqv s), .slice A us.length c, .int .i64 (i : Int), .pointer (some ⟨b29, o30 + i * 4, none⟩), .pointer (some ⟨b29, o30 + i * 4 + 2, none⟩), .int .i64 ((us.getD i u0).bits), .int .i64 (2 * s.num * ((us.getD i u0).bits)), .bool true, .bool true, undef, undef, undef, undef, undef, undef, undef, undef, undef, undef, undef, undef, .bool true, (u9 61), (u9 62), (u9 63), (u9 64), (u9 65), (u9 66), (u9 67), undef], []⟩) (by kernel_rfl) ?_
      refine wp_cond_true (by kernel_rfl) ?_
      refine wp_seq_k (fun K34 hK34 => ?_)
      refine wl_region ?_
      refine st_val (.int .i64 (i : Int)) (by kernel_rfl) (by kernel_rfl) ?_
      refine st_val ((Go.Value.slice none 0 0)) (by kernel_rfl) (by kernel_rfl) ?_
      refine st_val (.int .i64 (i : Int)) (by kernel_rfl) (by kernel_rfl) ?_
      refine wl_nil ?_
      refine hK34 _ _ ?_
      try clear hK34 K34
      refine wp_ret ?_
      refine th_ret ?_
      refine blk_ret ?_
      refine th_ret ?_
      refine th_ret ?_
      refine blk_ret ?_
      refine th_ret ?_
      have hno := run_stop (by omega) hP (by omega)
      exact done2 6 7 ((Go.Value.slice none 0 0)) (.int .i64 (i : Int)) (by kernel_rfl) (by kernel_rfl) (by kernel_rfl) (by kernel_rfl) ⟨_, [], rfl, ⟨_, by rw [show (runS s us start).2 = some i from hno]; rfl, fun h => by rw [show (runS s us start).2 = some i from hno] at h; cases h⟩, M33.sub (List.nil_sublist _)⟩
    ·
      refine seq_run (v := .bool false) (by decide) (by kernel_rfl) (fun w' M' => (bool_of (dec_f c46) (by kernel_rfl))) ?_
      refine seq_run (v := .bool false) (by decide) (by kernel_rfl) (fun w' M' => (by kernel_rfl)) ?_
      refine seq_run (v := .pointer (some ⟨(G16 19), 1, none⟩)) (by decide) (by kernel_rfl) (fun w' M' => (by kernel_rfl)) ?_
      refine seq_run (v := .int .i64 ((f - (2 * s.num * ((us.getD i u0).bits))) + (s.br * s.den * ((us.getD i u0).fields)))) (by decide) (by kernel_rfl) (fun w' M' => (run_load_cell 2 (.tmp 48) rfl ⟨(G16 19), 1, none⟩ (by kernel_rfl) _ (M'.cell 0 rfl 1 _ rfl) (by kernel_rfl))) ?_
      refine seq_run (v := .agg (sqv s)) (by decide) (by kernel_rfl) (fun w' M' => (run_load_row 26 (.tmp 3) rfl g2 (by kernel_rfl) 26 (sqv s) (0, 0) _ (M'.get 1 rfl) Try.underlying26 rfl (infoSq hs.la hs.lb))) ?_
      refine seq_call (v := .int .i64 (2 * s.num * s.bu)) (f := 13) (args := #[.agg (sqv s)]) (by decide) (by kernel_rfl) (fun w' M' => (run_value_call 13 #[(Operand.tmp 50)] _ rfl Try.func13 (by kernel_rfl) (by kernel_rfl) _ (by kernel_rfl))) (fun w' M' => callB_mem M' ((by have := refCap_walk w' s hs; rw [hcap] at this; exact this))) ?_
      rcases Decidable.em (((f - (2 * s.num * ((us.getD i u0).bits))) + (s.br * s.den * ((us.getD i u0).fields)) : Int) > 2 * s.num * s.bu) with c52 | c52
      ·
        refine seq_run (v := .bool true) (by decide) (by kernel_rfl) (fun w' M' => (bool_of (dec_t c52) (by kernel_rfl))) ?_
        refine seq_run (v := .bool true) (by decide) (by kernel_rfl) (fun w' M' => (by kernel_rfl)) ?_
        refine seq_run (v := .int .i64 (i : Int)) (by decide) (by kernel_rfl) (fun w' M' => (by kernel_rfl)) ?_
        refine seq_run (v := .int .i64 ((i : Int) + 1)) (by decide) (by kernel_rfl) (fun w' M' => (i64_of (by omega) (by kernel_rfl))) ?_
        refine seq_run (v := .slice A us.length c) (by decide) (by kernel_rfl) (fun w' M' => (by kernel_rfl)) ?_
        refine seq_run (v := .int .i64 ((us.length : Nat) : Int)) (by decide) (by kernel_rfl) (fun w' M' => (by kernel_rfl)) ?_
        rcases Decidable.em (((i : Int) + 1 : Int) < ((us.length : Nat) : Int)) with c58 | c58
        ·
          refine seq_run (v := .bool true) (by decide) (by kernel_rfl) (fun w' M' => (bool_of (dec_t c58) (by kernel_rfl))) ?_
          refine seq_run (v := .bool true) (by decide) (by kernel_rfl) (fun w' M' => (by kernel_rfl)) ?_
          refine seq_run (v := .bool true) (by decide) (by kernel_rfl) (fun w' M' => (by kernel_rfl)) ?_
          refine seq_end (by decide) ?_
          intro W35 M36
          refine wl_nil ?_
          refine hK28 _ _ ?_
          try clear hK28 K28
          refine wp_frame (a' := ⟨#[.agg (sqv s), .slice A us.length c, .int .i64 start, .pointer (some ⟨g2, 0, none⟩), undef, undef, (u9 6), (u9 7), .slice A1 i c1, .int .i64 f, .int .i64 (i : Int), .pointer (some ⟨(G16 19), 0, none⟩), .int .i64 start, .int .i64 (i : Int), .slice A us.length c, .int .i64 ((us.length : Nat) : Int), .bool true, (u9 17), (u9 18), .int .i64 f, .int .i64 f, .agg (sqv s), .slice A us.length c, .int .i64 (i : Int), .pointer (some ⟨b17, o18 + i * 4, none⟩), .pointer (some ⟨b17, o18 + i * 4 + 2, none⟩), .int .i64 ((us.getD i u0).bits), .int .i64 (2 * s.num * ((us.getD i u0).bits)), .int .i64 (f - (2 * s.num * ((us.getD i u0).bits))), .agg (sqv s), .slice A us.length c, .int .i64 (i : Int), .pointer (some ⟨b20, o21 + i * 4, none⟩), .pointer (some ⟨b20, o21 + i * 4 + 3, none⟩), .int .i64 ((us.getD i u0).fields), .int .i64 (s.br * s.den * ((us.getD i u0).fields)), .int .i64 ((f - (2 * s.num * ((us.getD i u0).bits))) + (s.br * s.den * ((us.getD i u0).fields))), .agg #[.int .i64 f, .int .i64 ((f - (2 * s.num * ((us.getD i u0).bits))) + (s.br * s.den * ((us.getD i u0).fields)))], .int .i64 f, .agg (sqv s), .slice A us.length c, .int .i64 (i : Int), .pointer (some ⟨b29, o30 + i * 4, none⟩), .pointer (some ⟨b29, o30 + i * 4 + 2, none⟩), .int .i64 ((us.getD i u0).bits), .int .i64 (2 * s.num * ((us.getD i u0).bits)), .bool false, .bool false, .pointer (some ⟨(G16 19), 1, none⟩), .int .i64 ((f - (2 * s.num * ((us.getD i u0).bits))) + (s.br * s.den * ((us.getD i u0).fields))), .agg (sqv s), .int .i64 (2 * s.num * s.bu), .bool true, .bool true, .int .i64 (i : Int), .int .i64 ((i : Int) + 1), .slice A us.length c, .int .i64 ((us.length : Nat) : Int), .bool true, .bool true, .bool true, (u9 61), (u9 62), (u9 63), (u9 64), (u9 65), (u9 66), (u9 67), undef], []⟩) (by kernel_rfl) ?_
          refine wp_cond_true (by kernel_rfl) ?_
          refine wp_seq_k (fun K37 hK37 => ?_)
          refine wl_region ?_
          refine st_val (.int .i64 (i : Int)) (by kernel_rfl) (by kernel_rfl) ?_
          refine st_val ((Go.Value.slice none 0 0)) (by kernel_rfl) (by kernel_rfl) ?_
          refine st_val (.int .i64 (i : Int)) (by kernel_rfl) (by kernel_rfl) ?_
          refine wl_nil ?_
          refine hK37 _ _ ?_
          try clear hK37 K37
          refine wp_ret ?_
          refine th_ret ?_
          refine blk_ret ?_
          refine th_ret ?_
          refine th_ret ?_
          refine blk_ret ?_
          refine th_ret ?_
          have hno := run_stop (by omega) hP (by omega)
          exact done2 6 7 ((Go.Value.slice none 0 0)) (.int .i64 (i : Int)) (by kernel_rfl) (by kernel_rfl) (by kernel_rfl) (by kernel_rfl) ⟨_, [], rfl, ⟨_, by rw [show (runS s us start).2 = some i from hno]; rfl, fun h => by rw [show (runS s us start).2 = some i from hno] at h; cases h⟩, M36.sub (List.nil_sublist _)⟩
        ·
          refine seq_run (v := .bool false) (by decide) (by kernel_rfl) (fun w' M' => (bool_of (dec_f c58) (by kernel_rfl))) ?_
          refine seq_run (v := .bool false) (by decide) (by kernel_rfl) (fun w' M' => (by kernel_rfl)) ?_
          refine seq_run (v := .bool false) (by decide) (by kernel_rfl) (fun w' M' => (by kernel_rfl)) ?_
          refine seq_end (by decide) ?_
          intro W38 M39
          refine wl_nil ?_
          refine hK28 _ _ ?_
          try clear hK28 K28
          refine wp_frame (a' := ⟨#[.agg (sqv s), .slice A us.length c, .int .i64 start, .pointer (some ⟨g2, 0, none⟩), undef, undef, (u9 6), (u9 7), .slice A1 i c1, .int .i64 f, .int .i64 (i : Int), .pointer (some ⟨(G16 19), 0, none⟩), .int .i64 start, .int .i64 (i : Int), .slice A us.length c, .int .i64 ((us.length : Nat) : Int), .bool true, (u9 17), (u9 18), .int .i64 f, .int .i64 f, .agg (sqv s), .slice A us.length c, .int .i64 (i : Int), .pointer (some ⟨b17, o18 + i * 4, none⟩), .pointer (some ⟨b17, o18 + i * 4 + 2, none⟩), .int .i64 ((us.getD i u0).bits), .int .i64 (2 * s.num * ((us.getD i u0).bits)), .int .i64 (f - (2 * s.num * ((us.getD i u0).bits))), .agg (sqv s), .slice A us.length c, .int .i64 (i : Int), .pointer (some ⟨b20, o21 + i * 4, none⟩), .pointer (some ⟨b20, o21 + i * 4 + 3, none⟩), .int .i64 ((us.getD i u0).fields), .int .i64 (s.br * s.den * ((us.getD i u0).fields)), .int .i64 ((f - (2 * s.num * ((us.getD i u0).bits))) + (s.br * s.den * ((us.getD i u0).fields))), .agg #[.int .i64 f, .int .i64 ((f - (2 * s.num * ((us.getD i u0).bits))) + (s.br * s.den * ((us.getD i u0).fields)))], .int .i64 f, .agg (sqv s), .slice A us.length c, .int .i64 (i : Int), .pointer (some ⟨b29, o30 + i * 4, none⟩), .pointer (some ⟨b29, o30 + i * 4 + 2, none⟩), .int .i64 ((us.getD i u0).bits), .int .i64 (2 * s.num * ((us.getD i u0).bits)), .bool false, .bool false, .pointer (some ⟨(G16 19), 1, none⟩), .int .i64 ((f - (2 * s.num * ((us.getD i u0).bits))) + (s.br * s.den * ((us.getD i u0).fields))), .agg (sqv s), .int .i64 (2 * s.num * s.bu), .bool true, .bool true, .int .i64 (i : Int), .int .i64 ((i : Int) + 1), .slice A us.length c, .int .i64 ((us.length : Nat) : Int), .bool false, .bool false, .bool false, (u9 61), (u9 62), (u9 63), (u9 64), (u9 65), (u9 66), (u9 67), undef], []⟩) (by kernel_rfl) ?_
          refine wp_cond_false (by kernel_rfl) ?_
          refine wp_skip ?_
          refine hK27 _ _ ?_
          try clear hK27 K27
          refine wp_seq_k (fun K40 hK40 => ?_)
          refine wl_region ?_
          refine st_val (.pointer (some ⟨(G16 19), 1, none⟩)) (by kernel_rfl) (by kernel_rfl) ?_
          refine st_val (.int .i64 ((f - (2 * s.num * ((us.getD i u0).bits))) + (s.br * s.den * ((us.getD i u0).fields)))) (by kernel_rfl) (run_load_cell 2 (.tmp 62) rfl ⟨(G16 19), 1, none⟩ (by kernel_rfl) _ (M39.cell 0 rfl 1 _ rfl) (by kernel_rfl)) ?_
          refine st_val (.int .i64 ((f - (2 * s.num * ((us.getD i u0).bits))) + (s.br * s.den * ((us.getD i u0).fields)))) (by kernel_rfl) (by kernel_rfl) ?_
          refine wl_nil ?_
          refine hK40 _ _ ?_
          try clear hK40 K40
          refine wl_region ?_
          refine st_val (.slice A1 i c1) (by kernel_rfl) (by kernel_rfl) ?_
          refine st_val (.agg #[.int .i64 f, .int .i64 ((f - (2 * s.num * ((us.getD i u0).bits))) + (s.br * s.den * ((us.getD i u0).fields)))]) (by kernel_rfl) (run_load_row 55 (.tmp 11) rfl (G16 19) (by kernel_rfl) 55 (#[.int .i64 f, .int .i64 ((f - (2 * s.num * ((us.getD i u0).bits))) + (s.br * s.den * ((us.getD i u0).fields)))]) (0, 0) _ (M39.get 0 rfl) Try.underlying55 rfl (by kernel_rfl)) ?_
          refine st_new M39 (.cells #[.int .i64 f, .int .i64 ((f - (2 * s.num * ((us.getD i u0).bits))) + (s.br * s.den * ((us.getD i u0).fields)))] 55 (0, 0)) (fun g => .slice (some ⟨g, 0, none⟩) 1 1) (by kernel_rfl) (by kernel_rfl) ?_
          intro g41 W42 M43
          obtain ⟨v44, T45, W46, hr47, O48, M49⟩ := append_levelR (A := [(g41, .cells #[.int .i64 f, .int .i64 ((f - (2 * s.num * ((us.getD i u0).bits))) + (s.br * s.den * ((us.getD i u0).fields)))] 55 (0, 0)), ((G16 19), .cells #[.int .i64 f, .int .i64 ((f - (2 * s.num * ((us.getD i u0).bits))) + (s.br * s.den * ((us.getD i u0).fields)))] 55 (0, 0)), (g2, .cells (sqv s) 26 (0, 0))]) (T := T1) (B := []) M43 48 _ _ _ O1 _ 1 ([.int .i64 f, .int .i64 ((f - (2 * s.num * ((us.getD i u0).bits))) + (s.br * s.den * ((us.getD i u0).fields)))]) (rdk_new (M43.get 0 rfl)) rfl (by intro x hx; simp only [List.mem_cons, List.not_mem_nil, or_false] at hx; rcases hx with rfl | rfl <;> rfl) (by omega)
          have M49 : Mem NoS w W46 ((g41, .cells #[.int .i64 f, .int .i64 ((f - (2 * s.num * ((us.getD i u0).bits))) + (s.br * s.den * ((us.getD i u0).fields)))] 55 (0, 0)) :: ((G16 19), .cells #[.int .i64 f, .int .i64 ((f - (2 * s.num * ((us.getD i u0).bits))) + (s.br * s.den * ((us.getD i u0).fields)))] 55 (0, 0)) :: (g2, .cells (sqv s) 26 (0, 0)) :: (T45 ++ [])) := M49
          obtain ⟨A50, c51, rfl, hc52⟩ := O48.shape
          refine st_world (.slice A50 (i + 1) c51) W46 (by kernel_rfl) (run_append_op (.tmp 64) (.tmp 66) _ rfl (.slice A1 i c1) (.slice (some ⟨g41, 0, none⟩) 1 1) _ (by kernel_rfl) (by kernel_rfl) hr47) ?_
          refine st_val (.slice A50 (i + 1) c51) (by kernel_rfl) (by kernel_rfl) ?_
          refine wl_nil ?_
          refine blk_normal ?_
          refine hK14 _ _ ?_
          try clear hK14 K14
          refine wl_region ?_
          refine st_val (.int .i64 (i : Int)) (by kernel_rfl) (by kernel_rfl) ?_
          refine st_val (.int .i64 ((i : Int) + 1)) (by kernel_rfl) (i64_of (by omega) (by kernel_rfl)) ?_
          refine st_val (.int .i64 ((i : Int) + 1)) (by kernel_rfl) (by kernel_rfl) ?_
          refine wl_nil ?_
          refine th_normal ?_
          exact ⟨_, by omega, (i + 1), ((f - (2 * s.num * ((us.getD i u0).bits))) + (s.br * s.den * ((us.getD i u0).fields))), (p ++ [(f, (f - (2 * s.num * ((us.getD i u0).bits))) + (s.br * s.den * ((us.getD i u0).fields)))]), A50, c51, T45, (fun zz => Array.getD #[.agg (sqv s), .slice A us.length c, .int .i64 start, .pointer (some ⟨g2, 0, none⟩), undef, undef, (u9 6), (u9 7), .slice A50 (i + 1) c51, .int .i64 ((f - (2 * s.num * ((us.getD i u0).bits))) + (s.br * s.den * ((us.getD i u0).fields))), .int .i64 ((i : Int) + 1), .pointer (some ⟨(G16 19), 0, none⟩), .int .i64 start, .int .i64 (i : Int), .slice A us.length c, .int .i64 ((us.length : Nat) : Int), .bool true, .int .i64 (i : Int), .int .i64 ((i : Int) + 1), .int .i64 f, .int .i64 f, .agg (sqv s), .slice A us.length c, .int .i64 (i : Int), .pointer (some ⟨b17, o18 + i * 4, none⟩), .pointer (some ⟨b17, o18 + i * 4 + 2, none⟩), .int .i64 ((us.getD i u0).bits), .int .i64 (2 * s.num * ((us.getD i u0).bits)), .int .i64 (f - (2 * s.num * ((us.getD i u0).bits))), .agg (sqv s), .slice A us.length c, .int .i64 (i : Int), .pointer (some ⟨b20, o21 + i * 4, none⟩), .pointer (some ⟨b20, o21 + i * 4 + 3, none⟩), .int .i64 ((us.getD i u0).fields), .int .i64 (s.br * s.den * ((us.getD i u0).fields)), .int .i64 ((f - (2 * s.num * ((us.getD i u0).bits))) + (s.br * s.den * ((us.getD i u0).fields))), .agg #[.int .i64 f, .int .i64 ((f - (2 * s.num * ((us.getD i u0).bits))) + (s.br * s.den * ((us.getD i u0).fields)))], .int .i64 f, .agg (sqv s), .slice A us.length c, .int .i64 (i : Int), .pointer (some ⟨b29, o30 + i * 4, none⟩), .pointer (some ⟨b29, o30 + i * 4 + 2, none⟩), .int .i64 ((us.getD i u0).bits), .int .i64 (2 * s.num * ((us.getD i u0).bits)), .bool false, .bool false, .pointer (some ⟨(G16 19), 1, none⟩), .int .i64 ((f - (2 * s.num * ((us.getD i u0).bits))) + (s.br * s.den * ((us.getD i u0).fields))), .agg (sqv s), .int .i64 (2 * s.num * s.bu), .bool true, .bool true, .int .i64 (i : Int), .int .i64 ((i : Int) + 1), .slice A us.length c, .int .i64 ((us.length : Nat) : Int), .bool false, .bool false, .bool false, (u9 61), .pointer (some ⟨(G16 19), 1, none⟩), .int .i64 ((f - (2 * s.num * ((us.getD i u0).bits))) + (s.br * s.den * ((us.getD i u0).fields))), .slice A1 i c1, .agg #[.int .i64 f, .int .i64 ((f - (2 * s.num * ((us.getD i u0).bits))) + (s.br * s.den * ((us.getD i u0).fields)))], .slice (some ⟨g41, 0, none⟩) 1 1, .slice A50 (i + 1) c51, undef] zz undef), ⟨⟨by omega, ⟨by omega, by omega⟩, fun hi => by omega, by rw [lflat_snoc]; exact O48, run_next (by omega) hP c46 (fun h => by omega) rfl⟩, (M49.sub (((((List.Sublist.refl []).append_left T45).cons_cons _).cons _).cons _))⟩, rfl, (by kernel_rfl)⟩
      ·
        refine seq_run (v := .bool false) (by decide) (by kernel_rfl) (fun w' M' => (bool_of (dec_f c52) (by kernel_rfl))) ?_
        refine seq_run (v := .bool false) (by decide) (by kernel_rfl) (fun w' M' => (by kernel_rfl)) ?_
        refine seq_skip (by decide) (by kernel_rfl) ?_
        refine seq_skip (by decide) (by kernel_rfl) ?_
        refine seq_skip (by decide) (by kernel_rfl) ?_
        refine seq_skip (by decide) (by kernel_rfl) ?_
        refine seq_skip (by decide) (by kernel_rfl) ?_
        refine seq_run (v := .bool false) (by decide) (by kernel_rfl) (fun w' M' => (by kernel_rfl)) ?_
        refine seq_run (v := .bool false) (by decide) (by kernel_rfl) (fun w' M' => (by kernel_rfl)) ?_
        refine seq_end (by decide) ?_
        intro W53 M54
        refine wl_nil ?_
        refine hK28 _ _ ?_
        try clear hK28 K28
        refine wp_frame (a' := ⟨#[.agg (sqv s), .slice A us.length c, .int .i64 start, .pointer (some ⟨g2, 0, none⟩), undef, undef, (u9 6), (u9 7), .slice A1 i c1, .int .i64 f, .int .i64 (i : Int), .pointer (some ⟨(G16 19), 0, none⟩), .int .i64 start, .int .i64 (i : Int), .slice A us.length c, .int .i64 ((us.length : Nat) : Int), .bool true, (u9 17), (u9 18), .int .i64 f, .int .i64 f, .agg (sqv s), .slice A us.length c, .int .i64 (i : Int), .pointer (some ⟨b17, o18 + i * 4, none⟩), .pointer (some ⟨b17, o18 + i * 4 + 2, none⟩), .int .i64 ((us.getD i u0).bits), .int .i64 (2 * s.num * ((us.getD i u0).bits)), .int .i64 (f - (2 * s.num * ((us.getD i u0).bits))), .agg (sqv s), .slice A us.length c, .int .i64 (i : Int), .pointer (some ⟨b20, o21 + i * 4, none⟩), .pointer (some ⟨b20, o21 + i * 4 + 3, none⟩), .int .i64 ((us.getD i u0).fields), .int .i64 (s.br * s.den * ((us.getD i u0).fields)), .int .i64 ((f - (2 * s.num * ((us.getD i u0).bits))) + (s.br * s.den * ((us.getD i u0).fields))), .agg #[.int .i64 f, .int .i64 ((f - (2 * s.num * ((us.getD i u0).bits))) + (s.br * s.den * ((us.getD i u0).fields)))], .int .i64 f, .agg (sqv s), .slice A us.length c, .int .i64 (i : Int), .pointer (some ⟨b29, o30 + i * 4, none⟩), .pointer (some ⟨b29, o30 + i * 4 + 2, none⟩), .int .i64 ((us.getD i u0).bits), .int .i64 (2 * s.num * ((us.getD i u0).bits)), .bool false, .bool false, .pointer (some ⟨(G16 19), 1, none⟩), .int .i64 ((f - (2 * s.num * ((us.getD i u0).bits))) + (s.br * s.den * ((us.getD i u0).fields))), .agg (sqv s), .int .i64 (2 * s.num * s.bu), .bool false, .bool false, undef, undef, undef, undef, undef, .bool false, .bool false, (u9 61), (u9 62), (u9 63), (u9 64), (u9 65), (u9 66), (u9 67), undef], []⟩) (by kernel_rfl) ?_
        refine wp_cond_false (by kernel_rfl) ?_
        refine wp_skip ?_
        refine hK27 _ _ ?_
        try clear hK27 K27
        refine wp_seq_k (fun K55 hK55 => ?_)
        refine wl_region ?_
        refine st_val (.pointer (some ⟨(G16 19), 1, none⟩)) (by kernel_rfl) (by kernel_rfl) ?_
        refine st_val (.int .i64 ((f - (2 * s.num * ((us.getD i u0).bits))) + (s.br * s.den * ((us.getD i u0).fields)))) (by kernel_rfl) (run_load_cell 2 (.tmp 62) rfl ⟨(G16 19), 1, none⟩ (by kernel_rfl) _ (M54.cell 0 rfl 1 _ rfl) (by kernel_rfl)) ?_
        refine st_val (.int .i64 ((f - (2 * s.num * ((us.getD i u0).bits))) + (s.br * s.den * ((us.getD i u0).fields)))) (by kernel_rfl) (by kernel_rfl) ?_
        refine wl_nil ?_
        refine hK55 _ _ ?_
        try clear hK55 K55
        refine wl_region ?_
        refine st_val (.slice A1 i c1) (by kernel_rfl) (by kernel_rfl) ?_
        refine st_val (.agg #[.int .i64 f, .int .i64 ((f - (2 * s.num * ((us.getD i u0).bits))) + (s.br * s.den * ((us.getD i u0).fields)))]) (by kernel_rfl) (run_load_row 55 (.tmp 11) rfl (G16 19) (by kernel_rfl) 55 (#[.int .i64 f, .int .i64 ((f - (2 * s.num * ((us.getD i u0).bits))) + (s.br * s.den * ((us.getD i u0).fields)))]) (0, 0) _ (M54.get 0 rfl) Try.underlying55 rfl (by kernel_rfl)) ?_
        refine st_new M54 (.cells #[.int .i64 f, .int .i64 ((f - (2 * s.num * ((us.getD i u0).bits))) + (s.br * s.den * ((us.getD i u0).fields)))] 55 (0, 0)) (fun g => .slice (some ⟨g, 0, none⟩) 1 1) (by kernel_rfl) (by kernel_rfl) ?_
        intro g56 W57 M58
        obtain ⟨v59, T60, W61, hr62, O63, M64⟩ := append_levelR (A := [(g56, .cells #[.int .i64 f, .int .i64 ((f - (2 * s.num * ((us.getD i u0).bits))) + (s.br * s.den * ((us.getD i u0).fields)))] 55 (0, 0)), ((G16 19), .cells #[.int .i64 f, .int .i64 ((f - (2 * s.num * ((us.getD i u0).bits))) + (s.br * s.den * ((us.getD i u0).fields)))] 55 (0, 0)), (g2, .cells (sqv s) 26 (0, 0))]) (T := T1) (B := []) M58 48 _ _ _ O1 _ 1 ([.int .i64 f, .int .i64 ((f - (2 * s.num * ((us.getD i u0).bits))) + (s.br * s.den * ((us.getD i u0).fields)))]) (rdk_new (M58.get 0 rfl)) rfl (by intro x hx; simp only [List.mem_cons, List.not_mem_nil, or_false] at hx; rcases hx with rfl | rfl <;> rfl) (by omega)
        have M64 : Mem NoS w W61 ((g56, .cells #[.int .i64 f, .int .i64 ((f - (2 * s.num * ((us.getD i u0).bits))) + (s.br * s.den * ((us.getD i u0).fields)))] 55 (0, 0)) :: ((G16 19), .cells #[.int .i64 f, .int .i64 ((f - (2 * s.num * ((us.getD i u0).bits))) + (s.br * s.den * ((us.getD i u0).fields)))] 55 (0, 0)) :: (g2, .cells (sqv s) 26 (0, 0)) :: (T60 ++ [])) := M64
        obtain ⟨A65, c66, rfl, hc67⟩ := O63.shape
        refine st_world (.slice A65 (i + 1) c66) W61 (by kernel_rfl) (run_append_op (.tmp 64) (.tmp 66) _ rfl (.slice A1 i c1) (.slice (some ⟨g56, 0, none⟩) 1 1) _ (by kernel_rfl) (by kernel_rfl) hr62) ?_
        refine st_val (.slice A65 (i + 1) c66) (by kernel_rfl) (by kernel_rfl) ?_
        refine wl_nil ?_
        refine blk_normal ?_
        refine hK14 _ _ ?_
        try clear hK14 K14
        refine wl_region ?_
        refine st_val (.int .i64 (i : Int)) (by kernel_rfl) (by kernel_rfl) ?_
        refine st_val (.int .i64 ((i : Int) + 1)) (by kernel_rfl) (i64_of (by omega) (by kernel_rfl)) ?_
        refine st_val (.int .i64 ((i : Int) + 1)) (by kernel_rfl) (by kernel_rfl) ?_
        refine wl_nil ?_
        refine th_normal ?_
        exact ⟨_, by omega, (i + 1), ((f - (2 * s.num * ((us.getD i u0).bits))) + (s.br * s.den * ((us.getD i u0).fields))), (p ++ [(f, (f - (2 * s.num * ((us.getD i u0).bits))) + (s.br * s.den * ((us.getD i u0).fields)))]), A65, c66, T60, (fun zz => Array.getD #[.agg (sqv s), .slice A us.length c, .int .i64 start, .pointer (some ⟨g2, 0, none⟩), undef, undef, (u9 6), (u9 7), .slice A65 (i + 1) c66, .int .i64 ((f - (2 * s.num * ((us.getD i u0).bits))) + (s.br * s.den * ((us.getD i u0).fields))), .int .i64 ((i : Int) + 1), .pointer (some ⟨(G16 19), 0, none⟩), .int .i64 start, .int .i64 (i : Int), .slice A us.length c, .int .i64 ((us.length : Nat) : Int), .bool true, .int .i64 (i : Int), .int .i64 ((i : Int) + 1), .int .i64 f, .int .i64 f, .agg (sqv s), .slice A us.length c, .int .i64 (i : Int), .pointer (some ⟨b17, o18 + i * 4, none⟩), .pointer (some ⟨b17, o18 + i * 4 + 2, none⟩), .int .i64 ((us.getD i u0).bits), .int .i64 (2 * s.num * ((us.getD i u0).bits)), .int .i64 (f - (2 * s.num * ((us.getD i u0).bits))), .agg (sqv s), .slice A us.length c, .int .i64 (i : Int), .pointer (some ⟨b20, o21 + i * 4, none⟩), .pointer (some ⟨b20, o21 + i * 4 + 3, none⟩), .int .i64 ((us.getD i u0).fields), .int .i64 (s.br * s.den * ((us.getD i u0).fields)), .int .i64 ((f - (2 * s.num * ((us.getD i u0).bits))) + (s.br * s.den * ((us.getD i u0).fields))), .agg #[.int .i64 f, .int .i64 ((f - (2 * s.num * ((us.getD i u0).bits))) + (s.br * s.den * ((us.getD i u0).fields)))], .int .i64 f, .agg (sqv s), .slice A us.length c, .int .i64 (i : Int), .pointer (some ⟨b29, o30 + i * 4, none⟩), .pointer (some ⟨b29, o30 + i * 4 + 2, none⟩), .int .i64 ((us.getD i u0).bits), .int .i64 (2 * s.num * ((us.getD i u0).bits)), .bool false, .bool false, .pointer (some ⟨(G16 19), 1, none⟩), .int .i64 ((f - (2 * s.num * ((us.getD i u0).bits))) + (s.br * s.den * ((us.getD i u0).fields))), .agg (sqv s), .int .i64 (2 * s.num * s.bu), .bool false, .bool false, undef, undef, undef, undef, undef, .bool false, .bool false, (u9 61), .pointer (some ⟨(G16 19), 1, none⟩), .int .i64 ((f - (2 * s.num * ((us.getD i u0).bits))) + (s.br * s.den * ((us.getD i u0).fields))), .slice A1 i c1, .agg #[.int .i64 f, .int .i64 ((f - (2 * s.num * ((us.getD i u0).bits))) + (s.br * s.den * ((us.getD i u0).fields)))], .slice (some ⟨g56, 0, none⟩) 1 1, .slice A65 (i + 1) c66, undef] zz undef), ⟨⟨by omega, ⟨by omega, by omega⟩, fun hi => by omega, by rw [lflat_snoc]; exact O63, run_next (by omega) hP c46 (fun h => by omega) rfl⟩, (M64.sub (((((List.Sublist.refl []).append_left T60).cons_cons _).cons _).cons _))⟩, rfl, (by kernel_rfl)⟩
  ·
    refine st_val (.bool false) (by kernel_rfl) (bool_of (dec_f c16) (by kernel_rfl)) ?_
    refine wl_nil ?_
    refine hK13 _ _ ?_
    try clear hK13 K13
    refine wp_cond_false (by kernel_rfl) ?_
    refine wp_exit ?_
    refine th_exit ?_
    refine th_exit ?_
    refine blk_exit ?_
    refine hK7 _ _ ?_
    try clear hK7 K7
    refine wp_seq_k (fun K68 hK68 => ?_)
    refine wl_region ?_
    refine st_val (.slice A1 i c1) (by kernel_rfl) (by kernel_rfl) ?_
    refine st_val (.slice A1 i c1) (by kernel_rfl) (by kernel_rfl) ?_
    refine st_val (.int .i64 (-1)) (by kernel_rfl) (by kernel_rfl) ?_
    refine wl_nil ?_
    refine hK68 _ _ ?_
    try clear hK68 K68
    refine wp_ret ?_
    have hfin := run_end (by omega) hP
    have hl : p.length = i := by have := O1.len; rw [lflat_len] at this; omega
    exact done2 6 7 (.slice A1 i c1) (.int .i64 (-1)) (by kernel_rfl) (by kernel_rfl) (by kernel_rfl) (by kernel_rfl) ⟨_, T1, rfl, ⟨_, by rw [show runS s us start = (p, none) from hfin]; rfl, fun _ => by rw [show runS s us start = (p, none) from hfin]; show Own _ 2 _ p.length (lflat p) T1; rw [hl]; exact O1⟩, M11.sub ((List.sublist_append_left T1 []).cons _)⟩
end Go.Proofs.Ytolfkaljbgpkhaa
