/- run. -/
import Derived.Test.YtolfkaljbgpkhaaEd
import Derived.Test.YtolfkaljbgpkhaaOrA
namespace Go.Proofs.Ytolfkaljbgpkhaa
open Go.RowKit

/-- a level: ahead of a unit and behind it -/
def lv2 (q : Int × Int) : List Value := [.int .i64 q.1, .int .i64 q.2]
def lflat (l : List (Int × Int)) : List Value := l.flatMap lv2
theorem lflat_snoc (l : List (Int × Int)) (q : Int × Int) : lflat (l ++ [q]) = lflat l ++ lv2 q := by simp [lflat]
theorem lflat_len (l : List (Int × Int)) : (lflat l).length = l.length * 2 := by
  induction l with
  | nil => rfl
  | cons u l ih => show (lv2 u ++ lflat l).length = _; rw [List.length_append, ih, List.length_cons]; show 2 + _ = _; omega
theorem lflat_get (l : List (Int × Int)) (j f : Nat) (hf : f < 2) (hj : j < l.length) : (lflat l)[j * 2 + f]? = (lv2 (l.getD j (0, 0)))[f]? := by
  induction l generalizing j with
  | nil => simp at hj
  | cons u l ih =>
    show (lv2 u ++ lflat l)[j * 2 + f]? = _
    cases j with
    | zero => rw [Nat.zero_mul, Nat.zero_add, List.getElem?_append_left (show f < 2 from hf)]; rfl
    | succ j =>
      rw [List.getElem?_append_right (show 2 ≤ (j + 1) * 2 + f by omega), show (j + 1) * 2 + f - (lv2 u).length = j * 2 + f by show (j + 1) * 2 + f - 2 = _; omega]
      exact ih j (by simpa using hj)
theorem append_level {S : Nat → Prop} {w0 w : World} {A B T : List (Nat × Obj)} (M : Mem S w0 w (A ++ (T ++ B))) (ty : TypeId) (v : Value) (n : Nat) (xs : List Value) (hO : Own 54 2 v n xs T) (u : Value) (m : Nat) (news : List Value) (hu : RdK w u m news) (hl : news.length = m * 2) (h1 : ∀ u ∈ news, u.oneCell' = true) (hn : n + m ≤ 1000000) :
    ∃ v' T' w', (Builtin.append_ #[45, 45] ty #[v, u]).run Try.prog w = .ok v' w' ∧ Own 54 2 v' (n + m) (xs ++ news) T' ∧ Mem S w0 w' (A ++ (T' ++ B)) := by
  have hs : (Try.prog.info? 54).isSome = true := by kernel_rfl
  have hz : (((Try.prog.info? 54).get hs).zero).isSome = true := by kernel_rfl
  exact append_of M 45 ty 54 ((Try.prog.info? 54).get hs) ((((Try.prog.info? 54).get hs).zero).get hz) 2 16 Try.underlying45 (Option.some_get hs).symm (Option.some_get hz).symm (by kernel_rfl) (by kernel_rfl) (by kernel_rfl) (by decide) v n xs hO u m news hu hl h1
    (by simp only [maxLen]; omega) (by omega)
theorem append_levelR {S : Nat → Prop} {w0 w : World} {A B T : List (Nat × Obj)} (M : Mem S w0 w (A ++ (T ++ B))) (ty : TypeId) (v : Value) (n : Nat) (xs : List Value) (hO : Own 55 2 v n xs T) (u : Value) (m : Nat) (news : List Value) (hu : RdK w u m news) (hl : news.length = m * 2) (h1 : ∀ u ∈ news, u.oneCell' = true) (hn : n + m ≤ 1000000) :
    ∃ v' T' w', (Builtin.append_ #[48, 48] ty #[v, u]).run Try.prog w = .ok v' w' ∧ Own 55 2 v' (n + m) (xs ++ news) T' ∧ Mem S w0 w' (A ++ (T' ++ B)) := by
  have hs : (Try.prog.info? 55).isSome = true := by kernel_rfl
  have hz : (((Try.prog.info? 55).get hs).zero).isSome = true := by kernel_rfl
  exact append_of M 48 ty 55 ((Try.prog.info? 55).get hs) ((((Try.prog.info? 55).get hs).zero).get hz) 2 16 Try.underlying48 (Option.some_get hs).symm (Option.some_get hz).symm (by kernel_rfl) (by kernel_rfl) (by kernel_rfl) (by decide) v n xs hO u m news hu hl h1
    (by simp only [maxLen]; omega) (by omega)

/-- the levels up to the first unit that fails, and its index -/
def runO (c d cap : Int) : Int → List UnitD → List (Int × Int) × Option Nat
  | _, [] => ([], none)
  | full, u :: r => if full < c * u.bits ∨ (r.isEmpty = false ∧ full - c * u.bits + d * u.fields > cap) then ([], some 0)
    else ((full, full - c * u.bits + d * u.fields) :: (runO c d cap (full - c * u.bits + d * u.fields) r).1, (runO c d cap (full - c * u.bits + d * u.fields) r).2.map (· + 1))
def runI : Option Nat → Int
  | none => -1
  | some n => n
theorem run_next {c d cap start full : Int} {us : List UnitD} {i : Nat} {p : List (Int × Int)} (hi : i < us.length) (h : runO c d cap start us = (p ++ (runO c d cap full (us.drop i)).1, (runO c d cap full (us.drop i)).2.map (· + i)))
    (h1 : ¬ full < c * (us.getD i u0).bits) (h2 : ¬ (i + 1 < us.length ∧ full - c * (us.getD i u0).bits + d * (us.getD i u0).fields > cap)) {full' : Int} (hf : full - c * (us.getD i u0).bits + d * (us.getD i u0).fields = full') :
    runO c d cap start us = ((p ++ [(full, full')]) ++ (runO c d cap full' (us.drop (i + 1))).1, (runO c d cap full' (us.drop (i + 1))).2.map (· + (i + 1))) := by
  rw [h, drop_getD us u0 i hi]
  simp only [runO]
  rw [if_neg (by rw [empty_drop]; rintro (h | ⟨h3, h4⟩); exact h1 h; exact h2 ⟨by have := of_decide_eq_false h3; omega, h4⟩), hf]
  refine Prod.ext ?_ ?_
  · simp
  · show ((runO c d cap full' (us.drop (i + 1))).2.map (· + 1)).map (· + i) = _
    cases (runO c d cap full' (us.drop (i + 1))).2 with
    | none => rfl
    | some n => show some (n + 1 + i) = some (n + (i + 1)); rw [Nat.add_right_comm, Nat.add_assoc]
theorem run_stop {c d cap start full : Int} {us : List UnitD} {i : Nat} {p : List (Int × Int)} (hi : i < us.length) (h : runO c d cap start us = (p ++ (runO c d cap full (us.drop i)).1, (runO c d cap full (us.drop i)).2.map (· + i)))
    (h1 : full < c * (us.getD i u0).bits ∨ (i + 1 < us.length ∧ full - c * (us.getD i u0).bits + d * (us.getD i u0).fields > cap)) : (runO c d cap start us).2 = some i := by
  rw [h, drop_getD us u0 i hi]
  simp only [runO]
  rw [if_pos (by rw [empty_drop]; exact h1.imp id (fun h => ⟨decide_eq_false (by omega), h.2⟩))]
  simp
theorem run_end {c d cap start full : Int} {us : List UnitD} {i : Nat} {p : List (Int × Int)} (hi : us.length ≤ i) (h : runO c d cap start us = (p ++ (runO c d cap full (us.drop i)).1, (runO c d cap full (us.drop i)).2.map (· + i))) : runO c d cap start us = (p, none) := by
  rw [h, List.drop_eq_nil_of_le hi]; simp [runO]
def runS (s : SeqD) (us : List UnitD) (start : Int) : List (Int × Int) × Option Nat := runO (2 * s.num) (s.br * s.den) (2 * s.num * s.bu) start us
set_option maxHeartbeats 4000000 in
set_option maxRecDepth 100000 in
theorem mrun_walk (w : World) (s : SeqD) (hs : SOk s) (v : Value) (us : List UnitD) (hr : RdK w v us.length (flat us)) (start : Int) (hpr : PR s us start) : MakesRow Try.prog 37 #[.agg (sqv s), v, .int .i64 start] w (fun v T => ∃ v1, v = .tuple #[v1, .int .i64 (runI (runS s us start).2)] ∧ ((runS s us start).2 = none → Own 54 2 v1 (runS s us start).1.length (lflat (runS s us start).1) T)) := by
  unfold MakesRow
  obtain ⟨A, c, rfl, hc⟩ := hr.shape
  refine calls_of_wp Try.func37 rfl ?_
  refine wp_frame (a' := ⟨#[.agg (sqv s), .slice A us.length c, .int .i64 start, undef, undef, undef, undef, undef, undef, undef, undef, undef, undef, undef, undef, undef, undef, undef, undef, undef, undef, undef, undef, undef, undef, undef, undef, undef, undef, undef, undef, undef, undef, undef, undef, undef, undef, undef, undef, undef, undef, undef, undef, undef, undef, undef, undef, undef, undef, undef, undef, undef, undef, undef, undef, undef, undef, undef, undef, undef, undef, undef, undef, undef], []⟩) (by kernel_rfl) ?_
  have M0 : Mem NoS w w [] := Mem.start _ _
  refine wp_seq_k (fun K1 hK1 => ?_)
  have hv := hpr.1
  obtain ⟨vn1, vn2, vd1, vd2, vb1, vb2, vu1, vu2, vP, vQ, vR⟩ := SV_facts hv
  have hcap := capS_t hv
  have hul := hpr.2.2.2.1
  have hst1 := hpr.2.1
  have hst2 := hpr.2.2.1
  refine wl_region ?_
  refine st_alloc M0 (.cells (sqv s) 63 (0, 0)) (by kernel_rfl) (by kernel_rfl) ?_
  intro g2 W3 M4
  refine st_val ((Go.Value.slice none 0 0)) (by kernel_rfl) (by kernel_rfl) ?_
  refine st_val (.int .i64 0) (by kernel_rfl) (by kernel_rfl) ?_
  refine wl_nil ?_
  refine hK1 _ _ ?_
  try clear hK1 K1
  refine wp_seq_k (fun K5 hK5 => ?_)
  refine wl_region ?_
  refine st_val ((Go.Value.slice none 0 0)) (by kernel_rfl) (by kernel_rfl) ?_
  refine wl_nil ?_
  refine hK5 _ _ ?_
  try clear hK5 K5
  refine wp_seq_k (fun K6 hK6 => ?_)
  refine wl_region ?_
  refine st_val (.int .i64 start) (by kernel_rfl) (by kernel_rfl) ?_
  refine st_val (.int .i64 start) (by kernel_rfl) (by kernel_rfl) ?_
  refine wl_nil ?_
  refine hK6 _ _ ?_
  try clear hK6 K6
  refine wp_seq_k (fun K7 hK7 => ?_)
  refine wp_seq_k (fun K8 hK8 => ?_)
  refine wl_region ?_
  refine st_val (.slice A us.length c) (by kernel_rfl) (by kernel_rfl) ?_
  refine st_val (.int .i64 ((us.length : Nat) : Int)) (by kernel_rfl) (by kernel_rfl) ?_
  refine st_val (.int .i64 0) (by kernel_rfl) (by kernel_rfl) ?_
  refine wl_nil ?_
  refine hK8 _ _ ?_
  try clear hK8 K8
  refine wp_block ?_
  refine wp_loop_ghost (fun gn a' w' => ∃ (i : Nat) (f : Int) (p : List (Int × Int)) (A1 : Option Addr) (c1 : Nat) (T1 : List (Nat × Obj)) (u9 : Nat → Value), ((i ≤ us.length ∧ (0 ≤ f ∧ f ≤ 2 * s.num * s.bu + 3 * (s.br * s.den)) ∧ (i < us.length → f ≤ 2 * s.num * s.bu) ∧ Own 54 2 (.slice A1 i c1) i (lflat p) T1 ∧ runO (2 * s.num) (s.br * s.den) (2 * s.num * s.bu) start us = (p ++ (runO (2 * s.num) (s.br * s.den) (2 * s.num * s.bu) f (us.drop i)).1, (runO (2 * s.num) (s.br * s.den) (2 * s.num * s.bu) f (us.drop i)).2.map (· + i))) ∧ Mem NoS w w' ((g2, .cells (sqv s) 63 (0, 0)) :: (T1 ++ []))) ∧ gn = us.length - i ∧ a' = ⟨#[.agg (sqv s), .slice A us.length c, .int .i64 start, .pointer (some ⟨g2, 0, none⟩), undef, undef, (u9 6), (u9 7), .slice A1 i c1, .int .i64 f, (u9 10), (u9 11), (u9 12), .int .i64 start, .slice A us.length c, .int .i64 ((us.length : Nat) : Int), .int .i64 (i : Int), (u9 17), (u9 18), (u9 19), (u9 20), (u9 21), (u9 22), (u9 23), (u9 24), (u9 25), (u9 26), (u9 27), (u9 28), (u9 29), (u9 30), (u9 31), (u9 32), (u9 33), (u9 34), (u9 35), (u9 36), (u9 37), (u9 38), (u9 39), (u9 40), (u9 41), (u9 42), (u9 43), (u9 44), (u9 45), (u9 46), (u9 47), (u9 48), (u9 49), (u9 50), (u9 51), (u9 52), (u9 53), (u9 54), (u9 55), (u9 56), (u9 57), (u9 58), (u9 59), (u9 60), (u9 61), (u9 62), undef], []⟩) _ ⟨0, start, ([]), none, 0, ([]), (fun zz => Array.getD #[.agg (sqv s), .slice A us.length c, .int .i64 start, .pointer (some ⟨g2, 0, none⟩), undef, undef, (Go.Value.slice none 0 0), .int .i64 0, (Go.Value.slice none 0 0), .int .i64 start, undef, undef, undef, .int .i64 start, .slice A us.length c, .int .i64 ((us.length : Nat) : Int), .int .i64 0, undef, undef, undef, undef, undef, undef, undef, undef, undef, undef, undef, undef, undef, undef, undef, undef, undef, undef, undef, undef, undef, undef, undef, undef, undef, undef, undef, undef, undef, undef, undef, undef, undef, undef, undef, undef, undef, undef, undef, undef, undef, undef, undef, undef, undef, undef, undef] zz undef), ⟨⟨by omega, ⟨by omega, by omega⟩, fun _ => by omega, Own.nil _ _, by rw [List.drop_zero]; refine Prod.ext rfl ?_; show _ = Option.map (· + 0) _; cases (runO (2 * s.num) (s.br * s.den) (2 * s.num * s.bu) start us).2 <;> rfl⟩, M4⟩, rfl, (by kernel_rfl)⟩ ?_
  rintro gn _ W10 ⟨i, f, p, A1, c1, T1, u9, ⟨⟨ri, rf, rc, O1, hP⟩, M11⟩, rfl, rfl⟩
  refine wp_seq_k (fun K12 hK12 => ?_)
  refine wl_region ?_
  rcases Decidable.em (((i : Int) : Int) < ((us.length : Nat) : Int)) with c17 | c17
  ·
    refine st_val (.bool true) (by kernel_rfl) (bool_of (dec_t c17) (by kernel_rfl)) ?_
    refine wl_nil ?_
    refine hK12 _ _ ?_
    try clear hK12 K12
    refine wp_seq_k (fun K13 hK13 => ?_)
    refine wp_cond_true (by kernel_rfl) ?_
    refine wp_skip ?_
    refine hK13 _ _ ?_
    try clear hK13 K13
    refine wp_seq_k (fun K14 hK14 => ?_)
    refine wp_block ?_
    refine wp_seq_k (fun K15 hK15 => ?_)
    refine wl_region ?_
    refine st_val (.int .i64 (i : Int)) (by kernel_rfl) (by kernel_rfl) ?_
    obtain ⟨b16, o17, eA18⟩ := RdK.addr (hr.keep M11.keep (fun _ _ h => h)) (j := i * 4) (by rw [flat_len]; omega)
    refine st_val (.pointer (some ⟨b16, o17 + i * 4, none⟩)) (by kernel_rfl) (run_indexSliceA 36 (.tmp 14) (.tmp 16) rfl A ⟨b16, o17, none⟩ eA18 us.length c .i64 i (by kernel_rfl) (by kernel_rfl) Try.underlying36 4 (by kernel_rfl) (by omega) ⟨b16, o17 + i * 4, none⟩ (addr_atK _ _ _ _)) ?_
    refine st_val (.agg #[.int .i64 ((us.getD i u0).first), .int .i64 ((us.getD i u0).last), .int .i64 ((us.getD i u0).bits), .int .i64 ((us.getD i u0).fields)]) (by kernel_rfl) (run_load_mid 60 (.tmp 19) rfl b16 (o17 + i * 4) (by kernel_rfl) [.int .i64 ((us.getD i u0).first), .int .i64 ((us.getD i u0).last), .int .i64 ((us.getD i u0).bits), .int .i64 ((us.getD i u0).fields)] _ ((hr.keep M11.keep (fun _ _ h => h)).range eA18 (flat_row us i (by omega))) Try.underlying60 rfl (by kernel_rfl)) ?_
    refine st_alloc M11 (.cells #[.int .i64 0, .int .i64 0, .int .i64 0, .int .i64 0] 60 (0, 0)) (by kernel_rfl) (by kernel_rfl) ?_
    intro g19 W20 M21
    refine st_val (.int .i64 (i : Int)) (by kernel_rfl) (by kernel_rfl) ?_
    refine st_storeRow M21 0 rfl 60 (.tmp 11) (.tmp 20) (by rfl) #[.int .i64 ((us.getD i u0).first), .int .i64 ((us.getD i u0).last), .int .i64 ((us.getD i u0).bits), .int .i64 ((us.getD i u0).fields)] (by kernel_rfl) (by kernel_rfl) (by kernel_rfl) (by rfl) (by kernel_rfl) (by kernel_rfl) ((g19, .cells #[.int .i64 ((us.getD i u0).first), .int .i64 ((us.getD i u0).last), .int .i64 ((us.getD i u0).bits), .int .i64 ((us.getD i u0).fields)] 60 (0, 0)) :: (g2, .cells (sqv s) 63 (0, 0)) :: (T1 ++ [])) rfl ?_
    intro W22 M23
    refine wl_nil ?_
    refine hK15 _ _ ?_
    try clear hK15 K15
    refine wp_seq_k (fun K24 hK24 => ?_)
    have hu := hpr.2.2.2.2 i (by omega)
    unfold PU at hu
    obtain ⟨hu1, hu2, hu3⟩ := hu
    have hc1 := mul_in (m := 2097152) (n := 8388608) (x := 2 * s.num) (y := (us.getD i u0).bits) (by omega) (by omega)
    have hd1 := mul_in (m := 1099511627776) (n := 3) (x := s.br * s.den) (y := (us.getD i u0).fields) (by omega) (by omega)
    have hdb : 0 ≤ 3 * s.den * s.br := Int.mul_nonneg (by omega) (by omega)
    have hd2 : s.br * s.den * (us.getD i u0).fields ≤ 3 * (s.br * s.den) := by rcases hu3 with h | h <;> rw [h] <;> omega
    refine wl_seqA M23 14 [] [.int .i64 f, .int .i64 f, .agg (sqv s), .pointer (some ⟨g19, 2, none⟩), .int .i64 ((us.getD i u0).bits), .int .i64 (2 * s.num * ((us.getD i u0).bits)), .int .i64 (f - (2 * s.num * ((us.getD i u0).bits))), .agg (sqv s), .pointer (some ⟨g19, 3, none⟩), .int .i64 ((us.getD i u0).fields), .int .i64 (s.br * s.den * ((us.getD i u0).fields)), .int .i64 ((f - (2 * s.num * ((us.getD i u0).bits))) + (s.br * s.den * ((us.getD i u0).fields))), .agg #[.int .i64 f, .int .i64 ((f - (2 * s.num * ((us.getD i u0).bits))) + (s.br * s.den * ((us.getD i u0).fields)))], undef] [(13, .cells #[.int .i64 0, .int .i64 0] 54 (0, 0))] (by decide) (by kernel_rfl) (by kernel_rfl) (fun d _ _ _ _ h => by cases d <;> exact h) rfl rfl (by decide) (fun G25 => ?_)
    refine sqa_run (.int .i64 f) (by decide) rfl rfl rfl (by kernel_rfl) (fun w' M' => (by kernel_rfl)) ?_
    refine sqa_run (.int .i64 f) (by decide) rfl rfl rfl (by kernel_rfl) (fun w' M' => (by kernel_rfl)) ?_
    refine sqa_run (.agg (sqv s)) (by decide) rfl rfl rfl (by kernel_rfl) (fun w' M' => (run_load_row 63 (.tmp 3) rfl g2 (by kernel_rfl) 63 (sqv s) (0, 0) _ (M'.get 1 rfl) Try.underlying63 rfl (infoMo hs.la hs.lb))) ?_
    refine sqa_run (.pointer (some ⟨g19, 2, none⟩)) (by decide) rfl rfl rfl (by kernel_rfl) (fun w' M' => (by kernel_rfl)) ?_
    refine sqa_run (.int .i64 ((us.getD i u0).bits)) (by decide) rfl rfl rfl (by kernel_rfl) (fun w' M' => (run_load_cell 2 (.tmp 24) rfl ⟨g19, 2, none⟩ (by kernel_rfl) _ (M'.cell 0 rfl 2 _ rfl) (by kernel_rfl))) ?_
    refine sqa_call (.int .i64 (2 * s.num * ((us.getD i u0).bits))) (f := 34) (args := #[.agg (sqv s), .int .i64 ((us.getD i u0).bits)]) (by decide) rfl rfl rfl (by kernel_rfl) (fun w' M' => (run_value_call 34 #[(Operand.tmp 23), (Operand.tmp 25)] _ rfl Try.func34 (by kernel_rfl) (by kernel_rfl) _ (by kernel_rfl))) (fun w' M' => mcost_walk w' s hs hv ((us.getD i u0).bits) (mul_bd (m := 2097152) (n := 8388608) (by omega) (by omega) (by decide))) ?_
    refine sqa_run (.int .i64 (f - (2 * s.num * ((us.getD i u0).bits)))) (by decide) rfl rfl rfl (by kernel_rfl) (fun w' M' => (i64_of (by omega) (by kernel_rfl))) ?_
    refine sqa_run (.agg (sqv s)) (by decide) rfl rfl rfl (by kernel_rfl) (fun w' M' => (run_load_row 63 (.tmp 3) rfl g2 (by kernel_rfl) 63 (sqv s) (0, 0) _ (M'.get 1 rfl) Try.underlying63 rfl (infoMo hs.la hs.lb))) ?_
    refine sqa_run (.pointer (some ⟨g19, 3, none⟩)) (by decide) rfl rfl rfl (by kernel_rfl) (fun w' M' => (by kernel_rfl)) ?_
    refine sqa_run (.int .i64 ((us.getD i u0).fields)) (by decide) rfl rfl rfl (by kernel_rfl) (fun w' M' => (run_load_cell 3 (.tmp 29) rfl ⟨g19, 3, none⟩ (by kernel_rfl) _ (M'.cell 0 rfl 3 _ rfl) (by kernel_rfl))) ?_
    refine sqa_call (.int .i64 (s.br * s.den * ((us.getD i u0).fields))) (f := 33) (args := #[.agg (sqv s), .int .i64 ((us.getD i u0).fields)]) (by decide) rfl rfl rfl (by kernel_rfl) (fun w' M' => (run_value_call 33 #[(Operand.tmp 28), (Operand.tmp 30)] _ rfl Try.func33 (by kernel_rfl) (by kernel_rfl) _ (by kernel_rfl))) (fun w' M' => marr_walk w' s hs hv ((us.getD i u0).fields) (by omega)) ?_
    refine sqa_run (.int .i64 ((f - (2 * s.num * ((us.getD i u0).bits))) + (s.br * s.den * ((us.getD i u0).fields)))) (by decide) rfl rfl rfl (by kernel_rfl) (fun w' M' => (i64_of (by omega) (by kernel_rfl))) ?_
    refine sqa_run (.agg #[.int .i64 f, .int .i64 ((f - (2 * s.num * ((us.getD i u0).bits))) + (s.br * s.den * ((us.getD i u0).fields)))]) (by decide) rfl rfl rfl (by kernel_rfl) (fun w' M' => (by kernel_rfl)) ?_
    refine sqa_alloc (.cells #[.int .i64 0, .int .i64 0] 54 (0, 0)) (by decide) rfl rfl rfl (fun w' => by kernel_rfl) ?_
    refine sqa_end (by decide) ?_
    intro W26 M27
    refine st_storeRow M27 0 rfl 54 (.tmp 12) (.tmp 33) (by rfl) #[.int .i64 f, .int .i64 ((f - (2 * s.num * ((us.getD i u0).bits))) + (s.br * s.den * ((us.getD i u0).fields)))] (by kernel_rfl) (by kernel_rfl) (by kernel_rfl) (by rfl) (by kernel_rfl) (by kernel_rfl) (((G25 13), .cells #[.int .i64 f, .int .i64 ((f - (2 * s.num * ((us.getD i u0).bits))) + (s.br * s.den * ((us.getD i u0).fields)))] 54 (0, 0)) :: (g19, .cells #[.int .i64 ((us.getD i u0).first), .int .i64 ((us.getD i u0).last), .int .i64 ((us.getD i u0).bits), .int .i64 ((us.getD i u0).fields)] 60 (0, 0)) :: (g2, .cells (sqv s) 63 (0, 0)) :: (T1 ++ [])) rfl ?_
    intro W28 M29
    refine wl_nil ?_
    refine hK24 _ _ ?_
    try clear hK24 K24
    refine wp_frame (a' := ⟨#[.agg (sqv s), .slice A us.length c, .int .i64 start, .pointer (some ⟨g2, 0, none⟩), undef, undef, (u9 6), (u9 7), .slice A1 i c1, .int .i64 f, .int .i64 (i : Int), .pointer (some ⟨g19, 0, none⟩), .pointer (some ⟨(G25 13), 0, none⟩), .int .i64 start, .slice A us.length c, .int .i64 ((us.length : Nat) : Int), .int .i64 (i : Int), .bool true, .int .i64 (i : Int), .pointer (some ⟨b16, o17 + i * 4, none⟩), .agg #[.int .i64 ((us.getD i u0).first), .int .i64 ((us.getD i u0).last), .int .i64 ((us.getD i u0).bits), .int .i64 ((us.getD i u0).fields)], .int .i64 f, .int .i64 f, .agg (sqv s), .pointer (some ⟨g19, 2, none⟩), .int .i64 ((us.getD i u0).bits), .int .i64 (2 * s.num * ((us.getD i u0).bits)), .int .i64 (f - (2 * s.num * ((us.getD i u0).bits))), .agg (sqv s), .pointer (some ⟨g19, 3, none⟩), .int .i64 ((us.getD i u0).fields), .int .i64 (s.br * s.den * ((us.getD i u0).fields)), .int .i64 ((f - (2 * s.num * ((us.getD i u0).bits))) + (s.br * s.den * ((us.getD i u0).fields))), .agg #[.int .i64 f, .int .i64 ((f - (2 * s.num * ((us.getD i u0).bits))) + (s.br * s.den * ((us.getD i u0).fields)))], (u9 34), (u9 35), (u9 36), (u9 37), (u9 38), (u9 39), (u9 40), (u9 41), (u9 42), (u9 43), (u9 44), (u9 45), (u9 46), (u9 47), (u9 48), (u9 49), (u9 50), (u9 51), (u9 52), (u9 53), (u9 54), (u9 55), (u9 56), (u9 57), (u9 58), (u9 59), (u9 60), (u9 61), (u9 62), undef], []⟩) (by kernel_rfl) ?_
    refine wp_seq_k (fun K30 hK30 => ?_)
    refine wp_seq_k (fun K31 hK31 => ?_)
    refine wl_seq 20 (fun w' => Mem NoS w w' (((G25 13), .cells #[.int .i64 f, .int .i64 ((f - (2 * s.num * ((us.getD i u0).bits))) + (s.br * s.den * ((us.getD i u0).fields)))] 54 (0, 0)) :: (g19, .cells #[.int .i64 ((us.getD i u0).first), .int .i64 ((us.getD i u0).last), .int .i64 ((us.getD i u0).bits), .int .i64 ((us.getD i u0).fields)] 60 (0, 0)) :: (g2, .cells (sqv s) 63 (0, 0)) :: (T1 ++ []))) (by decide) (by kernel_rfl) (by kernel_rfl) M29.drew ?_
    refine seq_run (v := .int .i64 f) (by decide) (by kernel_rfl) (fun w' M' => (by kernel_rfl)) ?_
    refine seq_run (v := .agg (sqv s)) (by decide) (by kernel_rfl) (fun w' M' => (run_load_row 63 (.tmp 3) rfl g2 (by kernel_rfl) 63 (sqv s) (0, 0) _ (M'.get 2 rfl) Try.underlying63 rfl (infoMo hs.la hs.lb))) ?_
    refine seq_run (v := .pointer (some ⟨g19, 2, none⟩)) (by decide) (by kernel_rfl) (fun w' M' => (by kernel_rfl)) ?_
    refine seq_run (v := .int .i64 ((us.getD i u0).bits)) (by decide) (by kernel_rfl) (fun w' M' => (run_load_cell 2 (.tmp 36) rfl ⟨g19, 2, none⟩ (by kernel_rfl) _ (M'.cell 1 rfl 2 _ rfl) (by kernel_rfl))) ?_
    refine seq_call (v := .int .i64 (2 * s.num * ((us.getD i u0).bits))) (f := 34) (args := #[.agg (sqv s), .int .i64 ((us.getD i u0).bits)]) (by decide) (by kernel_rfl) (fun w' M' => (run_value_call 34 #[(Operand.tmp 35), (Operand.tmp 37)] _ rfl Try.func34 (by kernel_rfl) (by kernel_rfl) _ (by kernel_rfl))) (fun w' M' => callB_mem M' (mcost_walk w' s hs hv ((us.getD i u0).bits) (mul_bd (m := 2097152) (n := 8388608) (by omega) (by omega) (by decide)))) ?_
    rcases Decidable.em ((f : Int) < 2 * s.num * ((us.getD i u0).bits)) with c39 | c39
    ·
      refine seq_run (v := .bool true) (by decide) (by kernel_rfl) (fun w' M' => (bool_of (dec_t c39) (by kernel_rfl))) ?_
      refine seq_run (v := .bool true) (by decide) (by kernel_rfl) (fun w' M' => (by kernel_rfl)) ?_
      refine seq_skip (by decide) (by kernel_rfl) ?_
      refine seq_skip (by decide) (by kernel_rfl) ?_
      refine seq_skip (by decide) (by kernel_rfl) ?_
      refine seq_skip (by decide) (by kernel_rfl) ?_
      refine seq_skip (by decide) (by kernel_rfl) ?_
      refine seq_skip (by decide) (by kernel_rfl) ?_
      refine seq_skip (by decide) (by kernel_rfl) ?_
      refine seq_skip (by decide) (by kernel_rfl) ?_
      refine seq_skip (by decide) (by kernel_rfl) ?_
      refine seq_skip (by decide) (by kernel_rfl) ?_
      refine seq_skip (by decide) (by kernel_rfl) ?_
      refine seq_skip (by decide) (by kernel_rfl) ?_
      refine seq_run (v := .bool true) (by decide) (by kernel_rfl) (fun w' M' => (by kernel_rfl)) ?_
      refine seq_end (by decide) ?_
      intro W32 M33
      refine wl_nil ?_
      refine hK31 _ _ ?_
      try clear hK31 K31
      refine wp_frame (a' := ⟨#[.agg (sqv s), .slice A us.length c, .int .i64 start, .pointer (some ⟨g2, 0, none⟩), undef, undef, (u9 6), (u9 7), .slice A1 i c1, .int .i64 f, .int .i64 (i : Int), .pointer (some ⟨g19, 0, none⟩), .pointer (some ⟨(G25 13), 0, none⟩), .int .i64 start, .slice A us.length c, .int .i64 ((us.length : Nat) : Int), .int .i64 (i : Int), .bool true, .int .i64 (i : Int), .pointer (some ⟨b16, o17 + i * 4, none⟩), .agg #[.int .i64 ((us.getD i u0).first), .int .i64 ((us.getD i u0).last), .int .i64 ((us.getD i u0).bits), .int .i64 ((us.getD i u0).fields)], .int .i64 f, .int .i64 f, .agg (sqv s), .pointer (some ⟨g19, 2, none⟩), .int .i64 ((us.getD i u0).bits), .int .i64 (2 * s.num * ((us.getD i u0).bits)), .int .i64 (f - (2 * s.num * ((us.getD i u0).bits))), .agg (sqv s), .pointer (some ⟨g19, 3, none⟩), .int .i64 ((us.getD i u0).fields), .int .i64 (s.br * s.den * ((us.getD i u0).fields)), .int .i64 ((f - (2 * s.num * ((us.getD i u0).bits))) + (s.br * s.den * ((us.getD i u0).fields))), .agg #[.int .i64 f, .int .i64 ((f - (2 * s.num * ((us.getD i u0).bits))) + (s.br * s.den * ((us.getD i u0).fields)))], .int .i64 f, .agg (sqv s), .pointer (some ⟨g19, 2, none⟩), .int .i64 ((us.getD i u0).bits), .int .i64 (2 * s.num * ((us.getD i u0).bits)), .bool true, .bool true, undef, undef, undef, undef, undef, undef, undef, undef, undef, undef, undef, undef, .bool true, (u9 54), (u9 55), (u9 56), (u9 57), (u9 58), (u9 59), (u9 60), (u9 61), (u9 62), undef], []⟩) (by kernel_rfl) ?_
      refine wp_cond_true (by kernel_rfl) ?_
      refine wp_seq_k (fun K34 hK34 => ?_)
      refine wl_region ?_
      refine st_val (.slice A1 i c1) (by kernel_rfl) (by kernel_rfl) ?_
      refine st_val (.int .i64 (i : Int)) (by kernel_rfl) (by kernel_rfl) ?_
      refine st_val (.slice A1 i c1) (by kernel_rfl) (by kernel_rfl) ?_
      refine st_val (.int .i64 (i : Int)) (by kernel_rfl) (by kernel_rfl) ?_
      refine wl_nil ?_
      refine hK34 _ _ ?_
      try clear hK34 K34
      refine wp_ret ?_
      refine th_ret ?_
      refine blk_ret ?_
      refine th_ret ?_
      refine th_ret ?_
      refine blk_ret ?_
      refine th_ret ?_
      have hno := run_stop (by omega) hP (by omega)
      exact done2 6 7 (.slice A1 i c1) (.int .i64 (i : Int)) (by kernel_rfl) (by kernel_rfl) (by kernel_rfl) (by kernel_rfl) ⟨_, [], rfl, ⟨_, by rw [show (runS s us start).2 = some i from hno]; rfl, fun h => by rw [show (runS s us start).2 = some i from hno] at h; cases h⟩, M33.sub (List.nil_sublist _)⟩
    ·
      refine seq_run (v := .bool false) (by decide) (by kernel_rfl) (fun w' M' => (bool_of (dec_f c39) (by kernel_rfl))) ?_
      refine seq_run (v := .bool false) (by decide) (by kernel_rfl) (fun w' M' => (by kernel_rfl)) ?_
      refine seq_run (v := .int .i64 (i : Int)) (by decide) (by kernel_rfl) (fun w' M' => (by kernel_rfl)) ?_
      refine seq_run (v := .slice A us.length c) (by decide) (by kernel_rfl) (fun w' M' => (by kernel_rfl)) ?_
      refine seq_run (v := .int .i64 ((us.length : Nat) : Int)) (by decide) (by kernel_rfl) (fun w' M' => (by kernel_rfl)) ?_
      refine seq_run (v := .int .i64 (((us.length : Nat) : Int) - 1)) (by decide) (by kernel_rfl) (fun w' M' => (i64_of (by omega) (by kernel_rfl))) ?_
      rcases Decidable.em (((i : Int) : Int) < ((us.length : Nat) : Int) - 1) with c45 | c45
      ·
        refine seq_run (v := .bool true) (by decide) (by kernel_rfl) (fun w' M' => (bool_of (dec_t c45) (by kernel_rfl))) ?_
        refine seq_run (v := .bool true) (by decide) (by kernel_rfl) (fun w' M' => (by kernel_rfl)) ?_
        refine seq_run (v := .pointer (some ⟨(G25 13), 1, none⟩)) (by decide) (by kernel_rfl) (fun w' M' => (by kernel_rfl)) ?_
        refine seq_run (v := .int .i64 ((f - (2 * s.num * ((us.getD i u0).bits))) + (s.br * s.den * ((us.getD i u0).fields)))) (by decide) (by kernel_rfl) (fun w' M' => (run_load_cell 2 (.tmp 47) rfl ⟨(G25 13), 1, none⟩ (by kernel_rfl) _ (M'.cell 0 rfl 1 _ rfl) (by kernel_rfl))) ?_
        refine seq_run (v := .agg (sqv s)) (by decide) (by kernel_rfl) (fun w' M' => (run_load_row 63 (.tmp 3) rfl g2 (by kernel_rfl) 63 (sqv s) (0, 0) _ (M'.get 2 rfl) Try.underlying63 rfl (infoMo hs.la hs.lb))) ?_
        refine seq_call (v := .int .i64 (2 * s.num * s.bu)) (f := 31) (args := #[.agg (sqv s)]) (by decide) (by kernel_rfl) (fun w' M' => (run_value_call 31 #[(Operand.tmp 49)] _ rfl Try.func31 (by kernel_rfl) (by kernel_rfl) _ (by kernel_rfl))) (fun w' M' => callB_mem M' (mcap_walk w' s hs hv)) ?_
        rcases Decidable.em (((f - (2 * s.num * ((us.getD i u0).bits))) + (s.br * s.den * ((us.getD i u0).fields)) : Int) > 2 * s.num * s.bu) with c51 | c51
        ·
          refine seq_run (v := .bool true) (by decide) (by kernel_rfl) (fun w' M' => (bool_of (dec_t c51) (by kernel_rfl))) ?_
          refine seq_run (v := .bool true) (by decide) (by kernel_rfl) (fun w' M' => (by kernel_rfl)) ?_
          refine seq_run (v := .bool true) (by decide) (by kernel_rfl) (fun w' M' => (by kernel_rfl)) ?_
          refine seq_end (by decide) ?_
          intro W35 M36
          refine wl_nil ?_
          refine hK31 _ _ ?_
          try clear hK31 K31
          refine wp_frame (a' := ⟨#[.agg (sqv s), .slice A us.length c, .int .i64 start, .pointer (some ⟨g2, 0, none⟩), undef, undef, (u9 6), (u9 7), .slice A1 i c1, .int .i64 f, .int .i64 (i : Int), .pointer (some ⟨g19, 0, none⟩), .pointer (some ⟨(G25 13), 0, none⟩), .int .i64 start, .slice A us.length c, .int .i64 ((us.length : Nat) : Int), .int .i64 (i : Int), .bool true, .int .i64 (i : Int), .pointer (some ⟨b16, o17 + i * 4, none⟩), .agg #[.int .i64 ((us.getD i u0).first), .int .i64 ((us.getD i u0).last), .int .i64 ((us.getD i u0).bits), .int .i64 ((us.getD i u0).fields)], .int .i64 f, .int .i64 f, .agg (sqv s), .pointer (some ⟨g19, 2, none⟩), .int .i64 ((us.getD i u0).bits), .int .i64 (2 * s.num * ((us.getD i u0).bits)), .int .i64 (f - (2 * s.num * ((us.getD i u0).bits))), .agg (sqv s), .pointer (some ⟨g19, 3, none⟩), .int .i64 ((us.getD i u0).fields), .int .i64 (s.br * s.den * ((us.getD i u0).fields)), .int .i64 ((f - (2 * s.num * ((us.getD i u0).bits))) + (s.br * s.den * ((us.getD i u0).fields))), .agg #[.int .i64 f, .int .i64 ((f - (2 * s.num * ((us.getD i u0).bits))) + (s.br * s.den * ((us.getD i u0).fields)))], .int .i64 f, .agg (sqv s), .pointer (some ⟨g19, 2, none⟩), .int .i64 ((us.getD i u0).bits), .int .i64 (2 * s.num * ((us.getD i u0).bits)), .bool false, .bool false, .int .i64 (i : Int), .slice A us.length c, .int .i64 ((us.length : Nat) : Int), .int .i64 (((us.length : Nat) : Int) - 1), .bool true, .bool true, .pointer (some ⟨(G25 13), 1, none⟩), .int .i64 ((f - (2 * s.num * ((us.getD i u0).bits))) + (s.br * s.den * ((us.getD i u0).fields))), .agg (sqv s), .int .i64 (2 * s.num * s.bu), .bool true, .bool true, .bool true, (u9 54), (u9 55), (u9 56), (u9 57), (u9 58), (u9 59), (u9 60), (u9 61), (u9 62), undef], []⟩) (by kernel_rfl) ?_
          refine wp_cond_true (by kernel_rfl) ?_
          refine wp_seq_k (fun K37 hK37 => ?_)
          refine wl_region ?_
          refine st_val (.slice A1 i c1) (by kernel_rfl) (by kernel_rfl) ?_
          refine st_val (.int .i64 (i : Int)) (by kernel_rfl) (by kernel_rfl) ?_
          refine st_val (.slice A1 i c1) (by kernel_rfl) (by kernel_rfl) ?_
          refine st_val (.int .i64 (i : Int)) (by kernel_rfl) (by kernel_rfl) ?_
          refine wl_nil ?_
          refine hK37 _ _ ?_
          try clear hK37 K37
          refine wp_ret ?_
          refine th_ret ?_
          refine blk_ret ?_
          refine th_ret ?_
          refine th_ret ?_
          refine blk_ret ?_
          refine th_ret ?_
          have hno := run_stop (by omega) hP (by omega)
          exact done2 6 7 (.slice A1 i c1) (.int .i64 (i : Int)) (by kernel_rfl) (by kernel_rfl) (by kernel_rfl) (by kernel_rfl) ⟨_, [], rfl, ⟨_, by rw [show (runS s us start).2 = some i from hno]; rfl, fun h => by rw [show (runS s us start).2 = some i from hno] at h; cases h⟩, M36.sub (List.nil_sublist _)⟩
        ·
          refine seq_run (v := .bool false) (by decide) (by kernel_rfl) (fun w' M' => (bool_of (dec_f c51) (by kernel_rfl))) ?_
          refine seq_run (v := .bool false) (by decide) (by kernel_rfl) (fun w' M' => (by kernel_rfl)) ?_
          refine seq_run (v := .bool false) (by decide) (by kernel_rfl) (fun w' M' => (by kernel_rfl)) ?_
          refine seq_end (by decide) ?_
          intro W38 M39
          refine wl_nil ?_
          refine hK31 _ _ ?_
          try clear hK31 K31
          refine wp_frame (a' := ⟨#[.agg (sqv s), .slice A us.length c, .int .i64 start, .pointer (some ⟨g2, 0, none⟩), undef, undef, (u9 6), (u9 7), .slice A1 i c1, .int .i64 f, .int .i64 (i : Int), .pointer (some ⟨g19, 0, none⟩), .pointer (some ⟨(G25 13), 0, none⟩), .int .i64 start, .slice A us.length c, .int .i64 ((us.length : Nat) : Int), .int .i64 (i : Int), .bool true, .int .i64 (i : Int), .pointer (some ⟨b16, o17 + i * 4, none⟩), .agg #[.int .i64 ((us.getD i u0).first), .int .i64 ((us.getD i u0).last), .int .i64 ((us.getD i u0).bits), .int .i64 ((us.getD i u0).fields)], .int .i64 f, .int .i64 f, .agg (sqv s), .pointer (some ⟨g19, 2, none⟩), .int .i64 ((us.getD i u0).bits), .int .i64 (2 * s.num * ((us.getD i u0).bits)), .int .i64 (f - (2 * s.num * ((us.getD i u0).bits))), .agg (sqv s), .pointer (some ⟨g19, 3, none⟩), .int .i64 ((us.getD i u0).fields), .int .i64 (s.br * s.den * ((us.getD i u0).fields)), .int .i64 ((f - (2 * s.num * ((us.getD i u0).bits))) + (s.br * s.den * ((us.getD i u0).fields))), .agg #[.int .i64 f, .int .i64 ((f - (2 * s.num * ((us.getD i u0).bits))) + (s.br * s.den * ((us.getD i u0).fields)))], .int .i64 f, .agg (sqv s), .pointer (some ⟨g19, 2, none⟩), .int .i64 ((us.getD i u0).bits), .int .i64 (2 * s.num * ((us.getD i u0).bits)), .bool false, .bool false, .int .i64 (i : Int), .slice A us.length c, .int .i64 ((us.length : Nat) : Int), .int .i64 (((us.length : Nat) : Int) - 1), .bool true, .bool true, .pointer (some ⟨(G25 13), 1, none⟩), .int .i64 ((f - (2 * s.num * ((us.getD i u0).bits))) + (s.br * s.den * ((us.getD i u0).fields))), .agg (sqv s), .int .i64 (2 * s.num * s.bu), .bool false, .bool false, .bool false, (u9 54), (u9 55), (u9 56), (u9 57), (u9 58), (u9 59), (u9 60), (u9 61), (u9 62), undef], []⟩) (by kernel_rfl) ?_
          refine wp_cond_false (by kernel_rfl) ?_
          refine wp_skip ?_
          refine hK30 _ _ ?_
          try clear hK30 K30
          refine wh_region (fun w' => Mem NoS w w' [((G25 13), .cells #[.int .i64 f, .int .i64 ((f - (2 * s.num * ((us.getD i u0).bits))) + (s.br * s.den * ((us.getD i u0).fields)))] 54 (0, 0)), (g19, .cells #[.int .i64 ((us.getD i u0).first), .int .i64 ((us.getD i u0).last), .int .i64 ((us.getD i u0).bits), .int .i64 ((us.getD i u0).fields)] 60 (0, 0)), (g2, .cells (sqv s) 63 (0, 0))]) (by kernel_rfl) (by kernel_rfl) (fun d _ _ _ _ h => by cases d <;> exact h) 8 rfl #[false, false, false, false, false, false, false, false] rfl ?_
          intro R40
          have M42 := M39.drew
          have hS43 : Mem NoS w W38.drew [((G25 13), .cells #[.int .i64 f, .int .i64 ((f - (2 * s.num * ((us.getD i u0).bits))) + (s.br * s.den * ((us.getD i u0).fields)))] 54 (0, 0)), (g19, .cells #[.int .i64 ((us.getD i u0).first), .int .i64 ((us.getD i u0).last), .int .i64 ((us.getD i u0).bits), .int .i64 ((us.getD i u0).fields)] 60 (0, 0)), (g2, .cells (sqv s) 63 (0, 0))] := M42.sub (((((List.Sublist.refl []).trans (List.sublist_append_right T1 _)).cons_cons _).cons_cons _).cons_cons _)
          refine wh_take R40 0 (.slice A1 i c1) rfl (by kernel_rfl) (by kernel_rfl) (by kernel_rfl) (fun w' M' => (by kernel_rfl)) hS43 #[true, false, false, false, false, false, false, false] rfl ?_
          refine wh_take R40 1 (.agg #[.int .i64 f, .int .i64 ((f - (2 * s.num * ((us.getD i u0).bits))) + (s.br * s.den * ((us.getD i u0).fields)))]) rfl (by kernel_rfl) (by kernel_rfl) (by kernel_rfl) (fun w' M' => (run_load_row 54 (.tmp 12) rfl (G25 13) (by kernel_rfl) 54 (#[.int .i64 f, .int .i64 ((f - (2 * s.num * ((us.getD i u0).bits))) + (s.br * s.den * ((us.getD i u0).fields)))]) (0, 0) _ (M'.get 0 rfl) Try.underlying54 rfl (by kernel_rfl))) hS43 #[true, true, false, false, false, false, false, false] rfl ?_
          refine wh_take R40 4 (.pointer (some ⟨(G25 13), 1, none⟩)) rfl (by kernel_rfl) (by kernel_rfl) (by kernel_rfl) (fun w' M' => (by kernel_rfl)) hS43 #[true, true, false, false, true, false, false, false] rfl ?_
          refine wh_take R40 5 (.int .i64 ((f - (2 * s.num * ((us.getD i u0).bits))) + (s.br * s.den * ((us.getD i u0).fields)))) rfl (by kernel_rfl) (by kernel_rfl) (by kernel_rfl) (fun w' M' => (run_load_cell 2 (.tmp 60) rfl ⟨(G25 13), 1, none⟩ (by kernel_rfl) _ (M'.cell 0 rfl 1 _ rfl) (by kernel_rfl))) hS43 #[true, true, false, false, true, true, false, false] rfl ?_
          refine wh_new M42 2 (.cells #[.int .i64 f, .int .i64 ((f - (2 * s.num * ((us.getD i u0).bits))) + (s.br * s.den * ((us.getD i u0).fields)))] 54 (0, 0)) (fun g => .slice (some ⟨g, 0, none⟩) 1 1) rfl (by kernel_rfl) (by kernel_rfl) (by kernel_rfl) #[true, true, true, false, true, true, false, false] rfl ?_
          intro g44 W45 M46
          have hS47 : Mem NoS w W45 [((G25 13), .cells #[.int .i64 f, .int .i64 ((f - (2 * s.num * ((us.getD i u0).bits))) + (s.br * s.den * ((us.getD i u0).fields)))] 54 (0, 0)), (g19, .cells #[.int .i64 ((us.getD i u0).first), .int .i64 ((us.getD i u0).last), .int .i64 ((us.getD i u0).bits), .int .i64 ((us.getD i u0).fields)] 60 (0, 0)), (g2, .cells (sqv s) 63 (0, 0))] := M46.sub ((((((List.Sublist.refl []).trans (List.sublist_append_right T1 _)).cons_cons _).cons_cons _).cons_cons _).cons _)
          refine ⟨hS47, ?_⟩
          obtain ⟨v48, T49, W50, hr51, O52, M53⟩ := append_level (A := [(g44, .cells #[.int .i64 f, .int .i64 ((f - (2 * s.num * ((us.getD i u0).bits))) + (s.br * s.den * ((us.getD i u0).fields)))] 54 (0, 0)), ((G25 13), .cells #[.int .i64 f, .int .i64 ((f - (2 * s.num * ((us.getD i u0).bits))) + (s.br * s.den * ((us.getD i u0).fields)))] 54 (0, 0)), (g19, .cells #[.int .i64 ((us.getD i u0).first), .int .i64 ((us.getD i u0).last), .int .i64 ((us.getD i u0).bits), .int .i64 ((us.getD i u0).fields)] 60 (0, 0)), (g2, .cells (sqv s) 63 (0, 0))]) (T := T1) (B := []) M46 45 _ _ _ O1 _ 1 ([.int .i64 f, .int .i64 ((f - (2 * s.num * ((us.getD i u0).bits))) + (s.br * s.den * ((us.getD i u0).fields)))]) (rdk_new (M46.get 0 rfl)) rfl (by intro x hx; simp only [List.mem_cons, List.not_mem_nil, or_false] at hx; rcases hx with rfl | rfl <;> rfl) (by omega)
          have M53 : Mem NoS w W50 ((g44, .cells #[.int .i64 f, .int .i64 ((f - (2 * s.num * ((us.getD i u0).bits))) + (s.br * s.den * ((us.getD i u0).fields)))] 54 (0, 0)) :: ((G25 13), .cells #[.int .i64 f, .int .i64 ((f - (2 * s.num * ((us.getD i u0).bits))) + (s.br * s.den * ((us.getD i u0).fields)))] 54 (0, 0)) :: (g19, .cells #[.int .i64 ((us.getD i u0).first), .int .i64 ((us.getD i u0).last), .int .i64 ((us.getD i u0).bits), .int .i64 ((us.getD i u0).fields)] 60 (0, 0)) :: (g2, .cells (sqv s) 63 (0, 0)) :: (T49 ++ [])) := M53
          obtain ⟨A54, c55, rfl, hc56⟩ := O52.shape
          have hS57 : Mem NoS w W50 [((G25 13), .cells #[.int .i64 f, .int .i64 ((f - (2 * s.num * ((us.getD i u0).bits))) + (s.br * s.den * ((us.getD i u0).fields)))] 54 (0, 0)), (g19, .cells #[.int .i64 ((us.getD i u0).first), .int .i64 ((us.getD i u0).last), .int .i64 ((us.getD i u0).bits), .int .i64 ((us.getD i u0).fields)] 60 (0, 0)), (g2, .cells (sqv s) 63 (0, 0))] := M53.sub ((((((List.Sublist.refl []).trans (List.sublist_append_right T49 _)).cons_cons _).cons_cons _).cons_cons _).cons _)
          refine wh_world 3 (.slice A54 (i + 1) c55) W50 rfl (by kernel_rfl) (by kernel_rfl) (run_append_op (.tmp 56) (.tmp 58) _ rfl (.slice A1 i c1) (.slice (some ⟨g44, 0, none⟩) 1 1) _ (by kernel_rfl) (by kernel_rfl) hr51) #[true, true, true, true, true, true, false, false] rfl hS57 ?_
          refine wh_take R40 6 (.slice A54 (i + 1) c55) rfl (by kernel_rfl) (by kernel_rfl) (by kernel_rfl) (fun w' M' => (by kernel_rfl)) hS57 #[true, true, true, true, true, true, true, false] rfl ?_
          refine wh_take R40 7 (.int .i64 ((f - (2 * s.num * ((us.getD i u0).bits))) + (s.br * s.den * ((us.getD i u0).fields)))) rfl (by kernel_rfl) (by kernel_rfl) (by kernel_rfl) (fun w' M' => (by kernel_rfl)) hS57 #[true, true, true, true, true, true, true, true] rfl ?_
          refine wh_done (by kernel_rfl) ?_
          refine blk_normal ?_
          refine hK14 _ _ ?_
          try clear hK14 K14
          refine wl_region ?_
          refine st_val (.int .i64 ((i : Int) + 1)) (by kernel_rfl) (i64_of (by omega) (by kernel_rfl)) ?_
          refine st_val (.int .i64 ((i : Int) + 1)) (by kernel_rfl) (by kernel_rfl) ?_
          refine wl_nil ?_
          refine th_normal ?_
          exact ⟨_, by omega, (i + 1), ((f - (2 * s.num * ((us.getD i u0).bits))) + (s.br * s.den * ((us.getD i u0).fields))), (p ++ [(f, (f - (2 * s.num * ((us.getD i u0).bits))) + (s.br * s.den * ((us.getD i u0).fields)))]), A54, c55, T49, (fun zz => Array.getD #[.agg (sqv s), .slice A us.length c, .int .i64 start, .pointer (some ⟨g2, 0, none⟩), undef, undef, (u9 6), (u9 7), .slice A54 (i + 1) c55, .int .i64 ((f - (2 * s.num * ((us.getD i u0).bits))) + (s.br * s.den * ((us.getD i u0).fields))), .int .i64 (i : Int), .pointer (some ⟨g19, 0, none⟩), .pointer (some ⟨(G25 13), 0, none⟩), .int .i64 start, .slice A us.length c, .int .i64 ((us.length : Nat) : Int), .int .i64 ((i : Int) + 1), .bool true, .int .i64 (i : Int), .pointer (some ⟨b16, o17 + i * 4, none⟩), .agg #[.int .i64 ((us.getD i u0).first), .int .i64 ((us.getD i u0).last), .int .i64 ((us.getD i u0).bits), .int .i64 ((us.getD i u0).fields)], .int .i64 f, .int .i64 f, .agg (sqv s), .pointer (some ⟨g19, 2, none⟩), .int .i64 ((us.getD i u0).bits), .int .i64 (2 * s.num * ((us.getD i u0).bits)), .int .i64 (f - (2 * s.num * ((us.getD i u0).bits))), .agg (sqv s), .pointer (some ⟨g19, 3, none⟩), .int .i64 ((us.getD i u0).fields), .int .i64 (s.br * s.den * ((us.getD i u0).fields)), .int .i64 ((f - (2 * s.num * ((us.getD i u0).bits))) + (s.br * s.den * ((us.getD i u0).fields))), .agg #[.int .i64 f, .int .i64 ((f - (2 * s.num * ((us.getD i u0).bits))) + (s.br * s.den * ((us.getD i u0).fields)))], .int .i64 f, .agg (sqv s), .pointer (some ⟨g19, 2, none⟩), .int .i64 ((us.getD i u0).bits), .int .i64 (2 * s.num * ((us.getD i u0).bits)), .bool false, .bool false, .int .i64 (i : Int), .slice A us.length c, .int .i64 ((us.length : Nat) : Int), .int .i64 (((us.length : Nat) : Int) - 1), .bool true, .bool true, .pointer (some ⟨(G25 13), 1, none⟩), .int .i64 ((f - (2 * s.num * ((us.getD i u0).bits))) + (s.br * s.den * ((us.getD i u0).fields))), .agg (sqv s), .int .i64 (2 * s.num * s.bu), .bool false, .bool false, .bool false, (u9 54), (u9 55), .slice A1 i c1, .agg #[.int .i64 f, .int .i64 ((f - (2 * s.num * ((us.getD i u0).bits))) + (s.br * s.den * ((us.getD i u0).fields)))], .slice (some ⟨g44, 0, none⟩) 1 1, .slice A54 (i + 1) c55, .pointer (some ⟨(G25 13), 1, none⟩), .int .i64 ((f - (2 * s.num * ((us.getD i u0).bits))) + (s.br * s.den * ((us.getD i u0).fields))), .int .i64 ((i : Int) + 1), undef] zz undef), ⟨⟨by omega, ⟨by omega, by omega⟩, fun hi => by omega, by rw [lflat_snoc]; exact O52, run_next (by omega) hP c39 (fun h => by omega) rfl⟩, (M53.sub ((((((List.Sublist.refl []).append_left T49).cons_cons _).cons _).cons _).cons _))⟩, rfl, (by kernel_rfl)⟩
      ·
        refine seq_run (v := .bool false) (by decide) (by kernel_rfl) (fun w' M' => (bool_of (dec_f c45) (by kernel_rfl))) ?_
        refine seq_run (v := .bool false) (by decide) (by kernel_rfl) (fun w' M' => (by kernel_rfl)) ?_
        refine seq_skip (by decide) (by kernel_rfl) ?_
        refine seq_skip (by decide) (by kernel_rfl) ?_
        refine seq_skip (by decide) (by kernel_rfl) ?_
        refine seq_skip (by decide) (by kernel_rfl) ?_
        refine seq_skip (by decide) (by kernel_rfl) ?_
        refine seq_run (v := .bool false) (by decide) (by kernel_rfl) (fun w' M' => (by kernel_rfl)) ?_
        refine seq_run (v := .bool false) (by decide) (by kernel_rfl) (fun w' M' => (by kernel_rfl)) ?_
        refine seq_end (by decide) ?_
        intro W58 M59
        refine wl_nil ?_
        refine hK31 _ _ ?_
        try clear hK31 K31
        refine wp_frame (a' := ⟨#[.agg (sqv s), .slice A us.length c, .int .i64 start, .pointer (some ⟨g2, 0, none⟩), undef, undef, (u9 6), (u9 7), .slice A1 i c1, .int .i64 f, .int .i64 (i : Int), .pointer (some ⟨g19, 0, none⟩), .pointer (some ⟨(G25 13), 0, none⟩), .int .i64 start, .slice A us.length c, .int .i64 ((us.length : Nat) : Int), .int .i64 (i : Int), .bool true, .int .i64 (i : Int), .pointer (some ⟨b16, o17 + i * 4, none⟩), .agg #[.int .i64 ((us.getD i u0).first), .int .i64 ((us.getD i u0).last), .int .i64 ((us.getD i u0).bits), .int .i64 ((us.getD i u0).fields)], .int .i64 f, .int .i64 f, .agg (sqv s), .pointer (some ⟨g19, 2, none⟩), .int .i64 ((us.getD i u0).bits), .int .i64 (2 * s.num * ((us.getD i u0).bits)), .int .i64 (f - (2 * s.num * ((us.getD i u0).bits))), .agg (sqv s), .pointer (some ⟨g19, 3, none⟩), .int .i64 ((us.getD i u0).fields), .int .i64 (s.br * s.den * ((us.getD i u0).fields)), .int .i64 ((f - (2 * s.num * ((us.getD i u0).bits))) + (s.br * s.den * ((us.getD i u0).fields))), .agg #[.int .i64 f, .int .i64 ((f - (2 * s.num * ((us.getD i u0).bits))) + (s.br * s.den * ((us.getD i u0).fields)))], .int .i64 f, .agg (sqv s), .pointer (some ⟨g19, 2, none⟩), .int .i64 ((us.getD i u0).bits), .int .i64 (2 * s.num * ((us.getD i u0).bits)), .bool false, .bool false, .int .i64 (i : Int), .slice A us.length c, .int .i64 ((us.length : Nat) : Int), .int .i64 (((us.length : Nat) : Int) - 1), .bool false, .bool false, undef, undef, undef, undef, undef, .bool false, .bool false, (u9 54), (u9 55), (u9 56), (u9 57), (u9 58), (u9 59), (u9 60), (u9 61), (u9 62), undef], []⟩) (by kernel_rfl) ?_
        refine wp_cond_false (by kernel_rfl) ?_
        refine wp_skip ?_
        refine hK30 _ _ ?_
        try clear hK30 K30
        refine wh_region (fun w' => Mem NoS w w' [((G25 13), .cells #[.int .i64 f, .int .i64 ((f - (2 * s.num * ((us.getD i u0).bits))) + (s.br * s.den * ((us.getD i u0).fields)))] 54 (0, 0)), (g19, .cells #[.int .i64 ((us.getD i u0).first), .int .i64 ((us.getD i u0).last), .int .i64 ((us.getD i u0).bits), .int .i64 ((us.getD i u0).fields)] 60 (0, 0)), (g2, .cells (sqv s) 63 (0, 0))]) (by kernel_rfl) (by kernel_rfl) (fun d _ _ _ _ h => by cases d <;> exact h) 8 rfl #[false, false, false, false, false, false, false, false] rfl ?_
        intro R60
        have M62 := M59.drew
        have hS63 : Mem NoS w W58.drew [((G25 13), .cells #[.int .i64 f, .int .i64 ((f - (2 * s.num * ((us.getD i u0).bits))) + (s.br * s.den * ((us.getD i u0).fields)))] 54 (0, 0)), (g19, .cells #[.int .i64 ((us.getD i u0).first), .int .i64 ((us.getD i u0).last), .int .i64 ((us.getD i u0).bits), .int .i64 ((us.getD i u0).fields)] 60 (0, 0)), (g2, .cells (sqv s) 63 (0, 0))] := M62.sub (((((List.Sublist.refl []).trans (List.sublist_append_right T1 _)).cons_cons _).cons_cons _).cons_cons _)
        refine wh_take R60 0 (.slice A1 i c1) rfl (by kernel_rfl) (by kernel_rfl) (by kernel_rfl) (fun w' M' => (by kernel_rfl)) hS63 #[true, false, false, false, false, false, false, false] rfl ?_
        refine wh_take R60 1 (.agg #[.int .i64 f, .int .i64 ((f - (2 * s.num * ((us.getD i u0).bits))) + (s.br * s.den * ((us.getD i u0).fields)))]) rfl (by kernel_rfl) (by kernel_rfl) (by kernel_rfl) (fun w' M' => (run_load_row 54 (.tmp 12) rfl (G25 13) (by kernel_rfl) 54 (#[.int .i64 f, .int .i64 ((f - (2 * s.num * ((us.getD i u0).bits))) + (s.br * s.den * ((us.getD i u0).fields)))]) (0, 0) _ (M'.get 0 rfl) Try.underlying54 rfl (by kernel_rfl))) hS63 #[true, true, false, false, false, false, false, false] rfl ?_
        refine wh_take R60 4 (.pointer (some ⟨(G25 13), 1, none⟩)) rfl (by kernel_rfl) (by kernel_rfl) (by kernel_rfl) (fun w' M' => (by kernel_rfl)) hS63 #[true, true, false, false, true, false, false, false] rfl ?_
        refine wh_take R60 5 (.int .i64 ((f - (2 * s.num * ((us.getD i u0).bits))) + (s.br * s.den * ((us.getD i u0).fields)))) rfl (by kernel_rfl) (by kernel_rfl) (by kernel_rfl) (fun w' M' => (run_load_cell 2 (.tmp 60) rfl ⟨(G25 13), 1, none⟩ (by kernel_rfl) _ (M'.cell 0 rfl 1 _ rfl) (by kernel_rfl))) hS63 #[true, true, false, false, true, true, false, false] rfl ?_
        refine wh_new M62 2 (.cells #[.int .i64 f, .int .i64 ((f - (2 * s.num * ((us.getD i u0).bits))) + (s.br * s.den * ((us.getD i u0).fields)))] 54 (0, 0)) (fun g => .slice (some ⟨g, 0, none⟩) 1 1) rfl (by kernel_rfl) (by kernel_rfl) (by kernel_rfl) #[true, true, true, false, true, true, false, false] rfl ?_
        intro g64 W65 M66
        have hS67 : Mem NoS w W65 [((G25 13), .cells #[.int .i64 f, .int .i64 ((f - (2 * s.num * ((us.getD i u0).bits))) + (s.br * s.den * ((us.getD i u0).fields)))] 54 (0, 0)), (g19, .cells #[.int .i64 ((us.getD i u0).first), .int .i64 ((us.getD i u0).last), .int .i64 ((us.getD i u0).bits), .int .i64 ((us.getD i u0).fields)] 60 (0, 0)), (g2, .cells (sqv s) 63 (0, 0))] := M66.sub ((((((List.Sublist.refl []).trans (List.sublist_append_right T1 _)).cons_cons _).cons_cons _).cons_cons _).cons _)
        refine ⟨hS67, ?_⟩
        obtain ⟨v68, T69, W70, hr71, O72, M73⟩ := append_level (A := [(g64, .cells #[.int .i64 f, .int .i64 ((f - (2 * s.num * ((us.getD i u0).bits))) + (s.br * s.den * ((us.getD i u0).fields)))] 54 (0, 0)), ((G25 13), .cells #[.int .i64 f, .int .i64 ((f - (2 * s.num * ((us.getD i u0).bits))) + (s.br * s.den * ((us.getD i u0).fields)))] 54 (0, 0)), (g19, .cells #[.int .i64 ((us.getD i u0).first), .int .i64 ((us.getD i u0).last), .int .i64 ((us.getD i u0).bits), .int .i64 ((us.getD i u0).fields)] 60 (0, 0)), (g2, .cells (sqv s) 63 (0, 0))]) (T := T1) (B := []) M66 45 _ _ _ O1 _ 1 ([.int .i64 f, .int .i64 ((f - (2 * s.num * ((us.getD i u0).bits))) + (s.br * s.den * ((us.getD i u0).fields)))]) (rdk_new (M66.get 0 rfl)) rfl (by intro x hx; simp only [List.mem_cons, List.not_mem_nil, or_false] at hx; rcases hx with rfl | rfl <;> rfl) (by omega)
        have M73 : Mem NoS w W70 ((g64, .cells #[.int .i64 f, .int .i64 ((f - (2 * s.num * ((us.getD i u0).bits))) + (s.br * s.den * ((us.getD i u0).fields)))] 54 (0, 0)) :: ((G25 13), .cells #[.int .i64 f, .int .i64 ((f - (2 * s.num * ((us.getD i u0).bits))) + (s.br * s.den * ((us.getD i u0).fields)))] 54 (0, 0)) :: (g19, .cells #[.int .i64 ((us.getD i u0).first), .int .i64 ((us.getD i u0).last), .int .i64 ((us.getD i u0).bits), .int .i64 ((us.getD i u0).fields)] 60 (0, 0)) :: (g2, .cells (sqv s) 63 (0, 0)) :: (T69 ++ [])) := M73
        obtain ⟨A74, c75, rfl, hc76⟩ := O72.shape
        have hS77 : Mem NoS w W70 [((G25 13), .cells #[.int .i64 f, .int .i64 ((f - (2 * s.num * ((us.getD i u0).bits))) + (s.br * s.den * ((us.getD i u0).fields)))] 54 (0, 0)), (g19, .cells #[.int .i64 ((us.getD i u0).first), .int .i64 ((us.getD i u0).last), .int .i64 ((us.getD i u0).bits), .int .i64 ((us.getD i u0).fields)] 60 (0, 0)), (g2, .cells (sqv s) 63 (0, 0))] := M73.sub ((((((List.Sublist.refl []).trans (List.sublist_append_right T69 _)).cons_cons _).cons_cons _).cons_cons _).cons _)
        refine wh_world 3 (.slice A74 (i + 1) c75) W70 rfl (by kernel_rfl) (by kernel_rfl) (run_append_op (.tmp 56) (.tmp 58) _ rfl (.slice A1 i c1) (.slice (some ⟨g64, 0, none⟩) 1 1) _ (by kernel_rfl) (by kernel_rfl) hr71) #[true, true, true, true, true, true, false, false] rfl hS77 ?_
        refine wh_take R60 6 (.slice A74 (i + 1) c75) rfl (by kernel_rfl) (by kernel_rfl) (by kernel_rfl) (fun w' M' => (by kernel_rfl)) hS77 #[true, true, true, true, true, true, true, false] rfl ?_
        refine wh_take R60 7 (.int .i64 ((f - (2 * s.num * ((us.getD i u0).bits))) + (s.br * s.den * ((us.getD i u0).fields)))) rfl (by kernel_rfl) (by kernel_rfl) (by kernel_rfl) (fun w' M' => (by kernel_rfl)) hS77 #[true, true, true, true, true, true, true, true] rfl ?_
        refine wh_done (by kernel_rfl) ?_
        refine blk_normal ?_
        refine hK14 _ _ ?_
        try clear hK14 K14
        refine wl_region ?_
        refine st_val (.int .i64 ((i : Int) + 1)) (by kernel_rfl) (i64_of (by omega) (by kernel_rfl)) ?_
        refine st_val (.int .i64 ((i : Int) + 1)) (by kernel_rfl) (by kernel_rfl) ?_
        refine wl_nil ?_
        refine th_normal ?_
        exact ⟨_, by omega, (i + 1), ((f - (2 * s.num * ((us.getD i u0).bits))) + (s.br * s.den * ((us.getD i u0).fields))), (p ++ [(f, (f - (2 * s.num * ((us.getD i u0).bits))) + (s.br * s.den * ((us.getD i u0).fields)))]), A74, c75, T69, (fun zz => Array.getD #[.agg (sqv s), .slice A us.length c, .int .i64 start, .pointer (some ⟨g2, 0, none⟩), undef, undef, (u9 6), (u9 7), .slice A74 (i + 1) c75, .int .i64 ((f - (2 * s.num * ((us.getD i u0).bits))) + (s.br * s.den * ((us.getD i u0).fields))), .int .i64 (i : Int), .pointer (some ⟨g19, 0, none⟩), .pointer (some ⟨(G25 13), 0, none⟩), .int .i64 start, .slice A us.length c, .int .i64 ((us.length : Nat) : Int), .int .i64 ((i : Int) + 1), .bool true, .int .i64 (i : Int), .pointer (some ⟨b16, o17 + i * 4, none⟩), .agg #[.int .i64 ((us.getD i u0).first), .int .i64 ((us.getD i u0).last), .int .i64 ((us.getD i u0).bits), .int .i64 ((us.getD i u0).fields)], .int .i64 f, .int .i64 f, .agg (sqv s), .pointer (some ⟨g19, 2, none⟩), .int .i64 ((us.getD i u0).bits), .int .i64 (2 * s.num * ((us.getD i u0).bits)), .int .i64 (f - (2 * s.num * ((us.getD i u0).bits))), .agg (sqv s), .pointer (some ⟨g19, 3, none⟩), .int .i64 ((us.getD i u0).fields), .int .i64 (s.br * s.den * ((us.getD i u0).fields)), .int .i64 ((f - (2 * s.num * ((us.getD i u0).bits))) + (s.br * s.den * ((us.getD i u0).fields))), .agg #[.int .i64 f, .int .i64 ((f - (2 * s.num * ((us.getD i u0).bits))) + (s.br * s.den * ((us.getD i u0).fields)))], .int .i64 f, .agg (sqv s), .pointer (some ⟨g19, 2, none⟩), .int .i64 ((us.getD i u0).bits), .int .i64 (2 * s.num * ((us.getD i u0).bits)), .bool false, .bool false, .int .i64 (i : Int), .slice A us.length c, .int .i64 ((us.length : Nat) : Int), .int .i64 (((us.length : Nat) : Int) - 1), .bool false, .bool false, undef, undef, undef, undef, undef, .bool false, .bool false, (u9 54), (u9 55), .slice A1 i c1, .agg #[.int .i64 f, .int .i64 ((f - (2 * s.num * ((us.getD i u0).bits))) + (s.br * s.den * ((us.getD i u0).fields)))], .slice (some ⟨g64, 0, none⟩) 1 1, .slice A74 (i + 1) c75, .pointer (some ⟨(G25 13), 1, none⟩), .int .i64 ((f - (2 * s.num * ((us.getD i u0).bits))) + (s.br * s.den * ((us.getD i u0).fields))), .int .i64 ((i : Int) + 1), undef] zz undef), ⟨⟨by omega, ⟨by omega, by omega⟩, fun hi => by omega, by rw [lflat_snoc]; exact O72, run_next (by omega) hP c39 (fun h => by omega) rfl⟩, (M73.sub ((((((List.Sublist.refl []).append_left T69).cons_cons _).cons _).cons _).cons _))⟩, rfl, (by kernel_rfl)⟩
  ·
    refine st_val (.bool false) (by kernel_rfl) (bool_of (dec_f c17) (by kernel_rfl)) ?_
    refine wl_nil ?_
    refine hK12 _ _ ?_
    try clear hK12 K12
    refine wp_seq_k (fun K78 hK78 => ?_)
    refine wp_cond_false (by kernel_rfl) ?_
    refine wp_exit ?_
    refine th_exit ?_
    refine th_exit ?_
    refine blk_exit ?_
    refine hK7 _ _ ?_
    try clear hK7 K7
    refine wp_seq_k (fun K79 hK79 => ?_)
    refine wl_region ?_
    refine st_val (.slice A1 i c1) (by kernel_rfl) (by kernel_rfl) ?_
    refine st_val (.slice A1 i c1) (by kernel_rfl) (by kernel_rfl) ?_
    refine st_val (.int .i64 (-1)) (by kernel_rfl) (by kernel_rfl) ?_
    refine wl_nil ?_
    refine hK79 _ _ ?_
    try clear hK79 K79
    refine wp_ret ?_
    have hfin := run_end (by omega) hP
    have hl : p.length = i := by have := O1.len; rw [lflat_len] at this; omega
    exact done2 6 7 (.slice A1 i c1) (.int .i64 (-1)) (by kernel_rfl) (by kernel_rfl) (by kernel_rfl) (by kernel_rfl) ⟨_, T1, rfl, ⟨_, by rw [show runS s us start = (p, none) from hfin]; rfl, fun _ => by rw [show runS s us start = (p, none) from hfin]; show Own _ 2 _ p.length (lflat p) T1; rw [hl]; exact O1⟩, M11.sub ((List.sublist_append_left T1 []).cons _)⟩
end Go.Proofs.Ytolfkaljbgpkhaa
