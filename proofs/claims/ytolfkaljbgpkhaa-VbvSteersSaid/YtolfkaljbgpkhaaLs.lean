/- The walk of VbvSteers. -/
import Derived.Test.YtolfkaljbgpkhaaPdd
namespace Go.Proofs.Ytolfkaljbgpkhaa
open Go.RowKit

theorem padAll_PU {s : SeqD} {us : List UnitD} {st : Int} {q : List Int × Int} (hp : PR s us st) (hq : padR s us st = some q) (hlen : q.1.length = us.length) : ∀ i, i < us.length → (0 ≤ (us.getD i u0).bits ∧ (us.getD i u0).bits ≤ 8388608) ∧ 0 ≤ q.1.getD i 0 ∧ 8 * q.1.getD i 0 ≤ 100000000000000 := by
  intro i hi
  obtain ⟨h1, h2, h3⟩ := SV_cap hp.1
  obtain ⟨vn1, vn2, vd1, vd2, vb1, vb2, vu1, vu2, vP, vQ, vR⟩ := SV_facts hp.1
  have hx := hp.2.2.1
  rw [capS_t hp.1] at hx
  have hb := hp.2.2.2.2 i hi
  have h := padO_pads (c := 2 * s.num) (d := s.br * s.den) (cap := 2 * s.num * s.bu) (by omega) h2 h3 us st hp.2.2.2.2 hp.2.1 hx hq i (by omega)
  exact ⟨⟨hb.1, hb.2.1⟩, h.1, by omega⟩
theorem padAll_PR {s : SeqD} {us : List UnitD} {st : Int} {q : List Int × Int} (hp : PR s us st) (hq : padR s us st = some q) (hlen : q.1.length = us.length) (hB : ∀ j, j < us.length → ¬ ((padAll us q.1).getD j u0).bits > 8388608) : PR s (padAll us q.1) st := by
  refine ⟨hp.1, hp.2.1, hp.2.2.1, by rw [padAll_len]; exact hp.2.2.2.1, fun j hj => ?_⟩
  rw [padAll_len] at hj
  have h := padAll_PU hp hq hlen j hj
  have h2 := hB j hj
  have h3 := hp.2.2.2.2 j hj
  rw [padAll_getD us q.1 j hj (by omega)] at h2 ⊢
  exact ⟨show 0 ≤ (us.getD j u0).bits + 8 * q.1.getD j 0 by omega, by have : ¬ ((us.getD j u0).bits + 8 * q.1.getD j 0 > 8388608) := h2; show (us.getD j u0).bits + 8 * q.1.getD j 0 ≤ 8388608; omega, h3.2.2⟩
theorem steer_run {s : SeqD} {us : List UnitD} {st : Int} {q : List Int × Int} (hp : PR s us st) (hq : padR s us st = some q) (hlen : q.1.length = us.length) (hcap : 3 * (s.br * s.den) + 16 * (2 * s.num) ≤ 2 * s.num * s.bu) (hB : ∀ j, j < us.length → ¬ ((padAll us q.1).getD j u0).bits > 8388608) : rE s (padAll us q.1) st = 0 := by
  obtain ⟨h1, h2, h3⟩ := SV_cap hp.1
  exact (r_ok (padAll_PR hp hq hlen hB) (steer h1 h2 hcap us st hp.2.2.2.2 hq).1).1
theorem uget_set_self {α : Type} (l : List α) (k : Nat) (x d : α) (h : k < l.length) : (l.set k x).getD k d = x := by
  rw [List.getD_eq_getElem?_getD, List.getElem?_set_self h]; rfl
theorem uget_set_ne {α : Type} (l : List α) (k j : Nat) (x d : α) (h : k ≠ j) : (l.set k x).getD j d = l.getD j d := by
  rw [List.getD_eq_getElem?_getD, List.getElem?_set_ne h, ← List.getD_eq_getElem?_getD]
theorem steer_first {s : SeqD} {us : List UnitD} {st : Int} {q : List Int × Int} (hp : PR s us st) (hq : padR s us st = some q) (hlen : q.1.length = us.length) (hcap : 3 * (s.br * s.den) + 16 * (2 * s.num) ≤ 2 * s.num * s.bu) (hB : ∀ j, j < us.length → ¬ ((padAll us q.1).getD j u0).bits > 8388608)
    {k : Nat} (hk : k < q.1.length) (h0 : ¬ q.1.getD k 0 = 0) : fI s ((padAll us q.1).set k { (padAll us q.1).getD k u0 with bits := ((padAll us q.1).getD k u0).bits - 8 }) st = (k : Int) := by
  obtain ⟨h1, h2, h3⟩ := SV_cap hp.1
  have hpr := padAll_PR hp hq hlen hB
  have hpr' : PR s ((padAll us q.1).set k { (padAll us q.1).getD k u0 with bits := ((padAll us q.1).getD k u0).bits - 8 }) st := by
    refine ⟨hpr.1, hpr.2.1, hpr.2.2.1, by rw [List.length_set]; exact hpr.2.2.2.1, fun j hj => ?_⟩
    rw [List.length_set] at hj
    by_cases e : k = j
    · subst e
      rw [uget_set_self _ _ _ _ hj]
      have h := hpr.2.2.2.2 k hj
      have hh := padAll_PU hp hq hlen k (by omega)
      have e : ((padAll us q.1).getD k u0).bits = (us.getD k u0).bits + 8 * q.1.getD k 0 := by rw [padAll_getD us q.1 k (by omega) hk]; rfl
      exact ⟨show 0 ≤ ((padAll us q.1).getD k u0).bits - 8 by omega, by have := h.2.1; show ((padAll us q.1).getD k u0).bits - 8 ≤ 8388608; omega, h.2.2⟩
    · rw [uget_set_ne _ _ _ _ _ e]
      exact hpr.2.2.2.2 j hj
  rw [fI_ok hpr']
  have := (steer h1 h2 hcap us st hp.2.2.2.2 hq).2 k hk h0
  show runI (runO (2 * s.num) (s.br * s.den) (2 * s.num * s.bu) st ((padAll us q.1).set k (less8 ((padAll us q.1).getD k u0)))).2 = k
  rw [this]
  rfl
set_option maxHeartbeats 4000000 in
set_option maxRecDepth 100000 in
theorem VbvSteers_walkN (w : World) (s : SeqD) (hs : SOk s) (v0 : Value) (us0 : List UnitD) (hr0 : RdK w v0 us0.length (flat us0)) (hu0 : UOk us0) (st : Int) (hst : -9223372036854775808 ≤ st ∧ st ≤ 9223372036854775807) (k : Int) (hk : k < 0) : Calls Try.prog 10 #[.agg (sqv s), v0, .int .i64 st, .int .i64 k] w fun e w' => e = .returned (.bool true) ∧ Below w.heap.size w w' := by
  obtain ⟨A0, c0, rfl, hc0⟩ := hr0.shape
  refine calls_of_wp Try.func10 rfl ?_
  refine wp_frame (a' := ⟨#[.agg (sqv s), .slice A0 us0.length c0, .int .i64 st, .int .i64 k, undef, undef, undef, undef, undef, undef, undef, undef, undef, undef, undef, undef, undef, undef, undef, undef, undef, undef, undef, undef, undef, undef, undef, undef, undef, undef, undef, undef, undef, undef, undef, undef, undef, undef, undef, undef, undef, undef, undef, undef, undef, undef, undef, undef, undef, undef, undef, undef, undef, undef, undef, undef, undef, undef, undef, undef, undef, undef, undef, undef, undef, undef, undef, undef, undef, undef, undef, undef, undef, undef, undef, undef, undef, undef, undef, undef, undef, undef, undef, undef, undef, undef, undef, undef, undef, undef, undef, undef, undef, undef, undef, undef], []⟩) (by kernel_rfl) ?_
  have M0 : Mem NoS w w [] := Mem.start _ _
  refine wp_seq_k (fun K1 hK1 => ?_)
  refine wl_region ?_
  refine st_alloc M0 (.cells (sqv s) 26 (0, 0)) (by kernel_rfl) (by kernel_rfl) ?_
  intro g2 W3 M4
  refine st_val (.bool false) (by kernel_rfl) (by kernel_rfl) ?_
  refine wl_nil ?_
  refine hK1 _ _ ?_
  try clear hK1 K1
  refine wp_seq_k (fun K5 hK5 => ?_)
  refine wp_seq_k (fun K6 hK6 => ?_)
  refine wl_region ?_
  refine st_val (.slice A0 us0.length c0) (by kernel_rfl) (by kernel_rfl) ?_
  refine st_val (.int .i64 ((us0.length : Nat) : Int)) (by kernel_rfl) (by kernel_rfl) ?_
  rcases Decidable.em ((((us0.length : Nat) : Int) : Int) > 100) with c18 | c18
  ·
    refine st_val (.bool true) (by kernel_rfl) (bool_of (dec_t c18) (by kernel_rfl)) ?_
    refine wl_nil ?_
    refine hK6 _ _ ?_
    try clear hK6 K6
    refine wp_cond_true (by kernel_rfl) ?_
    refine wp_seq_k (fun K7 hK7 => ?_)
    refine wl_region ?_
    refine st_val (.bool true) (by kernel_rfl) (by kernel_rfl) ?_
    refine wl_nil ?_
    refine hK7 _ _ ?_
    try clear hK7 K7
    refine wp_ret ?_
    refine th_ret ?_
    exact done1 8 (.bool true) (by kernel_rfl) (by kernel_rfl) (by kernel_rfl) ⟨rfl, M4.toBelow⟩
  ·
    refine st_val (.bool false) (by kernel_rfl) (bool_of (dec_f c18) (by kernel_rfl)) ?_
    refine wl_nil ?_
    refine hK6 _ _ ?_
    try clear hK6 K6
    refine wp_cond_false (by kernel_rfl) ?_
    refine wp_skip ?_
    refine hK5 _ _ ?_
    try clear hK5 K5
    refine wp_seq_k (fun K8 hK8 => ?_)
    refine wl_region ?_
    refine st_val (.slice A0 us0.length c0) (by kernel_rfl) (by kernel_rfl) ?_
    refine st_callR (A := [(g2, .cells (sqv s) 26 (0, 0))]) (B := []) M4 (by kernel_rfl) (run_value_call 19 #[(Operand.tmp 19)] _ rfl Try.func19 (by kernel_rfl) (by kernel_rfl) _ (by kernel_rfl)) (given_walk W3 (.slice A0 us0.length c0) us0 (hr0.keep M4.keep (fun _ _ h => h)) (by omega)) ?_
    intro v9 T10 W11 O12 M13
    have M13 : Mem NoS w W11 ((g2, .cells (sqv s) 26 (0, 0)) :: (T10 ++ [])) := M13
    obtain ⟨A14, cq15, rfl, hc16⟩ := O12.shape
    refine st_val (.slice A14 us0.length cq15) (by kernel_rfl) (by kernel_rfl) ?_
    refine wl_nil ?_
    refine hK8 _ _ ?_
    try clear hK8 K8
    refine wp_seq_k (fun K17 hK17 => ?_)
    refine wl_region ?_
    refine st_val (.agg (sqv s)) (by kernel_rfl) (run_load_row 26 (.tmp 4) rfl g2 (by kernel_rfl) 26 (sqv s) (0, 0) _ (M13.get 0 rfl) Try.underlying26 rfl (infoSq hs.la hs.lb)) ?_
    refine st_val (.slice A14 us0.length cq15) (by kernel_rfl) (by kernel_rfl) ?_
    refine st_val (.int .i64 st) (by kernel_rfl) (by kernel_rfl) ?_
    refine st_callR (A := [(g2, .cells (sqv s) 26 (0, 0))]) (B := (T10 ++ [])) M13 (by kernel_rfl) (run_value_call 21 #[(Operand.tmp 22), (Operand.tmp 23), (Operand.tmp 24)] _ rfl Try.func21 (by kernel_rfl) (by kernel_rfl) _ (by kernel_rfl)) (pad_walk W11 s hs (.slice A14 us0.length cq15) us0 (O12.rd (fun p hp => M13.at_ p (List.mem_cons_of_mem _ (List.mem_append_left _ hp)))) st hst) ?_
    intro v18 T19 W20 O21 M22
    have M22 : Mem NoS w W20 ((g2, .cells (sqv s) 26 (0, 0)) :: (T19 ++ (T10 ++ []))) := M22
    obtain ⟨v23, rfl, O24⟩ := O21
    obtain ⟨A25, cq26, rfl, hc27⟩ := O24.shape
    refine st_val (.tuple #[.slice A25 ((padL s us0 st).length) cq26, .int .i64 (padE s us0 st)]) (by kernel_rfl) (by kernel_rfl) ?_
    refine st_val (.slice A25 ((padL s us0 st).length) cq26) (by kernel_rfl) (by kernel_rfl) ?_
    refine st_val (.int .i64 (padE s us0 st)) (by kernel_rfl) (by kernel_rfl) ?_
    refine st_val (.slice A25 ((padL s us0 st).length) cq26) (by kernel_rfl) (by kernel_rfl) ?_
    refine st_val (.int .i64 (padE s us0 st)) (by kernel_rfl) (by kernel_rfl) ?_
    refine wl_nil ?_
    refine hK17 _ _ ?_
    try clear hK17 K17
    refine wp_frame (a' := ⟨#[.agg (sqv s), .slice A0 us0.length c0, .int .i64 st, .int .i64 k, .pointer (some ⟨g2, 0, none⟩), undef, undef, undef, .bool false, .slice A14 us0.length cq15, .slice A25 ((padL s us0 st).length) cq26, .int .i64 (padE s us0 st), undef, undef, undef, undef, .slice A0 us0.length c0, .int .i64 ((us0.length : Nat) : Int), .bool false, .slice A0 us0.length c0, .slice A14 us0.length cq15, .tuple #[.slice A25 ((padL s us0 st).length) cq26, .int .i64 (padE s us0 st)], .agg (sqv s), .slice A14 us0.length cq15, .int .i64 st, .tuple #[.slice A25 ((padL s us0 st).length) cq26, .int .i64 (padE s us0 st)], .slice A25 ((padL s us0 st).length) cq26, .int .i64 (padE s us0 st), undef, undef, undef, undef, undef, undef, undef, undef, undef, undef, undef, undef, undef, undef, undef, undef, undef, undef, undef, undef, undef, undef, undef, undef, undef, undef, undef, undef, undef, undef, undef, undef, undef, undef, undef, undef, undef, undef, undef, undef, undef, undef, undef, undef, undef, undef, undef, undef, undef, undef, undef, undef, undef, undef, undef, undef, undef, undef, undef, undef, undef, undef, undef, undef, undef, undef, undef, undef], []⟩) (by kernel_rfl) ?_
    refine wp_seq_k (fun K28 hK28 => ?_)
    refine wp_seq_k (fun K29 hK29 => ?_)
    refine wl_region ?_
    refine st_val (.int .i64 (padE s us0 st)) (by kernel_rfl) (by kernel_rfl) ?_
    rcases Decidable.em ((padE s us0 st : Int) = 0) with c29 | c29
    ·
      obtain ⟨hpr, q, hq, hL, hlen⟩ := pad_ok c29
      have hLl : (padL s us0 st).length = us0.length := by rw [hL]; exact hlen
      have hv := hpr.1
      obtain ⟨vn1, vn2, vd1, vd2, vb1, vb2, vu1, vu2, vP, vQ, vR⟩ := SV_facts hv
      have hcm : 3 * s.den * s.br = 3 * (s.br * s.den) := by rw [Int.mul_assoc, Int.mul_comm s.den]
      have hbs := padAll_PU hpr hq hlen
      rw [← hL] at hbs
      refine st_val (.bool false) (by kernel_rfl) (bool_of (neq_f c29) (by kernel_rfl)) ?_
      refine wl_nil ?_
      refine hK29 _ _ ?_
      try clear hK29 K29
      refine wp_cond_false (by kernel_rfl) ?_
      refine wp_skip ?_
      refine hK28 _ _ ?_
      try clear hK28 K28
      refine wp_seq_k (fun K30 hK30 => ?_)
      refine wp_seq_k (fun K31 hK31 => ?_)
      refine wl_region ?_
      refine st_val (.slice A25 ((padL s us0 st).length) cq26) (by kernel_rfl) (by kernel_rfl) ?_
      refine st_val (.int .i64 (((padL s us0 st).length : Nat) : Int)) (by kernel_rfl) (by kernel_rfl) ?_
      refine st_val (.slice A14 us0.length cq15) (by kernel_rfl) (by kernel_rfl) ?_
      refine st_val (.int .i64 ((us0.length : Nat) : Int)) (by kernel_rfl) (by kernel_rfl) ?_
      refine st_val (.bool false) (by kernel_rfl) (bool_of (neq_f (show ((((padL s us0 st).length : Nat) : Int) : Int) = ((us0.length : Nat) : Int) from (show (((padL s us0 st).length : Nat) : Int) = ((us0.length : Nat) : Int) by rw [hLl]))) (by kernel_rfl)) ?_
      refine wl_nil ?_
      refine hK31 _ _ ?_
      try clear hK31 K31
      refine wp_cond_false (by kernel_rfl) ?_
      refine wp_skip ?_
      refine hK30 _ _ ?_
      try clear hK30 K30
      refine wp_seq_k (fun K32 hK32 => ?_)
      refine wl_region ?_
      refine st_val (.slice A14 us0.length cq15) (by kernel_rfl) (by kernel_rfl) ?_
      refine st_val (.slice A25 ((padL s us0 st).length) cq26) (by kernel_rfl) (by kernel_rfl) ?_
      refine st_callR (A := [(g2, .cells (sqv s) 26 (0, 0))]) (B := (T19 ++ (T10 ++ []))) M22 (by kernel_rfl) (run_value_call 29 #[(Operand.tmp 36), (Operand.tmp 37)] _ rfl Try.func29 (by kernel_rfl) (by kernel_rfl) _ (by kernel_rfl)) (padded_walk W20 (.slice A14 us0.length cq15) us0 (O12.rd (fun p hp => M22.at_ p (List.mem_cons_of_mem _ (List.mem_append_right _ (List.mem_append_left _ hp))))) (padL s us0 st) (.slice A25 ((padL s us0 st).length) cq26) (O24.rd (fun p hp => M22.at_ p (List.mem_cons_of_mem _ (List.mem_append_left _ hp)))) hLl (by omega) hbs) ?_
      intro v33 T34 W35 O36 M37
      have M37 : Mem NoS w W35 ((g2, .cells (sqv s) 26 (0, 0)) :: (T34 ++ (T19 ++ (T10 ++ [])))) := M37
      obtain ⟨A38, cq39, rfl, hc40⟩ := O36.shape
      refine st_val (.slice A38 us0.length cq39) (by kernel_rfl) (by kernel_rfl) ?_
      refine wl_nil ?_
      refine hK32 _ _ ?_
      try clear hK32 K32
      refine wp_seq_k (fun K41 hK41 => ?_)
      refine wp_seq_k (fun K42 hK42 => ?_)
      refine wl_region ?_
      refine st_val (.int .i64 0) (by kernel_rfl) (by kernel_rfl) ?_
      refine wl_nil ?_
      refine hK42 _ _ ?_
      try clear hK42 K42
      refine wp_block ?_
      refine wp_loop_ghost (fun gn a' w' => ∃ (i : Nat) (u43 : Nat → Value), ((i ≤ us0.length ∧ ∀ j, j < i → ¬ ((padAll us0 (padL s us0 st)).getD j u0).bits > 8388608) ∧ Mem NoS w w' ((g2, .cells (sqv s) 26 (0, 0)) :: (T34 ++ (T19 ++ (T10 ++ []))))) ∧ gn = us0.length - i ∧ a' = ⟨#[.agg (sqv s), .slice A0 us0.length c0, .int .i64 st, .int .i64 k, .pointer (some ⟨g2, 0, none⟩), undef, undef, undef, (u43 8), .slice A14 us0.length cq15, .slice A25 ((padL s us0 st).length) cq26, .int .i64 (padE s us0 st), .slice A38 us0.length cq39, .int .i64 (i : Int), undef, undef, .slice A0 us0.length c0, .int .i64 ((us0.length : Nat) : Int), .bool false, .slice A0 us0.length c0, .slice A14 us0.length cq15, .tuple #[.slice A25 ((padL s us0 st).length) cq26, .int .i64 (padE s us0 st)], .agg (sqv s), .slice A14 us0.length cq15, .int .i64 st, .tuple #[.slice A25 ((padL s us0 st).length) cq26, .int .i64 (padE s us0 st)], .slice A25 ((padL s us0 st).length) cq26, .int .i64 (padE s us0 st), .int .i64 (padE s us0 st), .bool false, undef, .slice A25 ((padL s us0 st).length) cq26, .int .i64 (((padL s us0 st).length : Nat) : Int), .slice A14 us0.length cq15, .int .i64 ((us0.length : Nat) : Int), .bool false, .slice A14 us0.length cq15, .slice A25 ((padL s us0 st).length) cq26, .slice A38 us0.length cq39, (u43 39), (u43 40), (u43 41), (u43 42), (u43 43), (u43 44), (u43 45), (u43 46), (u43 47), (u43 48), (u43 49), (u43 50), (u43 51), undef, undef, undef, undef, undef, undef, undef, undef, undef, undef, undef, undef, undef, undef, undef, undef, undef, undef, undef, undef, undef, undef, undef, undef, undef, undef, undef, undef, undef, undef, undef, undef, undef, undef, undef, undef, undef, undef, undef, undef, undef, undef, undef, undef], []⟩) _ ⟨0, (fun zz => Array.getD #[.agg (sqv s), .slice A0 us0.length c0, .int .i64 st, .int .i64 k, .pointer (some ⟨g2, 0, none⟩), undef, undef, undef, .bool false, .slice A14 us0.length cq15, .slice A25 ((padL s us0 st).length) cq26, .int .i64 (padE s us0 st), .slice A38 us0.length cq39, .int .i64 0, undef, undef, .slice A0 us0.length c0, .int .i64 ((us0.length : Nat) : Int), .bool false, .slice A0 us0.length c0, .slice A14 us0.length cq15, .tuple #[.slice A25 ((padL s us0 st).length) cq26, .int .i64 (padE s us0 st)], .agg (sqv s), .slice A14 us0.length cq15, .int .i64 st, .tuple #[.slice A25 ((padL s us0 st).length) cq26, .int .i64 (padE s us0 st)], .slice A25 ((padL s us0 st).length) cq26, .int .i64 (padE s us0 st), .int .i64 (padE s us0 st), .bool false, undef, .slice A25 ((padL s us0 st).length) cq26, .int .i64 (((padL s us0 st).length : Nat) : Int), .slice A14 us0.length cq15, .int .i64 ((us0.length : Nat) : Int), .bool false, .slice A14 us0.length cq15, .slice A25 ((padL s us0 st).length) cq26, .slice A38 us0.length cq39, undef, undef, undef, undef, undef, undef, undef, undef, undef, undef, undef, undef, undef, undef, undef, undef, undef, undef, undef, undef, undef, undef, undef, undef, undef, undef, undef, undef, undef, undef, undef, undef, undef, undef, undef, undef, undef, undef, undef, undef, undef, undef, undef, undef, undef, undef, undef, undef, undef, undef, undef, undef, undef, undef, undef, undef, undef] zz undef), ⟨⟨by omega, fun j hj => by omega⟩, M37⟩, rfl, (by kernel_rfl)⟩ ?_
      rintro gn _ W44 ⟨i, u43, ⟨⟨ri, hB⟩, M45⟩, rfl, rfl⟩
      refine wp_seq_k (fun K46 hK46 => ?_)
      refine wp_seq_k (fun K47 hK47 => ?_)
      refine wl_region ?_
      refine st_val (.int .i64 (i : Int)) (by kernel_rfl) (by kernel_rfl) ?_
      refine st_val (.slice A38 us0.length cq39) (by kernel_rfl) (by kernel_rfl) ?_
      refine st_val (.int .i64 ((us0.length : Nat) : Int)) (by kernel_rfl) (by kernel_rfl) ?_
      rcases Decidable.em (((i : Int) : Int) < ((us0.length : Nat) : Int)) with c42 | c42
      ·
        refine st_val (.bool true) (by kernel_rfl) (bool_of (dec_t c42) (by kernel_rfl)) ?_
        refine wl_nil ?_
        refine hK47 _ _ ?_
        try clear hK47 K47
        refine wp_cond_true (by kernel_rfl) ?_
        refine wp_skip ?_
        refine hK46 _ _ ?_
        try clear hK46 K46
        refine wp_seq_k (fun K48 hK48 => ?_)
        refine wp_block ?_
        refine wp_seq_k (fun K49 hK49 => ?_)
        refine wl_region ?_
        refine st_val (.slice A38 us0.length cq39) (by kernel_rfl) (by kernel_rfl) ?_
        refine st_val (.int .i64 (i : Int)) (by kernel_rfl) (by kernel_rfl) ?_
        obtain ⟨b50, o51, eA52⟩ := RdK.addr (O36.rd (fun p hp => M45.at_ p (List.mem_cons_of_mem _ (List.mem_append_left _ hp)))) (j := i * 4) (by rw [flat_len, padAll_len]; omega)
        refine st_val (.pointer (some ⟨b50, o51 + i * 4, none⟩)) (by kernel_rfl) (run_indexSliceA 36 (.tmp 45) (.tmp 46) rfl A38 ⟨b50, o51, none⟩ eA52 us0.length cq39 .i64 i (by kernel_rfl) (by kernel_rfl) Try.underlying36 4 (by kernel_rfl) (by omega) ⟨b50, o51 + i * 4, none⟩ (addr_atK _ _ _ _)) ?_
        refine st_val (.pointer (some ⟨b50, o51 + i * 4 + 2, none⟩)) (by kernel_rfl) (by kernel_rfl) ?_
        refine st_val (.int .i64 (((padAll us0 (padL s us0 st)).getD i u0).bits)) (by kernel_rfl) (run_load_cell 2 (.tmp 48) rfl ⟨b50, o51 + i * 4 + 2, none⟩ (by kernel_rfl) _ ((O36.rd (fun p hp => M45.at_ p (List.mem_cons_of_mem _ (List.mem_append_left _ hp)))).cellF eA52 (f := 2) (flat_get (padAll us0 (padL s us0 st)) i 2 (by omega) (by rw [padAll_len]; omega))) (by kernel_rfl)) ?_
        rcases Decidable.em ((((padAll us0 (padL s us0 st)).getD i u0).bits : Int) > 8388608) with c50 | c50
        ·
          refine st_val (.bool true) (by kernel_rfl) (bool_of (dec_t c50) (by kernel_rfl)) ?_
          refine wl_nil ?_
          refine hK49 _ _ ?_
          try clear hK49 K49
          refine wp_cond_true (by kernel_rfl) ?_
          refine wp_seq_k (fun K53 hK53 => ?_)
          refine wl_region ?_
          refine st_callB M45 (.bool true) (by kernel_rfl) (args := #[]) (run_value_call 11 #[] _ rfl Try.func11 (by kernel_rfl) (by kernel_rfl) _ (by kernel_rfl)) (awake_walk W44) ?_
          intro W54 M55
          refine st_val (.bool true) (by kernel_rfl) (by kernel_rfl) ?_
          refine wl_nil ?_
          refine hK53 _ _ ?_
          try clear hK53 K53
          refine wp_ret ?_
          refine blk_ret ?_
          refine th_ret ?_
          refine th_ret ?_
          refine blk_ret ?_
          refine th_ret ?_
          exact done1 8 (.bool true) (by kernel_rfl) (by kernel_rfl) (by kernel_rfl) ⟨rfl, M55.toBelow⟩
        ·
          refine st_val (.bool false) (by kernel_rfl) (bool_of (dec_f c50) (by kernel_rfl)) ?_
          refine wl_nil ?_
          refine hK49 _ _ ?_
          try clear hK49 K49
          refine wp_cond_false (by kernel_rfl) ?_
          refine wp_skip ?_
          refine blk_normal ?_
          refine hK48 _ _ ?_
          try clear hK48 K48
          refine wl_region ?_
          refine st_val (.int .i64 (i : Int)) (by kernel_rfl) (by kernel_rfl) ?_
          refine st_val (.int .i64 ((i : Int) + 1)) (by kernel_rfl) (i64_of (by omega) (by kernel_rfl)) ?_
          refine st_val (.int .i64 ((i : Int) + 1)) (by kernel_rfl) (by kernel_rfl) ?_
          refine wl_nil ?_
          refine th_normal ?_
          exact ⟨_, by omega, (i + 1), (fun zz => Array.getD #[.agg (sqv s), .slice A0 us0.length c0, .int .i64 st, .int .i64 k, .pointer (some ⟨g2, 0, none⟩), undef, undef, undef, (u43 8), .slice A14 us0.length cq15, .slice A25 ((padL s us0 st).length) cq26, .int .i64 (padE s us0 st), .slice A38 us0.length cq39, .int .i64 ((i : Int) + 1), undef, undef, .slice A0 us0.length c0, .int .i64 ((us0.length : Nat) : Int), .bool false, .slice A0 us0.length c0, .slice A14 us0.length cq15, .tuple #[.slice A25 ((padL s us0 st).length) cq26, .int .i64 (padE s us0 st)], .agg (sqv s), .slice A14 us0.length cq15, .int .i64 st, .tuple #[.slice A25 ((padL s us0 st).length) cq26, .int .i64 (padE s us0 st)], .slice A25 ((padL s us0 st).length) cq26, .int .i64 (padE s us0 st), .int .i64 (padE s us0 st), .bool false, undef, .slice A25 ((padL s us0 st).length) cq26, .int .i64 (((padL s us0 st).length : Nat) : Int), .slice A14 us0.length cq15, .int .i64 ((us0.length : Nat) : Int), .bool false, .slice A14 us0.length cq15, .slice A25 ((padL s us0 st).length) cq26, .slice A38 us0.length cq39, .int .i64 (i : Int), .slice A38 us0.length cq39, .int .i64 ((us0.length : Nat) : Int), .bool true, .int .i64 (i : Int), .int .i64 ((i : Int) + 1), .slice A38 us0.length cq39, .int .i64 (i : Int), .pointer (some ⟨b50, o51 + i * 4, none⟩), .pointer (some ⟨b50, o51 + i * 4 + 2, none⟩), .int .i64 (((padAll us0 (padL s us0 st)).getD i u0).bits), .bool false, (u43 51), undef, undef, undef, undef, undef, undef, undef, undef, undef, undef, undef, undef, undef, undef, undef, undef, undef, undef, undef, undef, undef, undef, undef, undef, undef, undef, undef, undef, undef, undef, undef, undef, undef, undef, undef, undef, undef, undef, undef, undef, undef, undef, undef, undef] zz undef), ⟨⟨by omega, fun j hj => by by_cases e : j = i; subst e; exact c50; exact hB j (by omega)⟩, M45⟩, rfl, (by kernel_rfl)⟩
      ·
        refine st_val (.bool false) (by kernel_rfl) (bool_of (dec_f c42) (by kernel_rfl)) ?_
        refine wl_nil ?_
        refine hK47 _ _ ?_
        try clear hK47 K47
        refine wp_cond_false (by kernel_rfl) ?_
        refine wp_exit ?_
        refine th_exit ?_
        refine th_exit ?_
        refine blk_exit ?_
        refine hK41 _ _ ?_
        try clear hK41 K41
        refine wp_seq_k (fun K56 hK56 => ?_)
        have hi0 : i = us0.length := (by omega)
        rw [hi0, hL] at hB
        have hPl := padAll_len us0 (padL s us0 st)
        refine wl_region ?_
        refine st_val (.agg (sqv s)) (by kernel_rfl) (run_load_row 26 (.tmp 4) rfl g2 (by kernel_rfl) 26 (sqv s) (0, 0) _ (M45.get 0 rfl) Try.underlying26 rfl (infoSq hs.la hs.lb)) ?_
        refine st_val (.slice A38 us0.length cq39) (by kernel_rfl) (by kernel_rfl) ?_
        refine st_val (.int .i64 st) (by kernel_rfl) (by kernel_rfl) ?_
        refine st_callR (A := [(g2, .cells (sqv s) 26 (0, 0))]) (B := (T34 ++ (T19 ++ (T10 ++ [])))) M45 (by kernel_rfl) (run_value_call 23 #[(Operand.tmp 53), (Operand.tmp 54), (Operand.tmp 55)] _ rfl Try.func23 (by kernel_rfl) (by kernel_rfl) _ (by kernel_rfl)) (run_walk W44 s hs (.slice A38 us0.length cq39) (padAll us0 (padL s us0 st)) ((by rw [hPl]; exact O36.rd (fun p hp => M45.at_ p (List.mem_cons_of_mem _ (List.mem_append_left _ hp))))) st) ?_
        intro v57 T58 W59 O60 M61
        have M61 : Mem NoS w W59 ((g2, .cells (sqv s) 26 (0, 0)) :: (T58 ++ (T34 ++ (T19 ++ (T10 ++ []))))) := M61
        obtain ⟨v62, rfl, O63⟩ := O60
        obtain ⟨A64, cq65, rfl, hc66⟩ := O63.shape
        refine st_val (.tuple #[.slice A64 ((rL s (padAll us0 (padL s us0 st)) st).length) cq65, .int .i64 (rE s (padAll us0 (padL s us0 st)) st)]) (by kernel_rfl) (by kernel_rfl) ?_
        refine st_val (.slice A64 ((rL s (padAll us0 (padL s us0 st)) st).length) cq65) (by kernel_rfl) (by kernel_rfl) ?_
        refine st_val (.int .i64 (rE s (padAll us0 (padL s us0 st)) st)) (by kernel_rfl) (by kernel_rfl) ?_
        refine st_val (.slice A64 ((rL s (padAll us0 (padL s us0 st)) st).length) cq65) (by kernel_rfl) (by kernel_rfl) ?_
        refine st_val (.int .i64 (rE s (padAll us0 (padL s us0 st)) st)) (by kernel_rfl) (by kernel_rfl) ?_
        refine wl_nil ?_
        refine hK56 _ _ ?_
        try clear hK56 K56
        refine wp_frame (a' := ⟨#[.agg (sqv s), .slice A0 us0.length c0, .int .i64 st, .int .i64 k, .pointer (some ⟨g2, 0, none⟩), undef, undef, undef, (u43 8), .slice A14 us0.length cq15, .slice A25 ((padL s us0 st).length) cq26, .int .i64 (padE s us0 st), .slice A38 us0.length cq39, .int .i64 (i : Int), .slice A64 ((rL s (padAll us0 (padL s us0 st)) st).length) cq65, .int .i64 (rE s (padAll us0 (padL s us0 st)) st), .slice A0 us0.length c0, .int .i64 ((us0.length : Nat) : Int), .bool false, .slice A0 us0.length c0, .slice A14 us0.length cq15, .tuple #[.slice A25 ((padL s us0 st).length) cq26, .int .i64 (padE s us0 st)], .agg (sqv s), .slice A14 us0.length cq15, .int .i64 st, .tuple #[.slice A25 ((padL s us0 st).length) cq26, .int .i64 (padE s us0 st)], .slice A25 ((padL s us0 st).length) cq26, .int .i64 (padE s us0 st), .int .i64 (padE s us0 st), .bool false, undef, .slice A25 ((padL s us0 st).length) cq26, .int .i64 (((padL s us0 st).length : Nat) : Int), .slice A14 us0.length cq15, .int .i64 ((us0.length : Nat) : Int), .bool false, .slice A14 us0.length cq15, .slice A25 ((padL s us0 st).length) cq26, .slice A38 us0.length cq39, .int .i64 (i : Int), .slice A38 us0.length cq39, .int .i64 ((us0.length : Nat) : Int), .bool false, (u43 43), (u43 44), (u43 45), (u43 46), (u43 47), (u43 48), (u43 49), (u43 50), (u43 51), .tuple #[.slice A64 ((rL s (padAll us0 (padL s us0 st)) st).length) cq65, .int .i64 (rE s (padAll us0 (padL s us0 st)) st)], .agg (sqv s), .slice A38 us0.length cq39, .int .i64 st, .tuple #[.slice A64 ((rL s (padAll us0 (padL s us0 st)) st).length) cq65, .int .i64 (rE s (padAll us0 (padL s us0 st)) st)], .slice A64 ((rL s (padAll us0 (padL s us0 st)) st).length) cq65, .int .i64 (rE s (padAll us0 (padL s us0 st)) st), undef, undef, undef, undef, undef, undef, undef, undef, undef, undef, undef, undef, undef, undef, undef, undef, undef, undef, undef, undef, undef, undef, undef, undef, undef, undef, undef, undef, undef, undef, undef, undef, undef, undef, undef, undef, undef], []⟩) (by kernel_rfl) ?_
        refine wp_seq_k (fun K67 hK67 => ?_)
        refine wp_seq_k (fun K68 hK68 => ?_)
        refine wl_region ?_
        refine st_val (.int .i64 (rE s (padAll us0 (padL s us0 st)) st)) (by kernel_rfl) (by kernel_rfl) ?_
        refine st_val (.bool false) (by kernel_rfl) (bool_of (neq_f (show (rE s (padAll us0 (padL s us0 st)) st : Int) = 0 from (by have h := steer_run hpr hq hlen (by omega) hB; rw [← hL] at h; exact h))) (by kernel_rfl)) ?_
        refine wl_nil ?_
        refine hK68 _ _ ?_
        try clear hK68 K68
        refine wp_cond_false (by kernel_rfl) ?_
        refine wp_skip ?_
        refine hK67 _ _ ?_
        try clear hK67 K67
        refine wp_seq_k (fun K69 hK69 => ?_)
        refine wp_seq_k (fun K70 hK70 => ?_)
        refine wl_region ?_
        refine st_val (.int .i64 k) (by kernel_rfl) (by kernel_rfl) ?_
        refine st_val (.bool true) (by kernel_rfl) (bool_of (dec_t (show (k : Int) < 0 by omega)) (by kernel_rfl)) ?_
        refine st_val (.bool true) (by kernel_rfl) (by kernel_rfl) ?_
        refine st_skip (by kernel_rfl) ?_
        refine st_skip (by kernel_rfl) ?_
        refine st_skip (by kernel_rfl) ?_
        refine st_skip (by kernel_rfl) ?_
        refine st_val (.bool true) (by kernel_rfl) (by kernel_rfl) ?_
        refine st_val (.bool true) (by kernel_rfl) (by kernel_rfl) ?_
        refine st_skip (by kernel_rfl) ?_
        refine st_skip (by kernel_rfl) ?_
        refine st_skip (by kernel_rfl) ?_
        refine st_skip (by kernel_rfl) ?_
        refine st_skip (by kernel_rfl) ?_
        refine st_val (.bool true) (by kernel_rfl) (by kernel_rfl) ?_
        refine wl_nil ?_
        refine hK70 _ _ ?_
        try clear hK70 K70
        refine wp_frame (a' := ⟨#[.agg (sqv s), .slice A0 us0.length c0, .int .i64 st, .int .i64 k, .pointer (some ⟨g2, 0, none⟩), undef, undef, undef, (u43 8), .slice A14 us0.length cq15, .slice A25 ((padL s us0 st).length) cq26, .int .i64 (padE s us0 st), .slice A38 us0.length cq39, .int .i64 (i : Int), .slice A64 ((rL s (padAll us0 (padL s us0 st)) st).length) cq65, .int .i64 (rE s (padAll us0 (padL s us0 st)) st), .slice A0 us0.length c0, .int .i64 ((us0.length : Nat) : Int), .bool false, .slice A0 us0.length c0, .slice A14 us0.length cq15, .tuple #[.slice A25 ((padL s us0 st).length) cq26, .int .i64 (padE s us0 st)], .agg (sqv s), .slice A14 us0.length cq15, .int .i64 st, .tuple #[.slice A25 ((padL s us0 st).length) cq26, .int .i64 (padE s us0 st)], .slice A25 ((padL s us0 st).length) cq26, .int .i64 (padE s us0 st), .int .i64 (padE s us0 st), .bool false, undef, .slice A25 ((padL s us0 st).length) cq26, .int .i64 (((padL s us0 st).length : Nat) : Int), .slice A14 us0.length cq15, .int .i64 ((us0.length : Nat) : Int), .bool false, .slice A14 us0.length cq15, .slice A25 ((padL s us0 st).length) cq26, .slice A38 us0.length cq39, .int .i64 (i : Int), .slice A38 us0.length cq39, .int .i64 ((us0.length : Nat) : Int), .bool false, (u43 43), (u43 44), (u43 45), (u43 46), (u43 47), (u43 48), (u43 49), (u43 50), (u43 51), .tuple #[.slice A64 ((rL s (padAll us0 (padL s us0 st)) st).length) cq65, .int .i64 (rE s (padAll us0 (padL s us0 st)) st)], .agg (sqv s), .slice A38 us0.length cq39, .int .i64 st, .tuple #[.slice A64 ((rL s (padAll us0 (padL s us0 st)) st).length) cq65, .int .i64 (rE s (padAll us0 (padL s us0 st)) st)], .slice A64 ((rL s (padAll us0 (padL s us0 st)) st).length) cq65, .int .i64 (rE s (padAll us0 (padL s us0 st)) st), .int .i64 (rE s (padAll us0 (padL s us0 st)) st), .bool false, .int .i64 k, .bool true, .bool true, undef, undef, undef, undef, .bool true, .bool true, undef, undef, undef, undef, undef, .bool true, undef, undef, undef, undef, undef, undef, undef, undef, undef, undef, undef, undef, undef, undef, undef, undef, undef, undef, undef, undef], []⟩) (by kernel_rfl) ?_
        refine wp_cond_true (by kernel_rfl) ?_
        refine wp_seq_k (fun K71 hK71 => ?_)
        refine wl_region ?_
        refine st_callB M61 (.bool true) (by kernel_rfl) (args := #[]) (run_value_call 11 #[] _ rfl Try.func11 (by kernel_rfl) (by kernel_rfl) _ (by kernel_rfl)) (awake_walk W59) ?_
        intro W72 M73
        refine st_val (.bool true) (by kernel_rfl) (by kernel_rfl) ?_
        refine wl_nil ?_
        refine hK71 _ _ ?_
        try clear hK71 K71
        refine wp_ret ?_
        refine th_ret ?_
        exact done1 8 (.bool true) (by kernel_rfl) (by kernel_rfl) (by kernel_rfl) ⟨rfl, M73.toBelow⟩
    ·
      refine st_val (.bool true) (by kernel_rfl) (bool_of (neq_t c29) (by kernel_rfl)) ?_
      refine wl_nil ?_
      refine hK29 _ _ ?_
      try clear hK29 K29
      refine wp_cond_true (by kernel_rfl) ?_
      refine wp_seq_k (fun K74 hK74 => ?_)
      refine wl_region ?_
      refine st_callB M22 (.bool true) (by kernel_rfl) (args := #[]) (run_value_call 11 #[] _ rfl Try.func11 (by kernel_rfl) (by kernel_rfl) _ (by kernel_rfl)) (awake_walk W20) ?_
      intro W75 M76
      refine st_val (.bool true) (by kernel_rfl) (by kernel_rfl) ?_
      refine wl_nil ?_
      refine hK74 _ _ ?_
      try clear hK74 K74
      refine wp_ret ?_
      refine th_ret ?_
      exact done1 8 (.bool true) (by kernel_rfl) (by kernel_rfl) (by kernel_rfl) ⟨rfl, M76.toBelow⟩
set_option maxHeartbeats 4000000 in
set_option maxRecDepth 100000 in
theorem VbvSteers_walkP (w : World) (s : SeqD) (hs : SOk s) (v0 : Value) (us0 : List UnitD) (hr0 : RdK w v0 us0.length (flat us0)) (hu0 : UOk us0) (st : Int) (hst : -9223372036854775808 ≤ st ∧ st ≤ 9223372036854775807) (k : Nat) : Calls Try.prog 10 #[.agg (sqv s), v0, .int .i64 st, .int .i64 (k : Int)] w fun e w' => e = .returned (.bool true) ∧ Below w.heap.size w w' := by
  obtain ⟨A0, c0, rfl, hc0⟩ := hr0.shape
  refine calls_of_wp Try.func10 rfl ?_
  refine wp_frame (a' := ⟨#[.agg (sqv s), .slice A0 us0.length c0, .int .i64 st, .int .i64 (k : Int), undef, undef, undef, undef, undef, undef, undef, undef, undef, undef, undef, undef, undef, undef, undef, undef, undef, undef, undef, undef, undef, undef, undef, undef, undef, undef, undef, undef, undef, undef, undef, undef, undef, undef, undef, undef, undef, undef, undef, undef, undef, undef, undef, undef, undef, undef, undef, undef, undef, undef, undef, undef, undef, undef, undef, undef, undef, undef, undef, undef, undef, undef, undef, undef, undef, undef, undef, undef, undef, undef, undef, undef, undef, undef, undef, undef, undef, undef, undef, undef, undef, undef, undef, undef, undef, undef, undef, undef, undef, undef, undef, undef], []⟩) (by kernel_rfl) ?_
  have M0 : Mem NoS w w [] := Mem.start _ _
  refine wp_seq_k (fun K1 hK1 => ?_)
  refine wl_region ?_
  refine st_alloc M0 (.cells (sqv s) 26 (0, 0)) (by kernel_rfl) (by kernel_rfl) ?_
  intro g2 W3 M4
  refine st_val (.bool false) (by kernel_rfl) (by kernel_rfl) ?_
  refine wl_nil ?_
  refine hK1 _ _ ?_
  try clear hK1 K1
  refine wp_seq_k (fun K5 hK5 => ?_)
  refine wp_seq_k (fun K6 hK6 => ?_)
  refine wl_region ?_
  refine st_val (.slice A0 us0.length c0) (by kernel_rfl) (by kernel_rfl) ?_
  refine st_val (.int .i64 ((us0.length : Nat) : Int)) (by kernel_rfl) (by kernel_rfl) ?_
  rcases Decidable.em ((((us0.length : Nat) : Int) : Int) > 100) with c18 | c18
  ·
    refine st_val (.bool true) (by kernel_rfl) (bool_of (dec_t c18) (by kernel_rfl)) ?_
    refine wl_nil ?_
    refine hK6 _ _ ?_
    try clear hK6 K6
    refine wp_cond_true (by kernel_rfl) ?_
    refine wp_seq_k (fun K7 hK7 => ?_)
    refine wl_region ?_
    refine st_val (.bool true) (by kernel_rfl) (by kernel_rfl) ?_
    refine wl_nil ?_
    refine hK7 _ _ ?_
    try clear hK7 K7
    refine wp_ret ?_
    refine th_ret ?_
    exact done1 8 (.bool true) (by kernel_rfl) (by kernel_rfl) (by kernel_rfl) ⟨rfl, M4.toBelow⟩
  ·
    refine st_val (.bool false) (by kernel_rfl) (bool_of (dec_f c18) (by kernel_rfl)) ?_
    refine wl_nil ?_
    refine hK6 _ _ ?_
    try clear hK6 K6
    refine wp_cond_false (by kernel_rfl) ?_
    refine wp_skip ?_
    refine hK5 _ _ ?_
    try clear hK5 K5
    refine wp_seq_k (fun K8 hK8 => ?_)
    refine wl_region ?_
    refine st_val (.slice A0 us0.length c0) (by kernel_rfl) (by kernel_rfl) ?_
    refine st_callR (A := [(g2, .cells (sqv s) 26 (0, 0))]) (B := []) M4 (by kernel_rfl) (run_value_call 19 #[(Operand.tmp 19)] _ rfl Try.func19 (by kernel_rfl) (by kernel_rfl) _ (by kernel_rfl)) (given_walk W3 (.slice A0 us0.length c0) us0 (hr0.keep M4.keep (fun _ _ h => h)) (by omega)) ?_
    intro v9 T10 W11 O12 M13
    have M13 : Mem NoS w W11 ((g2, .cells (sqv s) 26 (0, 0)) :: (T10 ++ [])) := M13
    obtain ⟨A14, cq15, rfl, hc16⟩ := O12.shape
    refine st_val (.slice A14 us0.length cq15) (by kernel_rfl) (by kernel_rfl) ?_
    refine wl_nil ?_
    refine hK8 _ _ ?_
    try clear hK8 K8
    refine wp_seq_k (fun K17 hK17 => ?_)
    refine wl_region ?_
    refine st_val (.agg (sqv s)) (by kernel_rfl) (run_load_row 26 (.tmp 4) rfl g2 (by kernel_rfl) 26 (sqv s) (0, 0) _ (M13.get 0 rfl) Try.underlying26 rfl (infoSq hs.la hs.lb)) ?_
    refine st_val (.slice A14 us0.length cq15) (by kernel_rfl) (by kernel_rfl) ?_
    refine st_val (.int .i64 st) (by kernel_rfl) (by kernel_rfl) ?_
    refine st_callR (A := [(g2, .cells (sqv s) 26 (0, 0))]) (B := (T10 ++ [])) M13 (by kernel_rfl) (run_value_call 21 #[(Operand.tmp 22), (Operand.tmp 23), (Operand.tmp 24)] _ rfl Try.func21 (by kernel_rfl) (by kernel_rfl) _ (by kernel_rfl)) (pad_walk W11 s hs (.slice A14 us0.length cq15) us0 (O12.rd (fun p hp => M13.at_ p (List.mem_cons_of_mem _ (List.mem_append_left _ hp)))) st hst) ?_
    intro v18 T19 W20 O21 M22
    have M22 : Mem NoS w W20 ((g2, .cells (sqv s) 26 (0, 0)) :: (T19 ++ (T10 ++ []))) := M22
    obtain ⟨v23, rfl, O24⟩ := O21
    obtain ⟨A25, cq26, rfl, hc27⟩ := O24.shape
    refine st_val (.tuple #[.slice A25 ((padL s us0 st).length) cq26, .int .i64 (padE s us0 st)]) (by kernel_rfl) (by kernel_rfl) ?_
    refine st_val (.slice A25 ((padL s us0 st).length) cq26) (by kernel_rfl) (by kernel_rfl) ?_
    refine st_val (.int .i64 (padE s us0 st)) (by kernel_rfl) (by kernel_rfl) ?_
    refine st_val (.slice A25 ((padL s us0 st).length) cq26) (by kernel_rfl) (by kernel_rfl) ?_
    refine st_val (.int .i64 (padE s us0 st)) (by kernel_rfl) (by kernel_rfl) ?_
    refine wl_nil ?_
    refine hK17 _ _ ?_
    try clear hK17 K17
    refine wp_frame (a' := ⟨#[.agg (sqv s), .slice A0 us0.length c0, .int .i64 st, .int .i64 (k : Int), .pointer (some ⟨g2, 0, none⟩), undef, undef, undef, .bool false, .slice A14 us0.length cq15, .slice A25 ((padL s us0 st).length) cq26, .int .i64 (padE s us0 st), undef, undef, undef, undef, .slice A0 us0.length c0, .int .i64 ((us0.length : Nat) : Int), .bool false, .slice A0 us0.length c0, .slice A14 us0.length cq15, .tuple #[.slice A25 ((padL s us0 st).length) cq26, .int .i64 (padE s us0 st)], .agg (sqv s), .slice A14 us0.length cq15, .int .i64 st, .tuple #[.slice A25 ((padL s us0 st).length) cq26, .int .i64 (padE s us0 st)], .slice A25 ((padL s us0 st).length) cq26, .int .i64 (padE s us0 st), undef, undef, undef, undef, undef, undef, undef, undef, undef, undef, undef, undef, undef, undef, undef, undef, undef, undef, undef, undef, undef, undef, undef, undef, undef, undef, undef, undef, undef, undef, undef, undef, undef, undef, undef, undef, undef, undef, undef, undef, undef, undef, undef, undef, undef, undef, undef, undef, undef, undef, undef, undef, undef, undef, undef, undef, undef, undef, undef, undef, undef, undef, undef, undef, undef, undef, undef, undef], []⟩) (by kernel_rfl) ?_
    refine wp_seq_k (fun K28 hK28 => ?_)
    refine wp_seq_k (fun K29 hK29 => ?_)
    refine wl_region ?_
    refine st_val (.int .i64 (padE s us0 st)) (by kernel_rfl) (by kernel_rfl) ?_
    rcases Decidable.em ((padE s us0 st : Int) = 0) with c29 | c29
    ·
      obtain ⟨hpr, q, hq, hL, hlen⟩ := pad_ok c29
      have hLl : (padL s us0 st).length = us0.length := by rw [hL]; exact hlen
      have hv := hpr.1
      obtain ⟨vn1, vn2, vd1, vd2, vb1, vb2, vu1, vu2, vP, vQ, vR⟩ := SV_facts hv
      have hcm : 3 * s.den * s.br = 3 * (s.br * s.den) := by rw [Int.mul_assoc, Int.mul_comm s.den]
      have hbs := padAll_PU hpr hq hlen
      rw [← hL] at hbs
      refine st_val (.bool false) (by kernel_rfl) (bool_of (neq_f c29) (by kernel_rfl)) ?_
      refine wl_nil ?_
      refine hK29 _ _ ?_
      try clear hK29 K29
      refine wp_cond_false (by kernel_rfl) ?_
      refine wp_skip ?_
      refine hK28 _ _ ?_
      try clear hK28 K28
      refine wp_seq_k (fun K30 hK30 => ?_)
      refine wp_seq_k (fun K31 hK31 => ?_)
      refine wl_region ?_
      refine st_val (.slice A25 ((padL s us0 st).length) cq26) (by kernel_rfl) (by kernel_rfl) ?_
      refine st_val (.int .i64 (((padL s us0 st).length : Nat) : Int)) (by kernel_rfl) (by kernel_rfl) ?_
      refine st_val (.slice A14 us0.length cq15) (by kernel_rfl) (by kernel_rfl) ?_
      refine st_val (.int .i64 ((us0.length : Nat) : Int)) (by kernel_rfl) (by kernel_rfl) ?_
      refine st_val (.bool false) (by kernel_rfl) (bool_of (neq_f (show ((((padL s us0 st).length : Nat) : Int) : Int) = ((us0.length : Nat) : Int) from (show (((padL s us0 st).length : Nat) : Int) = ((us0.length : Nat) : Int) by rw [hLl]))) (by kernel_rfl)) ?_
      refine wl_nil ?_
      refine hK31 _ _ ?_
      try clear hK31 K31
      refine wp_cond_false (by kernel_rfl) ?_
      refine wp_skip ?_
      refine hK30 _ _ ?_
      try clear hK30 K30
      refine wp_seq_k (fun K32 hK32 => ?_)
      refine wl_region ?_
      refine st_val (.slice A14 us0.length cq15) (by kernel_rfl) (by kernel_rfl) ?_
      refine st_val (.slice A25 ((padL s us0 st).length) cq26) (by kernel_rfl) (by kernel_rfl) ?_
      refine st_callR (A := [(g2, .cells (sqv s) 26 (0, 0))]) (B := (T19 ++ (T10 ++ []))) M22 (by kernel_rfl) (run_value_call 29 #[(Operand.tmp 36), (Operand.tmp 37)] _ rfl Try.func29 (by kernel_rfl) (by kernel_rfl) _ (by kernel_rfl)) (padded_walk W20 (.slice A14 us0.length cq15) us0 (O12.rd (fun p hp => M22.at_ p (List.mem_cons_of_mem _ (List.mem_append_right _ (List.mem_append_left _ hp))))) (padL s us0 st) (.slice A25 ((padL s us0 st).length) cq26) (O24.rd (fun p hp => M22.at_ p (List.mem_cons_of_mem _ (List.mem_append_left _ hp)))) hLl (by omega) hbs) ?_
      intro v33 T34 W35 O36 M37
      have M37 : Mem NoS w W35 ((g2, .cells (sqv s) 26 (0, 0)) :: (T34 ++ (T19 ++ (T10 ++ [])))) := M37
      obtain ⟨A38, cq39, rfl, hc40⟩ := O36.shape
      refine st_val (.slice A38 us0.length cq39) (by kernel_rfl) (by kernel_rfl) ?_
      refine wl_nil ?_
      refine hK32 _ _ ?_
      try clear hK32 K32
      refine wp_seq_k (fun K41 hK41 => ?_)
      refine wp_seq_k (fun K42 hK42 => ?_)
      refine wl_region ?_
      refine st_val (.int .i64 0) (by kernel_rfl) (by kernel_rfl) ?_
      refine wl_nil ?_
      refine hK42 _ _ ?_
      try clear hK42 K42
      refine wp_block ?_
      refine wp_loop_ghost (fun gn a' w' => ∃ (i : Nat) (u43 : Nat → Value), ((i ≤ us0.length ∧ ∀ j, j < i → ¬ ((padAll us0 (padL s us0 st)).getD j u0).bits > 8388608) ∧ Mem NoS w w' ((g2, .cells (sqv s) 26 (0, 0)) :: (T34 ++ (T19 ++ (T10 ++ []))))) ∧ gn = us0.length - i ∧ a' = ⟨#[.agg (sqv s), .slice A0 us0.length c0, .int .i64 st, .int .i64 (k : Int), .pointer (some ⟨g2, 0, none⟩), undef, undef, undef, (u43 8), .slice A14 us0.length cq15, .slice A25 ((padL s us0 st).length) cq26, .int .i64 (padE s us0 st), .slice A38 us0.length cq39, .int .i64 (i : Int), undef, undef, .slice A0 us0.length c0, .int .i64 ((us0.length : Nat) : Int), .bool false, .slice A0 us0.length c0, .slice A14 us0.length cq15, .tuple #[.slice A25 ((padL s us0 st).length) cq26, .int .i64 (padE s us0 st)], .agg (sqv s), .slice A14 us0.length cq15, .int .i64 st, .tuple #[.slice A25 ((padL s us0 st).length) cq26, .int .i64 (padE s us0 st)], .slice A25 ((padL s us0 st).length) cq26, .int .i64 (padE s us0 st), .int .i64 (padE s us0 st), .bool false, undef, .slice A25 ((padL s us0 st).length) cq26, .int .i64 (((padL s us0 st).length : Nat) : Int), .slice A14 us0.length cq15, .int .i64 ((us0.length : Nat) : Int), .bool false, .slice A14 us0.length cq15, .slice A25 ((padL s us0 st).length) cq26, .slice A38 us0.length cq39, (u43 39), (u43 40), (u43 41), (u43 42), (u43 43), (u43 44), (u43 45), (u43 46), (u43 47), (u43 48), (u43 49), (u43 50), (u43 51), undef, undef, undef, undef, undef, undef, undef, undef, undef, undef, undef, undef, undef, undef, undef, undef, undef, undef, undef, undef, undef, undef, undef, undef, undef, undef, undef, undef, undef, undef, undef, undef, undef, undef, undef, undef, undef, undef, undef, undef, undef, undef, undef, undef], []⟩) _ ⟨0, (fun zz => Array.getD #[.agg (sqv s), .slice A0 us0.length c0, .int .i64 st, .int .i64 (k : Int), .pointer (some ⟨g2, 0, none⟩), undef, undef, undef, .bool false, .slice A14 us0.length cq15, .slice A25 ((padL s us0 st).length) cq26, .int .i64 (padE s us0 st), .slice A38 us0.length cq39, .int .i64 0, undef, undef, .slice A0 us0.length c0, .int .i64 ((us0.length : Nat) : Int), .bool false, .slice A0 us0.length c0, .slice A14 us0.length cq15, .tuple #[.slice A25 ((padL s us0 st).length) cq26, .int .i64 (padE s us0 st)], .agg (sqv s), .slice A14 us0.length cq15, .int .i64 st, .tuple #[.slice A25 ((padL s us0 st).length) cq26, .int .i64 (padE s us0 st)], .slice A25 ((padL s us0 st).length) cq26, .int .i64 (padE s us0 st), .int .i64 (padE s us0 st), .bool false, undef, .slice A25 ((padL s us0 st).length) cq26, .int .i64 (((padL s us0 st).length : Nat) : Int), .slice A14 us0.length cq15, .int .i64 ((us0.length : Nat) : Int), .bool false, .slice A14 us0.length cq15, .slice A25 ((padL s us0 st).length) cq26, .slice A38 us0.length cq39, undef, undef, undef, undef, undef, undef, undef, undef, undef, undef, undef, undef, undef, undef, undef, undef, undef, undef, undef, undef, undef, undef, undef, undef, undef, undef, undef, undef, undef, undef, undef, undef, undef, undef, undef, undef, undef, undef, undef, undef, undef, undef, undef, undef, undef, undef, undef, undef, undef, undef, undef, undef, undef, undef, undef, undef, undef] zz undef), ⟨⟨by omega, fun j hj => by omega⟩, M37⟩, rfl, (by kernel_rfl)⟩ ?_
      rintro gn _ W44 ⟨i, u43, ⟨⟨ri, hB⟩, M45⟩, rfl, rfl⟩
      refine wp_seq_k (fun K46 hK46 => ?_)
      refine wp_seq_k (fun K47 hK47 => ?_)
      refine wl_region ?_
      refine st_val (.int .i64 (i : Int)) (by kernel_rfl) (by kernel_rfl) ?_
      refine st_val (.slice A38 us0.length cq39) (by kernel_rfl) (by kernel_rfl) ?_
      refine st_val (.int .i64 ((us0.length : Nat) : Int)) (by kernel_rfl) (by kernel_rfl) ?_
      rcases Decidable.em (((i : Int) : Int) < ((us0.length : Nat) : Int)) with c42 | c42
      ·
        refine st_val (.bool true) (by kernel_rfl) (bool_of (dec_t c42) (by kernel_rfl)) ?_
        refine wl_nil ?_
        refine hK47 _ _ ?_
        try clear hK47 K47
        refine wp_cond_true (by kernel_rfl) ?_
        refine wp_skip ?_
        refine hK46 _ _ ?_
        try clear hK46 K46
        refine wp_seq_k (fun K48 hK48 => ?_)
        refine wp_block ?_
        refine wp_seq_k (fun K49 hK49 => ?_)
        refine wl_region ?_
        refine st_val (.slice A38 us0.length cq39) (by kernel_rfl) (by kernel_rfl) ?_
        refine st_val (.int .i64 (i : Int)) (by kernel_rfl) (by kernel_rfl) ?_
        obtain ⟨b50, o51, eA52⟩ := RdK.addr (O36.rd (fun p hp => M45.at_ p (List.mem_cons_of_mem _ (List.mem_append_left _ hp)))) (j := i * 4) (by rw [flat_len, padAll_len]; omega)
        refine st_val (.pointer (some ⟨b50, o51 + i * 4, none⟩)) (by kernel_rfl) (run_indexSliceA 36 (.tmp 45) (.tmp 46) rfl A38 ⟨b50, o51, none⟩ eA52 us0.length cq39 .i64 i (by kernel_rfl) (by kernel_rfl) Try.underlying36 4 (by kernel_rfl) (by omega) ⟨b50, o51 + i * 4, none⟩ (addr_atK _ _ _ _)) ?_
        refine st_val (.pointer (some ⟨b50, o51 + i * 4 + 2, none⟩)) (by kernel_rfl) (by kernel_rfl) ?_
        refine st_val (.int .i64 (((padAll us0 (padL s us0 st)).getD i u0).bits)) (by kernel_rfl) (run_load_cell 2 (.tmp 48) rfl ⟨b50, o51 + i * 4 + 2, none⟩ (by kernel_rfl) _ ((O36.rd (fun p hp => M45.at_ p (List.mem_cons_of_mem _ (List.mem_append_left _ hp)))).cellF eA52 (f := 2) (flat_get (padAll us0 (padL s us0 st)) i 2 (by omega) (by rw [padAll_len]; omega))) (by kernel_rfl)) ?_
        rcases Decidable.em ((((padAll us0 (padL s us0 st)).getD i u0).bits : Int) > 8388608) with c50 | c50
        ·
          refine st_val (.bool true) (by kernel_rfl) (bool_of (dec_t c50) (by kernel_rfl)) ?_
          refine wl_nil ?_
          refine hK49 _ _ ?_
          try clear hK49 K49
          refine wp_cond_true (by kernel_rfl) ?_
          refine wp_seq_k (fun K53 hK53 => ?_)
          refine wl_region ?_
          refine st_callB M45 (.bool true) (by kernel_rfl) (args := #[]) (run_value_call 11 #[] _ rfl Try.func11 (by kernel_rfl) (by kernel_rfl) _ (by kernel_rfl)) (awake_walk W44) ?_
          intro W54 M55
          refine st_val (.bool true) (by kernel_rfl) (by kernel_rfl) ?_
          refine wl_nil ?_
          refine hK53 _ _ ?_
          try clear hK53 K53
          refine wp_ret ?_
          refine blk_ret ?_
          refine th_ret ?_
          refine th_ret ?_
          refine blk_ret ?_
          refine th_ret ?_
          exact done1 8 (.bool true) (by kernel_rfl) (by kernel_rfl) (by kernel_rfl) ⟨rfl, M55.toBelow⟩
        ·
          refine st_val (.bool false) (by kernel_rfl) (bool_of (dec_f c50) (by kernel_rfl)) ?_
          refine wl_nil ?_
          refine hK49 _ _ ?_
          try clear hK49 K49
          refine wp_cond_false (by kernel_rfl) ?_
          refine wp_skip ?_
          refine blk_normal ?_
          refine hK48 _ _ ?_
          try clear hK48 K48
          refine wl_region ?_
          refine st_val (.int .i64 (i : Int)) (by kernel_rfl) (by kernel_rfl) ?_
          refine st_val (.int .i64 ((i : Int) + 1)) (by kernel_rfl) (i64_of (by omega) (by kernel_rfl)) ?_
          refine st_val (.int .i64 ((i : Int) + 1)) (by kernel_rfl) (by kernel_rfl) ?_
          refine wl_nil ?_
          refine th_normal ?_
          exact ⟨_, by omega, (i + 1), (fun zz => Array.getD #[.agg (sqv s), .slice A0 us0.length c0, .int .i64 st, .int .i64 (k : Int), .pointer (some ⟨g2, 0, none⟩), undef, undef, undef, (u43 8), .slice A14 us0.length cq15, .slice A25 ((padL s us0 st).length) cq26, .int .i64 (padE s us0 st), .slice A38 us0.length cq39, .int .i64 ((i : Int) + 1), undef, undef, .slice A0 us0.length c0, .int .i64 ((us0.length : Nat) : Int), .bool false, .slice A0 us0.length c0, .slice A14 us0.length cq15, .tuple #[.slice A25 ((padL s us0 st).length) cq26, .int .i64 (padE s us0 st)], .agg (sqv s), .slice A14 us0.length cq15, .int .i64 st, .tuple #[.slice A25 ((padL s us0 st).length) cq26, .int .i64 (padE s us0 st)], .slice A25 ((padL s us0 st).length) cq26, .int .i64 (padE s us0 st), .int .i64 (padE s us0 st), .bool false, undef, .slice A25 ((padL s us0 st).length) cq26, .int .i64 (((padL s us0 st).length : Nat) : Int), .slice A14 us0.length cq15, .int .i64 ((us0.length : Nat) : Int), .bool false, .slice A14 us0.length cq15, .slice A25 ((padL s us0 st).length) cq26, .slice A38 us0.length cq39, .int .i64 (i : Int), .slice A38 us0.length cq39, .int .i64 ((us0.length : Nat) : Int), .bool true, .int .i64 (i : Int), .int .i64 ((i : Int) + 1), .slice A38 us0.length cq39, .int .i64 (i : Int), .pointer (some ⟨b50, o51 + i * 4, none⟩), .pointer (some ⟨b50, o51 + i * 4 + 2, none⟩), .int .i64 (((padAll us0 (padL s us0 st)).getD i u0).bits), .bool false, (u43 51), undef, undef, undef, undef, undef, undef, undef, undef, undef, undef, undef, undef, undef, undef, undef, undef, undef, undef, undef, undef, undef, undef, undef, undef, undef, undef, undef, undef, undef, undef, undef, undef, undef, undef, undef, undef, undef, undef, undef, undef, undef, undef, undef, undef] zz undef), ⟨⟨by omega, fun j hj => by by_cases e : j = i; subst e; exact c50; exact hB j (by omega)⟩, M45⟩, rfl, (by kernel_rfl)⟩
      ·
        refine st_val (.bool false) (by kernel_rfl) (bool_of (dec_f c42) (by kernel_rfl)) ?_
        refine wl_nil ?_
        refine hK47 _ _ ?_
        try clear hK47 K47
        refine wp_cond_false (by kernel_rfl) ?_
        refine wp_exit ?_
        refine th_exit ?_
        refine th_exit ?_
        refine blk_exit ?_
        refine hK41 _ _ ?_
        try clear hK41 K41
        refine wp_seq_k (fun K56 hK56 => ?_)
        have hi0 : i = us0.length := (by omega)
        rw [hi0, hL] at hB
        have hPl := padAll_len us0 (padL s us0 st)
        refine wl_region ?_
        refine st_val (.agg (sqv s)) (by kernel_rfl) (run_load_row 26 (.tmp 4) rfl g2 (by kernel_rfl) 26 (sqv s) (0, 0) _ (M45.get 0 rfl) Try.underlying26 rfl (infoSq hs.la hs.lb)) ?_
        refine st_val (.slice A38 us0.length cq39) (by kernel_rfl) (by kernel_rfl) ?_
        refine st_val (.int .i64 st) (by kernel_rfl) (by kernel_rfl) ?_
        refine st_callR (A := [(g2, .cells (sqv s) 26 (0, 0))]) (B := (T34 ++ (T19 ++ (T10 ++ [])))) M45 (by kernel_rfl) (run_value_call 23 #[(Operand.tmp 53), (Operand.tmp 54), (Operand.tmp 55)] _ rfl Try.func23 (by kernel_rfl) (by kernel_rfl) _ (by kernel_rfl)) (run_walk W44 s hs (.slice A38 us0.length cq39) (padAll us0 (padL s us0 st)) ((by rw [hPl]; exact O36.rd (fun p hp => M45.at_ p (List.mem_cons_of_mem _ (List.mem_append_left _ hp))))) st) ?_
        intro v57 T58 W59 O60 M61
        have M61 : Mem NoS w W59 ((g2, .cells (sqv s) 26 (0, 0)) :: (T58 ++ (T34 ++ (T19 ++ (T10 ++ []))))) := M61
        obtain ⟨v62, rfl, O63⟩ := O60
        obtain ⟨A64, cq65, rfl, hc66⟩ := O63.shape
        refine st_val (.tuple #[.slice A64 ((rL s (padAll us0 (padL s us0 st)) st).length) cq65, .int .i64 (rE s (padAll us0 (padL s us0 st)) st)]) (by kernel_rfl) (by kernel_rfl) ?_
        refine st_val (.slice A64 ((rL s (padAll us0 (padL s us0 st)) st).length) cq65) (by kernel_rfl) (by kernel_rfl) ?_
        refine st_val (.int .i64 (rE s (padAll us0 (padL s us0 st)) st)) (by kernel_rfl) (by kernel_rfl) ?_
        refine st_val (.slice A64 ((rL s (padAll us0 (padL s us0 st)) st).length) cq65) (by kernel_rfl) (by kernel_rfl) ?_
        refine st_val (.int .i64 (rE s (padAll us0 (padL s us0 st)) st)) (by kernel_rfl) (by kernel_rfl) ?_
        refine wl_nil ?_
        refine hK56 _ _ ?_
        try clear hK56 K56
        refine wp_frame (a' := ⟨#[.agg (sqv s), .slice A0 us0.length c0, .int .i64 st, .int .i64 (k : Int), .pointer (some ⟨g2, 0, none⟩), undef, undef, undef, (u43 8), .slice A14 us0.length cq15, .slice A25 ((padL s us0 st).length) cq26, .int .i64 (padE s us0 st), .slice A38 us0.length cq39, .int .i64 (i : Int), .slice A64 ((rL s (padAll us0 (padL s us0 st)) st).length) cq65, .int .i64 (rE s (padAll us0 (padL s us0 st)) st), .slice A0 us0.length c0, .int .i64 ((us0.length : Nat) : Int), .bool false, .slice A0 us0.length c0, .slice A14 us0.length cq15, .tuple #[.slice A25 ((padL s us0 st).length) cq26, .int .i64 (padE s us0 st)], .agg (sqv s), .slice A14 us0.length cq15, .int .i64 st, .tuple #[.slice A25 ((padL s us0 st).length) cq26, .int .i64 (padE s us0 st)], .slice A25 ((padL s us0 st).length) cq26, .int .i64 (padE s us0 st), .int .i64 (padE s us0 st), .bool false, undef, .slice A25 ((padL s us0 st).length) cq26, .int .i64 (((padL s us0 st).length : Nat) : Int), .slice A14 us0.length cq15, .int .i64 ((us0.length : Nat) : Int), .bool false, .slice A14 us0.length cq15, .slice A25 ((padL s us0 st).length) cq26, .slice A38 us0.length cq39, .int .i64 (i : Int), .slice A38 us0.length cq39, .int .i64 ((us0.length : Nat) : Int), .bool false, (u43 43), (u43 44), (u43 45), (u43 46), (u43 47), (u43 48), (u43 49), (u43 50), (u43 51), .tuple #[.slice A64 ((rL s (padAll us0 (padL s us0 st)) st).length) cq65, .int .i64 (rE s (padAll us0 (padL s us0 st)) st)], .agg (sqv s), .slice A38 us0.length cq39, .int .i64 st, .tuple #[.slice A64 ((rL s (padAll us0 (padL s us0 st)) st).length) cq65, .int .i64 (rE s (padAll us0 (padL s us0 st)) st)], .slice A64 ((rL s (padAll us0 (padL s us0 st)) st).length) cq65, .int .i64 (rE s (padAll us0 (padL s us0 st)) st), undef, undef, undef, undef, undef, undef, undef, undef, undef, undef, undef, undef, undef, undef, undef, undef, undef, undef, undef, undef, undef, undef, undef, undef, undef, undef, undef, undef, undef, undef, undef, undef, undef, undef, undef, undef, undef], []⟩) (by kernel_rfl) ?_
        refine wp_seq_k (fun K67 hK67 => ?_)
        refine wp_seq_k (fun K68 hK68 => ?_)
        refine wl_region ?_
        refine st_val (.int .i64 (rE s (padAll us0 (padL s us0 st)) st)) (by kernel_rfl) (by kernel_rfl) ?_
        refine st_val (.bool false) (by kernel_rfl) (bool_of (neq_f (show (rE s (padAll us0 (padL s us0 st)) st : Int) = 0 from (by have h := steer_run hpr hq hlen (by omega) hB; rw [← hL] at h; exact h))) (by kernel_rfl)) ?_
        refine wl_nil ?_
        refine hK68 _ _ ?_
        try clear hK68 K68
        refine wp_cond_false (by kernel_rfl) ?_
        refine wp_skip ?_
        refine hK67 _ _ ?_
        try clear hK67 K67
        refine wp_seq_k (fun K69 hK69 => ?_)
        refine wp_seq_k (fun K70 hK70 => ?_)
        refine wl_region ?_
        refine st_val (.int .i64 (k : Int)) (by kernel_rfl) (by kernel_rfl) ?_
        refine st_val (.bool false) (by kernel_rfl) (bool_of (dec_f (show ¬ (((k : Int) : Int) < 0) by omega)) (by kernel_rfl)) ?_
        refine st_val (.bool false) (by kernel_rfl) (by kernel_rfl) ?_
        refine st_val (.int .i64 (k : Int)) (by kernel_rfl) (by kernel_rfl) ?_
        refine st_val (.slice A25 ((padL s us0 st).length) cq26) (by kernel_rfl) (by kernel_rfl) ?_
        refine st_val (.int .i64 (((padL s us0 st).length : Nat) : Int)) (by kernel_rfl) (by kernel_rfl) ?_
        rcases Decidable.em (((k : Int) : Int) ≥ (((padL s us0 st).length : Nat) : Int)) with c67 | c67
        ·
          refine st_val (.bool true) (by kernel_rfl) (bool_of (dec_t c67) (by kernel_rfl)) ?_
          refine st_val (.bool true) (by kernel_rfl) (by kernel_rfl) ?_
          refine st_val (.bool true) (by kernel_rfl) (by kernel_rfl) ?_
          refine st_skip (by kernel_rfl) ?_
          refine st_skip (by kernel_rfl) ?_
          refine st_skip (by kernel_rfl) ?_
          refine st_skip (by kernel_rfl) ?_
          refine st_skip (by kernel_rfl) ?_
          refine st_val (.bool true) (by kernel_rfl) (by kernel_rfl) ?_
          refine wl_nil ?_
          refine hK70 _ _ ?_
          try clear hK70 K70
          refine wp_frame (a' := ⟨#[.agg (sqv s), .slice A0 us0.length c0, .int .i64 st, .int .i64 (k : Int), .pointer (some ⟨g2, 0, none⟩), undef, undef, undef, (u43 8), .slice A14 us0.length cq15, .slice A25 ((padL s us0 st).length) cq26, .int .i64 (padE s us0 st), .slice A38 us0.length cq39, .int .i64 (i : Int), .slice A64 ((rL s (padAll us0 (padL s us0 st)) st).length) cq65, .int .i64 (rE s (padAll us0 (padL s us0 st)) st), .slice A0 us0.length c0, .int .i64 ((us0.length : Nat) : Int), .bool false, .slice A0 us0.length c0, .slice A14 us0.length cq15, .tuple #[.slice A25 ((padL s us0 st).length) cq26, .int .i64 (padE s us0 st)], .agg (sqv s), .slice A14 us0.length cq15, .int .i64 st, .tuple #[.slice A25 ((padL s us0 st).length) cq26, .int .i64 (padE s us0 st)], .slice A25 ((padL s us0 st).length) cq26, .int .i64 (padE s us0 st), .int .i64 (padE s us0 st), .bool false, undef, .slice A25 ((padL s us0 st).length) cq26, .int .i64 (((padL s us0 st).length : Nat) : Int), .slice A14 us0.length cq15, .int .i64 ((us0.length : Nat) : Int), .bool false, .slice A14 us0.length cq15, .slice A25 ((padL s us0 st).length) cq26, .slice A38 us0.length cq39, .int .i64 (i : Int), .slice A38 us0.length cq39, .int .i64 ((us0.length : Nat) : Int), .bool false, (u43 43), (u43 44), (u43 45), (u43 46), (u43 47), (u43 48), (u43 49), (u43 50), (u43 51), .tuple #[.slice A64 ((rL s (padAll us0 (padL s us0 st)) st).length) cq65, .int .i64 (rE s (padAll us0 (padL s us0 st)) st)], .agg (sqv s), .slice A38 us0.length cq39, .int .i64 st, .tuple #[.slice A64 ((rL s (padAll us0 (padL s us0 st)) st).length) cq65, .int .i64 (rE s (padAll us0 (padL s us0 st)) st)], .slice A64 ((rL s (padAll us0 (padL s us0 st)) st).length) cq65, .int .i64 (rE s (padAll us0 (padL s us0 st)) st), .int .i64 (rE s (padAll us0 (padL s us0 st)) st), .bool false, .int .i64 (k : Int), .bool false, .bool false, .int .i64 (k : Int), .slice A25 ((padL s us0 st).length) cq26, .int .i64 (((padL s us0 st).length : Nat) : Int), .bool true, .bool true, .bool true, undef, undef, undef, undef, undef, .bool true, undef, undef, undef, undef, undef, undef, undef, undef, undef, undef, undef, undef, undef, undef, undef, undef, undef, undef, undef, undef], []⟩) (by kernel_rfl) ?_
          refine wp_cond_true (by kernel_rfl) ?_
          refine wp_seq_k (fun K71 hK71 => ?_)
          refine wl_region ?_
          refine st_callB M61 (.bool true) (by kernel_rfl) (args := #[]) (run_value_call 11 #[] _ rfl Try.func11 (by kernel_rfl) (by kernel_rfl) _ (by kernel_rfl)) (awake_walk W59) ?_
          intro W72 M73
          refine st_val (.bool true) (by kernel_rfl) (by kernel_rfl) ?_
          refine wl_nil ?_
          refine hK71 _ _ ?_
          try clear hK71 K71
          refine wp_ret ?_
          refine th_ret ?_
          exact done1 8 (.bool true) (by kernel_rfl) (by kernel_rfl) (by kernel_rfl) ⟨rfl, M73.toBelow⟩
        ·
          refine st_val (.bool false) (by kernel_rfl) (bool_of (dec_f c67) (by kernel_rfl)) ?_
          refine st_val (.bool false) (by kernel_rfl) (by kernel_rfl) ?_
          refine st_val (.bool false) (by kernel_rfl) (by kernel_rfl) ?_
          refine st_val (.slice A25 ((padL s us0 st).length) cq26) (by kernel_rfl) (by kernel_rfl) ?_
          refine st_val (.int .i64 (k : Int)) (by kernel_rfl) (by kernel_rfl) ?_
          obtain ⟨b74, o75, eA76⟩ := RdK.addr (O24.rd (fun p hp => M61.at_ p (List.mem_cons_of_mem _ (List.mem_append_right _ (List.mem_append_right _ (List.mem_append_left _ hp)))))) (j := k * 1) (by show _ < (List.map _ _).length; rw [List.length_map]; omega)
          refine st_val (.pointer (some ⟨b74, o75 + k * 1, none⟩)) (by kernel_rfl) (run_indexSliceA 41 (.tmp 70) (.tmp 71) rfl A25 ⟨b74, o75, none⟩ eA76 ((padL s us0 st).length) cq26 .i64 k (by kernel_rfl) (by kernel_rfl) Try.underlying41 1 (by kernel_rfl) (by omega) ⟨b74, o75 + k * 1, none⟩ (addr_atK _ _ _ _)) ?_
          refine st_val (.int .i64 ((padL s us0 st).getD k 0)) (by kernel_rfl) (run_load_cell 2 (.tmp 72) rfl ⟨b74, o75 + k * 1, none⟩ (by kernel_rfl) _ ((O24.rd (fun p hp => M61.at_ p (List.mem_cons_of_mem _ (List.mem_append_right _ (List.mem_append_right _ (List.mem_append_left _ hp)))))).cellF eA76 (f := 0) (ints_get (padL s us0 st) k (by omega))) (by kernel_rfl)) ?_
          rcases Decidable.em (((padL s us0 st).getD k 0 : Int) = 0) with c74 | c74
          ·
            refine st_val (.bool true) (by kernel_rfl) (bool_of (dec_t c74) (by kernel_rfl)) ?_
            refine st_val (.bool true) (by kernel_rfl) (by kernel_rfl) ?_
            refine wl_nil ?_
            refine hK70 _ _ ?_
            try clear hK70 K70
            refine wp_frame (a' := ⟨#[.agg (sqv s), .slice A0 us0.length c0, .int .i64 st, .int .i64 (k : Int), .pointer (some ⟨g2, 0, none⟩), undef, undef, undef, (u43 8), .slice A14 us0.length cq15, .slice A25 ((padL s us0 st).length) cq26, .int .i64 (padE s us0 st), .slice A38 us0.length cq39, .int .i64 (i : Int), .slice A64 ((rL s (padAll us0 (padL s us0 st)) st).length) cq65, .int .i64 (rE s (padAll us0 (padL s us0 st)) st), .slice A0 us0.length c0, .int .i64 ((us0.length : Nat) : Int), .bool false, .slice A0 us0.length c0, .slice A14 us0.length cq15, .tuple #[.slice A25 ((padL s us0 st).length) cq26, .int .i64 (padE s us0 st)], .agg (sqv s), .slice A14 us0.length cq15, .int .i64 st, .tuple #[.slice A25 ((padL s us0 st).length) cq26, .int .i64 (padE s us0 st)], .slice A25 ((padL s us0 st).length) cq26, .int .i64 (padE s us0 st), .int .i64 (padE s us0 st), .bool false, undef, .slice A25 ((padL s us0 st).length) cq26, .int .i64 (((padL s us0 st).length : Nat) : Int), .slice A14 us0.length cq15, .int .i64 ((us0.length : Nat) : Int), .bool false, .slice A14 us0.length cq15, .slice A25 ((padL s us0 st).length) cq26, .slice A38 us0.length cq39, .int .i64 (i : Int), .slice A38 us0.length cq39, .int .i64 ((us0.length : Nat) : Int), .bool false, (u43 43), (u43 44), (u43 45), (u43 46), (u43 47), (u43 48), (u43 49), (u43 50), (u43 51), .tuple #[.slice A64 ((rL s (padAll us0 (padL s us0 st)) st).length) cq65, .int .i64 (rE s (padAll us0 (padL s us0 st)) st)], .agg (sqv s), .slice A38 us0.length cq39, .int .i64 st, .tuple #[.slice A64 ((rL s (padAll us0 (padL s us0 st)) st).length) cq65, .int .i64 (rE s (padAll us0 (padL s us0 st)) st)], .slice A64 ((rL s (padAll us0 (padL s us0 st)) st).length) cq65, .int .i64 (rE s (padAll us0 (padL s us0 st)) st), .int .i64 (rE s (padAll us0 (padL s us0 st)) st), .bool false, .int .i64 (k : Int), .bool false, .bool false, .int .i64 (k : Int), .slice A25 ((padL s us0 st).length) cq26, .int .i64 (((padL s us0 st).length : Nat) : Int), .bool false, .bool false, .bool false, .slice A25 ((padL s us0 st).length) cq26, .int .i64 (k : Int), .pointer (some ⟨b74, o75 + k * 1, none⟩), .int .i64 ((padL s us0 st).getD k 0), .bool true, .bool true, undef, undef, undef, undef, undef, undef, undef, undef, undef, undef, undef, undef, undef, undef, undef, undef, undef, undef, undef, undef], []⟩) (by kernel_rfl) ?_
            refine wp_cond_true (by kernel_rfl) ?_
            refine wp_seq_k (fun K77 hK77 => ?_)
            refine wl_region ?_
            refine st_callB M61 (.bool true) (by kernel_rfl) (args := #[]) (run_value_call 11 #[] _ rfl Try.func11 (by kernel_rfl) (by kernel_rfl) _ (by kernel_rfl)) (awake_walk W59) ?_
            intro W78 M79
            refine st_val (.bool true) (by kernel_rfl) (by kernel_rfl) ?_
            refine wl_nil ?_
            refine hK77 _ _ ?_
            try clear hK77 K77
            refine wp_ret ?_
            refine th_ret ?_
            exact done1 8 (.bool true) (by kernel_rfl) (by kernel_rfl) (by kernel_rfl) ⟨rfl, M79.toBelow⟩
          ·
            refine st_val (.bool false) (by kernel_rfl) (bool_of (dec_f c74) (by kernel_rfl)) ?_
            refine st_val (.bool false) (by kernel_rfl) (by kernel_rfl) ?_
            refine wl_nil ?_
            refine hK70 _ _ ?_
            try clear hK70 K70
            refine wp_frame (a' := ⟨#[.agg (sqv s), .slice A0 us0.length c0, .int .i64 st, .int .i64 (k : Int), .pointer (some ⟨g2, 0, none⟩), undef, undef, undef, (u43 8), .slice A14 us0.length cq15, .slice A25 ((padL s us0 st).length) cq26, .int .i64 (padE s us0 st), .slice A38 us0.length cq39, .int .i64 (i : Int), .slice A64 ((rL s (padAll us0 (padL s us0 st)) st).length) cq65, .int .i64 (rE s (padAll us0 (padL s us0 st)) st), .slice A0 us0.length c0, .int .i64 ((us0.length : Nat) : Int), .bool false, .slice A0 us0.length c0, .slice A14 us0.length cq15, .tuple #[.slice A25 ((padL s us0 st).length) cq26, .int .i64 (padE s us0 st)], .agg (sqv s), .slice A14 us0.length cq15, .int .i64 st, .tuple #[.slice A25 ((padL s us0 st).length) cq26, .int .i64 (padE s us0 st)], .slice A25 ((padL s us0 st).length) cq26, .int .i64 (padE s us0 st), .int .i64 (padE s us0 st), .bool false, undef, .slice A25 ((padL s us0 st).length) cq26, .int .i64 (((padL s us0 st).length : Nat) : Int), .slice A14 us0.length cq15, .int .i64 ((us0.length : Nat) : Int), .bool false, .slice A14 us0.length cq15, .slice A25 ((padL s us0 st).length) cq26, .slice A38 us0.length cq39, .int .i64 (i : Int), .slice A38 us0.length cq39, .int .i64 ((us0.length : Nat) : Int), .bool false, (u43 43), (u43 44), (u43 45), (u43 46), (u43 47), (u43 48), (u43 49), (u43 50), (u43 51), .tuple #[.slice A64 ((rL s (padAll us0 (padL s us0 st)) st).length) cq65, .int .i64 (rE s (padAll us0 (padL s us0 st)) st)], .agg (sqv s), .slice A38 us0.length cq39, .int .i64 st, .tuple #[.slice A64 ((rL s (padAll us0 (padL s us0 st)) st).length) cq65, .int .i64 (rE s (padAll us0 (padL s us0 st)) st)], .slice A64 ((rL s (padAll us0 (padL s us0 st)) st).length) cq65, .int .i64 (rE s (padAll us0 (padL s us0 st)) st), .int .i64 (rE s (padAll us0 (padL s us0 st)) st), .bool false, .int .i64 (k : Int), .bool false, .bool false, .int .i64 (k : Int), .slice A25 ((padL s us0 st).length) cq26, .int .i64 (((padL s us0 st).length : Nat) : Int), .bool false, .bool false, .bool false, .slice A25 ((padL s us0 st).length) cq26, .int .i64 (k : Int), .pointer (some ⟨b74, o75 + k * 1, none⟩), .int .i64 ((padL s us0 st).getD k 0), .bool false, .bool false, undef, undef, undef, undef, undef, undef, undef, undef, undef, undef, undef, undef, undef, undef, undef, undef, undef, undef, undef, undef], []⟩) (by kernel_rfl) ?_
            refine wp_cond_false (by kernel_rfl) ?_
            refine wp_skip ?_
            refine hK69 _ _ ?_
            try clear hK69 K69
            refine wp_seq_k (fun K80 hK80 => ?_)
            have hbk := (padAll_PR hpr hq hlen hB).2.2.2.2 k (by rw [padAll_len]; omega)
            unfold PU at hbk
            rw [← hL] at hbk
            refine wl_region ?_
            refine st_val (.slice A38 us0.length cq39) (by kernel_rfl) (by kernel_rfl) ?_
            refine st_val (.int .i64 (k : Int)) (by kernel_rfl) (by kernel_rfl) ?_
            refine st_val (.slice A38 us0.length cq39) (by kernel_rfl) (by kernel_rfl) ?_
            refine st_val (.int .i64 (k : Int)) (by kernel_rfl) (by kernel_rfl) ?_
            obtain ⟨b81, o82, eA83⟩ := RdK.addr (O36.rd (fun p hp => M61.at_ p (List.mem_cons_of_mem _ (List.mem_append_right _ (List.mem_append_left _ hp))))) (j := k * 4) (by rw [flat_len, padAll_len]; omega)
            refine st_val (.pointer (some ⟨b81, o82 + k * 4, none⟩)) (by kernel_rfl) (run_indexSliceA 36 (.tmp 79) (.tmp 80) rfl A38 ⟨b81, o82, none⟩ eA83 us0.length cq39 .i64 k (by kernel_rfl) (by kernel_rfl) Try.underlying36 4 (by kernel_rfl) (by omega) ⟨b81, o82 + k * 4, none⟩ (addr_atK _ _ _ _)) ?_
            refine st_val (.pointer (some ⟨b81, o82 + k * 4 + 2, none⟩)) (by kernel_rfl) (by kernel_rfl) ?_
            refine st_val (.int .i64 (((padAll us0 (padL s us0 st)).getD k u0).bits)) (by kernel_rfl) (run_load_cell 2 (.tmp 82) rfl ⟨b81, o82 + k * 4 + 2, none⟩ (by kernel_rfl) _ ((O36.rd (fun p hp => M61.at_ p (List.mem_cons_of_mem _ (List.mem_append_right _ (List.mem_append_left _ hp))))).cellF eA83 (f := 2) (flat_get (padAll us0 (padL s us0 st)) k 2 (by omega) (by rw [padAll_len]; omega))) (by kernel_rfl)) ?_
            refine st_val (.int .i64 ((((padAll us0 (padL s us0 st)).getD k u0).bits) - 8)) (by kernel_rfl) (i64_of (by omega) (by kernel_rfl)) ?_
            obtain ⟨b84, o85, eA86⟩ := RdK.addr (O36.rd (fun p hp => M61.at_ p (List.mem_cons_of_mem _ (List.mem_append_right _ (List.mem_append_left _ hp))))) (j := k * 4) (by rw [flat_len, padAll_len]; omega)
            refine st_val (.pointer (some ⟨b84, o85 + k * 4, none⟩)) (by kernel_rfl) (run_indexSliceA 36 (.tmp 77) (.tmp 78) rfl A38 ⟨b84, o85, none⟩ eA86 us0.length cq39 .i64 k (by kernel_rfl) (by kernel_rfl) Try.underlying36 4 (by kernel_rfl) (by omega) ⟨b84, o85 + k * 4, none⟩ (addr_atK _ _ _ _)) ?_
            refine st_val (.pointer (some ⟨b84, o85 + k * 4 + 2, none⟩)) (by kernel_rfl) (by kernel_rfl) ?_
            have M87 : Mem NoS w W59 ((g2, .cells (sqv s) 26 (0, 0)) :: (T34 ++ (T58 ++ (T19 ++ (T10 ++ []))))) := M61.swap (A := [(g2, .cells (sqv s) 26 (0, 0))]) (T := T58) (U := T34) (B := (T19 ++ (T10 ++ [])))
            refine st_storeOwn (A := [(g2, .cells (sqv s) 26 (0, 0))]) (T := T34) (B := (T58 ++ (T19 ++ (T10 ++ [])))) M87 O36 eA86 2 (.tmp 86) (.tmp 84) rfl (k * 4) 2 (.int .i64 ((((padAll us0 (padL s us0 st)).getD k u0).bits) - 8)) (by kernel_rfl) (by kernel_rfl) (by rw [flat_len, padAll_len]; omega) (by kernel_rfl) (by kernel_rfl) (by kernel_rfl) (by kernel_rfl) ?_
            intro T88 W89 O90 M91
            have M91 : Mem NoS w W89 ((g2, .cells (sqv s) 26 (0, 0)) :: (T88 ++ (T58 ++ (T19 ++ (T10 ++ []))))) := M91
            rw [flat_set (padAll us0 (padL s us0 st)) k ((((padAll us0 (padL s us0 st)).getD k u0).bits) - 8) (by rw [padAll_len]; omega)] at O90
            refine wl_nil ?_
            refine hK80 _ _ ?_
            try clear hK80 K80
            refine wp_seq_k (fun K92 hK92 => ?_)
            refine wl_region ?_
            refine st_callB M91 (.bool true) (by kernel_rfl) (args := #[]) (run_value_call 11 #[] _ rfl Try.func11 (by kernel_rfl) (by kernel_rfl) _ (by kernel_rfl)) (awake_walk W89) ?_
            intro W93 M94
            refine st_val (.bool true) (by kernel_rfl) (by kernel_rfl) ?_
            refine st_val (.agg (sqv s)) (by kernel_rfl) (run_load_row 26 (.tmp 4) rfl g2 (by kernel_rfl) 26 (sqv s) (0, 0) _ (M94.get 0 rfl) Try.underlying26 rfl (infoSq hs.la hs.lb)) ?_
            refine st_val (.slice A38 us0.length cq39) (by kernel_rfl) (by kernel_rfl) ?_
            refine st_val (.int .i64 st) (by kernel_rfl) (by kernel_rfl) ?_
            refine st_callB M94 (.int .i64 (fI s ((padAll us0 (padL s us0 st)).set k { (padAll us0 (padL s us0 st)).getD k u0 with bits := (((padAll us0 (padL s us0 st)).getD k u0).bits) - 8 }) st)) (by kernel_rfl) (args := #[.agg (sqv s), .slice A38 us0.length cq39, .int .i64 st]) (run_value_call 25 #[(Operand.tmp 89), (Operand.tmp 90), (Operand.tmp 91)] _ rfl Try.func25 (by kernel_rfl) (by kernel_rfl) _ (by kernel_rfl)) (first_walk W93 s hs (.slice A38 us0.length cq39) ((padAll us0 (padL s us0 st)).set k { (padAll us0 (padL s us0 st)).getD k u0 with bits := (((padAll us0 (padL s us0 st)).getD k u0).bits) - 8 }) ((by rw [List.length_set, hPl]; exact O90.rd (fun p hp => M94.at_ p (List.mem_cons_of_mem _ (List.mem_append_left _ hp))))) st) ?_
            intro W95 M96
            refine st_val (.int .i64 (k : Int)) (by kernel_rfl) (by kernel_rfl) ?_
            refine st_val (.bool true) (by kernel_rfl) (bool_of (dec_t (show (fI s ((padAll us0 (padL s us0 st)).set k { (padAll us0 (padL s us0 st)).getD k u0 with bits := (((padAll us0 (padL s us0 st)).getD k u0).bits) - 8 }) st : Int) = (k : Int) from (by have h := steer_first hpr hq hlen (by omega) hB (k := k) (by omega) (by rw [← hL]; exact c74); rw [← hL] at h; exact h))) (by kernel_rfl)) ?_
            refine st_val (.bool true) (by kernel_rfl) (by kernel_rfl) ?_
            refine st_val (.bool true) (by kernel_rfl) (by kernel_rfl) ?_
            refine wl_nil ?_
            refine hK92 _ _ ?_
            try clear hK92 K92
            refine wp_frame (a' := ⟨#[.agg (sqv s), .slice A0 us0.length c0, .int .i64 st, .int .i64 (k : Int), .pointer (some ⟨g2, 0, none⟩), undef, undef, undef, .bool true, .slice A14 us0.length cq15, .slice A25 ((padL s us0 st).length) cq26, .int .i64 (padE s us0 st), .slice A38 us0.length cq39, .int .i64 (i : Int), .slice A64 ((rL s (padAll us0 (padL s us0 st)) st).length) cq65, .int .i64 (rE s (padAll us0 (padL s us0 st)) st), .slice A0 us0.length c0, .int .i64 ((us0.length : Nat) : Int), .bool false, .slice A0 us0.length c0, .slice A14 us0.length cq15, .tuple #[.slice A25 ((padL s us0 st).length) cq26, .int .i64 (padE s us0 st)], .agg (sqv s), .slice A14 us0.length cq15, .int .i64 st, .tuple #[.slice A25 ((padL s us0 st).length) cq26, .int .i64 (padE s us0 st)], .slice A25 ((padL s us0 st).length) cq26, .int .i64 (padE s us0 st), .int .i64 (padE s us0 st), .bool false, undef, .slice A25 ((padL s us0 st).length) cq26, .int .i64 (((padL s us0 st).length : Nat) : Int), .slice A14 us0.length cq15, .int .i64 ((us0.length : Nat) : Int), .bool false, .slice A14 us0.length cq15, .slice A25 ((padL s us0 st).length) cq26, .slice A38 us0.length cq39, .int .i64 (i : Int), .slice A38 us0.length cq39, .int .i64 ((us0.length : Nat) : Int), .bool false, (u43 43), (u43 44), (u43 45), (u43 46), (u43 47), (u43 48), (u43 49), (u43 50), (u43 51), .tuple #[.slice A64 ((rL s (padAll us0 (padL s us0 st)) st).length) cq65, .int .i64 (rE s (padAll us0 (padL s us0 st)) st)], .agg (sqv s), .slice A38 us0.length cq39, .int .i64 st, .tuple #[.slice A64 ((rL s (padAll us0 (padL s us0 st)) st).length) cq65, .int .i64 (rE s (padAll us0 (padL s us0 st)) st)], .slice A64 ((rL s (padAll us0 (padL s us0 st)) st).length) cq65, .int .i64 (rE s (padAll us0 (padL s us0 st)) st), .int .i64 (rE s (padAll us0 (padL s us0 st)) st), .bool false, .int .i64 (k : Int), .bool false, .bool false, .int .i64 (k : Int), .slice A25 ((padL s us0 st).length) cq26, .int .i64 (((padL s us0 st).length : Nat) : Int), .bool false, .bool false, .bool false, .slice A25 ((padL s us0 st).length) cq26, .int .i64 (k : Int), .pointer (some ⟨b74, o75 + k * 1, none⟩), .int .i64 ((padL s us0 st).getD k 0), .bool false, .bool false, undef, .slice A38 us0.length cq39, .int .i64 (k : Int), .slice A38 us0.length cq39, .int .i64 (k : Int), .pointer (some ⟨b81, o82 + k * 4, none⟩), .pointer (some ⟨b81, o82 + k * 4 + 2, none⟩), .int .i64 (((padAll us0 (padL s us0 st)).getD k u0).bits), .int .i64 ((((padAll us0 (padL s us0 st)).getD k u0).bits) - 8), .pointer (some ⟨b84, o85 + k * 4, none⟩), .pointer (some ⟨b84, o85 + k * 4 + 2, none⟩), .bool true, .bool true, .agg (sqv s), .slice A38 us0.length cq39, .int .i64 st, .int .i64 (fI s ((padAll us0 (padL s us0 st)).set k { (padAll us0 (padL s us0 st)).getD k u0 with bits := (((padAll us0 (padL s us0 st)).getD k u0).bits) - 8 }) st), .int .i64 (k : Int), .bool true, .bool true], []⟩) (by kernel_rfl) ?_
            refine wp_ret ?_
            exact done1 8 (.bool true) (by kernel_rfl) (by kernel_rfl) (by kernel_rfl) ⟨rfl, M96.toBelow⟩
    ·
      refine st_val (.bool true) (by kernel_rfl) (bool_of (neq_t c29) (by kernel_rfl)) ?_
      refine wl_nil ?_
      refine hK29 _ _ ?_
      try clear hK29 K29
      refine wp_cond_true (by kernel_rfl) ?_
      refine wp_seq_k (fun K97 hK97 => ?_)
      refine wl_region ?_
      refine st_callB M22 (.bool true) (by kernel_rfl) (args := #[]) (run_value_call 11 #[] _ rfl Try.func11 (by kernel_rfl) (by kernel_rfl) _ (by kernel_rfl)) (awake_walk W20) ?_
      intro W98 M99
      refine st_val (.bool true) (by kernel_rfl) (by kernel_rfl) ?_
      refine wl_nil ?_
      refine hK97 _ _ ?_
      try clear hK97 K97
      refine wp_ret ?_
      refine th_ret ?_
      exact done1 8 (.bool true) (by kernel_rfl) (by kernel_rfl) (by kernel_rfl) ⟨rfl, M99.toBelow⟩

theorem VbvSteers_walk (w : World) (s : SeqD) (hs : SOk s) (v0 : Value) (us0 : List UnitD) (hr0 : RdK w v0 us0.length (flat us0)) (hu0 : UOk us0) (st : Int) (hst : -9223372036854775808 ≤ st ∧ st ≤ 9223372036854775807) (k : Int) : Calls Try.prog 10 #[.agg (sqv s), v0, .int .i64 st, .int .i64 k] w fun e w' => e = .returned (.bool true) ∧ Below w.heap.size w w' := by
  rcases Int.lt_or_le k 0 with h | h
  · exact VbvSteers_walkN w s hs v0 us0 hr0 hu0 st hst k h
  · obtain ⟨n, rfl⟩ := Int.eq_ofNat_of_zero_le h
    exact VbvSteers_walkP w s hs v0 us0 hr0 hu0 st hst n
end Go.Proofs.Ytolfkaljbgpkhaa
