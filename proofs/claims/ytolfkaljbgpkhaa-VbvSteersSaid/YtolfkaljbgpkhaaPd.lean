/- Pad. -/
import Derived.Test.YtolfkaljbgpkhaaNd
import Derived.Test.YtolfkaljbgpkhaaGi
namespace Go.Proofs.Ytolfkaljbgpkhaa
open Go.RowKit

theorem append_i64 {S : Nat → Prop} {w0 w : World} {A B T : List (Nat × Obj)} (M : Mem S w0 w (A ++ (T ++ B))) (ty : TypeId) (v : Value) (n : Nat) (xs : List Value) (hO : Own 2 1 v n xs T) (u : Value) (m : Nat) (news : List Value) (hu : RdK w u m news) (hl : news.length = m * 1) (h1 : ∀ u ∈ news, u.oneCell' = true) (hn : n + m ≤ 1000000) :
    ∃ v' T' w', (Builtin.append_ #[41, 41] ty #[v, u]).run Try.prog w = .ok v' w' ∧ Own 2 1 v' (n + m) (xs ++ news) T' ∧ Mem S w0 w' (A ++ (T' ++ B)) := by
  have hs : (Try.prog.info? 2).isSome = true := by kernel_rfl
  have hz : (((Try.prog.info? 2).get hs).zero).isSome = true := by kernel_rfl
  exact append_of M 41 ty 2 ((Try.prog.info? 2).get hs) ((((Try.prog.info? 2).get hs).zero).get hz) 1 8 Try.underlying41 (Option.some_get hs).symm (Option.some_get hz).symm (by kernel_rfl) (by kernel_rfl) (by kernel_rfl) (by decide) v n xs hO u m news hu hl h1
    (by simp only [maxLen]; omega) (by omega)
def ints (l : List Int) : List Value := l.map (Value.int .i64)
theorem ints_snoc (l : List Int) (x : Int) : ints (l ++ [x]) = ints l ++ [.int .i64 x] := by simp [ints]
theorem ints_get (l : List Int) (j : Nat) (h : j < l.length) : (ints l)[j * 1 + 0]? = some (.int .i64 (l.getD j 0)) := by rw [Nat.mul_one]; exact map_at h

/-- the stuffing, byte by byte: what goes in ahead of the next unit -/
def padN (c cap f : Int) (last : Bool) : Int := if f - cap > 0 ∧ last = false then (f - cap + c * 8 - 1) / (c * 8) else 0
/-- the stuffing and the fullness at the end; none where the buffer underflows -/
def padO (c d cap : Int) : Int → List UnitD → Option (List Int × Int)
  | full, [] => some ([], full)
  | full, u :: r => if full < c * u.bits then none else
    (padO c d cap (full + (d * u.fields - c * u.bits) - c * (8 * padN c cap (full + (d * u.fields - c * u.bits)) r.isEmpty)) r).map fun q => (padN c cap (full + (d * u.fields - c * u.bits)) r.isEmpty :: q.1, q.2)
theorem padO_bad {c d cap full : Int} {u : UnitD} {r : List UnitD} (h : full < c * u.bits) : padO c d cap full (u :: r) = none := by simp only [padO]; rw [if_pos h]
theorem padO_step {c d cap full : Int} {u : UnitD} {r : List UnitD} (h : ¬ full < c * u.bits) {n : Int} (hn : padN c cap (full + (d * u.fields - c * u.bits)) r.isEmpty = n) : padO c d cap full (u :: r) = (padO c d cap (full + (d * u.fields - c * u.bits) - c * (8 * n)) r).map fun q => (n :: q.1, q.2) := by
  subst hn; simp only [padO]; rw [if_neg h]
theorem ceil_bd {o c : Int} (hc : 0 < c) (ho : 0 < o) : o ≤ c * ((o + c - 1) / c) ∧ c * ((o + c - 1) / c) ≤ o + c - 1 ∧ 1 ≤ (o + c - 1) / c ∧ (o + c - 1) / c ≤ o + c - 1 := by
  have h1 := Int.mul_ediv_add_emod (o + c - 1) c
  have h2 := Int.emod_nonneg (o + c - 1) (show c ≠ 0 by omega)
  have h3 := Int.emod_lt_of_pos (o + c - 1) hc
  have h4 : 0 < (o + c - 1) / c := by
    rcases Int.lt_or_le 0 ((o + c - 1) / c) with h | h
    · exact h
    · have := Int.mul_le_mul_of_nonneg_left h (show 0 ≤ c by omega); rw [Int.mul_zero] at this; omega
  have h5 : (o + c - 1) / c ≤ o + c - 1 := Int.ediv_le_self _ (by omega)
  omega
theorem empty_drop (us : List UnitD) (i : Nat) : (us.drop (i + 1)).isEmpty = decide (us.length ≤ i + 1) := by
  rw [Bool.eq_iff_iff, List.isEmpty_iff, List.drop_eq_nil_iff, decide_eq_true_iff]
theorem padN_zero {c cap f : Int} {us : List UnitD} {i : Nat} (h : ¬ (f - cap > 0) ∨ ¬ (i + 1 < us.length)) : padN c cap f (us.drop (i + 1)).isEmpty = 0 := by
  unfold padN
  rw [empty_drop]
  rw [if_neg]
  rintro ⟨h1, h2⟩
  have := of_decide_eq_false h2
  omega
theorem padN_ceil {c cap f : Int} {us : List UnitD} {i : Nat} (h : f - cap > 0) (h2 : i + 1 < us.length) : padN c cap f (us.drop (i + 1)).isEmpty = (f - cap + c * 8 - 1) / (c * 8) := by
  unfold padN
  rw [empty_drop, if_pos ⟨h, decide_eq_false (by omega)⟩]
noncomputable def padR (s : SeqD) (us : List UnitD) (start : Int) : Option (List Int × Int) := padO (2 * s.num) (s.br * s.den) (2 * s.num * s.bu) start us
noncomputable def padE (s : SeqD) (us : List UnitD) (start : Int) : Int := @ite _ (PR s us start) (Classical.propDecidable _) (match padR s us start with | none => 9 | some _ => 0) 1
noncomputable def padL (s : SeqD) (us : List UnitD) (start : Int) : List Int := @ite _ (PR s us start) (Classical.propDecidable _) (match padR s us start with | none => [] | some q => q.1) []
theorem pad_arg {s : SeqD} {us : List UnitD} {start : Int} (h : ¬ PR s us start) : padE s us start = 1 ∧ padL s us start = [] := by unfold padE padL; rw [if_neg h, if_neg h]; exact ⟨rfl, rfl⟩
theorem pad_none {s : SeqD} {us : List UnitD} {start : Int} (hp : PR s us start) (h : padR s us start = none) : padE s us start = 9 ∧ padL s us start = [] := by unfold padE padL; rw [if_pos hp, if_pos hp, h]; exact ⟨rfl, rfl⟩
theorem pad_some {s : SeqD} {us : List UnitD} {start : Int} {q : List Int × Int} (hp : PR s us start) (h : padR s us start = some q) : padE s us start = 0 ∧ padL s us start = q.1 := by unfold padE padL; rw [if_pos hp, if_pos hp, h]; exact ⟨rfl, rfl⟩
/-- one unit more -/
theorem pad_next {c d cap start full full' : Int} {us : List UnitD} {i : Nat} {p : List Int} {n : Int} (hi : i < us.length) (h : padO c d cap start us = (padO c d cap full (us.drop i)).map fun q => (p ++ q.1, q.2)) (h1 : ¬ full < c * (us.getD i u0).bits)
    (hn : padN c cap (full + (d * (us.getD i u0).fields - c * (us.getD i u0).bits)) (us.drop (i + 1)).isEmpty = n) (hf : full + (d * (us.getD i u0).fields - c * (us.getD i u0).bits) - c * (8 * n) = full') :
    padO c d cap start us = (padO c d cap full' (us.drop (i + 1))).map fun q => ((p ++ [n]) ++ q.1, q.2) := by
  rw [h, drop_getD us u0 i hi, padO_step h1 hn, hf]
  cases padO c d cap full' (us.drop (i + 1)) with
  | none => rfl
  | some q => simp
theorem pad_stop {c d cap start full : Int} {us : List UnitD} {i : Nat} {p : List Int} (hi : i < us.length) (h : padO c d cap start us = (padO c d cap full (us.drop i)).map fun q => (p ++ q.1, q.2)) (h1 : full < c * (us.getD i u0).bits) : padO c d cap start us = none := by
  rw [h, drop_getD us u0 i hi, padO_bad h1]; rfl
theorem pad_end {c d cap start full : Int} {us : List UnitD} {i : Nat} {p : List Int} (hi : us.length ≤ i) (h : padO c d cap start us = (padO c d cap full (us.drop i)).map fun q => (p ++ q.1, q.2)) : padO c d cap start us = some (p, full) := by
  rw [h, List.drop_eq_nil_of_le hi]; simp [padO]
set_option maxHeartbeats 4000000 in
set_option maxRecDepth 100000 in
theorem pad_walk (w : World) (s : SeqD) (hs : SOk s) (v : Value) (us : List UnitD) (hr : RdK w v us.length (flat us)) (start : Int) (hst : -9223372036854775808 ≤ start ∧ start ≤ 9223372036854775807) : MakesRow Try.prog 21 #[.agg (sqv s), v, .int .i64 start] w (fun v T => ∃ v1, v = .tuple #[v1, .int .i64 (padE s us start)] ∧ Own 2 1 v1 (padL s us start).length (ints (padL s us start)) T) := by
  unfold MakesRow
  obtain ⟨A, c, rfl, hc⟩ := hr.shape
  refine calls_of_wp Try.func21 rfl ?_
  refine wp_frame (a' := ⟨#[.agg (sqv s), .slice A us.length c, .int .i64 start, undef, undef, undef, undef, undef, undef, undef, undef, undef, undef, undef, undef, undef, undef, undef, undef, undef, undef, undef, undef, undef, undef, undef, undef, undef, undef, undef, undef, undef, undef, undef, undef, undef, undef, undef, undef, undef, undef, undef, undef, undef, undef, undef, undef, undef, undef, undef, undef, undef, undef, undef, undef, undef, undef, undef, undef, undef, undef, undef, undef, undef, undef, undef, undef, undef, undef, undef, undef, undef, undef, undef, undef, undef, undef, undef, undef, undef], []⟩) (by kernel_rfl) ?_
  have M0 : Mem NoS w w [] := Mem.start _ _
  refine wp_seq_k (fun K1 hK1 => ?_)
  refine wl_region ?_
  refine st_alloc M0 (.cells (sqv s) 26 (0, 0)) (by kernel_rfl) (by kernel_rfl) ?_
  intro g2 W3 M4
  refine st_val ((Go.Value.slice none 0 0)) (by kernel_rfl) (by kernel_rfl) ?_
  refine st_val (.int .i64 0) (by kernel_rfl) (by kernel_rfl) ?_
  refine wl_nil ?_
  refine hK1 _ _ ?_
  try clear hK1 K1
  refine wp_seq_k (fun K5 hK5 => ?_)
  refine wp_seq_k (fun K6 hK6 => ?_)
  refine wl_region ?_
  refine st_val (.agg (sqv s)) (by kernel_rfl) (run_load_row 26 (.tmp 3) rfl g2 (by kernel_rfl) 26 (sqv s) (0, 0) _ (M4.get 0 rfl) Try.underlying26 rfl (infoSq hs.la hs.lb)) ?_
  refine st_val (.slice A us.length c) (by kernel_rfl) (by kernel_rfl) ?_
  refine st_val (.int .i64 start) (by kernel_rfl) (by kernel_rfl) ?_
  rcases Bool.eq_false_or_eq_true (prB s us start) with hp18 | hp18
  ·
    refine st_callB M4 (.bool true) (by kernel_rfl) (args := #[.agg (sqv s), .slice A us.length c, .int .i64 start]) (run_value_call 35 #[(Operand.tmp 15), (Operand.tmp 16), (Operand.tmp 17)] _ rfl Try.func35 (by kernel_rfl) (by kernel_rfl) _ (by kernel_rfl)) ((by have := proper_walk W3 s hs (.slice A us.length c) us (hr.keep M4.keep (fun _ _ h => h)) start; rw [hp18] at this; exact this)) ?_
    intro W7 M8
    have hpr := PR_of hp18
    have hv := hpr.1
    obtain ⟨vn1, vn2, vd1, vd2, vb1, vb2, vu1, vu2, vP, vQ, vR⟩ := SV_facts hv
    have hcap := capS_t hv
    have hul := hpr.2.2.2.1
    refine st_val (.bool false) (by kernel_rfl) (by kernel_rfl) ?_
    refine wl_nil ?_
    refine hK6 _ _ ?_
    try clear hK6 K6
    refine wp_cond_false (by kernel_rfl) ?_
    refine wp_skip ?_
    refine hK5 _ _ ?_
    try clear hK5 K5
    refine wp_seq_k (fun K9 hK9 => ?_)
    refine wl_region ?_
    refine st_val (.agg (sqv s)) (by kernel_rfl) (run_load_row 26 (.tmp 3) rfl g2 (by kernel_rfl) 26 (sqv s) (0, 0) _ (M8.get 0 rfl) Try.underlying26 rfl (infoSq hs.la hs.lb)) ?_
    refine st_val (.agg (sqv s)) (by kernel_rfl) (run_build_model (.tmp 20) rfl (sqv s) (by kernel_rfl) (sqv_size hs.la hs.lb)) ?_
    refine st_alloc M8 (.cells (sqv zS) 63 (0, 0)) (by kernel_rfl) (by kernel_rfl) ?_
    intro g10 W11 M12
    refine st_storeRow M12 0 rfl 63 (.tmp 8) (.tmp 21) (by rfl) (sqv s) (by kernel_rfl) (by kernel_rfl) (infoMo hs.la hs.lb) (sqv_same (sqv_size hs.la hs.lb) (sqv_size rfl rfl) rfl) (sqv_one _) (by kernel_rfl) [(g10, .cells (sqv s) 63 (0, 0)), (g2, .cells (sqv s) 26 (0, 0))] rfl ?_
    intro W13 M14
    refine wl_nil ?_
    refine hK9 _ _ ?_
    try clear hK9 K9
    refine wp_seq_k (fun K15 hK15 => ?_)
    refine wl_region ?_
    refine st_val ((Go.Value.slice none 0 0)) (by kernel_rfl) (by kernel_rfl) ?_
    refine wl_nil ?_
    refine hK15 _ _ ?_
    try clear hK15 K15
    refine wp_seq_k (fun K16 hK16 => ?_)
    refine wl_region ?_
    refine st_val (.int .i64 start) (by kernel_rfl) (by kernel_rfl) ?_
    refine st_val (.int .i64 start) (by kernel_rfl) (by kernel_rfl) ?_
    refine wl_nil ?_
    refine hK16 _ _ ?_
    try clear hK16 K16
    refine wp_frame (a' := ⟨#[.agg (sqv s), .slice A us.length c, .int .i64 start, .pointer (some ⟨g2, 0, none⟩), undef, undef, (Go.Value.slice none 0 0), .int .i64 0, .pointer (some ⟨g10, 0, none⟩), (Go.Value.slice none 0 0), .int .i64 start, undef, undef, undef, undef, .agg (sqv s), .slice A us.length c, .int .i64 start, .bool true, .bool false, .agg (sqv s), .agg (sqv s), .int .i64 start, undef, undef, undef, undef, undef, undef, undef, undef, undef, undef, undef, undef, undef, undef, undef, undef, undef, undef, undef, undef, undef, undef, undef, undef, undef, undef, undef, undef, undef, undef, undef, undef, undef, undef, undef, undef, undef, undef, undef, undef, undef, undef, undef, undef, undef, undef, undef, undef, undef, undef, undef, undef, undef, undef, undef, undef, undef], []⟩) (by kernel_rfl) ?_
    refine wp_seq_k (fun K17 hK17 => ?_)
    refine wp_seq_k (fun K18 hK18 => ?_)
    refine wl_region ?_
    refine st_val (.slice A us.length c) (by kernel_rfl) (by kernel_rfl) ?_
    refine st_val (.int .i64 ((us.length : Nat) : Int)) (by kernel_rfl) (by kernel_rfl) ?_
    refine st_val (.int .i64 0) (by kernel_rfl) (by kernel_rfl) ?_
    refine wl_nil ?_
    refine hK18 _ _ ?_
    try clear hK18 K18
    refine wp_block ?_
    have hst1 := hpr.2.1
    have hst2 := hpr.2.2.1
    refine wp_loop_ghost (fun gn a' w' => ∃ (i : Nat) (f : Int) (p : List Int) (A1 : Option Addr) (c1 : Nat) (T1 : List (Nat × Obj)) (u19 : Nat → Value), ((i ≤ us.length ∧ (0 ≤ f ∧ f ≤ 2 * s.num * s.bu + 3 * (s.br * s.den)) ∧ (i < us.length → f ≤ 2 * s.num * s.bu) ∧ Own 2 1 (.slice A1 i c1) i (ints p) T1 ∧ padO (2 * s.num) (s.br * s.den) (2 * s.num * s.bu) start us = (padO (2 * s.num) (s.br * s.den) (2 * s.num * s.bu) f (us.drop i)).map fun q => (p ++ q.1, q.2)) ∧ Mem NoS w w' ((g10, .cells (sqv s) 63 (0, 0)) :: (g2, .cells (sqv s) 26 (0, 0)) :: (T1 ++ []))) ∧ gn = us.length - i ∧ a' = ⟨#[.agg (sqv s), .slice A us.length c, .int .i64 start, .pointer (some ⟨g2, 0, none⟩), undef, undef, (u19 6), (u19 7), .pointer (some ⟨g10, 0, none⟩), .slice A1 i c1, .int .i64 f, (u19 11), (u19 12), (u19 13), (u19 14), .agg (sqv s), .slice A us.length c, .int .i64 start, .bool true, .bool false, .agg (sqv s), .agg (sqv s), .int .i64 start, .slice A us.length c, .int .i64 ((us.length : Nat) : Int), .int .i64 (i : Int), (u19 26), (u19 27), (u19 28), (u19 29), (u19 30), (u19 31), (u19 32), (u19 33), (u19 34), (u19 35), (u19 36), (u19 37), (u19 38), (u19 39), (u19 40), (u19 41), (u19 42), (u19 43), (u19 44), (u19 45), (u19 46), (u19 47), (u19 48), (u19 49), (u19 50), (u19 51), (u19 52), (u19 53), (u19 54), (u19 55), (u19 56), (u19 57), (u19 58), (u19 59), (u19 60), (u19 61), (u19 62), (u19 63), (u19 64), (u19 65), (u19 66), (u19 67), (u19 68), (u19 69), (u19 70), (u19 71), (u19 72), (u19 73), (u19 74), (u19 75), (u19 76), (u19 77), (u19 78), undef], []⟩) _ ⟨0, start, ([]), none, 0, ([]), (fun zz => Array.getD #[.agg (sqv s), .slice A us.length c, .int .i64 start, .pointer (some ⟨g2, 0, none⟩), undef, undef, (Go.Value.slice none 0 0), .int .i64 0, .pointer (some ⟨g10, 0, none⟩), (Go.Value.slice none 0 0), .int .i64 start, undef, undef, undef, undef, .agg (sqv s), .slice A us.length c, .int .i64 start, .bool true, .bool false, .agg (sqv s), .agg (sqv s), .int .i64 start, .slice A us.length c, .int .i64 ((us.length : Nat) : Int), .int .i64 0, undef, undef, undef, undef, undef, undef, undef, undef, undef, undef, undef, undef, undef, undef, undef, undef, undef, undef, undef, undef, undef, undef, undef, undef, undef, undef, undef, undef, undef, undef, undef, undef, undef, undef, undef, undef, undef, undef, undef, undef, undef, undef, undef, undef, undef, undef, undef, undef, undef, undef, undef, undef, undef, undef] zz undef), ⟨⟨by omega, ⟨by omega, by omega⟩, fun _ => by omega, Own.nil _ _, by rw [List.drop_zero]; cases padO (2 * s.num) (s.br * s.den) (2 * s.num * s.bu) start us <;> simp⟩, M14⟩, rfl, (by kernel_rfl)⟩ ?_
    rintro gn _ W20 ⟨i, f, p, A1, c1, T1, u19, ⟨⟨ri, rf, rc, O1, hP⟩, M21⟩, rfl, rfl⟩
    refine wp_seq_k (fun K22 hK22 => ?_)
    refine wl_region ?_
    rcases Decidable.em (((i : Int) : Int) < ((us.length : Nat) : Int)) with c26 | c26
    ·
      refine st_val (.bool true) (by kernel_rfl) (bool_of (dec_t c26) (by kernel_rfl)) ?_
      refine wl_nil ?_
      refine hK22 _ _ ?_
      try clear hK22 K22
      refine wp_seq_k (fun K23 hK23 => ?_)
      refine wp_cond_true (by kernel_rfl) ?_
      refine wp_skip ?_
      refine hK23 _ _ ?_
      try clear hK23 K23
      refine wp_seq_k (fun K24 hK24 => ?_)
      refine wp_block ?_
      refine wp_seq_k (fun K25 hK25 => ?_)
      refine wl_region ?_
      refine st_val (.int .i64 (i : Int)) (by kernel_rfl) (by kernel_rfl) ?_
      obtain ⟨b26, o27, eA28⟩ := RdK.addr (hr.keep M21.keep (fun _ _ h => h)) (j := i * 4) (by rw [flat_len]; omega)
      refine st_val (.pointer (some ⟨b26, o27 + i * 4, none⟩)) (by kernel_rfl) (run_indexSliceA 36 (.tmp 23) (.tmp 25) rfl A ⟨b26, o27, none⟩ eA28 us.length c .i64 i (by kernel_rfl) (by kernel_rfl) Try.underlying36 4 (by kernel_rfl) (by omega) ⟨b26, o27 + i * 4, none⟩ (addr_atK _ _ _ _)) ?_
      refine st_val (.agg #[.int .i64 ((us.getD i u0).first), .int .i64 ((us.getD i u0).last), .int .i64 ((us.getD i u0).bits), .int .i64 ((us.getD i u0).fields)]) (by kernel_rfl) (run_load_mid 60 (.tmp 28) rfl b26 (o27 + i * 4) (by kernel_rfl) [.int .i64 ((us.getD i u0).first), .int .i64 ((us.getD i u0).last), .int .i64 ((us.getD i u0).bits), .int .i64 ((us.getD i u0).fields)] _ ((hr.keep M21.keep (fun _ _ h => h)).range eA28 (flat_row us i (by omega))) Try.underlying60 rfl (by kernel_rfl)) ?_
      refine st_alloc M21 (.cells #[.int .i64 0, .int .i64 0, .int .i64 0, .int .i64 0] 60 (0, 0)) (by kernel_rfl) (by kernel_rfl) ?_
      intro g29 W30 M31
      refine st_val (.int .i64 (i : Int)) (by kernel_rfl) (by kernel_rfl) ?_
      refine st_storeRow M31 0 rfl 60 (.tmp 12) (.tmp 29) (by rfl) #[.int .i64 ((us.getD i u0).first), .int .i64 ((us.getD i u0).last), .int .i64 ((us.getD i u0).bits), .int .i64 ((us.getD i u0).fields)] (by kernel_rfl) (by kernel_rfl) (by kernel_rfl) (by rfl) (by kernel_rfl) (by kernel_rfl) ((g29, .cells #[.int .i64 ((us.getD i u0).first), .int .i64 ((us.getD i u0).last), .int .i64 ((us.getD i u0).bits), .int .i64 ((us.getD i u0).fields)] 60 (0, 0)) :: (g10, .cells (sqv s) 63 (0, 0)) :: (g2, .cells (sqv s) 26 (0, 0)) :: (T1 ++ [])) rfl ?_
      intro W32 M33
      refine wl_nil ?_
      refine hK25 _ _ ?_
      try clear hK25 K25
      refine wp_seq_k (fun K34 hK34 => ?_)
      refine wp_seq_k (fun K35 hK35 => ?_)
      have hu := hpr.2.2.2.2 i (by omega)
      unfold PU at hu
      obtain ⟨hu1, hu2, hu3⟩ := hu
      have hc1 := mul_in (m := 2097152) (n := 8388608) (x := 2 * s.num) (y := (us.getD i u0).bits) (by omega) (by omega)
      have hd1 := mul_in (m := 1099511627776) (n := 3) (x := s.br * s.den) (y := (us.getD i u0).fields) (by omega) (by omega)
      have hdb : 0 ≤ 3 * s.den * s.br := Int.mul_nonneg (by omega) (by omega)
      have hd2 : s.br * s.den * (us.getD i u0).fields ≤ 3 * (s.br * s.den) := by rcases hu3 with h | h <;> rw [h] <;> omega
      refine wl_region ?_
      refine st_val (.int .i64 f) (by kernel_rfl) (by kernel_rfl) ?_
      refine st_val (.agg (sqv s)) (by kernel_rfl) (run_load_row 63 (.tmp 8) rfl g10 (by kernel_rfl) 63 (sqv s) (0, 0) _ (M33.get 1 rfl) Try.underlying63 rfl (infoMo hs.la hs.lb)) ?_
      refine st_val (.pointer (some ⟨g29, 2, none⟩)) (by kernel_rfl) (by kernel_rfl) ?_
      refine st_val (.int .i64 ((us.getD i u0).bits)) (by kernel_rfl) (run_load_cell 2 (.tmp 32) rfl ⟨g29, 2, none⟩ (by kernel_rfl) _ (M33.cell 0 rfl 2 _ rfl) (by kernel_rfl)) ?_
      refine st_callB M33 (.int .i64 (2 * s.num * ((us.getD i u0).bits))) (by kernel_rfl) (args := #[.agg (sqv s), .int .i64 ((us.getD i u0).bits)]) (run_value_call 34 #[(Operand.tmp 31), (Operand.tmp 33)] _ rfl Try.func34 (by kernel_rfl) (by kernel_rfl) _ (by kernel_rfl)) (mcost_walk W32 s hs hv ((us.getD i u0).bits) (mul_bd (m := 2097152) (n := 8388608) (by omega) (by omega) (by decide))) ?_
      intro W36 M37
      rcases Decidable.em ((f : Int) < 2 * s.num * ((us.getD i u0).bits)) with c35 | c35
      ·
        refine st_val (.bool true) (by kernel_rfl) (bool_of (dec_t c35) (by kernel_rfl)) ?_
        refine wl_nil ?_
        refine hK35 _ _ ?_
        try clear hK35 K35
        refine wp_cond_true (by kernel_rfl) ?_
        refine wp_seq_k (fun K38 hK38 => ?_)
        refine wl_region ?_
        refine st_val ((Go.Value.slice none 0 0)) (by kernel_rfl) (by kernel_rfl) ?_
        refine st_val (.int .i64 9) (by kernel_rfl) (by kernel_rfl) ?_
        refine wl_nil ?_
        refine hK38 _ _ ?_
        try clear hK38 K38
        refine wp_frame (a' := ⟨#[.agg (sqv s), .slice A us.length c, .int .i64 start, .pointer (some ⟨g2, 0, none⟩), undef, undef, (Go.Value.slice none 0 0), .int .i64 9, .pointer (some ⟨g10, 0, none⟩), .slice A1 i c1, .int .i64 f, .int .i64 (i : Int), .pointer (some ⟨g29, 0, none⟩), (u19 13), (u19 14), .agg (sqv s), .slice A us.length c, .int .i64 start, .bool true, .bool false, .agg (sqv s), .agg (sqv s), .int .i64 start, .slice A us.length c, .int .i64 ((us.length : Nat) : Int), .int .i64 (i : Int), .bool true, .int .i64 (i : Int), .pointer (some ⟨b26, o27 + i * 4, none⟩), .agg #[.int .i64 ((us.getD i u0).first), .int .i64 ((us.getD i u0).last), .int .i64 ((us.getD i u0).bits), .int .i64 ((us.getD i u0).fields)], .int .i64 f, .agg (sqv s), .pointer (some ⟨g29, 2, none⟩), .int .i64 ((us.getD i u0).bits), .int .i64 (2 * s.num * ((us.getD i u0).bits)), .bool true, (u19 36), (u19 37), (u19 38), (u19 39), (u19 40), (u19 41), (u19 42), (u19 43), (u19 44), (u19 45), (u19 46), (u19 47), (u19 48), (u19 49), (u19 50), (u19 51), (u19 52), (u19 53), (u19 54), (u19 55), (u19 56), (u19 57), (u19 58), (u19 59), (u19 60), (u19 61), (u19 62), (u19 63), (u19 64), (u19 65), (u19 66), (u19 67), (u19 68), (u19 69), (u19 70), (u19 71), (u19 72), (u19 73), (u19 74), (u19 75), (u19 76), (u19 77), (u19 78), undef], []⟩) (by kernel_rfl) ?_
        refine wp_ret ?_
        refine th_ret ?_
        refine blk_ret ?_
        refine th_ret ?_
        refine th_ret ?_
        refine blk_ret ?_
        refine th_ret ?_
        have hno := pad_stop (by omega) hP c35
        exact done2 6 7 ((Go.Value.slice none 0 0)) (.int .i64 9) (by kernel_rfl) (by kernel_rfl) (by kernel_rfl) (by kernel_rfl) ⟨_, [], rfl, ⟨_, by rw [(pad_none hpr hno).1], by rw [(pad_none hpr hno).2]; exact Own.nil _ _⟩, M37.sub (List.nil_sublist _)⟩
      ·
        refine st_val (.bool false) (by kernel_rfl) (bool_of (dec_f c35) (by kernel_rfl)) ?_
        refine wl_nil ?_
        refine hK35 _ _ ?_
        try clear hK35 K35
        refine wp_cond_false (by kernel_rfl) ?_
        refine wp_skip ?_
        refine hK34 _ _ ?_
        try clear hK34 K34
        refine wp_seq_k (fun K39 hK39 => ?_)
        refine wl_seq 12 (fun w' => Mem NoS w w' ((g29, .cells #[.int .i64 ((us.getD i u0).first), .int .i64 ((us.getD i u0).last), .int .i64 ((us.getD i u0).bits), .int .i64 ((us.getD i u0).fields)] 60 (0, 0)) :: (g10, .cells (sqv s) 63 (0, 0)) :: (g2, .cells (sqv s) 26 (0, 0)) :: (T1 ++ []))) (by decide) (by kernel_rfl) (by kernel_rfl) M37.drew ?_
        refine seq_run (v := .int .i64 f) (by decide) (by kernel_rfl) (fun w' M' => (by kernel_rfl)) ?_
        refine seq_run (v := .agg (sqv s)) (by decide) (by kernel_rfl) (fun w' M' => (run_load_row 63 (.tmp 8) rfl g10 (by kernel_rfl) 63 (sqv s) (0, 0) _ (M'.get 1 rfl) Try.underlying63 rfl (infoMo hs.la hs.lb))) ?_
        refine seq_run (v := .pointer (some ⟨g29, 3, none⟩)) (by decide) (by kernel_rfl) (fun w' M' => (by kernel_rfl)) ?_
        refine seq_run (v := .int .i64 ((us.getD i u0).fields)) (by decide) (by kernel_rfl) (fun w' M' => (run_load_cell 3 (.tmp 38) rfl ⟨g29, 3, none⟩ (by kernel_rfl) _ (M'.cell 0 rfl 3 _ rfl) (by kernel_rfl))) ?_
        refine seq_call (v := .int .i64 (s.br * s.den * ((us.getD i u0).fields))) (f := 33) (args := #[.agg (sqv s), .int .i64 ((us.getD i u0).fields)]) (by decide) (by kernel_rfl) (fun w' M' => (run_value_call 33 #[(Operand.tmp 37), (Operand.tmp 39)] _ rfl Try.func33 (by kernel_rfl) (by kernel_rfl) _ (by kernel_rfl))) (fun w' M' => callB_mem M' (marr_walk w' s hs hv ((us.getD i u0).fields) (by omega))) ?_
        refine seq_run (v := .agg (sqv s)) (by decide) (by kernel_rfl) (fun w' M' => (run_load_row 63 (.tmp 8) rfl g10 (by kernel_rfl) 63 (sqv s) (0, 0) _ (M'.get 1 rfl) Try.underlying63 rfl (infoMo hs.la hs.lb))) ?_
        refine seq_run (v := .pointer (some ⟨g29, 2, none⟩)) (by decide) (by kernel_rfl) (fun w' M' => (by kernel_rfl)) ?_
        refine seq_run (v := .int .i64 ((us.getD i u0).bits)) (by decide) (by kernel_rfl) (fun w' M' => (run_load_cell 2 (.tmp 42) rfl ⟨g29, 2, none⟩ (by kernel_rfl) _ (M'.cell 0 rfl 2 _ rfl) (by kernel_rfl))) ?_
        refine seq_call (v := .int .i64 (2 * s.num * ((us.getD i u0).bits))) (f := 34) (args := #[.agg (sqv s), .int .i64 ((us.getD i u0).bits)]) (by decide) (by kernel_rfl) (fun w' M' => (run_value_call 34 #[(Operand.tmp 41), (Operand.tmp 43)] _ rfl Try.func34 (by kernel_rfl) (by kernel_rfl) _ (by kernel_rfl))) (fun w' M' => callB_mem M' (mcost_walk w' s hs hv ((us.getD i u0).bits) (mul_bd (m := 2097152) (n := 8388608) (by omega) (by omega) (by decide)))) ?_
        refine seq_run (v := .int .i64 ((s.br * s.den * ((us.getD i u0).fields)) - (2 * s.num * ((us.getD i u0).bits)))) (by decide) (by kernel_rfl) (fun w' M' => (i64_of (by omega) (by kernel_rfl))) ?_
        refine seq_run (v := .int .i64 (f + ((s.br * s.den * ((us.getD i u0).fields)) - (2 * s.num * ((us.getD i u0).bits))))) (by decide) (by kernel_rfl) (fun w' M' => (i64_of (by omega) (by kernel_rfl))) ?_
        refine seq_run (v := .int .i64 (f + ((s.br * s.den * ((us.getD i u0).fields)) - (2 * s.num * ((us.getD i u0).bits))))) (by decide) (by kernel_rfl) (fun w' M' => (by kernel_rfl)) ?_
        refine seq_end (by decide) ?_
        intro W40 M41
        refine wl_nil ?_
        refine hK39 _ _ ?_
        try clear hK39 K39
        refine wp_frame (a' := ⟨#[.agg (sqv s), .slice A us.length c, .int .i64 start, .pointer (some ⟨g2, 0, none⟩), undef, undef, (u19 6), (u19 7), .pointer (some ⟨g10, 0, none⟩), .slice A1 i c1, .int .i64 (f + ((s.br * s.den * ((us.getD i u0).fields)) - (2 * s.num * ((us.getD i u0).bits)))), .int .i64 (i : Int), .pointer (some ⟨g29, 0, none⟩), (u19 13), (u19 14), .agg (sqv s), .slice A us.length c, .int .i64 start, .bool true, .bool false, .agg (sqv s), .agg (sqv s), .int .i64 start, .slice A us.length c, .int .i64 ((us.length : Nat) : Int), .int .i64 (i : Int), .bool true, .int .i64 (i : Int), .pointer (some ⟨b26, o27 + i * 4, none⟩), .agg #[.int .i64 ((us.getD i u0).first), .int .i64 ((us.getD i u0).last), .int .i64 ((us.getD i u0).bits), .int .i64 ((us.getD i u0).fields)], .int .i64 f, .agg (sqv s), .pointer (some ⟨g29, 2, none⟩), .int .i64 ((us.getD i u0).bits), .int .i64 (2 * s.num * ((us.getD i u0).bits)), .bool false, .int .i64 f, .agg (sqv s), .pointer (some ⟨g29, 3, none⟩), .int .i64 ((us.getD i u0).fields), .int .i64 (s.br * s.den * ((us.getD i u0).fields)), .agg (sqv s), .pointer (some ⟨g29, 2, none⟩), .int .i64 ((us.getD i u0).bits), .int .i64 (2 * s.num * ((us.getD i u0).bits)), .int .i64 ((s.br * s.den * ((us.getD i u0).fields)) - (2 * s.num * ((us.getD i u0).bits))), .int .i64 (f + ((s.br * s.den * ((us.getD i u0).fields)) - (2 * s.num * ((us.getD i u0).bits)))), (u19 47), (u19 48), (u19 49), (u19 50), (u19 51), (u19 52), (u19 53), (u19 54), (u19 55), (u19 56), (u19 57), (u19 58), (u19 59), (u19 60), (u19 61), (u19 62), (u19 63), (u19 64), (u19 65), (u19 66), (u19 67), (u19 68), (u19 69), (u19 70), (u19 71), (u19 72), (u19 73), (u19 74), (u19 75), (u19 76), (u19 77), (u19 78), undef], []⟩) (by kernel_rfl) ?_
        refine wp_seq_k (fun K42 hK42 => ?_)
        refine wl_region ?_
        refine st_val (.int .i64 0) (by kernel_rfl) (by kernel_rfl) ?_
        refine wl_nil ?_
        refine hK42 _ _ ?_
        try clear hK42 K42
        refine wp_seq_k (fun K43 hK43 => ?_)
        refine wp_seq_k (fun K44 hK44 => ?_)
        refine wl_region ?_
        refine st_val (.int .i64 (f + ((s.br * s.den * ((us.getD i u0).fields)) - (2 * s.num * ((us.getD i u0).bits))))) (by kernel_rfl) (by kernel_rfl) ?_
        refine st_val (.agg (sqv s)) (by kernel_rfl) (run_load_row 63 (.tmp 8) rfl g10 (by kernel_rfl) 63 (sqv s) (0, 0) _ (M41.get 1 rfl) Try.underlying63 rfl (infoMo hs.la hs.lb)) ?_
        refine st_callB M41 (.int .i64 (2 * s.num * s.bu)) (by kernel_rfl) (args := #[.agg (sqv s)]) (run_value_call 31 #[(Operand.tmp 48)] _ rfl Try.func31 (by kernel_rfl) (by kernel_rfl) _ (by kernel_rfl)) (mcap_walk W40 s hs hv) ?_
        intro W45 M46
        refine st_val (.int .i64 ((f + ((s.br * s.den * ((us.getD i u0).fields)) - (2 * s.num * ((us.getD i u0).bits)))) - (2 * s.num * s.bu))) (by kernel_rfl) (i64_of (by omega) (by kernel_rfl)) ?_
        refine st_val (.int .i64 ((f + ((s.br * s.den * ((us.getD i u0).fields)) - (2 * s.num * ((us.getD i u0).bits)))) - (2 * s.num * s.bu))) (by kernel_rfl) (by kernel_rfl) ?_
        refine wl_nil ?_
        refine hK44 _ _ ?_
        try clear hK44 K44
        refine wp_seq_k (fun K47 hK47 => ?_)
        refine wl_region ?_
        refine st_val (.int .i64 ((f + ((s.br * s.den * ((us.getD i u0).fields)) - (2 * s.num * ((us.getD i u0).bits)))) - (2 * s.num * s.bu))) (by kernel_rfl) (by kernel_rfl) ?_
        rcases Decidable.em (((f + ((s.br * s.den * ((us.getD i u0).fields)) - (2 * s.num * ((us.getD i u0).bits)))) - (2 * s.num * s.bu) : Int) > 0) with c52 | c52
        ·
          refine st_val (.bool true) (by kernel_rfl) (bool_of (dec_t c52) (by kernel_rfl)) ?_
          refine st_val (.bool true) (by kernel_rfl) (by kernel_rfl) ?_
          refine st_val (.int .i64 (i : Int)) (by kernel_rfl) (by kernel_rfl) ?_
          refine st_val (.slice A us.length c) (by kernel_rfl) (by kernel_rfl) ?_
          refine st_val (.int .i64 ((us.length : Nat) : Int)) (by kernel_rfl) (by kernel_rfl) ?_
          refine st_val (.int .i64 (((us.length : Nat) : Int) - 1)) (by kernel_rfl) (i64_of (by omega) (by kernel_rfl)) ?_
          rcases Decidable.em (((i : Int) : Int) < ((us.length : Nat) : Int) - 1) with c58 | c58
          ·
            refine st_val (.bool true) (by kernel_rfl) (bool_of (dec_t c58) (by kernel_rfl)) ?_
            refine st_val (.bool true) (by kernel_rfl) (by kernel_rfl) ?_
            refine wl_nil ?_
            refine hK47 _ _ ?_
            try clear hK47 K47
            refine wp_frame (a' := ⟨#[.agg (sqv s), .slice A us.length c, .int .i64 start, .pointer (some ⟨g2, 0, none⟩), undef, undef, (u19 6), (u19 7), .pointer (some ⟨g10, 0, none⟩), .slice A1 i c1, .int .i64 (f + ((s.br * s.den * ((us.getD i u0).fields)) - (2 * s.num * ((us.getD i u0).bits)))), .int .i64 (i : Int), .pointer (some ⟨g29, 0, none⟩), .int .i64 0, .int .i64 ((f + ((s.br * s.den * ((us.getD i u0).fields)) - (2 * s.num * ((us.getD i u0).bits)))) - (2 * s.num * s.bu)), .agg (sqv s), .slice A us.length c, .int .i64 start, .bool true, .bool false, .agg (sqv s), .agg (sqv s), .int .i64 start, .slice A us.length c, .int .i64 ((us.length : Nat) : Int), .int .i64 (i : Int), .bool true, .int .i64 (i : Int), .pointer (some ⟨b26, o27 + i * 4, none⟩), .agg #[.int .i64 ((us.getD i u0).first), .int .i64 ((us.getD i u0).last), .int .i64 ((us.getD i u0).bits), .int .i64 ((us.getD i u0).fields)], .int .i64 f, .agg (sqv s), .pointer (some ⟨g29, 2, none⟩), .int .i64 ((us.getD i u0).bits), .int .i64 (2 * s.num * ((us.getD i u0).bits)), .bool false, .int .i64 f, .agg (sqv s), .pointer (some ⟨g29, 3, none⟩), .int .i64 ((us.getD i u0).fields), .int .i64 (s.br * s.den * ((us.getD i u0).fields)), .agg (sqv s), .pointer (some ⟨g29, 2, none⟩), .int .i64 ((us.getD i u0).bits), .int .i64 (2 * s.num * ((us.getD i u0).bits)), .int .i64 ((s.br * s.den * ((us.getD i u0).fields)) - (2 * s.num * ((us.getD i u0).bits))), .int .i64 (f + ((s.br * s.den * ((us.getD i u0).fields)) - (2 * s.num * ((us.getD i u0).bits)))), .int .i64 (f + ((s.br * s.den * ((us.getD i u0).fields)) - (2 * s.num * ((us.getD i u0).bits)))), .agg (sqv s), .int .i64 (2 * s.num * s.bu), .int .i64 ((f + ((s.br * s.den * ((us.getD i u0).fields)) - (2 * s.num * ((us.getD i u0).bits)))) - (2 * s.num * s.bu)), .int .i64 ((f + ((s.br * s.den * ((us.getD i u0).fields)) - (2 * s.num * ((us.getD i u0).bits)))) - (2 * s.num * s.bu)), .bool true, .bool true, .int .i64 (i : Int), .slice A us.length c, .int .i64 ((us.length : Nat) : Int), .int .i64 (((us.length : Nat) : Int) - 1), .bool true, .bool true, (u19 60), (u19 61), (u19 62), (u19 63), (u19 64), (u19 65), (u19 66), (u19 67), (u19 68), (u19 69), (u19 70), (u19 71), (u19 72), (u19 73), (u19 74), (u19 75), (u19 76), (u19 77), (u19 78), undef], []⟩) (by kernel_rfl) ?_
            refine wp_cond_true (by kernel_rfl) ?_
            refine wl_seq 9 (fun w' => Mem NoS w w' ((g29, .cells #[.int .i64 ((us.getD i u0).first), .int .i64 ((us.getD i u0).last), .int .i64 ((us.getD i u0).bits), .int .i64 ((us.getD i u0).fields)] 60 (0, 0)) :: (g10, .cells (sqv s) 63 (0, 0)) :: (g2, .cells (sqv s) 26 (0, 0)) :: (T1 ++ []))) (by decide) (by kernel_rfl) (by kernel_rfl) M46.drew ?_
            refine seq_run (v := .int .i64 ((f + ((s.br * s.den * ((us.getD i u0).fields)) - (2 * s.num * ((us.getD i u0).bits)))) - (2 * s.num * s.bu))) (by decide) (by kernel_rfl) (fun w' M' => (by kernel_rfl)) ?_
            refine seq_run (v := .agg (sqv s)) (by decide) (by kernel_rfl) (fun w' M' => (run_load_row 63 (.tmp 8) rfl g10 (by kernel_rfl) 63 (sqv s) (0, 0) _ (M'.get 1 rfl) Try.underlying63 rfl (infoMo hs.la hs.lb))) ?_
            refine seq_call (v := .int .i64 (2 * s.num * 8)) (f := 34) (args := #[.agg (sqv s), .int .i64 8]) (by decide) (by kernel_rfl) (fun w' M' => (run_value_call 34 #[(Operand.tmp 61), (Operand.const (Value.int IntKind.i64 8))] _ rfl Try.func34 (by kernel_rfl) (by kernel_rfl) _ (by kernel_rfl))) (fun w' M' => callB_mem M' (mcost_walk w' s hs hv 8 (mul_bd (m := 2097152) (n := 8388608) (by omega) (by omega) (by decide)))) ?_
            refine seq_run (v := .int .i64 (((f + ((s.br * s.den * ((us.getD i u0).fields)) - (2 * s.num * ((us.getD i u0).bits)))) - (2 * s.num * s.bu)) + (2 * s.num * 8))) (by decide) (by kernel_rfl) (fun w' M' => (i64_of (by omega) (by kernel_rfl))) ?_
            refine seq_run (v := .int .i64 ((((f + ((s.br * s.den * ((us.getD i u0).fields)) - (2 * s.num * ((us.getD i u0).bits)))) - (2 * s.num * s.bu)) + (2 * s.num * 8)) - 1)) (by decide) (by kernel_rfl) (fun w' M' => (i64_of (by omega) (by kernel_rfl))) ?_
            refine seq_run (v := .agg (sqv s)) (by decide) (by kernel_rfl) (fun w' M' => (run_load_row 63 (.tmp 8) rfl g10 (by kernel_rfl) 63 (sqv s) (0, 0) _ (M'.get 1 rfl) Try.underlying63 rfl (infoMo hs.la hs.lb))) ?_
            refine seq_call (v := .int .i64 (2 * s.num * 8)) (f := 34) (args := #[.agg (sqv s), .int .i64 8]) (by decide) (by kernel_rfl) (fun w' M' => (run_value_call 34 #[(Operand.tmp 65), (Operand.const (Value.int IntKind.i64 8))] _ rfl Try.func34 (by kernel_rfl) (by kernel_rfl) _ (by kernel_rfl))) (fun w' M' => callB_mem M' (mcost_walk w' s hs hv 8 (mul_bd (m := 2097152) (n := 8388608) (by omega) (by omega) (by decide)))) ?_
            obtain ⟨nq, hnq⟩ : ∃ q, q = (f + (s.br * s.den * (us.getD i u0).fields - 2 * s.num * (us.getD i u0).bits) - 2 * s.num * s.bu + 2 * s.num * 8 - 1) / (2 * s.num * 8) := ⟨_, rfl⟩
            have hce := ceil_bd (o := f + (s.br * s.den * (us.getD i u0).fields - 2 * s.num * (us.getD i u0).bits) - 2 * s.num * s.bu) (c := 2 * s.num * 8) (by omega) (by omega)
            rw [← hnq] at hce
            have hq1 : 2 * s.num * (8 * nq) = 2 * s.num * 8 * nq := (Int.mul_assoc _ _ _).symm
            have hq2 : 8 * (2 * s.num) * nq = 2 * s.num * 8 * nq := by rw [Int.mul_comm 8]
            refine seq_run (v := .int .i64 nq) (by decide) (by kernel_rfl) (fun w' M' => (run_value_bin .quo 2 2 (.tmp 64) (.tmp 66) rfl (.int .i64 ((((f + ((s.br * s.den * ((us.getD i u0).fields)) - (2 * s.num * ((us.getD i u0).bits)))) - (2 * s.num * s.bu)) + (2 * s.num * 8)) - 1)) (.int .i64 (2 * s.num * 8)) _ (by kernel_rfl) (by kernel_rfl) (by kernel_rfl) (bin_quo (by omega) ((quo_of ((((f + ((s.br * s.den * ((us.getD i u0).fields)) - (2 * s.num * ((us.getD i u0).bits)))) - (2 * s.num * s.bu)) + (2 * s.num * 8)) - 1) (2 * s.num * 8) (by omega) (by omega) (by omega)).trans (by rw [hnq, show ((((f + ((s.br * s.den * ((us.getD i u0).fields)) - (2 * s.num * ((us.getD i u0).bits)))) - (2 * s.num * s.bu)) + (2 * s.num * 8)) - 1) = f + (s.br * s.den * (us.getD i u0).fields - 2 * s.num * (us.getD i u0).bits) - 2 * s.num * s.bu + 2 * s.num * 8 - 1 by omega, show (2 * s.num * 8) = 2 * s.num * 8 by omega]))))) ?_
            refine seq_run (v := .int .i64 nq) (by decide) (by kernel_rfl) (fun w' M' => (by kernel_rfl)) ?_
            refine seq_end (by decide) ?_
            intro W48 M49
            refine wl_nil ?_
            refine hK43 _ _ ?_
            try clear hK43 K43
            refine wp_seq_k (fun K50 hK50 => ?_)
            refine wl_region ?_
            refine st_val (.int .i64 (f + ((s.br * s.den * ((us.getD i u0).fields)) - (2 * s.num * ((us.getD i u0).bits))))) (by kernel_rfl) (by kernel_rfl) ?_
            refine st_val (.agg (sqv s)) (by kernel_rfl) (run_load_row 63 (.tmp 8) rfl g10 (by kernel_rfl) 63 (sqv s) (0, 0) _ (M49.get 1 rfl) Try.underlying63 rfl (infoMo hs.la hs.lb)) ?_
            refine st_val (.int .i64 nq) (by kernel_rfl) (by kernel_rfl) ?_
            refine st_val (.int .i64 (8 * nq)) (by kernel_rfl) (i64_of (by omega) (by kernel_rfl)) ?_
            refine st_callB M49 (.int .i64 (2 * s.num * (8 * nq))) (by kernel_rfl) (args := #[.agg (sqv s), .int .i64 (8 * nq)]) (run_value_call 34 #[(Operand.tmp 69), (Operand.tmp 71)] _ rfl Try.func34 (by kernel_rfl) (by kernel_rfl) _ (by kernel_rfl)) (mcost_walk W48 s hs hv (8 * nq) (by omega)) ?_
            intro W51 M52
            refine st_val (.int .i64 ((f + ((s.br * s.den * ((us.getD i u0).fields)) - (2 * s.num * ((us.getD i u0).bits)))) - (2 * s.num * (8 * nq)))) (by kernel_rfl) (i64_of (by omega) (by kernel_rfl)) ?_
            refine st_val (.int .i64 ((f + ((s.br * s.den * ((us.getD i u0).fields)) - (2 * s.num * ((us.getD i u0).bits)))) - (2 * s.num * (8 * nq)))) (by kernel_rfl) (by kernel_rfl) ?_
            refine wl_nil ?_
            refine hK50 _ _ ?_
            try clear hK50 K50
            refine wp_frame (a' := ⟨#[.agg (sqv s), .slice A us.length c, .int .i64 start, .pointer (some ⟨g2, 0, none⟩), undef, undef, (u19 6), (u19 7), .pointer (some ⟨g10, 0, none⟩), .slice A1 i c1, .int .i64 ((f + ((s.br * s.den * ((us.getD i u0).fields)) - (2 * s.num * ((us.getD i u0).bits)))) - (2 * s.num * (8 * nq))), .int .i64 (i : Int), .pointer (some ⟨g29, 0, none⟩), .int .i64 nq, .int .i64 ((f + ((s.br * s.den * ((us.getD i u0).fields)) - (2 * s.num * ((us.getD i u0).bits)))) - (2 * s.num * s.bu)), .agg (sqv s), .slice A us.length c, .int .i64 start, .bool true, .bool false, .agg (sqv s), .agg (sqv s), .int .i64 start, .slice A us.length c, .int .i64 ((us.length : Nat) : Int), .int .i64 (i : Int), .bool true, .int .i64 (i : Int), .pointer (some ⟨b26, o27 + i * 4, none⟩), .agg #[.int .i64 ((us.getD i u0).first), .int .i64 ((us.getD i u0).last), .int .i64 ((us.getD i u0).bits), .int .i64 ((us.getD i u0).fields)], .int .i64 f, .agg (sqv s), .pointer (some ⟨g29, 2, none⟩), .int .i64 ((us.getD i u0).bits), .int .i64 (2 * s.num * ((us.getD i u0).bits)), .bool false, .int .i64 f, .agg (sqv s), .pointer (some ⟨g29, 3, none⟩), .int .i64 ((us.getD i u0).fields), .int .i64 (s.br * s.den * ((us.getD i u0).fields)), .agg (sqv s), .pointer (some ⟨g29, 2, none⟩), .int .i64 ((us.getD i u0).bits), .int .i64 (2 * s.num * ((us.getD i u0).bits)), .int .i64 ((s.br * s.den * ((us.getD i u0).fields)) - (2 * s.num * ((us.getD i u0).bits))), .int .i64 (f + ((s.br * s.den * ((us.getD i u0).fields)) - (2 * s.num * ((us.getD i u0).bits)))), .int .i64 (f + ((s.br * s.den * ((us.getD i u0).fields)) - (2 * s.num * ((us.getD i u0).bits)))), .agg (sqv s), .int .i64 (2 * s.num * s.bu), .int .i64 ((f + ((s.br * s.den * ((us.getD i u0).fields)) - (2 * s.num * ((us.getD i u0).bits)))) - (2 * s.num * s.bu)), .int .i64 ((f + ((s.br * s.den * ((us.getD i u0).fields)) - (2 * s.num * ((us.getD i u0).bits)))) - (2 * s.num * s.bu)), .bool true, .bool true, .int .i64 (i : Int), .slice A us.length c, .int .i64 ((us.length : Nat) : Int), .int .i64 (((us.length : Nat) : Int) - 1), .bool true, .bool true, .int .i64 ((f + ((s.br * s.den * ((us.getD i u0).fields)) - (2 * s.num * ((us.getD i u0).bits)))) - (2 * s.num * s.bu)), .agg (sqv s), .int .i64 (2 * s.num * 8), .int .i64 (((f + ((s.br * s.den * ((us.getD i u0).fields)) - (2 * s.num * ((us.getD i u0).bits)))) - (2 * s.num * s.bu)) + (2 * s.num * 8)), .int .i64 ((((f + ((s.br * s.den * ((us.getD i u0).fields)) - (2 * s.num * ((us.getD i u0).bits)))) - (2 * s.num * s.bu)) + (2 * s.num * 8)) - 1), .agg (sqv s), .int .i64 (2 * s.num * 8), .int .i64 nq, .int .i64 (f + ((s.br * s.den * ((us.getD i u0).fields)) - (2 * s.num * ((us.getD i u0).bits)))), .agg (sqv s), .int .i64 nq, .int .i64 (8 * nq), .int .i64 (2 * s.num * (8 * nq)), .int .i64 ((f + ((s.br * s.den * ((us.getD i u0).fields)) - (2 * s.num * ((us.getD i u0).bits)))) - (2 * s.num * (8 * nq))), (u19 74), (u19 75), (u19 76), (u19 77), (u19 78), undef], []⟩) (by kernel_rfl) ?_
            refine wl_region ?_
            refine st_val (.slice A1 i c1) (by kernel_rfl) (by kernel_rfl) ?_
            refine st_val (.int .i64 nq) (by kernel_rfl) (by kernel_rfl) ?_
            refine st_new M52 (.cells #[.int .i64 nq] 2 (0, 0)) (fun g => .slice (some ⟨g, 0, none⟩) 1 1) (by kernel_rfl) (by kernel_rfl) ?_
            intro g53 W54 M55
            obtain ⟨v56, T57, W58, hr59, O60, M61⟩ := append_i64 (A := [(g53, .cells #[.int .i64 nq] 2 (0, 0)), (g29, .cells #[.int .i64 ((us.getD i u0).first), .int .i64 ((us.getD i u0).last), .int .i64 ((us.getD i u0).bits), .int .i64 ((us.getD i u0).fields)] 60 (0, 0)), (g10, .cells (sqv s) 63 (0, 0)), (g2, .cells (sqv s) 26 (0, 0))]) (T := T1) (B := []) M55 41 _ _ _ O1 _ 1 ([.int .i64 nq]) (rdk_new (M55.get 0 rfl)) rfl (by intro x hx; simp only [List.mem_cons, List.not_mem_nil, or_false] at hx; rcases hx with rfl <;> rfl) (by omega)
            have M61 : Mem NoS w W58 ((g53, .cells #[.int .i64 nq] 2 (0, 0)) :: (g29, .cells #[.int .i64 ((us.getD i u0).first), .int .i64 ((us.getD i u0).last), .int .i64 ((us.getD i u0).bits), .int .i64 ((us.getD i u0).fields)] 60 (0, 0)) :: (g10, .cells (sqv s) 63 (0, 0)) :: (g2, .cells (sqv s) 26 (0, 0)) :: (T57 ++ [])) := M61
            obtain ⟨A62, c63, rfl, hc64⟩ := O60.shape
            refine st_world (.slice A62 (i + 1) c63) W58 (by kernel_rfl) (run_append_op (.tmp 74) (.tmp 76) _ rfl (.slice A1 i c1) (.slice (some ⟨g53, 0, none⟩) 1 1) _ (by kernel_rfl) (by kernel_rfl) hr59) ?_
            refine st_val (.slice A62 (i + 1) c63) (by kernel_rfl) (by kernel_rfl) ?_
            refine wl_nil ?_
            refine blk_normal ?_
            refine hK24 _ _ ?_
            try clear hK24 K24
            refine wl_region ?_
            refine st_val (.int .i64 ((i : Int) + 1)) (by kernel_rfl) (i64_of (by omega) (by kernel_rfl)) ?_
            refine st_val (.int .i64 ((i : Int) + 1)) (by kernel_rfl) (by kernel_rfl) ?_
            refine wl_nil ?_
            refine th_normal ?_
            have hE : f + (s.br * s.den * (us.getD i u0).fields - 2 * s.num * (us.getD i u0).bits) - 2 * s.num * (8 * nq) = (f + ((s.br * s.den * ((us.getD i u0).fields)) - (2 * s.num * ((us.getD i u0).bits)))) - (2 * s.num * (8 * nq)) := by omega
            exact ⟨_, by omega, (i + 1), ((f + ((s.br * s.den * ((us.getD i u0).fields)) - (2 * s.num * ((us.getD i u0).bits)))) - (2 * s.num * (8 * nq))), (p ++ [nq]), A62, c63, T57, (fun zz => Array.getD #[.agg (sqv s), .slice A us.length c, .int .i64 start, .pointer (some ⟨g2, 0, none⟩), undef, undef, (u19 6), (u19 7), .pointer (some ⟨g10, 0, none⟩), .slice A62 (i + 1) c63, .int .i64 ((f + ((s.br * s.den * ((us.getD i u0).fields)) - (2 * s.num * ((us.getD i u0).bits)))) - (2 * s.num * (8 * nq))), .int .i64 (i : Int), .pointer (some ⟨g29, 0, none⟩), .int .i64 nq, .int .i64 ((f + ((s.br * s.den * ((us.getD i u0).fields)) - (2 * s.num * ((us.getD i u0).bits)))) - (2 * s.num * s.bu)), .agg (sqv s), .slice A us.length c, .int .i64 start, .bool true, .bool false, .agg (sqv s), .agg (sqv s), .int .i64 start, .slice A us.length c, .int .i64 ((us.length : Nat) : Int), .int .i64 ((i : Int) + 1), .bool true, .int .i64 (i : Int), .pointer (some ⟨b26, o27 + i * 4, none⟩), .agg #[.int .i64 ((us.getD i u0).first), .int .i64 ((us.getD i u0).last), .int .i64 ((us.getD i u0).bits), .int .i64 ((us.getD i u0).fields)], .int .i64 f, .agg (sqv s), .pointer (some ⟨g29, 2, none⟩), .int .i64 ((us.getD i u0).bits), .int .i64 (2 * s.num * ((us.getD i u0).bits)), .bool false, .int .i64 f, .agg (sqv s), .pointer (some ⟨g29, 3, none⟩), .int .i64 ((us.getD i u0).fields), .int .i64 (s.br * s.den * ((us.getD i u0).fields)), .agg (sqv s), .pointer (some ⟨g29, 2, none⟩), .int .i64 ((us.getD i u0).bits), .int .i64 (2 * s.num * ((us.getD i u0).bits)), .int .i64 ((s.br * s.den * ((us.getD i u0).fields)) - (2 * s.num * ((us.getD i u0).bits))), .int .i64 (f + ((s.br * s.den * ((us.getD i u0).fields)) - (2 * s.num * ((us.getD i u0).bits)))), .int .i64 (f + ((s.br * s.den * ((us.getD i u0).fields)) - (2 * s.num * ((us.getD i u0).bits)))), .agg (sqv s), .int .i64 (2 * s.num * s.bu), .int .i64 ((f + ((s.br * s.den * ((us.getD i u0).fields)) - (2 * s.num * ((us.getD i u0).bits)))) - (2 * s.num * s.bu)), .int .i64 ((f + ((s.br * s.den * ((us.getD i u0).fields)) - (2 * s.num * ((us.getD i u0).bits)))) - (2 * s.num * s.bu)), .bool true, .bool true, .int .i64 (i : Int), .slice A us.length c, .int .i64 ((us.length : Nat) : Int), .int .i64 (((us.length : Nat) : Int) - 1), .bool true, .bool true, .int .i64 ((f + ((s.br * s.den * ((us.getD i u0).fields)) - (2 * s.num * ((us.getD i u0).bits)))) - (2 * s.num * s.bu)), .agg (sqv s), .int .i64 (2 * s.num * 8), .int .i64 (((f + ((s.br * s.den * ((us.getD i u0).fields)) - (2 * s.num * ((us.getD i u0).bits)))) - (2 * s.num * s.bu)) + (2 * s.num * 8)), .int .i64 ((((f + ((s.br * s.den * ((us.getD i u0).fields)) - (2 * s.num * ((us.getD i u0).bits)))) - (2 * s.num * s.bu)) + (2 * s.num * 8)) - 1), .agg (sqv s), .int .i64 (2 * s.num * 8), .int .i64 nq, .int .i64 (f + ((s.br * s.den * ((us.getD i u0).fields)) - (2 * s.num * ((us.getD i u0).bits)))), .agg (sqv s), .int .i64 nq, .int .i64 (8 * nq), .int .i64 (2 * s.num * (8 * nq)), .int .i64 ((f + ((s.br * s.den * ((us.getD i u0).fields)) - (2 * s.num * ((us.getD i u0).bits)))) - (2 * s.num * (8 * nq))), .slice A1 i c1, .int .i64 nq, .slice (some ⟨g53, 0, none⟩) 1 1, .slice A62 (i + 1) c63, .int .i64 ((i : Int) + 1), undef] zz undef), ⟨⟨by omega, ⟨by omega, by omega⟩, fun hi => by omega, by rw [ints_snoc]; exact O60, pad_next (by omega) hP c35 ((padN_ceil (by omega) (by omega)).trans hnq.symm) hE⟩, (M61.sub ((((((List.Sublist.refl []).append_left T57).cons_cons _).cons_cons _).cons _).cons _))⟩, rfl, (by kernel_rfl)⟩
          ·
            refine st_val (.bool false) (by kernel_rfl) (bool_of (dec_f c58) (by kernel_rfl)) ?_
            refine st_val (.bool false) (by kernel_rfl) (by kernel_rfl) ?_
            refine wl_nil ?_
            refine hK47 _ _ ?_
            try clear hK47 K47
            refine wp_frame (a' := ⟨#[.agg (sqv s), .slice A us.length c, .int .i64 start, .pointer (some ⟨g2, 0, none⟩), undef, undef, (u19 6), (u19 7), .pointer (some ⟨g10, 0, none⟩), .slice A1 i c1, .int .i64 (f + ((s.br * s.den * ((us.getD i u0).fields)) - (2 * s.num * ((us.getD i u0).bits)))), .int .i64 (i : Int), .pointer (some ⟨g29, 0, none⟩), .int .i64 0, .int .i64 ((f + ((s.br * s.den * ((us.getD i u0).fields)) - (2 * s.num * ((us.getD i u0).bits)))) - (2 * s.num * s.bu)), .agg (sqv s), .slice A us.length c, .int .i64 start, .bool true, .bool false, .agg (sqv s), .agg (sqv s), .int .i64 start, .slice A us.length c, .int .i64 ((us.length : Nat) : Int), .int .i64 (i : Int), .bool true, .int .i64 (i : Int), .pointer (some ⟨b26, o27 + i * 4, none⟩), .agg #[.int .i64 ((us.getD i u0).first), .int .i64 ((us.getD i u0).last), .int .i64 ((us.getD i u0).bits), .int .i64 ((us.getD i u0).fields)], .int .i64 f, .agg (sqv s), .pointer (some ⟨g29, 2, none⟩), .int .i64 ((us.getD i u0).bits), .int .i64 (2 * s.num * ((us.getD i u0).bits)), .bool false, .int .i64 f, .agg (sqv s), .pointer (some ⟨g29, 3, none⟩), .int .i64 ((us.getD i u0).fields), .int .i64 (s.br * s.den * ((us.getD i u0).fields)), .agg (sqv s), .pointer (some ⟨g29, 2, none⟩), .int .i64 ((us.getD i u0).bits), .int .i64 (2 * s.num * ((us.getD i u0).bits)), .int .i64 ((s.br * s.den * ((us.getD i u0).fields)) - (2 * s.num * ((us.getD i u0).bits))), .int .i64 (f + ((s.br * s.den * ((us.getD i u0).fields)) - (2 * s.num * ((us.getD i u0).bits)))), .int .i64 (f + ((s.br * s.den * ((us.getD i u0).fields)) - (2 * s.num * ((us.getD i u0).bits)))), .agg (sqv s), .int .i64 (2 * s.num * s.bu), .int .i64 ((f + ((s.br * s.den * ((us.getD i u0).fields)) - (2 * s.num * ((us.getD i u0).bits)))) - (2 * s.num * s.bu)), .int .i64 ((f + ((s.br * s.den * ((us.getD i u0).fields)) - (2 * s.num * ((us.getD i u0).bits)))) - (2 * s.num * s.bu)), .bool true, .bool true, .int .i64 (i : Int), .slice A us.length c, .int .i64 ((us.length : Nat) : Int), .int .i64 (((us.length : Nat) : Int) - 1), .bool false, .bool false, (u19 60), (u19 61), (u19 62), (u19 63), (u19 64), (u19 65), (u19 66), (u19 67), (u19 68), (u19 69), (u19 70), (u19 71), (u19 72), (u19 73), (u19 74), (u19 75), (u19 76), (u19 77), (u19 78), undef], []⟩) (by kernel_rfl) ?_
            refine wp_cond_false (by kernel_rfl) ?_
            refine wp_skip ?_
            refine hK43 _ _ ?_
            try clear hK43 K43
            refine wp_seq_k (fun K65 hK65 => ?_)
            refine wl_region ?_
            refine st_val (.int .i64 (f + ((s.br * s.den * ((us.getD i u0).fields)) - (2 * s.num * ((us.getD i u0).bits))))) (by kernel_rfl) (by kernel_rfl) ?_
            refine st_val (.agg (sqv s)) (by kernel_rfl) (run_load_row 63 (.tmp 8) rfl g10 (by kernel_rfl) 63 (sqv s) (0, 0) _ (M46.get 1 rfl) Try.underlying63 rfl (infoMo hs.la hs.lb)) ?_
            refine st_val (.int .i64 0) (by kernel_rfl) (by kernel_rfl) ?_
            refine st_val (.int .i64 0) (by kernel_rfl) (by kernel_rfl) ?_
            refine st_callB M46 (.int .i64 (2 * s.num * 0)) (by kernel_rfl) (args := #[.agg (sqv s), .int .i64 0]) (run_value_call 34 #[(Operand.tmp 69), (Operand.tmp 71)] _ rfl Try.func34 (by kernel_rfl) (by kernel_rfl) _ (by kernel_rfl)) (mcost_walk W45 s hs hv 0 (mul_bd (m := 2097152) (n := 8388608) (by omega) (by omega) (by decide))) ?_
            intro W66 M67
            refine st_val (.int .i64 ((f + ((s.br * s.den * ((us.getD i u0).fields)) - (2 * s.num * ((us.getD i u0).bits)))) - (2 * s.num * 0))) (by kernel_rfl) (i64_of (by omega) (by kernel_rfl)) ?_
            refine st_val (.int .i64 ((f + ((s.br * s.den * ((us.getD i u0).fields)) - (2 * s.num * ((us.getD i u0).bits)))) - (2 * s.num * 0))) (by kernel_rfl) (by kernel_rfl) ?_
            refine wl_nil ?_
            refine hK65 _ _ ?_
            try clear hK65 K65
            refine wl_region ?_
            refine st_val (.slice A1 i c1) (by kernel_rfl) (by kernel_rfl) ?_
            refine st_val (.int .i64 0) (by kernel_rfl) (by kernel_rfl) ?_
            refine st_new M67 (.cells #[.int .i64 0] 2 (0, 0)) (fun g => .slice (some ⟨g, 0, none⟩) 1 1) (by kernel_rfl) (by kernel_rfl) ?_
            intro g68 W69 M70
            obtain ⟨v71, T72, W73, hr74, O75, M76⟩ := append_i64 (A := [(g68, .cells #[.int .i64 0] 2 (0, 0)), (g29, .cells #[.int .i64 ((us.getD i u0).first), .int .i64 ((us.getD i u0).last), .int .i64 ((us.getD i u0).bits), .int .i64 ((us.getD i u0).fields)] 60 (0, 0)), (g10, .cells (sqv s) 63 (0, 0)), (g2, .cells (sqv s) 26 (0, 0))]) (T := T1) (B := []) M70 41 _ _ _ O1 _ 1 ([.int .i64 0]) (rdk_new (M70.get 0 rfl)) rfl (by intro x hx; simp only [List.mem_cons, List.not_mem_nil, or_false] at hx; rcases hx with rfl <;> rfl) (by omega)
            have M76 : Mem NoS w W73 ((g68, .cells #[.int .i64 0] 2 (0, 0)) :: (g29, .cells #[.int .i64 ((us.getD i u0).first), .int .i64 ((us.getD i u0).last), .int .i64 ((us.getD i u0).bits), .int .i64 ((us.getD i u0).fields)] 60 (0, 0)) :: (g10, .cells (sqv s) 63 (0, 0)) :: (g2, .cells (sqv s) 26 (0, 0)) :: (T72 ++ [])) := M76
            obtain ⟨A77, c78, rfl, hc79⟩ := O75.shape
            refine st_world (.slice A77 (i + 1) c78) W73 (by kernel_rfl) (run_append_op (.tmp 74) (.tmp 76) _ rfl (.slice A1 i c1) (.slice (some ⟨g68, 0, none⟩) 1 1) _ (by kernel_rfl) (by kernel_rfl) hr74) ?_
            refine st_val (.slice A77 (i + 1) c78) (by kernel_rfl) (by kernel_rfl) ?_
            refine wl_nil ?_
            refine blk_normal ?_
            refine hK24 _ _ ?_
            try clear hK24 K24
            refine wl_region ?_
            refine st_val (.int .i64 ((i : Int) + 1)) (by kernel_rfl) (i64_of (by omega) (by kernel_rfl)) ?_
            refine st_val (.int .i64 ((i : Int) + 1)) (by kernel_rfl) (by kernel_rfl) ?_
            refine wl_nil ?_
            refine th_normal ?_
            have hE : f + (s.br * s.den * (us.getD i u0).fields - 2 * s.num * (us.getD i u0).bits) - 2 * s.num * (8 * 0) = (f + ((s.br * s.den * ((us.getD i u0).fields)) - (2 * s.num * ((us.getD i u0).bits)))) - (2 * s.num * 0) := by omega
            exact ⟨_, by omega, (i + 1), ((f + ((s.br * s.den * ((us.getD i u0).fields)) - (2 * s.num * ((us.getD i u0).bits)))) - (2 * s.num * 0)), (p ++ [0]), A77, c78, T72, (fun zz => Array.getD #[.agg (sqv s), .slice A us.length c, .int .i64 start, .pointer (some ⟨g2, 0, none⟩), undef, undef, (u19 6), (u19 7), .pointer (some ⟨g10, 0, none⟩), .slice A77 (i + 1) c78, .int .i64 ((f + ((s.br * s.den * ((us.getD i u0).fields)) - (2 * s.num * ((us.getD i u0).bits)))) - (2 * s.num * 0)), .int .i64 (i : Int), .pointer (some ⟨g29, 0, none⟩), .int .i64 0, .int .i64 ((f + ((s.br * s.den * ((us.getD i u0).fields)) - (2 * s.num * ((us.getD i u0).bits)))) - (2 * s.num * s.bu)), .agg (sqv s), .slice A us.length c, .int .i64 start, .bool true, .bool false, .agg (sqv s), .agg (sqv s), .int .i64 start, .slice A us.length c, .int .i64 ((us.length : Nat) : Int), .int .i64 ((i : Int) + 1), .bool true, .int .i64 (i : Int), .pointer (some ⟨b26, o27 + i * 4, none⟩), .agg #[.int .i64 ((us.getD i u0).first), .int .i64 ((us.getD i u0).last), .int .i64 ((us.getD i u0).bits), .int .i64 ((us.getD i u0).fields)], .int .i64 f, .agg (sqv s), .pointer (some ⟨g29, 2, none⟩), .int .i64 ((us.getD i u0).bits), .int .i64 (2 * s.num * ((us.getD i u0).bits)), .bool false, .int .i64 f, .agg (sqv s), .pointer (some ⟨g29, 3, none⟩), .int .i64 ((us.getD i u0).fields), .int .i64 (s.br * s.den * ((us.getD i u0).fields)), .agg (sqv s), .pointer (some ⟨g29, 2, none⟩), .int .i64 ((us.getD i u0).bits), .int .i64 (2 * s.num * ((us.getD i u0).bits)), .int .i64 ((s.br * s.den * ((us.getD i u0).fields)) - (2 * s.num * ((us.getD i u0).bits))), .int .i64 (f + ((s.br * s.den * ((us.getD i u0).fields)) - (2 * s.num * ((us.getD i u0).bits)))), .int .i64 (f + ((s.br * s.den * ((us.getD i u0).fields)) - (2 * s.num * ((us.getD i u0).bits)))), .agg (sqv s), .int .i64 (2 * s.num * s.bu), .int .i64 ((f + ((s.br * s.den * ((us.getD i u0).fields)) - (2 * s.num * ((us.getD i u0).bits)))) - (2 * s.num * s.bu)), .int .i64 ((f + ((s.br * s.den * ((us.getD i u0).fields)) - (2 * s.num * ((us.getD i u0).bits)))) - (2 * s.num * s.bu)), .bool true, .bool true, .int .i64 (i : Int), .slice A us.length c, .int .i64 ((us.length : Nat) : Int), .int .i64 (((us.length : Nat) : Int) - 1), .bool false, .bool false, (u19 60), (u19 61), (u19 62), (u19 63), (u19 64), (u19 65), (u19 66), (u19 67), .int .i64 (f + ((s.br * s.den * ((us.getD i u0).fields)) - (2 * s.num * ((us.getD i u0).bits)))), .agg (sqv s), .int .i64 0, .int .i64 0, .int .i64 (2 * s.num * 0), .int .i64 ((f + ((s.br * s.den * ((us.getD i u0).fields)) - (2 * s.num * ((us.getD i u0).bits)))) - (2 * s.num * 0)), .slice A1 i c1, .int .i64 0, .slice (some ⟨g68, 0, none⟩) 1 1, .slice A77 (i + 1) c78, .int .i64 ((i : Int) + 1), undef] zz undef), ⟨⟨by omega, ⟨by omega, by omega⟩, fun hi => by omega, by rw [ints_snoc]; exact O75, pad_next (by omega) hP c35 (padN_zero (by omega)) hE⟩, (M76.sub ((((((List.Sublist.refl []).append_left T72).cons_cons _).cons_cons _).cons _).cons _))⟩, rfl, (by kernel_rfl)⟩
        ·
          refine st_val (.bool false) (by kernel_rfl) (bool_of (dec_f c52) (by kernel_rfl)) ?_
          refine st_val (.bool false) (by kernel_rfl) (by kernel_rfl) ?_
          refine st_skip (by kernel_rfl) ?_
          refine st_skip (by kernel_rfl) ?_
          refine st_skip (by kernel_rfl) ?_
          refine st_skip (by kernel_rfl) ?_
          refine st_skip (by kernel_rfl) ?_
          refine st_val (.bool false) (by kernel_rfl) (by kernel_rfl) ?_
          refine wl_nil ?_
          refine hK47 _ _ ?_
          try clear hK47 K47
          refine wp_frame (a' := ⟨#[.agg (sqv s), .slice A us.length c, .int .i64 start, .pointer (some ⟨g2, 0, none⟩), undef, undef, (u19 6), (u19 7), .pointer (some ⟨g10, 0, none⟩), .slice A1 i c1, .int .i64 (f + ((s.br * s.den * ((us.getD i u0).fields)) - (2 * s.num * ((us.getD i u0).bits)))), .int .i64 (i : Int), .pointer (some ⟨g29, 0, none⟩), .int .i64 0, .int .i64 ((f + ((s.br * s.den * ((us.getD i u0).fields)) - (2 * s.num * ((us.getD i u0).bits)))) - (2 * s.num * s.bu)), .agg (sqv s), .slice A us.length c, .int .i64 start, .bool true, .bool false, .agg (sqv s), .agg (sqv s), .int .i64 start, .slice A us.length c, .int .i64 ((us.length : Nat) : Int), .int .i64 (i : Int), .bool true, .int .i64 (i : Int), .pointer (some ⟨b26, o27 + i * 4, none⟩), .agg #[.int .i64 ((us.getD i u0).first), .int .i64 ((us.getD i u0).last), .int .i64 ((us.getD i u0).bits), .int .i64 ((us.getD i u0).fields)], .int .i64 f, .agg (sqv s), .pointer (some ⟨g29, 2, none⟩), .int .i64 ((us.getD i u0).bits), .int .i64 (2 * s.num * ((us.getD i u0).bits)), .bool false, .int .i64 f, .agg (sqv s), .pointer (some ⟨g29, 3, none⟩), .int .i64 ((us.getD i u0).fields), .int .i64 (s.br * s.den * ((us.getD i u0).fields)), .agg (sqv s), .pointer (some ⟨g29, 2, none⟩), .int .i64 ((us.getD i u0).bits), .int .i64 (2 * s.num * ((us.getD i u0).bits)), .int .i64 ((s.br * s.den * ((us.getD i u0).fields)) - (2 * s.num * ((us.getD i u0).bits))), .int .i64 (f + ((s.br * s.den * ((us.getD i u0).fields)) - (2 * s.num * ((us.getD i u0).bits)))), .int .i64 (f + ((s.br * s.den * ((us.getD i u0).fields)) - (2 * s.num * ((us.getD i u0).bits)))), .agg (sqv s), .int .i64 (2 * s.num * s.bu), .int .i64 ((f + ((s.br * s.den * ((us.getD i u0).fields)) - (2 * s.num * ((us.getD i u0).bits)))) - (2 * s.num * s.bu)), .int .i64 ((f + ((s.br * s.den * ((us.getD i u0).fields)) - (2 * s.num * ((us.getD i u0).bits)))) - (2 * s.num * s.bu)), .bool false, .bool false, undef, undef, undef, undef, undef, .bool false, (u19 60), (u19 61), (u19 62), (u19 63), (u19 64), (u19 65), (u19 66), (u19 67), (u19 68), (u19 69), (u19 70), (u19 71), (u19 72), (u19 73), (u19 74), (u19 75), (u19 76), (u19 77), (u19 78), undef], []⟩) (by kernel_rfl) ?_
          refine wp_cond_false (by kernel_rfl) ?_
          refine wp_skip ?_
          refine hK43 _ _ ?_
          try clear hK43 K43
          refine wp_seq_k (fun K80 hK80 => ?_)
          refine wl_region ?_
          refine st_val (.int .i64 (f + ((s.br * s.den * ((us.getD i u0).fields)) - (2 * s.num * ((us.getD i u0).bits))))) (by kernel_rfl) (by kernel_rfl) ?_
          refine st_val (.agg (sqv s)) (by kernel_rfl) (run_load_row 63 (.tmp 8) rfl g10 (by kernel_rfl) 63 (sqv s) (0, 0) _ (M46.get 1 rfl) Try.underlying63 rfl (infoMo hs.la hs.lb)) ?_
          refine st_val (.int .i64 0) (by kernel_rfl) (by kernel_rfl) ?_
          refine st_val (.int .i64 0) (by kernel_rfl) (by kernel_rfl) ?_
          refine st_callB M46 (.int .i64 (2 * s.num * 0)) (by kernel_rfl) (args := #[.agg (sqv s), .int .i64 0]) (run_value_call 34 #[(Operand.tmp 69), (Operand.tmp 71)] _ rfl Try.func34 (by kernel_rfl) (by kernel_rfl) _ (by kernel_rfl)) (mcost_walk W45 s hs hv 0 (mul_bd (m := 2097152) (n := 8388608) (by omega) (by omega) (by decide))) ?_
          intro W81 M82
          refine st_val (.int .i64 ((f + ((s.br * s.den * ((us.getD i u0).fields)) - (2 * s.num * ((us.getD i u0).bits)))) - (2 * s.num * 0))) (by kernel_rfl) (i64_of (by omega) (by kernel_rfl)) ?_
          refine st_val (.int .i64 ((f + ((s.br * s.den * ((us.getD i u0).fields)) - (2 * s.num * ((us.getD i u0).bits)))) - (2 * s.num * 0))) (by kernel_rfl) (by kernel_rfl) ?_
          refine wl_nil ?_
          refine hK80 _ _ ?_
          try clear hK80 K80
          refine wl_region ?_
          refine st_val (.slice A1 i c1) (by kernel_rfl) (by kernel_rfl) ?_
          refine st_val (.int .i64 0) (by kernel_rfl) (by kernel_rfl) ?_
          refine st_new M82 (.cells #[.int .i64 0] 2 (0, 0)) (fun g => .slice (some ⟨g, 0, none⟩) 1 1) (by kernel_rfl) (by kernel_rfl) ?_
          intro g83 W84 M85
          obtain ⟨v86, T87, W88, hr89, O90, M91⟩ := append_i64 (A := [(g83, .cells #[.int .i64 0] 2 (0, 0)), (g29, .cells #[.int .i64 ((us.getD i u0).first), .int .i64 ((us.getD i u0).last), .int .i64 ((us.getD i u0).bits), .int .i64 ((us.getD i u0).fields)] 60 (0, 0)), (g10, .cells (sqv s) 63 (0, 0)), (g2, .cells (sqv s) 26 (0, 0))]) (T := T1) (B := []) M85 41 _ _ _ O1 _ 1 ([.int .i64 0]) (rdk_new (M85.get 0 rfl)) rfl (by intro x hx; simp only [List.mem_cons, List.not_mem_nil, or_false] at hx; rcases hx with rfl <;> rfl) (by omega)
          have M91 : Mem NoS w W88 ((g83, .cells #[.int .i64 0] 2 (0, 0)) :: (g29, .cells #[.int .i64 ((us.getD i u0).first), .int .i64 ((us.getD i u0).last), .int .i64 ((us.getD i u0).bits), .int .i64 ((us.getD i u0).fields)] 60 (0, 0)) :: (g10, .cells (sqv s) 63 (0, 0)) :: (g2, .cells (sqv s) 26 (0, 0)) :: (T87 ++ [])) := M91
          obtain ⟨A92, c93, rfl, hc94⟩ := O90.shape
          refine st_world (.slice A92 (i + 1) c93) W88 (by kernel_rfl) (run_append_op (.tmp 74) (.tmp 76) _ rfl (.slice A1 i c1) (.slice (some ⟨g83, 0, none⟩) 1 1) _ (by kernel_rfl) (by kernel_rfl) hr89) ?_
          refine st_val (.slice A92 (i + 1) c93) (by kernel_rfl) (by kernel_rfl) ?_
          refine wl_nil ?_
          refine blk_normal ?_
          refine hK24 _ _ ?_
          try clear hK24 K24
          refine wl_region ?_
          refine st_val (.int .i64 ((i : Int) + 1)) (by kernel_rfl) (i64_of (by omega) (by kernel_rfl)) ?_
          refine st_val (.int .i64 ((i : Int) + 1)) (by kernel_rfl) (by kernel_rfl) ?_
          refine wl_nil ?_
          refine th_normal ?_
          have hE : f + (s.br * s.den * (us.getD i u0).fields - 2 * s.num * (us.getD i u0).bits) - 2 * s.num * (8 * 0) = (f + ((s.br * s.den * ((us.getD i u0).fields)) - (2 * s.num * ((us.getD i u0).bits)))) - (2 * s.num * 0) := by omega
          exact ⟨_, by omega, (i + 1), ((f + ((s.br * s.den * ((us.getD i u0).fields)) - (2 * s.num * ((us.getD i u0).bits)))) - (2 * s.num * 0)), (p ++ [0]), A92, c93, T87, (fun zz => Array.getD #[.agg (sqv s), .slice A us.length c, .int .i64 start, .pointer (some ⟨g2, 0, none⟩), undef, undef, (u19 6), (u19 7), .pointer (some ⟨g10, 0, none⟩), .slice A92 (i + 1) c93, .int .i64 ((f + ((s.br * s.den * ((us.getD i u0).fields)) - (2 * s.num * ((us.getD i u0).bits)))) - (2 * s.num * 0)), .int .i64 (i : Int), .pointer (some ⟨g29, 0, none⟩), .int .i64 0, .int .i64 ((f + ((s.br * s.den * ((us.getD i u0).fields)) - (2 * s.num * ((us.getD i u0).bits)))) - (2 * s.num * s.bu)), .agg (sqv s), .slice A us.length c, .int .i64 start, .bool true, .bool false, .agg (sqv s), .agg (sqv s), .int .i64 start, .slice A us.length c, .int .i64 ((us.length : Nat) : Int), .int .i64 ((i : Int) + 1), .bool true, .int .i64 (i : Int), .pointer (some ⟨b26, o27 + i * 4, none⟩), .agg #[.int .i64 ((us.getD i u0).first), .int .i64 ((us.getD i u0).last), .int .i64 ((us.getD i u0).bits), .int .i64 ((us.getD i u0).fields)], .int .i64 f, .agg (sqv s), .pointer (some ⟨g29, 2, none⟩), .int .i64 ((us.getD i u0).bits), .int .i64 (2 * s.num * ((us.getD i u0).bits)), .bool false, .int .i64 f, .agg (sqv s), .pointer (some ⟨g29, 3, none⟩), .int .i64 ((us.getD i u0).fields), .int .i64 (s.br * s.den * ((us.getD i u0).fields)), .agg (sqv s), .pointer (some ⟨g29, 2, none⟩), .int .i64 ((us.getD i u0).bits), .int .i64 (2 * s.num * ((us.getD i u0).bits)), .int .i64 ((s.br * s.den * ((us.getD i u0).fields)) - (2 * s.num * ((us.getD i u0).bits))), .int .i64 (f + ((s.br * s.den * ((us.getD i u0).fields)) - (2 * s.num * ((us.getD i u0).bits)))), .int .i64 (f + ((s.br * s.den * ((us.getD i u0).fields)) - (2 * s.num * ((us.getD i u0).bits)))), .agg (sqv s), .int .i64 (2 * s.num * s.bu), .int .i64 ((f + ((s.br * s.den * ((us.getD i u0).fields)) - (2 * s.num * ((us.getD i u0).bits)))) - (2 * s.num * s.bu)), .int .i64 ((f + ((s.br * s.den * ((us.getD i u0).fields)) - (2 * s.num * ((us.getD i u0).bits)))) - (2 * s.num * s.bu)), .bool false, .bool false, undef, undef, undef, undef, undef, .bool false, (u19 60), (u19 61), (u19 62), (u19 63), (u19 64), (u19 65), (u19 66), (u19 67), .int .i64 (f + ((s.br * s.den * ((us.getD i u0).fields)) - (2 * s.num * ((us.getD i u0).bits)))), .agg (sqv s), .int .i64 0, .int .i64 0, .int .i64 (2 * s.num * 0), .int .i64 ((f + ((s.br * s.den * ((us.getD i u0).fields)) - (2 * s.num * ((us.getD i u0).bits)))) - (2 * s.num * 0)), .slice A1 i c1, .int .i64 0, .slice (some ⟨g83, 0, none⟩) 1 1, .slice A92 (i + 1) c93, .int .i64 ((i : Int) + 1), undef] zz undef), ⟨⟨by omega, ⟨by omega, by omega⟩, fun hi => by omega, by rw [ints_snoc]; exact O90, pad_next (by omega) hP c35 (padN_zero (by omega)) hE⟩, (M91.sub ((((((List.Sublist.refl []).append_left T87).cons_cons _).cons_cons _).cons _).cons _))⟩, rfl, (by kernel_rfl)⟩
    ·
      refine st_val (.bool false) (by kernel_rfl) (bool_of (dec_f c26) (by kernel_rfl)) ?_
      refine wl_nil ?_
      refine hK22 _ _ ?_
      try clear hK22 K22
      refine wp_seq_k (fun K95 hK95 => ?_)
      refine wp_cond_false (by kernel_rfl) ?_
      refine wp_exit ?_
      refine th_exit ?_
      refine th_exit ?_
      refine blk_exit ?_
      refine hK17 _ _ ?_
      try clear hK17 K17
      refine wp_seq_k (fun K96 hK96 => ?_)
      refine wl_region ?_
      refine st_val (.slice A1 i c1) (by kernel_rfl) (by kernel_rfl) ?_
      refine st_val (.slice A1 i c1) (by kernel_rfl) (by kernel_rfl) ?_
      refine st_val (.int .i64 0) (by kernel_rfl) (by kernel_rfl) ?_
      refine wl_nil ?_
      refine hK96 _ _ ?_
      try clear hK96 K96
      refine wp_ret ?_
      have hfin := pad_end (by omega) hP
      have hl : p.length = i := by have := O1.len; simp only [ints, List.length_map] at this; omega
      exact done2 6 7 (.slice A1 i c1) (.int .i64 0) (by kernel_rfl) (by kernel_rfl) (by kernel_rfl) (by kernel_rfl) ⟨_, T1, rfl, ⟨_, by rw [(pad_some hpr hfin).1], by rw [(pad_some hpr hfin).2]; show Own _ 1 _ p.length (ints p) T1; rw [hl]; exact O1⟩, M21.sub (((List.sublist_append_left T1 []).cons _).cons _)⟩
  ·
    have hpn := prB_not hp18
    refine st_callB M4 (.bool false) (by kernel_rfl) (args := #[.agg (sqv s), .slice A us.length c, .int .i64 start]) (run_value_call 35 #[(Operand.tmp 15), (Operand.tmp 16), (Operand.tmp 17)] _ rfl Try.func35 (by kernel_rfl) (by kernel_rfl) _ (by kernel_rfl)) ((by have := proper_walk W3 s hs (.slice A us.length c) us (hr.keep M4.keep (fun _ _ h => h)) start; rw [hp18] at this; exact this)) ?_
    intro W97 M98
    refine st_val (.bool true) (by kernel_rfl) (by kernel_rfl) ?_
    refine wl_nil ?_
    refine hK6 _ _ ?_
    try clear hK6 K6
    refine wp_cond_true (by kernel_rfl) ?_
    refine wp_seq_k (fun K99 hK99 => ?_)
    refine wl_region ?_
    refine st_val ((Go.Value.slice none 0 0)) (by kernel_rfl) (by kernel_rfl) ?_
    refine st_val (.int .i64 1) (by kernel_rfl) (by kernel_rfl) ?_
    refine wl_nil ?_
    refine hK99 _ _ ?_
    try clear hK99 K99
    refine wp_ret ?_
    refine th_ret ?_
    exact done2 6 7 ((Go.Value.slice none 0 0)) (.int .i64 1) (by kernel_rfl) (by kernel_rfl) (by kernel_rfl) (by kernel_rfl) ⟨_, [], rfl, ⟨_, by rw [(pad_arg hpn).1], by rw [(pad_arg hpn).2]; exact Own.nil _ _⟩, M98.sub (List.nil_sublist _)⟩
end Go.Proofs.Ytolfkaljbgpkhaa
