/- The fullness at the end. -/
import Derived.Test.YtolfkaljbgpkhaaLp
namespace Go.Proofs.Ytolfkaljbgpkhaa
open Go.RowKit

theorem padN_cases {c cap f : Int} (last : Bool) (hc : 0 < c) : (padN c cap f last = 0 ∧ (f ≤ cap ∨ last = true)) ∨ (last = false ∧ f > cap ∧ f - cap ≤ c * (8 * padN c cap f last) ∧ c * (8 * padN c cap f last) ≤ f - cap + c * 8 - 1) := by
  by_cases h : f - cap > 0 ∧ last = false
  · right
    have e : padN c cap f last = (f - cap + c * 8 - 1) / (c * 8) := by unfold padN; rw [if_pos h]
    have hb := ceil_bd (o := f - cap) (c := c * 8) (by omega) h.1
    rw [e, ← Int.mul_assoc]
    exact ⟨h.2, by omega, hb.1, hb.2.1⟩
  · left
    refine ⟨by unfold padN; rw [if_neg h], ?_⟩
    cases last with
    | true => exact .inr rfl
    | false => left; have : ¬ (f - cap > 0) := fun c => h ⟨c, rfl⟩; omega
theorem padO_cons_some {c d cap full : Int} {u : UnitD} {r : List UnitD} {q : List Int × Int} (h : padO c d cap full (u :: r) = some q) : ¬ full < c * u.bits ∧ ∃ N l, N = padN c cap (full + (d * u.fields - c * u.bits)) r.isEmpty ∧ q.1 = N :: l ∧ padO c d cap (full + (d * u.fields - c * u.bits) - c * (8 * N)) r = some (l, q.2) := by
  simp only [padO] at h
  split at h
  · cases h
  · rename_i h1
    refine ⟨h1, ?_⟩
    cases hq : padO c d cap (full + (d * u.fields - c * u.bits) - c * (8 * padN c cap (full + (d * u.fields - c * u.bits)) r.isEmpty)) r with
    | none => rw [hq] at h; cases h
    | some q' =>
      rw [hq] at h
      simp only [Option.map_some, Option.some.injEq] at h
      subst h
      exact ⟨_, q'.1, rfl, rfl, hq⟩
theorem PU_tail {u : UnitD} {r : List UnitD} (h : ∀ j, j < (u :: r).length → PU ((u :: r).getD j u0)) : PU u ∧ ∀ j, j < r.length → PU (r.getD j u0) :=
  ⟨h 0 (by simp), fun j hj => h (j + 1) (by simpa using hj)⟩
theorem padO_bd {c d cap : Int} (hc : 0 < c) (hd : 0 ≤ d) (hcap : c * 8 ≤ cap) (us : List UnitD) : ∀ (full : Int) {q : List Int × Int}, (∀ j, j < us.length → PU (us.getD j u0)) → 0 ≤ full → full ≤ cap → padO c d cap full us = some q → 0 ≤ q.2 ∧ q.2 ≤ cap + 3 * d := by
  induction us with
  | nil => intro full q _ h0 h1 h; simp only [padO, Option.some.injEq] at h; subst h; show 0 ≤ full ∧ full ≤ _; omega
  | cons u r ih =>
    intro full q hP h0 h1 h
    obtain ⟨⟨hb0, hb1, hf⟩, hr⟩ := PU_tail hP
    obtain ⟨hn, N, l, hN, _, hq⟩ := padO_cons_some h
    have hdf : 0 ≤ d * u.fields ∧ d * u.fields ≤ 3 * d := by rcases hf with h | h <;> rw [h] <;> omega
    have hcb : 0 ≤ c * u.bits := Int.mul_nonneg (by omega) hb0
    rcases padN_cases (c := c) (cap := cap) (f := full + (d * u.fields - c * u.bits)) r.isEmpty hc with ⟨h2, h3⟩ | ⟨h2, h3, h4, h5⟩
    · rw [← hN] at h2
      rw [h2] at hq
      rw [show full + (d * u.fields - c * u.bits) - c * (8 * 0) = full + (d * u.fields - c * u.bits) by omega] at hq
      rcases h3 with h3 | h3
      · have := ih _ hr (by omega) h3 hq; exact this
      · rw [List.isEmpty_iff] at h3
        subst h3
        simp only [padO, Option.some.injEq] at hq
        have : q.2 = full + (d * u.fields - c * u.bits) := by have := congrArg Prod.snd hq; exact this.symm
        omega
    · rw [← hN] at h4 h5
      have := ih _ hr (by omega) (by omega) hq; exact this
theorem needO_le {c d most wanted n : Int} {us : List UnitD} (h : needO c d most wanted us = some n) : n ≤ most := by
  cases us with
  | nil =>
    simp only [needO] at h
    split at h
    · cases h
    · cases h; omega
  | cons u r =>
    simp only [needO] at h
    split at h
    · cases h
    · split at h
      · cases h
      · cases h; omega
theorem least_O {c d cap wanted : Int} (hc : 0 < c) (us : List UnitD) : ∀ (start n : Int), needO c d (cap - c * 8) wanted us = some n →
    (n ≤ start → ∃ q, padO c d cap start us = some q ∧ wanted ≤ q.2) ∧ (start < n → ∀ q, padO c d cap start us = some q → q.2 < wanted) := by
  induction us with
  | nil =>
    intro start n h
    simp only [needO] at h
    split at h
    · cases h
    · cases h
      exact ⟨fun h => ⟨_, rfl, h⟩, fun h q hq => by simp only [padO, Option.some.injEq] at hq; subst hq; exact h⟩
  | cons u r ih =>
    intro start n h
    simp only [needO] at h
    split at h
    · cases h
    · rename_i n' hn'
      split at h
      · cases h
      · rename_i hm
        simp only [Option.some.injEq] at h
        have hle := needO_le hn'
        have hN := padN_cases (c := c) (cap := cap) (f := start + (d * u.fields - c * u.bits)) r.isEmpty hc
        generalize hz : padN c cap (start + (d * u.fields - c * u.bits)) r.isEmpty = N at hN
        have hm2 : 0 ≤ max 0 (n' - d * u.fields) ∧ n' - d * u.fields ≤ max 0 (n' - d * u.fields) ∧ (max 0 (n' - d * u.fields) = 0 ∨ max 0 (n' - d * u.fields) = n' - d * u.fields) := by omega
        have hA1 : n ≤ start → ¬ start < c * u.bits := fun hs => by omega
        have hA2 : n ≤ start → n' ≤ start + (d * u.fields - c * u.bits) - c * (8 * N) := fun hs => by
          rcases hN with ⟨h2, _⟩ | ⟨_, h3, h4, h5⟩
          · rw [h2]; omega
          · omega
        have hB : ¬ start < c * u.bits → start < n → start + (d * u.fields - c * u.bits) - c * (8 * N) < n' := fun h1 hs => by
          rcases hN with ⟨h2, _⟩ | ⟨_, h3, h4, h5⟩
          · rw [h2]; omega
          · omega
        have hI := ih (start + (d * u.fields - c * u.bits) - c * (8 * N)) n' hn'
        constructor
        · intro hs
          obtain ⟨q, hq, hw⟩ := hI.1 (hA2 hs)
          exact ⟨(N :: q.1, q.2), by rw [padO_step (hA1 hs) hz, hq]; rfl, hw⟩
        · intro hs q hq
          obtain ⟨h1, N', l, hN', _, hq'⟩ := padO_cons_some hq
          rw [hz] at hN'
          subst hN'
          have := hI.2 (hB h1 hs) _ hq'; exact this
theorem more_O {c d cap : Int} (hc : 0 < c) (us : List UnitD) : ∀ (x y : Int) (q q' : List Int × Int), x - c * 8 < y → padO c d cap x us = some q → padO c d cap y us = some q' → q.2 - c * 8 < q'.2 := by
  induction us with
  | nil =>
    intro x y q q' h hq hq'
    simp only [padO, Option.some.injEq] at hq hq'
    subst hq; subst hq'; exact h
  | cons u r ih =>
    intro x y q q' h hq hq'
    obtain ⟨_, N, l, hN, _, hr⟩ := padO_cons_some hq
    obtain ⟨_, N', l', hN', _, hr'⟩ := padO_cons_some hq'
    suffices hh : (x + (d * u.fields - c * u.bits) - c * (8 * N)) - c * 8 < y + (d * u.fields - c * u.bits) - c * (8 * N') by
      have := ih _ _ _ _ hh hr hr'; exact this
    have h1 := padN_cases (c := c) (cap := cap) (f := x + (d * u.fields - c * u.bits)) r.isEmpty hc
    have h2 := padN_cases (c := c) (cap := cap) (f := y + (d * u.fields - c * u.bits)) r.isEmpty hc
    rw [← hN] at h1
    rw [← hN'] at h2
    rcases h1 with ⟨a1, a2⟩ | ⟨a1, a2, a3, a4⟩ <;> rcases h2 with ⟨b1, b2⟩ | ⟨b1, b2, b3, b4⟩
    · rw [a1, b1]; omega
    · rw [a1]
      rcases a2 with a2 | a2
      · omega
      · rw [a2] at b1; cases b1
    · rw [b1]; omega
    · omega
theorem pad_ok {s : SeqD} {us : List UnitD} {x : Int} (h : padE s us x = 0) : PR s us x ∧ ∃ q, padR s us x = some q ∧ padL s us x = q.1 ∧ q.1.length = us.length := by
  by_cases hp : PR s us x
  · cases hq : padR s us x with
    | none => rw [(pad_none hp hq).1] at h; cases h
    | some q => exact ⟨hp, q, rfl, (pad_some hp hq).2, padO_len us x hq⟩
  · rw [(pad_arg hp).1] at h; cases h
/-- the fullness at the end, with stuffing -/
noncomputable def endR (s : SeqD) (us : List UnitD) (x : Int) : Int × Int := @ite _ (padE s us x = 0) (Classical.propDecidable _) (match padR s us x with | none => 0 | some q => q.2, 0) (0, padE s us x)
theorem endR_bad {s : SeqD} {us : List UnitD} {x : Int} (h : ¬ padE s us x = 0) : endR s us x = (0, padE s us x) := by unfold endR; rw [if_neg h]
theorem endR_ok {s : SeqD} {us : List UnitD} {x : Int} (h : padE s us x = 0) {q : List Int × Int} (hq : padR s us x = some q) : endR s us x = (q.2, 0) := by unfold endR; rw [if_pos h, hq]
theorem padE_ok {s : SeqD} {us : List UnitD} {x : Int} (hp : PR s us x) {q : List Int × Int} (hq : padR s us x = some q) : padE s us x = 0 := (pad_some hp hq).1
theorem pad_read {c d cap f e : Int} {us : List UnitD} {l : List Int} {i : Nat} (hi : i < us.length) (h : padO c d cap f (us.drop i) = some (l.drop i, e)) : ¬ f < c * (us.getD i u0).bits ∧ l.getD i 0 = padN c cap (f + (d * (us.getD i u0).fields - c * (us.getD i u0).bits)) (us.drop (i + 1)).isEmpty ∧
    padO c d cap (f + (d * (us.getD i u0).fields - c * (us.getD i u0).bits) - c * (8 * l.getD i 0)) (us.drop (i + 1)) = some (l.drop (i + 1), e) := by
  rw [drop_getD us u0 i hi] at h
  obtain ⟨h1, N, l', hN, hl, hq⟩ := padO_cons_some h
  have hl : l.drop i = N :: l' := hl
  have hlen : i < l.length := by
    rcases Nat.lt_or_ge i l.length with h | h
    · exact h
    · rw [List.drop_eq_nil_of_le h] at hl; cases hl
  rw [drop_getD l 0 i hlen] at hl
  injection hl with e1 e2
  refine ⟨h1, e1.trans hN, ?_⟩
  rw [e1, e2]
  exact hq
theorem SV_cap {s : SeqD} (hv : sB s = true) : 0 < 2 * s.num ∧ 0 ≤ s.br * s.den ∧ 2 * s.num * 8 ≤ 2 * s.num * s.bu := by
  obtain ⟨vn1, vn2, vd1, vd2, vb1, vb2, vu1, vu2, vP, vQ, vR⟩ := SV_facts hv
  have : 0 ≤ 3 * s.den * s.br := Int.mul_nonneg (by omega) (by omega)
  omega
theorem endR_rng {s : SeqD} {us : List UnitD} {x : Int} : 0 ≤ (endR s us x).1 ∧ (endR s us x).1 ≤ 100000000000000 := by
  by_cases h : padE s us x = 0
  · obtain ⟨hp, q, hq, _⟩ := pad_ok h
    obtain ⟨h1, h2, h3⟩ := SV_cap hp.1
    obtain ⟨vn1, vn2, vd1, vd2, vb1, vb2, vu1, vu2, vP, vQ, vR⟩ := SV_facts hp.1
    have hx := hp.2.2.1
    rw [capS_t hp.1] at hx
    have := padO_bd h1 h2 h3 us x hp.2.2.2.2 hp.2.1 hx hq
    rw [endR_ok h hq]
    show 0 ≤ q.2 ∧ q.2 ≤ _
    omega
  · rw [endR_bad h]; show (0 : Int) ≤ 0 ∧ (0 : Int) ≤ _; omega
theorem need_ok {s : SeqD} {us : List UnitD} {w : Int} (h : (needR s us w).2 = 0) : PR s us 0 ∧ 0 ≤ w ∧ ∃ n, needO (2 * s.num) (s.br * s.den) (mostS s) w us = some n ∧ (needR s us w).1 = n := by
  by_cases hp : PR s us 0 ∧ 0 ≤ w
  · cases hn : needO (2 * s.num) (s.br * s.den) (mostS s) w us with
    | none => rw [needR_none hp.1 hp.2 hn] at h; cases h
    | some n => exact ⟨hp.1, hp.2, n, rfl, by rw [needR_some hp.1 hp.2 hn]⟩
  · rw [needR_arg hp] at h; cases h
theorem PR_start {s : SeqD} {us : List UnitD} {x : Int} (h : PR s us 0) (h0 : 0 ≤ x) (h1 : x ≤ capS s) : PR s us x := ⟨h.1, h0, h1, h.2.2.2⟩
theorem least_t {s : SeqD} {us : List UnitD} {w x : Int} (h : (needR s us w).2 = 0) (h0 : 0 ≤ x) (h1 : x ≤ capS s) (hx : (needR s us w).1 ≤ x) : (endR s us x).2 = 0 ∧ w ≤ (endR s us x).1 := by
  obtain ⟨hp, _, n, hn, e⟩ := need_ok h
  rw [e] at hx
  obtain ⟨q, hq, hw⟩ := (least_O (SV_cap hp.1).1 us x n hn).1 hx
  rw [endR_ok (padE_ok (PR_start hp h0 h1) hq) hq]
  exact ⟨rfl, hw⟩
theorem least_f {s : SeqD} {us : List UnitD} {w x : Int} (h : (needR s us w).2 = 0) (hx : x < (needR s us w).1) (hg : (endR s us x).2 = 0) : (endR s us x).1 < w := by
  obtain ⟨hp, _, n, hn, e⟩ := need_ok h
  rw [e] at hx
  by_cases hE : padE s us x = 0
  · obtain ⟨_, q, hq, _⟩ := pad_ok hE
    rw [endR_ok hE hq]
    exact (least_O (SV_cap hp.1).1 us x n hn).2 hx q hq
  · rw [endR_bad hE] at hg; exact (hE hg).elim
theorem end_ok {s : SeqD} {us : List UnitD} {x : Int} (h : (endR s us x).2 = 0) : PR s us x ∧ ∃ q, padR s us x = some q ∧ (endR s us x).1 = q.2 := by
  by_cases hE : padE s us x = 0
  · obtain ⟨hp, q, hq, _⟩ := pad_ok hE
    exact ⟨hp, q, hq, by rw [endR_ok hE hq]⟩
  · rw [endR_bad hE] at h; exact (hE h).elim
/-- VbvMore -/
theorem more_all {s : SeqD} {us : List UnitD} {x m : Int} (hf : (endR s us x).2 = 0) (hn : (needR s us 0).2 = 0) (hm : 0 ≤ m) (hc : x + m ≤ capS s) :
    (needR s us 0).1 ≤ x ∧ (endR s us (x + m)).2 = 0 ∧ (endR s us x).1 - 16 * s.num < (endR s us (x + m)).1 := by
  obtain ⟨hp, q, hq, e⟩ := end_ok hf
  have h1 : (needR s us 0).1 ≤ x := by
    rcases Int.lt_or_le x (needR s us 0).1 with h | h
    · have := least_f hn h hf
      have := endR_rng (s := s) (us := us) (x := x)
      omega
    · exact h
  have hx0 := hp.2.1
  have h2 := least_t (x := x + m) hn (by omega) hc (by omega)
  obtain ⟨hp', q', hq', e'⟩ := end_ok h2.1
  have hcc := (SV_cap hp.1).1
  have := more_O hcc us x (x + m) q q' (by omega) hq hq'
  exact ⟨h1, h2.1, by rw [e, e']; omega⟩
set_option maxHeartbeats 4000000 in
set_option maxRecDepth 100000 in
theorem end_walk (w : World) (s : SeqD) (hs : SOk s) (v : Value) (us : List UnitD) (hr : RdK w v us.length (flat us)) (st : Int) (hst : -9223372036854775808 ≤ st ∧ st ≤ 9223372036854775807) : Calls Try.prog 27 #[.agg (sqv s), v, .int .i64 st] w fun e w' => e = .returned (.tuple #[.int .i64 (endR s us st).1, .int .i64 (endR s us st).2]) ∧ Below w.heap.size w w' := by
  obtain ⟨A, c, rfl, hc⟩ := hr.shape
  refine calls_of_wp Try.func27 rfl ?_
  refine wp_frame (a' := ⟨#[.agg (sqv s), .slice A us.length c, .int .i64 st, undef, undef, undef, undef, undef, undef, undef, undef, undef, undef, undef, undef, undef, undef, undef, undef, undef, undef, undef, undef, undef, undef, undef, undef, undef, undef, undef, undef, undef, undef, undef, undef, undef, undef, undef, undef, undef, undef, undef, undef, undef, undef, undef, undef, undef, undef, undef, undef, undef, undef, undef, undef, undef, undef, undef, undef, undef, undef, undef, undef, undef], []⟩) (by kernel_rfl) ?_
  have M0 : Mem NoS w w [] := Mem.start _ _
  refine wp_seq_k (fun K1 hK1 => ?_)
  refine wl_region ?_
  refine st_alloc M0 (.cells (sqv s) 26 (0, 0)) (by kernel_rfl) (by kernel_rfl) ?_
  intro g2 W3 M4
  refine st_val (.int .i64 0) (by kernel_rfl) (by kernel_rfl) ?_
  refine st_val (.int .i64 0) (by kernel_rfl) (by kernel_rfl) ?_
  refine wl_nil ?_
  refine hK1 _ _ ?_
  try clear hK1 K1
  refine wp_seq_k (fun K5 hK5 => ?_)
  refine wl_region ?_
  refine st_val (.agg (sqv s)) (by kernel_rfl) (run_load_row 26 (.tmp 3) rfl g2 (by kernel_rfl) 26 (sqv s) (0, 0) _ (M4.get 0 rfl) Try.underlying26 rfl (infoSq hs.la hs.lb)) ?_
  refine st_val (.slice A us.length c) (by kernel_rfl) (by kernel_rfl) ?_
  refine st_val (.int .i64 st) (by kernel_rfl) (by kernel_rfl) ?_
  refine st_callR (A := [(g2, .cells (sqv s) 26 (0, 0))]) (B := []) M4 (by kernel_rfl) (run_value_call 21 #[(Operand.tmp 13), (Operand.tmp 14), (Operand.tmp 15)] _ rfl Try.func21 (by kernel_rfl) (by kernel_rfl) _ (by kernel_rfl)) (pad_walk W3 s hs (.slice A us.length c) us (hr.keep M4.keep (fun _ _ h => h)) st hst) ?_
  intro v6 T7 W8 O9 M10
  have M10 : Mem NoS w W8 ((g2, .cells (sqv s) 26 (0, 0)) :: (T7 ++ [])) := M10
  obtain ⟨v11, rfl, O12⟩ := O9
  obtain ⟨A13, c14, rfl, hc15⟩ := O12.shape
  refine st_val (.tuple #[.slice A13 ((padL s us st).length) c14, .int .i64 (padE s us st)]) (by kernel_rfl) (by kernel_rfl) ?_
  refine st_val (.slice A13 ((padL s us st).length) c14) (by kernel_rfl) (by kernel_rfl) ?_
  refine st_val (.int .i64 (padE s us st)) (by kernel_rfl) (by kernel_rfl) ?_
  refine st_val (.slice A13 ((padL s us st).length) c14) (by kernel_rfl) (by kernel_rfl) ?_
  refine st_val (.int .i64 (padE s us st)) (by kernel_rfl) (by kernel_rfl) ?_
  refine wl_nil ?_
  refine hK5 _ _ ?_
  try clear hK5 K5
  refine wp_seq_k (fun K16 hK16 => ?_)
  refine wp_seq_k (fun K17 hK17 => ?_)
  refine wl_region ?_
  refine st_val (.int .i64 (padE s us st)) (by kernel_rfl) (by kernel_rfl) ?_
  rcases Decidable.em ((padE s us st : Int) = 0) with c20 | c20
  ·
    obtain ⟨hpr, q, hq, hL, hlen⟩ := pad_ok c20
    have hLl : (padL s us st).length = us.length := by rw [hL]; exact hlen
    have hv := hpr.1
    obtain ⟨vn1, vn2, vd1, vd2, vb1, vb2, vu1, vu2, vP, vQ, vR⟩ := SV_facts hv
    have hcap := capS_t hv
    have hul := hpr.2.2.2.1
    have hst1 := hpr.2.1
    have hst2 := hpr.2.2.1
    refine st_val (.bool false) (by kernel_rfl) (bool_of (neq_f c20) (by kernel_rfl)) ?_
    refine st_val (.bool false) (by kernel_rfl) (by kernel_rfl) ?_
    refine st_val (.slice A13 ((padL s us st).length) c14) (by kernel_rfl) (by kernel_rfl) ?_
    refine st_val (.int .i64 (((padL s us st).length : Nat) : Int)) (by kernel_rfl) (by kernel_rfl) ?_
    refine st_val (.slice A us.length c) (by kernel_rfl) (by kernel_rfl) ?_
    refine st_val (.int .i64 ((us.length : Nat) : Int)) (by kernel_rfl) (by kernel_rfl) ?_
    refine st_val (.bool false) (by kernel_rfl) (bool_of (neq_f (show ((((padL s us st).length : Nat) : Int) : Int) = ((us.length : Nat) : Int) from (show (((padL s us st).length : Nat) : Int) = ((us.length : Nat) : Int) by rw [hLl]))) (by kernel_rfl)) ?_
    refine st_val (.bool false) (by kernel_rfl) (by kernel_rfl) ?_
    refine wl_nil ?_
    refine hK17 _ _ ?_
    try clear hK17 K17
    refine wp_frame (a' := ⟨#[.agg (sqv s), .slice A us.length c, .int .i64 st, .pointer (some ⟨g2, 0, none⟩), undef, undef, .int .i64 0, .int .i64 0, .slice A13 ((padL s us st).length) c14, .int .i64 (padE s us st), undef, undef, .tuple #[.slice A13 ((padL s us st).length) c14, .int .i64 (padE s us st)], .agg (sqv s), .slice A us.length c, .int .i64 st, .tuple #[.slice A13 ((padL s us st).length) c14, .int .i64 (padE s us st)], .slice A13 ((padL s us st).length) c14, .int .i64 (padE s us st), .int .i64 (padE s us st), .bool false, .bool false, .slice A13 ((padL s us st).length) c14, .int .i64 (((padL s us st).length : Nat) : Int), .slice A us.length c, .int .i64 ((us.length : Nat) : Int), .bool false, .bool false, undef, undef, undef, undef, undef, undef, undef, undef, undef, undef, undef, undef, undef, undef, undef, undef, undef, undef, undef, undef, undef, undef, undef, undef, undef, undef, undef, undef, undef, undef, undef, undef, undef, undef, undef, undef], []⟩) (by kernel_rfl) ?_
    refine wp_cond_false (by kernel_rfl) ?_
    refine wp_skip ?_
    refine hK16 _ _ ?_
    try clear hK16 K16
    refine wp_seq_k (fun K18 hK18 => ?_)
    refine wl_region ?_
    refine st_val (.int .i64 st) (by kernel_rfl) (by kernel_rfl) ?_
    refine st_val (.int .i64 st) (by kernel_rfl) (by kernel_rfl) ?_
    refine wl_nil ?_
    refine hK18 _ _ ?_
    try clear hK18 K18
    refine wp_seq_k (fun K19 hK19 => ?_)
    refine wp_seq_k (fun K20 hK20 => ?_)
    refine wl_region ?_
    refine st_val (.int .i64 0) (by kernel_rfl) (by kernel_rfl) ?_
    refine wl_nil ?_
    refine hK20 _ _ ?_
    try clear hK20 K20
    refine wp_block ?_
    refine wp_loop_ghost (fun gn a' w' => ∃ (i : Nat) (f : Int) (u21 : Nat → Value), ((i ≤ us.length ∧ (0 ≤ f ∧ f ≤ 2 * s.num * s.bu + 3 * (s.br * s.den)) ∧ (i < us.length → f ≤ 2 * s.num * s.bu) ∧ padO (2 * s.num) (s.br * s.den) (2 * s.num * s.bu) f (us.drop i) = some ((padL s us st).drop i, q.2)) ∧ Mem NoS w w' ((g2, .cells (sqv s) 26 (0, 0)) :: (T7 ++ []))) ∧ gn = us.length - i ∧ a' = ⟨#[.agg (sqv s), .slice A us.length c, .int .i64 st, .pointer (some ⟨g2, 0, none⟩), undef, undef, .int .i64 0, .int .i64 0, .slice A13 ((padL s us st).length) c14, .int .i64 (padE s us st), .int .i64 f, .int .i64 (i : Int), .tuple #[.slice A13 ((padL s us st).length) c14, .int .i64 (padE s us st)], .agg (sqv s), .slice A us.length c, .int .i64 st, .tuple #[.slice A13 ((padL s us st).length) c14, .int .i64 (padE s us st)], .slice A13 ((padL s us st).length) c14, .int .i64 (padE s us st), .int .i64 (padE s us st), .bool false, .bool false, .slice A13 ((padL s us st).length) c14, .int .i64 (((padL s us st).length : Nat) : Int), .slice A us.length c, .int .i64 ((us.length : Nat) : Int), .bool false, .bool false, undef, .int .i64 st, (u21 30), (u21 31), (u21 32), (u21 33), (u21 34), (u21 35), (u21 36), (u21 37), (u21 38), (u21 39), (u21 40), (u21 41), (u21 42), (u21 43), (u21 44), (u21 45), (u21 46), (u21 47), (u21 48), (u21 49), (u21 50), (u21 51), (u21 52), (u21 53), (u21 54), (u21 55), (u21 56), (u21 57), (u21 58), (u21 59), (u21 60), (u21 61), (u21 62), undef], []⟩) _ ⟨0, st, (fun zz => Array.getD #[.agg (sqv s), .slice A us.length c, .int .i64 st, .pointer (some ⟨g2, 0, none⟩), undef, undef, .int .i64 0, .int .i64 0, .slice A13 ((padL s us st).length) c14, .int .i64 (padE s us st), .int .i64 st, .int .i64 0, .tuple #[.slice A13 ((padL s us st).length) c14, .int .i64 (padE s us st)], .agg (sqv s), .slice A us.length c, .int .i64 st, .tuple #[.slice A13 ((padL s us st).length) c14, .int .i64 (padE s us st)], .slice A13 ((padL s us st).length) c14, .int .i64 (padE s us st), .int .i64 (padE s us st), .bool false, .bool false, .slice A13 ((padL s us st).length) c14, .int .i64 (((padL s us st).length : Nat) : Int), .slice A us.length c, .int .i64 ((us.length : Nat) : Int), .bool false, .bool false, undef, .int .i64 st, undef, undef, undef, undef, undef, undef, undef, undef, undef, undef, undef, undef, undef, undef, undef, undef, undef, undef, undef, undef, undef, undef, undef, undef, undef, undef, undef, undef, undef, undef, undef, undef, undef, undef] zz undef), ⟨⟨by omega, ⟨by omega, by omega⟩, fun _ => by omega, by rw [hL]; exact hq⟩, M10⟩, rfl, (by kernel_rfl)⟩ ?_
    rintro gn _ W22 ⟨i, f, u21, ⟨⟨ri, rf, rc, hP⟩, M23⟩, rfl, rfl⟩
    refine wp_seq_k (fun K24 hK24 => ?_)
    refine wp_seq_k (fun K25 hK25 => ?_)
    refine wl_region ?_
    refine st_val (.int .i64 (i : Int)) (by kernel_rfl) (by kernel_rfl) ?_
    refine st_val (.slice A us.length c) (by kernel_rfl) (by kernel_rfl) ?_
    refine st_val (.int .i64 ((us.length : Nat) : Int)) (by kernel_rfl) (by kernel_rfl) ?_
    rcases Decidable.em (((i : Int) : Int) < ((us.length : Nat) : Int)) with c33 | c33
    ·
      refine st_val (.bool true) (by kernel_rfl) (bool_of (dec_t c33) (by kernel_rfl)) ?_
      refine wl_nil ?_
      refine hK25 _ _ ?_
      try clear hK25 K25
      refine wp_cond_true (by kernel_rfl) ?_
      refine wp_skip ?_
      refine hK24 _ _ ?_
      try clear hK24 K24
      refine wp_seq_k (fun K26 hK26 => ?_)
      refine wp_block ?_
      have hu := hpr.2.2.2.2 i (by omega)
      unfold PU at hu
      obtain ⟨hu1, hu2, hu3⟩ := hu
      have hc1 := mul_in (m := 2097152) (n := 8388608) (x := 2 * s.num) (y := (us.getD i u0).bits) (by omega) (by omega)
      have hd1 := mul_in (m := 1099511627776) (n := 3) (x := s.br * s.den) (y := (us.getD i u0).fields) (by omega) (by omega)
      have hdb : 0 ≤ 3 * s.den * s.br := Int.mul_nonneg (by omega) (by omega)
      have hd2 : s.br * s.den * (us.getD i u0).fields ≤ 3 * (s.br * s.den) := by rcases hu3 with h | h <;> rw [h] <;> omega
      obtain ⟨hb, hN, hP2⟩ := pad_read (by omega) hP
      have hq3 : 16 * s.num * ((padL s us st).getD i 0) = 2 * s.num * (8 * ((padL s us st).getD i 0)) := by rw [← Int.mul_assoc, show 2 * s.num * 8 = 16 * s.num by omega]
      have hb2 : 0 ≤ 2 * s.num * (8 * ((padL s us st).getD i 0)) ∧ 2 * s.num * (8 * ((padL s us st).getD i 0)) ≤ f + (s.br * s.den * (us.getD i u0).fields - 2 * s.num * (us.getD i u0).bits) ∧ f + (s.br * s.den * (us.getD i u0).fields - 2 * s.num * (us.getD i u0).bits) - 2 * s.num * (8 * ((padL s us st).getD i 0)) ≤ 2 * s.num * s.bu + 3 * (s.br * s.den) ∧ (i + 1 < us.length → f + (s.br * s.den * (us.getD i u0).fields - 2 * s.num * (us.getD i u0).bits) - 2 * s.num * (8 * ((padL s us st).getD i 0)) ≤ 2 * s.num * s.bu) := by
        have hcs := padN_cases (c := 2 * s.num) (cap := 2 * s.num * s.bu) (f := f + (s.br * s.den * (us.getD i u0).fields - 2 * s.num * (us.getD i u0).bits)) (us.drop (i + 1)).isEmpty (by omega)
        rw [← hN, empty_drop] at hcs
        rcases hcs with ⟨h2, h3⟩ | ⟨h2, h3, h4, h5⟩
        · rw [h2]; rcases h3 with h3 | h3; omega; have := of_decide_eq_true h3; omega
        · have := of_decide_eq_false h2; omega
      refine wl_seq 28 (fun w' => Mem NoS w w' ((g2, .cells (sqv s) 26 (0, 0)) :: (T7 ++ []))) (by decide) (by kernel_rfl) (by kernel_rfl) M23.drew ?_
      refine seq_run (v := .int .i64 f) (by decide) (by kernel_rfl) (fun w' M' => (by kernel_rfl)) ?_
      refine seq_run (v := .agg (sqv s)) (by decide) (by kernel_rfl) (fun w' M' => (run_load_row 26 (.tmp 3) rfl g2 (by kernel_rfl) 26 (sqv s) (0, 0) _ (M'.get 0 rfl) Try.underlying26 rfl (infoSq hs.la hs.lb))) ?_
      refine seq_run (v := .slice A us.length c) (by decide) (by kernel_rfl) (fun w' M' => (by kernel_rfl)) ?_
      refine seq_run (v := .int .i64 (i : Int)) (by decide) (by kernel_rfl) (fun w' M' => (by kernel_rfl)) ?_
      obtain ⟨b27, o28, eA29⟩ := RdK.addr (hr.keep M23.keep (fun _ _ h => h)) (j := i * 4) (by rw [flat_len]; omega)
      refine seq_run (v := .pointer (some ⟨b27, o28 + i * 4, none⟩)) (by decide) (by kernel_rfl) (fun w' M' => (run_indexSliceA 36 (.tmp 38) (.tmp 39) rfl A ⟨b27, o28, none⟩ eA29 us.length c .i64 i (by kernel_rfl) (by kernel_rfl) Try.underlying36 4 (by kernel_rfl) (by omega) ⟨b27, o28 + i * 4, none⟩ (addr_atK _ _ _ _))) ?_
      refine seq_run (v := .pointer (some ⟨b27, o28 + i * 4 + 2, none⟩)) (by decide) (by kernel_rfl) (fun w' M' => (by kernel_rfl)) ?_
      refine seq_run (v := .int .i64 ((us.getD i u0).bits)) (by decide) (by kernel_rfl) (fun w' M' => (run_load_cell 2 (.tmp 41) rfl ⟨b27, o28 + i * 4 + 2, none⟩ (by kernel_rfl) _ ((hr.keep M'.keep (fun _ _ h => h)).cellF eA29 (f := 2) (flat_get us i 2 (by omega) (by omega))) (by kernel_rfl))) ?_
      refine seq_call (v := .int .i64 (2 * s.num * ((us.getD i u0).bits))) (f := 16) (args := #[.agg (sqv s), .int .i64 ((us.getD i u0).bits)]) (by decide) (by kernel_rfl) (fun w' M' => (run_value_call 16 #[(Operand.tmp 37), (Operand.tmp 42)] _ rfl Try.func16 (by kernel_rfl) (by kernel_rfl) _ (by kernel_rfl))) (fun w' M' => callB_mem M' ((by have := cost_walk w' s hs ((us.getD i u0).bits); rw [costS_t hv (by omega)] at this; exact this))) ?_
      refine seq_run (v := .int .i64 (f - (2 * s.num * ((us.getD i u0).bits)))) (by decide) (by kernel_rfl) (fun w' M' => (i64_of (by omega) (by kernel_rfl))) ?_
      refine seq_run (v := .pointer (some ⟨g2, 2, none⟩)) (by decide) (by kernel_rfl) (fun w' M' => (by kernel_rfl)) ?_
      refine seq_run (v := .pointer (some ⟨g2, 2, none⟩)) (by decide) (by kernel_rfl) (fun w' M' => (by kernel_rfl)) ?_
      refine seq_run (v := .int .i64 s.num) (by decide) (by kernel_rfl) (fun w' M' => (run_load_cell 2 (.tmp 46) rfl ⟨g2, 2, none⟩ (by kernel_rfl) _ (M'.cell 0 rfl 2 _ (sqv_num _)) (by kernel_rfl))) ?_
      refine seq_run (v := .int .i64 (16 * s.num)) (by decide) (by kernel_rfl) (fun w' M' => (i64_of (by omega) (by kernel_rfl))) ?_
      refine seq_run (v := .slice A13 ((padL s us st).length) c14) (by decide) (by kernel_rfl) (fun w' M' => (by kernel_rfl)) ?_
      refine seq_run (v := .int .i64 (i : Int)) (by decide) (by kernel_rfl) (fun w' M' => (by kernel_rfl)) ?_
      obtain ⟨b30, o31, eA32⟩ := RdK.addr (O12.rd (fun p hp => M23.at_ p (List.mem_cons_of_mem _ (List.mem_append_left _ hp)))) (j := i * 1) (by show _ < (List.map _ _).length; rw [List.length_map]; omega)
      refine seq_run (v := .pointer (some ⟨b30, o31 + i * 1, none⟩)) (by decide) (by kernel_rfl) (fun w' M' => (run_indexSliceA 41 (.tmp 49) (.tmp 50) rfl A13 ⟨b30, o31, none⟩ eA32 ((padL s us st).length) c14 .i64 i (by kernel_rfl) (by kernel_rfl) Try.underlying41 1 (by kernel_rfl) (by omega) ⟨b30, o31 + i * 1, none⟩ (addr_atK _ _ _ _))) ?_
      refine seq_run (v := .int .i64 ((padL s us st).getD i 0)) (by decide) (by kernel_rfl) (fun w' M' => (run_load_cell 2 (.tmp 51) rfl ⟨b30, o31 + i * 1, none⟩ (by kernel_rfl) _ ((O12.rd (fun p hp => M'.at_ p (List.mem_cons_of_mem _ (List.mem_append_left _ hp)))).cellF eA32 (f := 0) (ints_get (padL s us st) i (by omega))) (by kernel_rfl))) ?_
      refine seq_run (v := .int .i64 ((16 * s.num) * ((padL s us st).getD i 0))) (by decide) (by kernel_rfl) (fun w' M' => (i64_of (by rw [hq3]; omega) (by kernel_rfl))) ?_
      refine seq_run (v := .int .i64 ((f - (2 * s.num * ((us.getD i u0).bits))) - ((16 * s.num) * ((padL s us st).getD i 0)))) (by decide) (by kernel_rfl) (fun w' M' => (i64_of (by omega) (by kernel_rfl))) ?_
      refine seq_run (v := .agg (sqv s)) (by decide) (by kernel_rfl) (fun w' M' => (run_load_row 26 (.tmp 3) rfl g2 (by kernel_rfl) 26 (sqv s) (0, 0) _ (M'.get 0 rfl) Try.underlying26 rfl (infoSq hs.la hs.lb))) ?_
      refine seq_run (v := .slice A us.length c) (by decide) (by kernel_rfl) (fun w' M' => (by kernel_rfl)) ?_
      refine seq_run (v := .int .i64 (i : Int)) (by decide) (by kernel_rfl) (fun w' M' => (by kernel_rfl)) ?_
      obtain ⟨b33, o34, eA35⟩ := RdK.addr (hr.keep M23.keep (fun _ _ h => h)) (j := i * 4) (by rw [flat_len]; omega)
      refine seq_run (v := .pointer (some ⟨b33, o34 + i * 4, none⟩)) (by decide) (by kernel_rfl) (fun w' M' => (run_indexSliceA 36 (.tmp 56) (.tmp 57) rfl A ⟨b33, o34, none⟩ eA35 us.length c .i64 i (by kernel_rfl) (by kernel_rfl) Try.underlying36 4 (by kernel_rfl) (by omega) ⟨b33, o34 + i * 4, none⟩ (addr_atK _ _ _ _))) ?_
      refine seq_run (v := .pointer (some ⟨b33, o34 + i * 4 + 3, none⟩)) (by decide) (by kernel_rfl) (fun w' M' => (by kernel_rfl)) ?_
      refine seq_run (v := .int .i64 ((us.getD i u0).fields)) (by decide) (by kernel_rfl) (fun w' M' => (run_load_cell 3 (.tmp 59) rfl ⟨b33, o34 + i * 4 + 3, none⟩ (by kernel_rfl) _ ((hr.keep M'.keep (fun _ _ h => h)).cellF eA35 (f := 3) (flat_get us i 3 (by omega) (by omega))) (by kernel_rfl))) ?_
      refine seq_call (v := .int .i64 (s.br * s.den * ((us.getD i u0).fields))) (f := 14) (args := #[.agg (sqv s), .int .i64 ((us.getD i u0).fields)]) (by decide) (by kernel_rfl) (fun w' M' => (run_value_call 14 #[(Operand.tmp 55), (Operand.tmp 60)] _ rfl Try.func14 (by kernel_rfl) (by kernel_rfl) _ (by kernel_rfl))) (fun w' M' => callB_mem M' ((by have := arr_walk w' s hs ((us.getD i u0).fields); rw [arrS_t hv (by omega)] at this; exact this))) ?_
      refine seq_run (v := .int .i64 (((f - (2 * s.num * ((us.getD i u0).bits))) - ((16 * s.num) * ((padL s us st).getD i 0))) + (s.br * s.den * ((us.getD i u0).fields)))) (by decide) (by kernel_rfl) (fun w' M' => (i64_of (by omega) (by kernel_rfl))) ?_
      refine seq_run (v := .int .i64 (((f - (2 * s.num * ((us.getD i u0).bits))) - ((16 * s.num) * ((padL s us st).getD i 0))) + (s.br * s.den * ((us.getD i u0).fields)))) (by decide) (by kernel_rfl) (fun w' M' => (by kernel_rfl)) ?_
      refine seq_end (by decide) ?_
      intro W36 M37
      refine wl_nil ?_
      refine blk_normal ?_
      refine hK26 _ _ ?_
      try clear hK26 K26
      refine wp_frame (a' := ⟨#[.agg (sqv s), .slice A us.length c, .int .i64 st, .pointer (some ⟨g2, 0, none⟩), undef, undef, .int .i64 0, .int .i64 0, .slice A13 ((padL s us st).length) c14, .int .i64 (padE s us st), .int .i64 (((f - (2 * s.num * ((us.getD i u0).bits))) - ((16 * s.num) * ((padL s us st).getD i 0))) + (s.br * s.den * ((us.getD i u0).fields))), .int .i64 (i : Int), .tuple #[.slice A13 ((padL s us st).length) c14, .int .i64 (padE s us st)], .agg (sqv s), .slice A us.length c, .int .i64 st, .tuple #[.slice A13 ((padL s us st).length) c14, .int .i64 (padE s us st)], .slice A13 ((padL s us st).length) c14, .int .i64 (padE s us st), .int .i64 (padE s us st), .bool false, .bool false, .slice A13 ((padL s us st).length) c14, .int .i64 (((padL s us st).length : Nat) : Int), .slice A us.length c, .int .i64 ((us.length : Nat) : Int), .bool false, .bool false, undef, .int .i64 st, .int .i64 (i : Int), .slice A us.length c, .int .i64 ((us.length : Nat) : Int), .bool true, (u21 34), (u21 35), .int .i64 f, .agg (sqv s), .slice A us.length c, .int .i64 (i : Int), .pointer (some ⟨b27, o28 + i * 4, none⟩), .pointer (some ⟨b27, o28 + i * 4 + 2, none⟩), .int .i64 ((us.getD i u0).bits), .int .i64 (2 * s.num * ((us.getD i u0).bits)), .int .i64 (f - (2 * s.num * ((us.getD i u0).bits))), .pointer (some ⟨g2, 2, none⟩), .pointer (some ⟨g2, 2, none⟩), .int .i64 s.num, .int .i64 (16 * s.num), .slice A13 ((padL s us st).length) c14, .int .i64 (i : Int), .pointer (some ⟨b30, o31 + i * 1, none⟩), .int .i64 ((padL s us st).getD i 0), .int .i64 ((16 * s.num) * ((padL s us st).getD i 0)), .int .i64 ((f - (2 * s.num * ((us.getD i u0).bits))) - ((16 * s.num) * ((padL s us st).getD i 0))), .agg (sqv s), .slice A us.length c, .int .i64 (i : Int), .pointer (some ⟨b33, o34 + i * 4, none⟩), .pointer (some ⟨b33, o34 + i * 4 + 3, none⟩), .int .i64 ((us.getD i u0).fields), .int .i64 (s.br * s.den * ((us.getD i u0).fields)), .int .i64 (((f - (2 * s.num * ((us.getD i u0).bits))) - ((16 * s.num) * ((padL s us st).getD i 0))) + (s.br * s.den * ((us.getD i u0).fields))), undef], []⟩) (by kernel_rfl) ?_
      refine wl_region ?_
      refine st_val (.int .i64 (i : Int)) (by kernel_rfl) (by kernel_rfl) ?_
      refine st_val (.int .i64 ((i : Int) + 1)) (by kernel_rfl) (i64_of (by omega) (by kernel_rfl)) ?_
      refine st_val (.int .i64 ((i : Int) + 1)) (by kernel_rfl) (by kernel_rfl) ?_
      refine wl_nil ?_
      refine th_normal ?_
      have hE : f + (s.br * s.den * (us.getD i u0).fields - 2 * s.num * (us.getD i u0).bits) - 2 * s.num * (8 * ((padL s us st).getD i 0)) = ((f - (2 * s.num * ((us.getD i u0).bits))) - ((16 * s.num) * ((padL s us st).getD i 0))) + (s.br * s.den * ((us.getD i u0).fields)) := by rw [← hq3]; omega
      rw [hE] at hP2
      exact ⟨_, by omega, (i + 1), (((f - (2 * s.num * ((us.getD i u0).bits))) - ((16 * s.num) * ((padL s us st).getD i 0))) + (s.br * s.den * ((us.getD i u0).fields))), (fun zz => Array.getD #[.agg (sqv s), .slice A us.length c, .int .i64 st, .pointer (some ⟨g2, 0, none⟩), undef, undef, .int .i64 0, .int .i64 0, .slice A13 ((padL s us st).length) c14, .int .i64 (padE s us st), .int .i64 (((f - (2 * s.num * ((us.getD i u0).bits))) - ((16 * s.num) * ((padL s us st).getD i 0))) + (s.br * s.den * ((us.getD i u0).fields))), .int .i64 ((i : Int) + 1), .tuple #[.slice A13 ((padL s us st).length) c14, .int .i64 (padE s us st)], .agg (sqv s), .slice A us.length c, .int .i64 st, .tuple #[.slice A13 ((padL s us st).length) c14, .int .i64 (padE s us st)], .slice A13 ((padL s us st).length) c14, .int .i64 (padE s us st), .int .i64 (padE s us st), .bool false, .bool false, .slice A13 ((padL s us st).length) c14, .int .i64 (((padL s us st).length : Nat) : Int), .slice A us.length c, .int .i64 ((us.length : Nat) : Int), .bool false, .bool false, undef, .int .i64 st, .int .i64 (i : Int), .slice A us.length c, .int .i64 ((us.length : Nat) : Int), .bool true, .int .i64 (i : Int), .int .i64 ((i : Int) + 1), .int .i64 f, .agg (sqv s), .slice A us.length c, .int .i64 (i : Int), .pointer (some ⟨b27, o28 + i * 4, none⟩), .pointer (some ⟨b27, o28 + i * 4 + 2, none⟩), .int .i64 ((us.getD i u0).bits), .int .i64 (2 * s.num * ((us.getD i u0).bits)), .int .i64 (f - (2 * s.num * ((us.getD i u0).bits))), .pointer (some ⟨g2, 2, none⟩), .pointer (some ⟨g2, 2, none⟩), .int .i64 s.num, .int .i64 (16 * s.num), .slice A13 ((padL s us st).length) c14, .int .i64 (i : Int), .pointer (some ⟨b30, o31 + i * 1, none⟩), .int .i64 ((padL s us st).getD i 0), .int .i64 ((16 * s.num) * ((padL s us st).getD i 0)), .int .i64 ((f - (2 * s.num * ((us.getD i u0).bits))) - ((16 * s.num) * ((padL s us st).getD i 0))), .agg (sqv s), .slice A us.length c, .int .i64 (i : Int), .pointer (some ⟨b33, o34 + i * 4, none⟩), .pointer (some ⟨b33, o34 + i * 4 + 3, none⟩), .int .i64 ((us.getD i u0).fields), .int .i64 (s.br * s.den * ((us.getD i u0).fields)), .int .i64 (((f - (2 * s.num * ((us.getD i u0).bits))) - ((16 * s.num) * ((padL s us st).getD i 0))) + (s.br * s.den * ((us.getD i u0).fields))), undef] zz undef), ⟨⟨by omega, by omega, fun hi => by omega, hP2⟩, M37⟩, rfl, (by kernel_rfl)⟩
    ·
      refine st_val (.bool false) (by kernel_rfl) (bool_of (dec_f c33) (by kernel_rfl)) ?_
      refine wl_nil ?_
      refine hK25 _ _ ?_
      try clear hK25 K25
      refine wp_cond_false (by kernel_rfl) ?_
      refine wp_exit ?_
      refine th_exit ?_
      refine th_exit ?_
      refine blk_exit ?_
      refine hK19 _ _ ?_
      try clear hK19 K19
      refine wp_seq_k (fun K38 hK38 => ?_)
      refine wl_region ?_
      refine st_val (.int .i64 f) (by kernel_rfl) (by kernel_rfl) ?_
      refine st_val (.int .i64 f) (by kernel_rfl) (by kernel_rfl) ?_
      refine st_val (.int .i64 0) (by kernel_rfl) (by kernel_rfl) ?_
      refine wl_nil ?_
      refine hK38 _ _ ?_
      try clear hK38 K38
      refine wp_ret ?_
      exact done2 6 7 (.int .i64 f) (.int .i64 0) (by kernel_rfl) (by kernel_rfl) (by kernel_rfl) (by kernel_rfl) ⟨by rw [endR_ok c20 hq, show q.2 = f by rw [List.drop_eq_nil_of_le (by omega)] at hP; simp only [padO, Option.some.injEq] at hP; exact (congrArg Prod.snd hP).symm], M23.toBelow⟩
  ·
    refine st_val (.bool true) (by kernel_rfl) (bool_of (neq_t c20) (by kernel_rfl)) ?_
    refine st_val (.bool true) (by kernel_rfl) (by kernel_rfl) ?_
    refine st_skip (by kernel_rfl) ?_
    refine st_skip (by kernel_rfl) ?_
    refine st_skip (by kernel_rfl) ?_
    refine st_skip (by kernel_rfl) ?_
    refine st_skip (by kernel_rfl) ?_
    refine st_val (.bool true) (by kernel_rfl) (by kernel_rfl) ?_
    refine wl_nil ?_
    refine hK17 _ _ ?_
    try clear hK17 K17
    refine wp_frame (a' := ⟨#[.agg (sqv s), .slice A us.length c, .int .i64 st, .pointer (some ⟨g2, 0, none⟩), undef, undef, .int .i64 0, .int .i64 0, .slice A13 ((padL s us st).length) c14, .int .i64 (padE s us st), undef, undef, .tuple #[.slice A13 ((padL s us st).length) c14, .int .i64 (padE s us st)], .agg (sqv s), .slice A us.length c, .int .i64 st, .tuple #[.slice A13 ((padL s us st).length) c14, .int .i64 (padE s us st)], .slice A13 ((padL s us st).length) c14, .int .i64 (padE s us st), .int .i64 (padE s us st), .bool true, .bool true, undef, undef, undef, undef, undef, .bool true, undef, undef, undef, undef, undef, undef, undef, undef, undef, undef, undef, undef, undef, undef, undef, undef, undef, undef, undef, undef, undef, undef, undef, undef, undef, undef, undef, undef, undef, undef, undef, undef, undef, undef, undef, undef], []⟩) (by kernel_rfl) ?_
    refine wp_cond_true (by kernel_rfl) ?_
    refine wp_seq_k (fun K39 hK39 => ?_)
    refine wl_region ?_
    refine st_val (.int .i64 (padE s us st)) (by kernel_rfl) (by kernel_rfl) ?_
    refine st_val (.int .i64 0) (by kernel_rfl) (by kernel_rfl) ?_
    refine st_val (.int .i64 (padE s us st)) (by kernel_rfl) (by kernel_rfl) ?_
    refine wl_nil ?_
    refine hK39 _ _ ?_
    try clear hK39 K39
    refine wp_ret ?_
    refine th_ret ?_
    exact done2 6 7 (.int .i64 0) (.int .i64 (padE s us st)) (by kernel_rfl) (by kernel_rfl) (by kernel_rfl) (by kernel_rfl) ⟨by rw [endR_bad c20], M10.toBelow⟩
end Go.Proofs.Ytolfkaljbgpkhaa
