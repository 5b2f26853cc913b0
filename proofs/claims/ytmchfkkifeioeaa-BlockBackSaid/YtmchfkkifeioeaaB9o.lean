/- The walk of BlockBack. -/
import Derived.Test.YtmchfkkifeioeaaB9l
namespace Go.Proofs.Ytmchfkkifeioeaa
open Go.RowKit Bt

/-- a slice of numbers from index k on -/
def subS (A : Option Addr) (n c k : Nat) : Value := .slice (if c = k then A else A.map (·.add (k * 1))) (n - k) (c - k)
theorem rdk_sub {w : World} {A : Option Addr} {c : Nat} {l : List Int} (h : RdK w (.slice A l.length c) l.length (i64s l)) {k : Nat} (hk : k ≤ l.length) (hc : l.length ≤ c) : RdK w (subS A l.length c k) (l.drop k).length (i64s (l.drop k)) := by
  rcases h with ⟨h1, h2, h3⟩ | ⟨b, off, c', h1, h2, h3⟩
  · injection h1 with e1 e2 e3
    have hl : l = [] := List.length_eq_zero_iff.1 h2
    subst e1; subst e3; subst hl
    obtain rfl : k = 0 := by simpa using hk
    exact .inl ⟨rfl, rfl, rfl⟩
  · injection h1 with e1 e2 e3
    subst e1; subst e3
    by_cases e : c = k
    · have hn : l.length = k := by omega
      refine .inr ⟨b, off, c - k, by unfold subS; rw [if_pos e, List.length_drop], by rw [List.length_drop]; omega, fun j u hj => ?_⟩
      have := (List.getElem?_eq_some_iff.1 hj).1
      rw [i64s_length, List.length_drop] at this
      omega
    · refine .inr ⟨b, off + k, c - k, by unfold subS; rw [if_neg e, List.length_drop]; show Value.slice (some (Addr.add _ _)) _ _ = _; rw [addr_add, Nat.mul_one], by rw [List.length_drop]; omega, fun j u hj => ?_⟩
      have hj2 := (List.getElem?_eq_some_iff.1 hj).1
      rw [i64s_length, List.length_drop] at hj2
      rw [Nat.add_assoc]
      apply h3
      have h4 := i64s_get (l.drop k) j (by rw [List.length_drop]; exact hj2)
      have h5 := i64s_get l (k + j) (by omega)
      rw [Nat.mul_one, Nat.add_zero] at h4 h5
      rw [drop_getI] at h4
      rw [h5, ← h4]; exact hj
theorem run_slice_s {w : World} {o : Oper} {a : Act} (x lo : Operand) (ho : o.op = .slice 22 x (some lo) none none) (A : Option Addr) (n c : Nat) (hx : a.eval x = .slice A n c) (kd : IntKind) (k : Nat) (hlo : a.eval lo = .int kd (k : Int)) (hk : k ≤ n) (hc : n ≤ c) :
    (execOp a.eval o).run Try.prog w = .ok (.value (subS A n c k)) w := by
  have h3 : k ≤ n := hk
  unfold execOp
  have hs : (sizeOf 3).run Try.prog w = .ok 1 w := rfl
  simp [ho, hx, hlo, Instr.sliceAt, Instr.slice, Instr.sliceBounds, Instr.sliceBound, run_underlying Try.underlying22, asIntOf, hs, h3, subS]
theorem drop_min (l : List Int) (k : Nat) : l.drop (min k l.length) = l.drop k := by
  rcases Nat.le_total k l.length with h | h
  · rw [Nat.min_eq_left h]
  · rw [Nat.min_eq_right h, List.drop_eq_nil_of_le h, List.drop_eq_nil_of_le (Nat.le_refl _)]
/-- block i of the numbers l -/
def bx (l : List Int) (i : Nat) : List Int := lvl (l.drop (min (64 * i) l.length))
theorem bx_length (l : List Int) (i : Nat) : (bx l i).length = 64 := lvl_length _
/-- the codes of the first n blocks -/
noncomputable def cumB (l fs : List Int) : Nat → List Nat
  | 0 => []
  | n + 1 => cumB l fs n ++ bC (bx l n) (fs.getD n 0)
theorem cumB_len (l fs : List Int) (n : Nat) : (cumB l fs n).length ≤ 4000 * n := by
  induction n with
  | zero => exact Nat.le_refl _
  | succ n ih => show (cumB l fs n ++ bC (bx l n) (fs.getD n 0)).length ≤ _; rw [List.length_append]; have := bC_le (bx l n) (fs.getD n 0); omega
theorem cumB_split (l fs : List Int) (k : Nat) : ∀ n, k ≤ n → ∃ s, cumB l fs n = cumB l fs k ++ s := by
  intro n h
  obtain ⟨d, rfl⟩ : ∃ d, n = k + d := ⟨n - k, by omega⟩
  clear h
  induction d with
  | zero => exact ⟨[], by rw [List.append_nil]; rfl⟩
  | succ d ih =>
    obtain ⟨s, hs⟩ := ih
    exact ⟨s ++ bC (bx l (k + d)) (fs.getD (k + d) 0), by show cumB l fs (k + d) ++ bC (bx l (k + d)) (fs.getD (k + d) 0) = _; rw [hs, List.append_assoc]⟩
theorem cumB_drop (l fs : List Int) (k n : Nat) (h : k < n) : ∃ s, (cumB l fs n).drop (cumB l fs k).length = bC (bx l k) (fs.getD k 0) ++ s := by
  obtain ⟨s, hs⟩ := cumB_split l fs (k + 1) n h
  refine ⟨s, ?_⟩
  rw [hs]
  show ((cumB l fs k ++ bC (bx l k) (fs.getD k 0)) ++ s).drop _ = _
  rw [List.append_assoc, List.drop_left]
theorem cumB_next (l fs : List Int) (k : Nat) : (cumB l fs (k + 1)).length = (cumB l fs k).length + (bC (bx l k) (fs.getD k 0)).length := by
  show (cumB l fs k ++ bC (bx l k) (fs.getD k 0)).length = _; rw [List.length_append]
theorem bcode_congr {x y : List Int} : ∀ n at_ p, (∀ i, p ≤ i → x.getD i 0 = y.getD i 0) → bcode x n at_ p = bcode y n at_ p := by
  intro n
  induction n with
  | zero => intro _ _ _; rfl
  | succ n ih =>
    intro at_ p h
    by_cases h0 : x.getD p 0 = 0
    · rw [bcode_zero h0, bcode_zero (by rw [← h p (Nat.le_refl _)]; exact h0), ih _ _ (fun i hi => h i (by omega))]
    · rw [bcode_level h0, bcode_level (by rw [← h p (Nat.le_refl _)]; exact h0), h p (Nat.le_refl _), ih _ _ (fun i hi => h i (by omega))]
/-- what was written is read back -/
theorem tkB_back {x : List Int} (hx : x.length = 64) {fr : Int} (h : bE x fr = 0) {L : List Nat} {pos : Nat} {s : List Nat} (hL : L.drop pos = bC x fr ++ s) : tkB L pos fr = (if fr = 1 then x.set 0 0 else x, 0, pos + (bC x fr).length) := by
  rcases bE_cases x fr with ⟨_, h1, _⟩ | ⟨f, rfl, hf, ⟨_, h1, _⟩ | ⟨hok, _, h2⟩⟩
  · rw [h1] at h; exact absurd h (by decide)
  · rw [h1] at h; exact absurd h (by decide)
  · rw [tkB_t (by omega), Int.toNat_natCast]
    rw [h2] at hL ⊢
    have hall := okB_of hok
    by_cases e : f = 1
    · subst e
      have hz : ∀ i, 1 ≤ i → (x.set 0 0).getD i 0 = x.getD i 0 := fun i hi => by rw [List.getD_eq_getElem?_getD, List.getElem?_set_ne (by omega), ← List.getD_eq_getElem?_getD]
      have hc : bcode x (64 - 1) 1 1 = bcode (x.set 0 0) (64 - 1) 1 1 := bcode_congr _ _ _ (fun i hi => (hz i hi).symm)
      rw [hc] at hL ⊢
      rw [if_pos (show ((1 : Nat) : Int) = 1 from rfl)]
      exact btk_back (x.set 0 0) (by rw [List.length_set]; exact hx) L 63 64 pos 1 1 zeros s (by omega) (by omega) (by omega) (fun i h3 h4 => by rw [hz i h3]; exact hall i h4 h3) hL zeros_length
        (fun i hi => by obtain rfl : i = 0 := (by omega); rw [zeros_at 0 (by omega), List.getD_eq_getElem?_getD, List.getElem?_set_self (by omega)]; rfl) (fun i _ h4 => zeros_at i h4)
    · obtain rfl : f = 0 := (by omega)
      rw [if_neg (show ¬ ((0 : Nat) : Int) = 1 by decide)]
      exact btk_back x hx L 64 64 pos 0 0 zeros s (by omega) (by omega) (by omega) (fun i h3 h4 => hall i h4 h3) hL zeros_length (fun i hi => by omega) (fun i _ h4 => zeros_at i h4)
theorem bE_3 (x : List Int) (fr : Int) : bE x fr = 0 ∨ bE x fr = 1 ∨ bE x fr = 2 := by
  rcases bE_cases x fr with ⟨_, h, _⟩ | ⟨f, _, _, ⟨_, h, _⟩ | ⟨_, h, _⟩⟩ <;> rw [h] <;> decide
set_option maxHeartbeats 4000000 in
set_option maxRecDepth 100000 in
theorem BlockBack_walk (w : World) (v : Value) (l : List Int) (hr : RdK w v l.length (i64s l)) (hb : ∀ x ∈ l, -9223372036854775808 ≤ x ∧ x ≤ 9223372036854775807) (vf : Value) (lf : List Int) (hrf : RdK w vf lf.length (i64s lf)) (hbf : ∀ x ∈ lf, -9223372036854775808 ≤ x ∧ x ≤ 9223372036854775807) : Calls Try.prog 5 #[v, vf] w fun e w' => e = .returned (.bool true) ∧ Below w.heap.size w w' := by
  obtain ⟨A, c, rfl, hc⟩ := hr.shape
  obtain ⟨Af, cf, rfl, hcf⟩ := hrf.shape
  refine calls_of_wp Try.func5 rfl ?_
  refine wp_frame (a' := ⟨#[.slice A l.length c, .slice Af lf.length cf, undef, undef, undef, undef, undef, undef, undef, undef, undef, undef, undef, undef, undef, undef, undef, undef, undef, undef, undef, undef, undef, undef, undef, undef, undef, undef, undef, undef, undef, undef, undef, undef, undef, undef, undef, undef, undef, undef, undef, undef, undef, undef, undef, undef, undef, undef, undef, undef, undef, undef, undef, undef, undef, undef, undef, undef, undef, undef, undef, undef, undef, undef, undef, undef, undef, undef, undef, undef, undef, undef, undef, undef, undef, undef, undef, undef, undef, undef, undef, undef, undef, undef, undef, undef, undef, undef, undef, undef, undef, undef, undef, undef, undef, undef, undef, undef, undef, undef, undef, undef, undef, undef, undef, undef, undef, undef, undef, undef, undef, undef, undef, undef, undef, undef, undef, undef, undef], []⟩) (by kernel_rfl) ?_
  have M0 : Mem NoS w w [] := Mem.start _ _
  refine wp_seq_k (fun K1 hK1 => ?_)
  refine wl_region ?_
  refine st_val (.bool false) (by kernel_rfl) (by kernel_rfl) ?_
  refine wl_nil ?_
  refine hK1 _ _ ?_
  try clear hK1 K1
  refine wp_seq_k (fun K2 hK2 => ?_)
  refine wp_seq_k (fun K3 hK3 => ?_)
  refine wl_region ?_
  refine st_val (.slice A l.length c) (by kernel_rfl) (by kernel_rfl) ?_
  refine st_val (.int .i64 ((l.length : Nat) : Int)) (by kernel_rfl) (by kernel_rfl) ?_
  rcases Decidable.em ((((l.length : Nat) : Int) : Int) > 640) with c18 | c18
  ·
    refine st_val (.bool true) (by kernel_rfl) (bool_of (dec_t c18) (by kernel_rfl)) ?_
    refine st_val (.bool true) (by kernel_rfl) (by kernel_rfl) ?_
    refine st_skip (by kernel_rfl) ?_
    refine st_skip (by kernel_rfl) ?_
    refine st_skip (by kernel_rfl) ?_
    refine st_val (.bool true) (by kernel_rfl) (by kernel_rfl) ?_
    refine wl_nil ?_
    refine hK3 _ _ ?_
    try clear hK3 K3
    refine wp_cond_true (by kernel_rfl) ?_
    refine wp_seq_k (fun K4 hK4 => ?_)
    refine wl_region ?_
    refine st_val (.bool true) (by kernel_rfl) (by kernel_rfl) ?_
    refine wl_nil ?_
    refine hK4 _ _ ?_
    try clear hK4 K4
    refine wp_ret ?_
    refine th_ret ?_
    exact done1 4 (.bool true) (by kernel_rfl) (by kernel_rfl) (by kernel_rfl) ⟨rfl, M0.toBelow⟩
  ·
    refine st_val (.bool false) (by kernel_rfl) (bool_of (dec_f c18) (by kernel_rfl)) ?_
    refine st_val (.bool false) (by kernel_rfl) (by kernel_rfl) ?_
    refine st_val (.slice Af lf.length cf) (by kernel_rfl) (by kernel_rfl) ?_
    refine st_val (.int .i64 ((lf.length : Nat) : Int)) (by kernel_rfl) (by kernel_rfl) ?_
    rcases Decidable.em ((((lf.length : Nat) : Int) : Int) > 10) with c22 | c22
    ·
      refine st_val (.bool true) (by kernel_rfl) (bool_of (dec_t c22) (by kernel_rfl)) ?_
      refine st_val (.bool true) (by kernel_rfl) (by kernel_rfl) ?_
      refine wl_nil ?_
      refine hK3 _ _ ?_
      try clear hK3 K3
      refine wp_cond_true (by kernel_rfl) ?_
      refine wp_seq_k (fun K5 hK5 => ?_)
      refine wl_region ?_
      refine st_val (.bool true) (by kernel_rfl) (by kernel_rfl) ?_
      refine wl_nil ?_
      refine hK5 _ _ ?_
      try clear hK5 K5
      refine wp_ret ?_
      refine th_ret ?_
      exact done1 4 (.bool true) (by kernel_rfl) (by kernel_rfl) (by kernel_rfl) ⟨rfl, M0.toBelow⟩
    ·
      refine st_val (.bool false) (by kernel_rfl) (bool_of (dec_f c22) (by kernel_rfl)) ?_
      refine st_val (.bool false) (by kernel_rfl) (by kernel_rfl) ?_
      refine wl_nil ?_
      refine hK3 _ _ ?_
      try clear hK3 K3
      refine wp_cond_false (by kernel_rfl) ?_
      refine wp_skip ?_
      refine hK2 _ _ ?_
      try clear hK2 K2
      refine wp_seq_k (fun K6 hK6 => ?_)
      refine wl_region ?_
      refine st_callR (A := []) (B := []) M0 (by kernel_rfl) (run_value_call 8 #[] _ rfl Try.func8 (by kernel_rfl) (by kernel_rfl) _ (by kernel_rfl)) (newWriterM w) ?_
      intro v7 T8 W9 O10 M11
      have M11 : Mem NoS w W9 ((T8 ++ [])) := M11
      obtain ⟨g12, rfl, O13⟩ := O10
      refine st_val (.pointer (some ⟨g12, 0, none⟩)) (by kernel_rfl) (by kernel_rfl) ?_
      refine wl_nil ?_
      refine hK6 _ _ ?_
      try clear hK6 K6
      refine wp_seq_k (fun K14 hK14 => ?_)
      refine wl_region ?_
      refine st_val (.int .i64 0) (by kernel_rfl) (by kernel_rfl) ?_
      refine wl_nil ?_
      refine hK14 _ _ ?_
      try clear hK14 K14
      refine wp_seq_k (fun K15 hK15 => ?_)
      refine wp_seq_k (fun K16 hK16 => ?_)
      refine wl_region ?_
      refine st_val (.int .i64 0) (by kernel_rfl) (by kernel_rfl) ?_
      refine wl_nil ?_
      refine hK16 _ _ ?_
      try clear hK16 K16
      refine wp_frame (a' := ⟨#[.slice A l.length c, .slice Af lf.length cf, undef, undef, .bool false, .pointer (some ⟨g12, 0, none⟩), .int .i64 0, .int .i64 0, undef, undef, undef, undef, undef, undef, undef, undef, .slice A l.length c, .int .i64 ((l.length : Nat) : Int), .bool false, .bool false, .slice Af lf.length cf, .int .i64 ((lf.length : Nat) : Int), .bool false, .bool false, .pointer (some ⟨g12, 0, none⟩), undef, undef, undef, undef, undef, undef, undef, undef, undef, undef, undef, undef, undef, undef, undef, undef, undef, undef, undef, undef, undef, undef, undef, undef, undef, undef, undef, undef, undef, undef, undef, undef, undef, undef, undef, undef, undef, undef, undef, undef, undef, undef, undef, undef, undef, undef, undef, undef, undef, undef, undef, undef, undef, undef, undef, undef, undef, undef, undef, undef, undef, undef, undef, undef, undef, undef, undef, undef, undef, undef, undef, undef, undef, undef, undef, undef, undef, undef, undef, undef, undef, undef, undef, undef, undef, undef, undef, undef, undef, undef, undef, undef, undef, undef], []⟩) (by kernel_rfl) ?_
      refine wp_block ?_
      refine wp_loop_ghost (fun gn a' w' => ∃ (i : Nat) (T1 : List (Nat × Obj)) (n : Int) (u17 : Nat → Value), ((i ≤ lf.length ∧ OwnW g12 (cumB l lf i) T1 ∧ n = (cumB l lf i).length ∧ ∀ j, j < i → bE (bx l j) (lf.getD j 0) = 0) ∧ Mem NoS w w' ((T1 ++ []))) ∧ gn = lf.length - i ∧ a' = ⟨#[.slice A l.length c, .slice Af lf.length cf, undef, undef, (u17 4), .pointer (some ⟨g12, 0, none⟩), .int .i64 n, .int .i64 ((i : Nat) : Int), (u17 8), (u17 9), undef, undef, undef, undef, undef, undef, .slice A l.length c, .int .i64 ((l.length : Nat) : Int), .bool false, .bool false, .slice Af lf.length cf, .int .i64 ((lf.length : Nat) : Int), .bool false, .bool false, .pointer (some ⟨g12, 0, none⟩), (u17 25), (u17 26), (u17 27), (u17 28), (u17 29), (u17 30), (u17 31), (u17 32), (u17 33), (u17 34), (u17 35), (u17 36), (u17 37), (u17 38), (u17 39), (u17 40), (u17 41), (u17 42), (u17 43), (u17 44), (u17 45), (u17 46), (u17 47), (u17 48), (u17 49), (u17 50), (u17 51), (u17 52), (u17 53), (u17 54), (u17 55), (u17 56), (u17 57), (u17 58), (u17 59), (u17 60), (u17 61), (u17 62), (u17 63), (u17 64), (u17 65), (u17 66), (u17 67), (u17 68), undef, undef, undef, undef, undef, undef, undef, undef, undef, undef, undef, undef, undef, undef, undef, undef, undef, undef, undef, undef, undef, undef, undef, undef, undef, undef, undef, undef, undef, undef, undef, undef, undef, undef, undef, undef, undef, undef, undef, undef, undef, undef, undef, undef, undef, undef, undef, undef, undef, undef], []⟩) _ ⟨0, T8, 0, (fun zz => Array.getD #[.slice A l.length c, .slice Af lf.length cf, undef, undef, .bool false, .pointer (some ⟨g12, 0, none⟩), .int .i64 0, .int .i64 0, undef, undef, undef, undef, undef, undef, undef, undef, .slice A l.length c, .int .i64 ((l.length : Nat) : Int), .bool false, .bool false, .slice Af lf.length cf, .int .i64 ((lf.length : Nat) : Int), .bool false, .bool false, .pointer (some ⟨g12, 0, none⟩), undef, undef, undef, undef, undef, undef, undef, undef, undef, undef, undef, undef, undef, undef, undef, undef, undef, undef, undef, undef, undef, undef, undef, undef, undef, undef, undef, undef, undef, undef, undef, undef, undef, undef, undef, undef, undef, undef, undef, undef, undef, undef, undef, undef, undef, undef, undef, undef, undef, undef, undef, undef, undef, undef, undef, undef, undef, undef, undef, undef, undef, undef, undef, undef, undef, undef, undef, undef, undef, undef, undef, undef, undef, undef, undef, undef, undef, undef, undef, undef, undef, undef, undef, undef, undef, undef, undef, undef, undef, undef, undef, undef, undef, undef] zz undef), ⟨⟨by omega, O13, rfl, fun j hj => by omega⟩, M11⟩, rfl, (by kernel_rfl)⟩ ?_
      rintro gn _ W18 ⟨i, T1, n, u17, ⟨⟨ri, O1, hn, hE⟩, M19⟩, rfl, rfl⟩
      have hcl0 := cumB_len l lf i
      refine wp_seq_k (fun K20 hK20 => ?_)
      refine wp_seq_k (fun K21 hK21 => ?_)
      refine wl_region ?_
      refine st_val (.int .i64 ((i : Nat) : Int)) (by kernel_rfl) (by kernel_rfl) ?_
      refine st_val (.slice Af lf.length cf) (by kernel_rfl) (by kernel_rfl) ?_
      refine st_val (.int .i64 ((lf.length : Nat) : Int)) (by kernel_rfl) (by kernel_rfl) ?_
      rcases Decidable.em ((((i : Nat) : Int) : Int) < ((lf.length : Nat) : Int)) with c28 | c28
      ·
        refine st_val (.bool true) (by kernel_rfl) (bool_of (dec_t c28) (by kernel_rfl)) ?_
        refine wl_nil ?_
        refine hK21 _ _ ?_
        try clear hK21 K21
        refine wp_cond_true (by kernel_rfl) ?_
        refine wp_skip ?_
        refine hK20 _ _ ?_
        try clear hK20 K20
        refine wp_seq_k (fun K22 hK22 => ?_)
        refine wp_block ?_
        refine wp_seq_k (fun K23 hK23 => ?_)
        refine wl_region ?_
        refine st_val (.slice A l.length c) (by kernel_rfl) (by kernel_rfl) ?_
        refine st_val (.int .i64 ((i : Nat) : Int)) (by kernel_rfl) (by kernel_rfl) ?_
        refine st_val (.int .i64 (64 * ((i : Nat) : Int))) (by kernel_rfl) (i64_of (by omega) (by kernel_rfl)) ?_
        refine st_val (.slice A l.length c) (by kernel_rfl) (by kernel_rfl) ?_
        refine st_val (.int .i64 ((l.length : Nat) : Int)) (by kernel_rfl) (by kernel_rfl) ?_
        refine st_val (.int .i64 ((min (64 * i) l.length : Nat) : Int)) (by kernel_rfl) (int_of (show (if ((l.length : Nat) : Int) < 64 * ((i : Nat) : Int) then ((l.length : Nat) : Int) else 64 * ((i : Nat) : Int)) = ((min (64 * i) l.length : Nat) : Int) by rw [ite_min]; omega) (by kernel_rfl)) ?_
        refine st_val ((subS A l.length c (min (64 * i) l.length))) (by kernel_rfl) (run_slice_s (.tmp 31) (.tmp 36) rfl A l.length c (by kernel_rfl) .i64 (min (64 * i) l.length) (by kernel_rfl) (by omega) (by omega)) ?_
        refine st_callB M19 (.agg (iv (bx l i))) (by kernel_rfl) (args := #[(subS A l.length c (min (64 * i) l.length))]) (run_value_call 7 #[(Operand.tmp 37)] _ rfl Try.func7 (by kernel_rfl) (by kernel_rfl) _ (by kernel_rfl)) (levels_walk W18 (subS A l.length c (min (64 * i) l.length)) _ (rdk_sub (hr.keep M19.keep (fun _ _ h => h)) (by omega) (by omega))) ?_
        intro W24 M25
        refine st_alloc M25 (.cells (iv zeros) 23 (0, 0)) (by kernel_rfl) (by kernel_rfl) ?_
        intro g26 W27 M28
        refine st_storeRow M28 0 rfl 23 (.tmp 8) (.tmp 38) (by rfl) (iv (bx l i)) (by kernel_rfl) (by kernel_rfl) (info64 _ (bx_length l i)) (iv_same (bx_length l i) zeros_length) (iv_one _) (by kernel_rfl) ((g26, .cells (iv (bx l i)) 23 (0, 0)) :: (T1 ++ [])) rfl ?_
        intro W29 M30
        refine wl_nil ?_
        refine hK23 _ _ ?_
        try clear hK23 K23
        refine wp_frame (a' := ⟨#[.slice A l.length c, .slice Af lf.length cf, undef, undef, (u17 4), .pointer (some ⟨g12, 0, none⟩), .int .i64 n, .int .i64 ((i : Nat) : Int), .pointer (some ⟨g26, 0, none⟩), (u17 9), undef, undef, undef, undef, undef, undef, .slice A l.length c, .int .i64 ((l.length : Nat) : Int), .bool false, .bool false, .slice Af lf.length cf, .int .i64 ((lf.length : Nat) : Int), .bool false, .bool false, .pointer (some ⟨g12, 0, none⟩), .int .i64 ((i : Nat) : Int), .slice Af lf.length cf, .int .i64 ((lf.length : Nat) : Int), .bool true, (u17 29), (u17 30), .slice A l.length c, .int .i64 ((i : Nat) : Int), .int .i64 (64 * ((i : Nat) : Int)), .slice A l.length c, .int .i64 ((l.length : Nat) : Int), .int .i64 ((min (64 * i) l.length : Nat) : Int), (subS A l.length c (min (64 * i) l.length)), .agg (iv (bx l i)), (u17 39), (u17 40), (u17 41), (u17 42), (u17 43), (u17 44), (u17 45), (u17 46), (u17 47), (u17 48), (u17 49), (u17 50), (u17 51), (u17 52), (u17 53), (u17 54), (u17 55), (u17 56), (u17 57), (u17 58), (u17 59), (u17 60), (u17 61), (u17 62), (u17 63), (u17 64), (u17 65), (u17 66), (u17 67), (u17 68), undef, undef, undef, undef, undef, undef, undef, undef, undef, undef, undef, undef, undef, undef, undef, undef, undef, undef, undef, undef, undef, undef, undef, undef, undef, undef, undef, undef, undef, undef, undef, undef, undef, undef, undef, undef, undef, undef, undef, undef, undef, undef, undef, undef, undef, undef, undef, undef, undef, undef], []⟩) (by kernel_rfl) ?_
        refine wp_seq_k (fun K31 hK31 => ?_)
        refine wh_region (fun w' => Mem NoS w w' [(g26, .cells (iv (bx l i)) 23 (0, 0))]) (by kernel_rfl) (by kernel_rfl) (fun d _ _ _ _ h => by cases d <;> exact h) 8 rfl #[false, false, false, false, false, false, false, false] rfl ?_
        intro R32
        have M34 := M30.drew
        have hS35 : Mem NoS w W29.drew [(g26, .cells (iv (bx l i)) 23 (0, 0))] := M34.sub (((List.Sublist.refl []).trans (List.sublist_append_right T1 _)).cons_cons _)
        refine wh_take R32 0 (.pointer (some ⟨g12, 0, none⟩)) rfl (by kernel_rfl) (by kernel_rfl) (by kernel_rfl) (fun w' M' => (by kernel_rfl)) hS35 #[true, false, false, false, false, false, false, false] rfl ?_
        refine wh_take R32 1 (.agg (iv (bx l i))) rfl (by kernel_rfl) (by kernel_rfl) (by kernel_rfl) (fun w' M' => (run_load_row 23 (.tmp 8) rfl g26 (by kernel_rfl) 23 (iv (bx l i)) (0, 0) _ (M'.get 0 rfl) Try.underlying23 rfl (info64 _ (bx_length l i)))) hS35 #[true, true, false, false, false, false, false, false] rfl ?_
        refine wh_take R32 2 (.slice Af lf.length cf) rfl (by kernel_rfl) (by kernel_rfl) (by kernel_rfl) (fun w' M' => (by kernel_rfl)) hS35 #[true, true, true, false, false, false, false, false] rfl ?_
        refine wh_take R32 3 (.int .i64 ((i : Nat) : Int)) rfl (by kernel_rfl) (by kernel_rfl) (by kernel_rfl) (fun w' M' => (by kernel_rfl)) hS35 #[true, true, true, true, false, false, false, false] rfl ?_
        obtain ⟨b36, o37, eA38⟩ := RdK.addr (hrf.keep hS35.keep (fun _ _ h => h)) (j := i * 1) (by rw [i64s_length]; omega)
        refine wh_take R32 4 (.pointer (some ⟨b36, o37 + i * 1, none⟩)) rfl (by kernel_rfl) (by kernel_rfl) (by kernel_rfl) (fun w' M' => (run_indexSliceA 22 (.tmp 41) (.tmp 42) rfl Af ⟨b36, o37, none⟩ eA38 lf.length cf .i64 i (by kernel_rfl) (by kernel_rfl) Try.underlying22 1 (by kernel_rfl) (by omega) ⟨b36, o37 + i * 1, none⟩ (addr_atK _ _ _ _))) hS35 #[true, true, true, true, true, false, false, false] rfl ?_
        refine wh_take R32 5 (.int .i64 (lf.getD i 0)) rfl (by kernel_rfl) (by kernel_rfl) (by kernel_rfl) (fun w' M' => (run_load_cell 3 (.tmp 43) rfl ⟨b36, o37 + i * 1, none⟩ (by kernel_rfl) _ ((hrf.keep M'.keep (fun _ _ h => h)).cellF eA38 (f := 0) (i64s_get lf i (by omega))) (by kernel_rfl))) hS35 #[true, true, true, true, true, true, false, false] rfl ?_
        refine wh_callU (A := [(g26, .cells (iv (bx l i)) 23 (0, 0))]) (T := T1) (B := []) M34 6 rfl (by kernel_rfl) (by kernel_rfl) (run_value_call 9 #[(Operand.tmp 39), (Operand.tmp 40), (Operand.tmp 44)] _ rfl Try.func9 (by kernel_rfl) (by kernel_rfl) _ (by kernel_rfl)) #[true, true, true, true, true, true, true, false] rfl (bput_any W29.drew O1 (Mem.part (A := [(g26, .cells (iv (bx l i)) 23 (0, 0))]) (T := T1) (B := []) M34) (by have := cumB_len l lf i; omega) (bx l i) (bx_length l i) (lf.getD i 0)) ?_
        intro v39 T40 W41 O42 M43
        obtain ⟨rfl, O44⟩ := O42
        have M45 : Mem NoS w W41 ((g26, .cells (iv (bx l i)) 23 (0, 0)) :: (T40 ++ [])) := M43
        have hS46 : Mem NoS w W41 [(g26, .cells (iv (bx l i)) 23 (0, 0))] := M45.sub (((List.Sublist.refl []).trans (List.sublist_append_right T40 _)).cons_cons _)
        refine ⟨hS46, ?_⟩
        refine wh_take R32 7 (.int .i64 (bE (bx l i) (lf.getD i 0))) rfl (by kernel_rfl) (by kernel_rfl) (by kernel_rfl) (fun w' M' => (by kernel_rfl)) hS46 #[true, true, true, true, true, true, true, true] rfl ?_
        refine wh_done (by kernel_rfl) ?_
        refine hK31 _ _ ?_
        try clear hK31 K31
        refine wp_seq_k (fun K47 hK47 => ?_)
        have hbl := bC_le (bx l i) (lf.getD i 0)
        refine wl_seq 9 (fun w' => Mem NoS w w' ((g26, .cells (iv (bx l i)) 23 (0, 0)) :: (T40 ++ []))) (by decide) (by kernel_rfl) (by kernel_rfl) M45.drew ?_
        refine seq_run (v := .int .i64 n) (by decide) (by kernel_rfl) (fun w' M' => (by kernel_rfl)) ?_
        refine seq_run (v := .agg (iv (bx l i))) (by decide) (by kernel_rfl) (fun w' M' => (run_load_row 23 (.tmp 8) rfl g26 (by kernel_rfl) 23 (iv (bx l i)) (0, 0) _ (M'.get 0 rfl) Try.underlying23 rfl (info64 _ (bx_length l i)))) ?_
        refine seq_run (v := .slice Af lf.length cf) (by decide) (by kernel_rfl) (fun w' M' => (by kernel_rfl)) ?_
        refine seq_run (v := .int .i64 ((i : Nat) : Int)) (by decide) (by kernel_rfl) (fun w' M' => (by kernel_rfl)) ?_
        obtain ⟨b48, o49, eA50⟩ := RdK.addr (hrf.keep M45.keep (fun _ _ h => h)) (j := i * 1) (by rw [i64s_length]; omega)
        refine seq_run (v := .pointer (some ⟨b48, o49 + i * 1, none⟩)) (by decide) (by kernel_rfl) (fun w' M' => (run_indexSliceA 22 (.tmp 48) (.tmp 49) rfl Af ⟨b48, o49, none⟩ eA50 lf.length cf .i64 i (by kernel_rfl) (by kernel_rfl) Try.underlying22 1 (by kernel_rfl) (by omega) ⟨b48, o49 + i * 1, none⟩ (addr_atK _ _ _ _))) ?_
        refine seq_run (v := .int .i64 (lf.getD i 0)) (by decide) (by kernel_rfl) (fun w' M' => (run_load_cell 3 (.tmp 50) rfl ⟨b48, o49 + i * 1, none⟩ (by kernel_rfl) _ ((hrf.keep M'.keep (fun _ _ h => h)).cellF eA50 (f := 0) (i64s_get lf i (by omega))) (by kernel_rfl))) ?_
        refine seq_call (v := .int .i64 (((bC (bx l i) (lf.getD i 0)).length : Nat) : Int)) (f := 11) (args := #[.agg (iv (bx l i)), .int .i64 (lf.getD i 0)]) (by decide) (by kernel_rfl) (fun w' M' => (run_value_call 11 #[(Operand.tmp 47), (Operand.tmp 51)] _ rfl Try.func11 (by kernel_rfl) (by kernel_rfl) _ (by kernel_rfl))) (fun w' M' => callB_mem M' (bbits_any w' (bx l i) (bx_length l i) (lf.getD i 0))) ?_
        refine seq_run (v := .int .i64 (n + (((bC (bx l i) (lf.getD i 0)).length : Nat) : Int))) (by decide) (by kernel_rfl) (fun w' M' => (i64_of (by omega) (by kernel_rfl))) ?_
        refine seq_run (v := .int .i64 (n + (((bC (bx l i) (lf.getD i 0)).length : Nat) : Int))) (by decide) (by kernel_rfl) (fun w' M' => (by kernel_rfl)) ?_
        refine seq_end (by decide) ?_
        intro W51 M52
        refine wl_nil ?_
        refine hK47 _ _ ?_
        try clear hK47 K47
        refine wp_frame (a' := ⟨#[.slice A l.length c, .slice Af lf.length cf, undef, undef, (u17 4), .pointer (some ⟨g12, 0, none⟩), .int .i64 (n + (((bC (bx l i) (lf.getD i 0)).length : Nat) : Int)), .int .i64 ((i : Nat) : Int), .pointer (some ⟨g26, 0, none⟩), .int .i64 (bE (bx l i) (lf.getD i 0)), undef, undef, undef, undef, undef, undef, .slice A l.length c, .int .i64 ((l.length : Nat) : Int), .bool false, .bool false, .slice Af lf.length cf, .int .i64 ((lf.length : Nat) : Int), .bool false, .bool false, .pointer (some ⟨g12, 0, none⟩), .int .i64 ((i : Nat) : Int), .slice Af lf.length cf, .int .i64 ((lf.length : Nat) : Int), .bool true, (u17 29), (u17 30), .slice A l.length c, .int .i64 ((i : Nat) : Int), .int .i64 (64 * ((i : Nat) : Int)), .slice A l.length c, .int .i64 ((l.length : Nat) : Int), .int .i64 ((min (64 * i) l.length : Nat) : Int), (subS A l.length c (min (64 * i) l.length)), .agg (iv (bx l i)), .pointer (some ⟨g12, 0, none⟩), .agg (iv (bx l i)), .slice Af lf.length cf, .int .i64 ((i : Nat) : Int), .pointer (some ⟨b36, o37 + i * 1, none⟩), .int .i64 (lf.getD i 0), .int .i64 (bE (bx l i) (lf.getD i 0)), .int .i64 n, .agg (iv (bx l i)), .slice Af lf.length cf, .int .i64 ((i : Nat) : Int), .pointer (some ⟨b48, o49 + i * 1, none⟩), .int .i64 (lf.getD i 0), .int .i64 (((bC (bx l i) (lf.getD i 0)).length : Nat) : Int), .int .i64 (n + (((bC (bx l i) (lf.getD i 0)).length : Nat) : Int)), (u17 54), (u17 55), (u17 56), (u17 57), (u17 58), (u17 59), (u17 60), (u17 61), (u17 62), (u17 63), (u17 64), (u17 65), (u17 66), (u17 67), (u17 68), undef, undef, undef, undef, undef, undef, undef, undef, undef, undef, undef, undef, undef, undef, undef, undef, undef, undef, undef, undef, undef, undef, undef, undef, undef, undef, undef, undef, undef, undef, undef, undef, undef, undef, undef, undef, undef, undef, undef, undef, undef, undef, undef, undef, undef, undef, undef, undef, undef, undef], []⟩) (by kernel_rfl) ?_
        refine wp_seq_k (fun K53 hK53 => ?_)
        refine wp_seq_k (fun K54 hK54 => ?_)
        refine wl_region ?_
        refine st_val (.pointer (some ⟨g12, 0, none⟩)) (by kernel_rfl) (by kernel_rfl) ?_
        refine st_callE (.int .i64 (((cumB l lf i ++ bC (bx l i) (lf.getD i 0)).length : Nat) : Int)) (by kernel_rfl) (args := #[.pointer (some ⟨g12, 0, none⟩)]) (run_value_call 21 #[(Operand.tmp 54)] _ rfl Try.func21 (by kernel_rfl) (by kernel_rfl) _ (by kernel_rfl)) (wLenM W51 O44 (Mem.part (A := [(g26, .cells (iv (bx l i)) 23 (0, 0))]) (T := T40) (B := []) M52)) ?_
        refine st_val (.int .i64 (n + (((bC (bx l i) (lf.getD i 0)).length : Nat) : Int))) (by kernel_rfl) (by kernel_rfl) ?_
        refine st_val (.bool false) (by kernel_rfl) (bool_of (neq_f (show ((((cumB l lf i ++ bC (bx l i) (lf.getD i 0)).length : Nat) : Int) : Int) = n + (((bC (bx l i) (lf.getD i 0)).length : Nat) : Int) from (by rw [List.length_append]; omega))) (by kernel_rfl)) ?_
        refine wl_nil ?_
        refine hK54 _ _ ?_
        try clear hK54 K54
        refine wp_cond_false (by kernel_rfl) ?_
        refine wp_skip ?_
        refine hK53 _ _ ?_
        try clear hK53 K53
        refine wp_seq_k (fun K55 hK55 => ?_)
        refine wl_region ?_
        refine st_val (.int .i64 (bE (bx l i) (lf.getD i 0))) (by kernel_rfl) (by kernel_rfl) ?_
        rcases Decidable.em ((bE (bx l i) (lf.getD i 0) : Int) = 0) with c59 | c59
        ·
          refine st_val (.bool false) (by kernel_rfl) (bool_of (neq_f c59) (by kernel_rfl)) ?_
          refine wl_nil ?_
          refine hK55 _ _ ?_
          try clear hK55 K55
          refine wp_cond_false (by kernel_rfl) ?_
          refine wp_skip ?_
          refine blk_normal ?_
          refine hK22 _ _ ?_
          try clear hK22 K22
          refine wl_region ?_
          refine st_val (.int .i64 ((i : Nat) : Int)) (by kernel_rfl) (by kernel_rfl) ?_
          refine st_val (.int .i64 (((i : Nat) : Int) + 1)) (by kernel_rfl) (i64_of (by omega) (by kernel_rfl)) ?_
          refine st_val (.int .i64 (((i : Nat) : Int) + 1)) (by kernel_rfl) (by kernel_rfl) ?_
          refine wl_nil ?_
          refine th_normal ?_
          have M56 : Mem NoS w W51 ((T40 ++ [])) := M52.sub (((List.Sublist.refl []).append_left T40).cons _)
          exact ⟨_, by omega, (i + 1), T40, (n + (((bC (bx l i) (lf.getD i 0)).length : Nat) : Int)), (fun zz => Array.getD #[.slice A l.length c, .slice Af lf.length cf, undef, undef, (u17 4), .pointer (some ⟨g12, 0, none⟩), .int .i64 (n + (((bC (bx l i) (lf.getD i 0)).length : Nat) : Int)), .int .i64 (((i : Nat) : Int) + 1), .pointer (some ⟨g26, 0, none⟩), .int .i64 (bE (bx l i) (lf.getD i 0)), undef, undef, undef, undef, undef, undef, .slice A l.length c, .int .i64 ((l.length : Nat) : Int), .bool false, .bool false, .slice Af lf.length cf, .int .i64 ((lf.length : Nat) : Int), .bool false, .bool false, .pointer (some ⟨g12, 0, none⟩), .int .i64 ((i : Nat) : Int), .slice Af lf.length cf, .int .i64 ((lf.length : Nat) : Int), .bool true, .int .i64 ((i : Nat) : Int), .int .i64 (((i : Nat) : Int) + 1), .slice A l.length c, .int .i64 ((i : Nat) : Int), .int .i64 (64 * ((i : Nat) : Int)), .slice A l.length c, .int .i64 ((l.length : Nat) : Int), .int .i64 ((min (64 * i) l.length : Nat) : Int), (subS A l.length c (min (64 * i) l.length)), .agg (iv (bx l i)), .pointer (some ⟨g12, 0, none⟩), .agg (iv (bx l i)), .slice Af lf.length cf, .int .i64 ((i : Nat) : Int), .pointer (some ⟨b36, o37 + i * 1, none⟩), .int .i64 (lf.getD i 0), .int .i64 (bE (bx l i) (lf.getD i 0)), .int .i64 n, .agg (iv (bx l i)), .slice Af lf.length cf, .int .i64 ((i : Nat) : Int), .pointer (some ⟨b48, o49 + i * 1, none⟩), .int .i64 (lf.getD i 0), .int .i64 (((bC (bx l i) (lf.getD i 0)).length : Nat) : Int), .int .i64 (n + (((bC (bx l i) (lf.getD i 0)).length : Nat) : Int)), .pointer (some ⟨g12, 0, none⟩), .int .i64 (((cumB l lf i ++ bC (bx l i) (lf.getD i 0)).length : Nat) : Int), .int .i64 (n + (((bC (bx l i) (lf.getD i 0)).length : Nat) : Int)), .bool false, .int .i64 (bE (bx l i) (lf.getD i 0)), .bool false, (u17 60), (u17 61), (u17 62), (u17 63), (u17 64), (u17 65), (u17 66), (u17 67), (u17 68), undef, undef, undef, undef, undef, undef, undef, undef, undef, undef, undef, undef, undef, undef, undef, undef, undef, undef, undef, undef, undef, undef, undef, undef, undef, undef, undef, undef, undef, undef, undef, undef, undef, undef, undef, undef, undef, undef, undef, undef, undef, undef, undef, undef, undef, undef, undef, undef, undef, undef] zz undef), ⟨⟨by omega, O44, by rw [cumB_next]; omega, fun j hj => by by_cases e : j = i; subst e; exact c59; exact hE j (by omega)⟩, M56⟩, rfl, (by kernel_rfl)⟩
        ·
          refine st_val (.bool true) (by kernel_rfl) (bool_of (neq_t c59) (by kernel_rfl)) ?_
          refine wl_nil ?_
          refine hK55 _ _ ?_
          try clear hK55 K55
          refine wp_cond_true (by kernel_rfl) ?_
          refine wp_seq_k (fun K57 hK57 => ?_)
          refine wl_region ?_
          refine st_callB M52 (.bool true) (by kernel_rfl) (args := #[]) (run_value_call 12 #[] _ rfl Try.func12 (by kernel_rfl) (by kernel_rfl) _ (by kernel_rfl)) (awake_walk W51) ?_
          intro W58 M59
          refine st_val (.bool true) (by kernel_rfl) (by kernel_rfl) ?_
          refine st_val (.int .i64 (bE (bx l i) (lf.getD i 0))) (by kernel_rfl) (by kernel_rfl) ?_
          rcases Decidable.em ((bE (bx l i) (lf.getD i 0) : Int) = 1) with c63 | c63
          ·
            refine st_val (.bool true) (by kernel_rfl) (bool_of (dec_t c63) (by kernel_rfl)) ?_
            refine st_val (.bool true) (by kernel_rfl) (by kernel_rfl) ?_
            refine st_skip (by kernel_rfl) ?_
            refine st_skip (by kernel_rfl) ?_
            refine st_val (.bool true) (by kernel_rfl) (by kernel_rfl) ?_
            refine st_val (.bool true) (by kernel_rfl) (by kernel_rfl) ?_
            refine st_val (.bool true) (by kernel_rfl) (by kernel_rfl) ?_
            refine wl_nil ?_
            refine hK57 _ _ ?_
            try clear hK57 K57
            refine wp_frame (a' := ⟨#[.slice A l.length c, .slice Af lf.length cf, undef, undef, .bool true, .pointer (some ⟨g12, 0, none⟩), .int .i64 (n + (((bC (bx l i) (lf.getD i 0)).length : Nat) : Int)), .int .i64 ((i : Nat) : Int), .pointer (some ⟨g26, 0, none⟩), .int .i64 (bE (bx l i) (lf.getD i 0)), undef, undef, undef, undef, undef, undef, .slice A l.length c, .int .i64 ((l.length : Nat) : Int), .bool false, .bool false, .slice Af lf.length cf, .int .i64 ((lf.length : Nat) : Int), .bool false, .bool false, .pointer (some ⟨g12, 0, none⟩), .int .i64 ((i : Nat) : Int), .slice Af lf.length cf, .int .i64 ((lf.length : Nat) : Int), .bool true, (u17 29), (u17 30), .slice A l.length c, .int .i64 ((i : Nat) : Int), .int .i64 (64 * ((i : Nat) : Int)), .slice A l.length c, .int .i64 ((l.length : Nat) : Int), .int .i64 ((min (64 * i) l.length : Nat) : Int), (subS A l.length c (min (64 * i) l.length)), .agg (iv (bx l i)), .pointer (some ⟨g12, 0, none⟩), .agg (iv (bx l i)), .slice Af lf.length cf, .int .i64 ((i : Nat) : Int), .pointer (some ⟨b36, o37 + i * 1, none⟩), .int .i64 (lf.getD i 0), .int .i64 (bE (bx l i) (lf.getD i 0)), .int .i64 n, .agg (iv (bx l i)), .slice Af lf.length cf, .int .i64 ((i : Nat) : Int), .pointer (some ⟨b48, o49 + i * 1, none⟩), .int .i64 (lf.getD i 0), .int .i64 (((bC (bx l i) (lf.getD i 0)).length : Nat) : Int), .int .i64 (n + (((bC (bx l i) (lf.getD i 0)).length : Nat) : Int)), .pointer (some ⟨g12, 0, none⟩), .int .i64 (((cumB l lf i ++ bC (bx l i) (lf.getD i 0)).length : Nat) : Int), .int .i64 (n + (((bC (bx l i) (lf.getD i 0)).length : Nat) : Int)), .bool false, .int .i64 (bE (bx l i) (lf.getD i 0)), .bool true, .bool true, .bool true, .int .i64 (bE (bx l i) (lf.getD i 0)), .bool true, .bool true, undef, undef, .bool true, .bool true, undef, undef, undef, undef, undef, undef, undef, undef, undef, undef, undef, undef, undef, undef, undef, undef, undef, undef, undef, undef, undef, undef, undef, undef, undef, undef, undef, undef, undef, undef, undef, undef, undef, undef, undef, undef, undef, undef, undef, undef, undef, undef, undef, undef, undef, undef, undef, undef, undef, undef], []⟩) (by kernel_rfl) ?_
            refine wp_ret ?_
            refine blk_ret ?_
            refine th_ret ?_
            refine th_ret ?_
            refine blk_ret ?_
            refine th_ret ?_
            exact done1 4 (.bool true) (by kernel_rfl) (by kernel_rfl) (by kernel_rfl) ⟨rfl, M59.toBelow⟩
          ·
            refine st_val (.bool false) (by kernel_rfl) (bool_of (dec_f c63) (by kernel_rfl)) ?_
            refine st_val (.bool false) (by kernel_rfl) (by kernel_rfl) ?_
            refine st_val (.int .i64 (bE (bx l i) (lf.getD i 0))) (by kernel_rfl) (by kernel_rfl) ?_
            refine st_val (.bool true) (by kernel_rfl) (bool_of (dec_t (show (bE (bx l i) (lf.getD i 0) : Int) = 2 from (by have := bE_3 (bx l i) (lf.getD i 0); omega))) (by kernel_rfl)) ?_
            refine st_val (.bool true) (by kernel_rfl) (by kernel_rfl) ?_
            refine st_val (.bool true) (by kernel_rfl) (by kernel_rfl) ?_
            refine st_val (.bool true) (by kernel_rfl) (by kernel_rfl) ?_
            refine wl_nil ?_
            refine hK57 _ _ ?_
            try clear hK57 K57
            refine wp_frame (a' := ⟨#[.slice A l.length c, .slice Af lf.length cf, undef, undef, .bool true, .pointer (some ⟨g12, 0, none⟩), .int .i64 (n + (((bC (bx l i) (lf.getD i 0)).length : Nat) : Int)), .int .i64 ((i : Nat) : Int), .pointer (some ⟨g26, 0, none⟩), .int .i64 (bE (bx l i) (lf.getD i 0)), undef, undef, undef, undef, undef, undef, .slice A l.length c, .int .i64 ((l.length : Nat) : Int), .bool false, .bool false, .slice Af lf.length cf, .int .i64 ((lf.length : Nat) : Int), .bool false, .bool false, .pointer (some ⟨g12, 0, none⟩), .int .i64 ((i : Nat) : Int), .slice Af lf.length cf, .int .i64 ((lf.length : Nat) : Int), .bool true, (u17 29), (u17 30), .slice A l.length c, .int .i64 ((i : Nat) : Int), .int .i64 (64 * ((i : Nat) : Int)), .slice A l.length c, .int .i64 ((l.length : Nat) : Int), .int .i64 ((min (64 * i) l.length : Nat) : Int), (subS A l.length c (min (64 * i) l.length)), .agg (iv (bx l i)), .pointer (some ⟨g12, 0, none⟩), .agg (iv (bx l i)), .slice Af lf.length cf, .int .i64 ((i : Nat) : Int), .pointer (some ⟨b36, o37 + i * 1, none⟩), .int .i64 (lf.getD i 0), .int .i64 (bE (bx l i) (lf.getD i 0)), .int .i64 n, .agg (iv (bx l i)), .slice Af lf.length cf, .int .i64 ((i : Nat) : Int), .pointer (some ⟨b48, o49 + i * 1, none⟩), .int .i64 (lf.getD i 0), .int .i64 (((bC (bx l i) (lf.getD i 0)).length : Nat) : Int), .int .i64 (n + (((bC (bx l i) (lf.getD i 0)).length : Nat) : Int)), .pointer (some ⟨g12, 0, none⟩), .int .i64 (((cumB l lf i ++ bC (bx l i) (lf.getD i 0)).length : Nat) : Int), .int .i64 (n + (((bC (bx l i) (lf.getD i 0)).length : Nat) : Int)), .bool false, .int .i64 (bE (bx l i) (lf.getD i 0)), .bool true, .bool true, .bool true, .int .i64 (bE (bx l i) (lf.getD i 0)), .bool false, .bool false, .int .i64 (bE (bx l i) (lf.getD i 0)), .bool true, .bool true, .bool true, undef, undef, undef, undef, undef, undef, undef, undef, undef, undef, undef, undef, undef, undef, undef, undef, undef, undef, undef, undef, undef, undef, undef, undef, undef, undef, undef, undef, undef, undef, undef, undef, undef, undef, undef, undef, undef, undef, undef, undef, undef, undef, undef, undef, undef, undef, undef, undef, undef, undef], []⟩) (by kernel_rfl) ?_
            refine wp_ret ?_
            refine blk_ret ?_
            refine th_ret ?_
            refine th_ret ?_
            refine blk_ret ?_
            refine th_ret ?_
            exact done1 4 (.bool true) (by kernel_rfl) (by kernel_rfl) (by kernel_rfl) ⟨rfl, M59.toBelow⟩
      ·
        refine st_val (.bool false) (by kernel_rfl) (bool_of (dec_f c28) (by kernel_rfl)) ?_
        refine wl_nil ?_
        refine hK21 _ _ ?_
        try clear hK21 K21
        refine wp_cond_false (by kernel_rfl) ?_
        refine wp_exit ?_
        refine th_exit ?_
        refine th_exit ?_
        refine blk_exit ?_
        refine hK15 _ _ ?_
        try clear hK15 K15
        refine wp_seq_k (fun K60 hK60 => ?_)
        have hi0 : i = lf.length := (by omega)
        have hpl := payload_length (cumB l lf i)
        have hend := end_payload _ O1.bin
        have htp := take_payload _ O1.bin
        refine wl_region ?_
        refine st_val (.pointer (some ⟨g12, 0, none⟩)) (by kernel_rfl) (by kernel_rfl) ?_
        refine st_callR (A := []) (B := (T1 ++ [])) M19 (by kernel_rfl) (run_value_call 14 #[(Operand.tmp 70)] _ rfl Try.func14 (by kernel_rfl) (by kernel_rfl) _ (by kernel_rfl)) (wPayM W18 O1 (Mem.part (A := []) (T := T1) (B := []) M19) (by have := cumB_len l lf i; omega)) ?_
        intro v61 T62 W63 O64 M65
        have M65 : Mem NoS w W63 ((T62 ++ (T1 ++ []))) := M65
        obtain ⟨A66, cq67, rfl, hc68⟩ := O64.shape
        refine st_callR (A := []) (B := (T62 ++ (T1 ++ []))) M65 (by kernel_rfl) (run_value_call 16 #[(Operand.tmp 71)] _ rfl Try.func16 (by kernel_rfl) (by kernel_rfl) _ (by kernel_rfl)) (newReaderM W63 (.slice A66 ((payload (cumB l lf i)).length) cq67) (payload (cumB l lf i)) (O64.rd (fun p hp => M65.at_ p (List.mem_append_left _ hp))) (payload_lt _ O1.bin) (by rw [payload_length]; omega) (payload_ne _) (payload_last _ O1.bin)) ?_
        intro v69 T70 W71 O72 M73
        have M73 : Mem NoS w W71 ((T70 ++ (T62 ++ (T1 ++ [])))) := M73
        obtain ⟨g74, v75, TB76, rfl, rfl, F77⟩ := O72
        have M78 : Mem NoS w W71 (((rT g74 v75 (endOf (payload (cumB l lf i))) 0 TB76) ++ (T62 ++ (T1 ++ [])))) := M73
        refine st_val (.tuple #[.pointer (some ⟨g74, 0, none⟩), .int .i64 0]) (by kernel_rfl) (by kernel_rfl) ?_
        refine st_val (.pointer (some ⟨g74, 0, none⟩)) (by kernel_rfl) (by kernel_rfl) ?_
        refine st_val (.int .i64 0) (by kernel_rfl) (by kernel_rfl) ?_
        refine st_val (.pointer (some ⟨g74, 0, none⟩)) (by kernel_rfl) (by kernel_rfl) ?_
        refine st_val (.int .i64 0) (by kernel_rfl) (by kernel_rfl) ?_
        refine wl_nil ?_
        refine hK60 _ _ ?_
        try clear hK60 K60
        refine wp_seq_k (fun K79 hK79 => ?_)
        refine wp_seq_k (fun K80 hK80 => ?_)
        refine wl_region ?_
        refine st_val (.int .i64 0) (by kernel_rfl) (by kernel_rfl) ?_
        refine st_val (.bool false) (by kernel_rfl) (by kernel_rfl) ?_
        refine wl_nil ?_
        refine hK80 _ _ ?_
        try clear hK80 K80
        refine wp_frame (a' := ⟨#[.slice A l.length c, .slice Af lf.length cf, undef, undef, (u17 4), .pointer (some ⟨g12, 0, none⟩), .int .i64 n, .int .i64 ((i : Nat) : Int), (u17 8), (u17 9), .pointer (some ⟨g74, 0, none⟩), .int .i64 0, undef, undef, undef, undef, .slice A l.length c, .int .i64 ((l.length : Nat) : Int), .bool false, .bool false, .slice Af lf.length cf, .int .i64 ((lf.length : Nat) : Int), .bool false, .bool false, .pointer (some ⟨g12, 0, none⟩), .int .i64 ((i : Nat) : Int), .slice Af lf.length cf, .int .i64 ((lf.length : Nat) : Int), .bool false, (u17 29), (u17 30), (u17 31), (u17 32), (u17 33), (u17 34), (u17 35), (u17 36), (u17 37), (u17 38), (u17 39), (u17 40), (u17 41), (u17 42), (u17 43), (u17 44), (u17 45), (u17 46), (u17 47), (u17 48), (u17 49), (u17 50), (u17 51), (u17 52), (u17 53), (u17 54), (u17 55), (u17 56), (u17 57), (u17 58), (u17 59), (u17 60), (u17 61), (u17 62), (u17 63), (u17 64), (u17 65), (u17 66), (u17 67), (u17 68), .tuple #[.pointer (some ⟨g74, 0, none⟩), .int .i64 0], .pointer (some ⟨g12, 0, none⟩), .slice A66 ((payload (cumB l lf i)).length) cq67, .tuple #[.pointer (some ⟨g74, 0, none⟩), .int .i64 0], .pointer (some ⟨g74, 0, none⟩), .int .i64 0, .int .i64 0, .bool false, undef, undef, undef, undef, undef, undef, undef, undef, undef, undef, undef, undef, undef, undef, undef, undef, undef, undef, undef, undef, undef, undef, undef, undef, undef, undef, undef, undef, undef, undef, undef, undef, undef, undef, undef, undef, undef, undef, undef, undef, undef, undef], []⟩) (by kernel_rfl) ?_
        refine wp_cond_false (by kernel_rfl) ?_
        refine wp_skip ?_
        refine hK79 _ _ ?_
        try clear hK79 K79
        refine wp_seq_k (fun K81 hK81 => ?_)
        refine wp_seq_k (fun K82 hK82 => ?_)
        refine wl_region ?_
        refine st_val (.int .i64 0) (by kernel_rfl) (by kernel_rfl) ?_
        refine wl_nil ?_
        refine hK82 _ _ ?_
        try clear hK82 K82
        refine wp_block ?_
        have M83 : Mem NoS w W71 (((rT g74 v75 (endOf (payload (cumB l lf i))) 0 TB76) ++ [])) := M78.sub ((((List.Sublist.refl []).trans (List.sublist_append_right T1 _)).trans (List.sublist_append_right T62 _)).append_left (rT g74 v75 (endOf (payload (cumB l lf i))) 0 TB76))
        refine wp_loop_ghost (fun gn a' w' => ∃ (k : Nat) (a : Nat) (u84 : Nat → Value), ((k ≤ lf.length ∧ a = (cumB l lf k).length) ∧ Mem NoS w w' (((rT g74 v75 (endOf (payload (cumB l lf i))) a TB76) ++ []))) ∧ gn = lf.length - k ∧ a' = ⟨#[.slice A l.length c, .slice Af lf.length cf, undef, undef, (u84 4), .pointer (some ⟨g12, 0, none⟩), .int .i64 n, .int .i64 ((i : Nat) : Int), (u17 8), (u17 9), .pointer (some ⟨g74, 0, none⟩), .int .i64 0, .int .i64 ((k : Nat) : Int), (u84 13), (u84 14), (u84 15), .slice A l.length c, .int .i64 ((l.length : Nat) : Int), .bool false, .bool false, .slice Af lf.length cf, .int .i64 ((lf.length : Nat) : Int), .bool false, .bool false, .pointer (some ⟨g12, 0, none⟩), .int .i64 ((i : Nat) : Int), .slice Af lf.length cf, .int .i64 ((lf.length : Nat) : Int), .bool false, (u17 29), (u17 30), (u17 31), (u17 32), (u17 33), (u17 34), (u17 35), (u17 36), (u17 37), (u17 38), (u17 39), (u17 40), (u17 41), (u17 42), (u17 43), (u17 44), (u17 45), (u17 46), (u17 47), (u17 48), (u17 49), (u17 50), (u17 51), (u17 52), (u17 53), (u17 54), (u17 55), (u17 56), (u17 57), (u17 58), (u17 59), (u17 60), (u17 61), (u17 62), (u17 63), (u17 64), (u17 65), (u17 66), (u17 67), (u17 68), .tuple #[.pointer (some ⟨g74, 0, none⟩), .int .i64 0], .pointer (some ⟨g12, 0, none⟩), .slice A66 ((payload (cumB l lf i)).length) cq67, .tuple #[.pointer (some ⟨g74, 0, none⟩), .int .i64 0], .pointer (some ⟨g74, 0, none⟩), .int .i64 0, .int .i64 0, .bool false, (u84 77), (u84 78), (u84 79), (u84 80), (u84 81), (u84 82), (u84 83), (u84 84), (u84 85), (u84 86), (u84 87), (u84 88), (u84 89), (u84 90), (u84 91), (u84 92), (u84 93), (u84 94), (u84 95), (u84 96), (u84 97), (u84 98), (u84 99), (u84 100), (u84 101), (u84 102), (u84 103), (u84 104), (u84 105), (u84 106), (u84 107), (u84 108), (u84 109), (u84 110), (u84 111), (u84 112), undef, undef, undef, undef, undef, undef], []⟩) _ ⟨0, 0, (fun zz => Array.getD #[.slice A l.length c, .slice Af lf.length cf, undef, undef, (u17 4), .pointer (some ⟨g12, 0, none⟩), .int .i64 n, .int .i64 ((i : Nat) : Int), (u17 8), (u17 9), .pointer (some ⟨g74, 0, none⟩), .int .i64 0, .int .i64 0, undef, undef, undef, .slice A l.length c, .int .i64 ((l.length : Nat) : Int), .bool false, .bool false, .slice Af lf.length cf, .int .i64 ((lf.length : Nat) : Int), .bool false, .bool false, .pointer (some ⟨g12, 0, none⟩), .int .i64 ((i : Nat) : Int), .slice Af lf.length cf, .int .i64 ((lf.length : Nat) : Int), .bool false, (u17 29), (u17 30), (u17 31), (u17 32), (u17 33), (u17 34), (u17 35), (u17 36), (u17 37), (u17 38), (u17 39), (u17 40), (u17 41), (u17 42), (u17 43), (u17 44), (u17 45), (u17 46), (u17 47), (u17 48), (u17 49), (u17 50), (u17 51), (u17 52), (u17 53), (u17 54), (u17 55), (u17 56), (u17 57), (u17 58), (u17 59), (u17 60), (u17 61), (u17 62), (u17 63), (u17 64), (u17 65), (u17 66), (u17 67), (u17 68), .tuple #[.pointer (some ⟨g74, 0, none⟩), .int .i64 0], .pointer (some ⟨g12, 0, none⟩), .slice A66 ((payload (cumB l lf i)).length) cq67, .tuple #[.pointer (some ⟨g74, 0, none⟩), .int .i64 0], .pointer (some ⟨g74, 0, none⟩), .int .i64 0, .int .i64 0, .bool false, undef, undef, undef, undef, undef, undef, undef, undef, undef, undef, undef, undef, undef, undef, undef, undef, undef, undef, undef, undef, undef, undef, undef, undef, undef, undef, undef, undef, undef, undef, undef, undef, undef, undef, undef, undef, undef, undef, undef, undef, undef, undef] zz undef), ⟨⟨by omega, rfl⟩, M83⟩, rfl, (by kernel_rfl)⟩ ?_
        rintro gn _ W85 ⟨k, a, u84, ⟨⟨rk, hla⟩, M86⟩, rfl, rfl⟩
        have hca : a ≤ (cumB l lf i).length := by obtain ⟨s, hs⟩ := cumB_split l lf k i (by omega); rw [hs, List.length_append, hla]; omega
        refine wp_seq_k (fun K87 hK87 => ?_)
        refine wp_seq_k (fun K88 hK88 => ?_)
        refine wl_region ?_
        refine st_val (.int .i64 ((k : Nat) : Int)) (by kernel_rfl) (by kernel_rfl) ?_
        refine st_val (.slice Af lf.length cf) (by kernel_rfl) (by kernel_rfl) ?_
        refine st_val (.int .i64 ((lf.length : Nat) : Int)) (by kernel_rfl) (by kernel_rfl) ?_
        rcases Decidable.em ((((k : Nat) : Int) : Int) < ((lf.length : Nat) : Int)) with c80 | c80
        ·
          refine st_val (.bool true) (by kernel_rfl) (bool_of (dec_t c80) (by kernel_rfl)) ?_
          refine wl_nil ?_
          refine hK88 _ _ ?_
          try clear hK88 K88
          refine wp_cond_true (by kernel_rfl) ?_
          refine wp_skip ?_
          refine hK87 _ _ ?_
          try clear hK87 K87
          refine wp_seq_k (fun K89 hK89 => ?_)
          refine wp_block ?_
          refine wp_seq_k (fun K90 hK90 => ?_)
          refine wl_region ?_
          refine st_val (.slice A l.length c) (by kernel_rfl) (by kernel_rfl) ?_
          refine st_val (.int .i64 ((k : Nat) : Int)) (by kernel_rfl) (by kernel_rfl) ?_
          refine st_val (.int .i64 (64 * ((k : Nat) : Int))) (by kernel_rfl) (i64_of (by omega) (by kernel_rfl)) ?_
          refine st_val (.slice A l.length c) (by kernel_rfl) (by kernel_rfl) ?_
          refine st_val (.int .i64 ((l.length : Nat) : Int)) (by kernel_rfl) (by kernel_rfl) ?_
          refine st_val (.int .i64 ((min (64 * k) l.length : Nat) : Int)) (by kernel_rfl) (int_of (show (if ((l.length : Nat) : Int) < 64 * ((k : Nat) : Int) then ((l.length : Nat) : Int) else 64 * ((k : Nat) : Int)) = ((min (64 * k) l.length : Nat) : Int) by rw [ite_min]; omega) (by kernel_rfl)) ?_
          refine st_val ((subS A l.length c (min (64 * k) l.length))) (by kernel_rfl) (run_slice_s (.tmp 83) (.tmp 88) rfl A l.length c (by kernel_rfl) .i64 (min (64 * k) l.length) (by kernel_rfl) (by omega) (by omega)) ?_
          refine st_callB M86 (.agg (iv (bx l k))) (by kernel_rfl) (args := #[(subS A l.length c (min (64 * k) l.length))]) (run_value_call 7 #[(Operand.tmp 89)] _ rfl Try.func7 (by kernel_rfl) (by kernel_rfl) _ (by kernel_rfl)) (levels_walk W85 (subS A l.length c (min (64 * k) l.length)) _ (rdk_sub (hr.keep M86.keep (fun _ _ h => h)) (by omega) (by omega))) ?_
          intro W91 M92
          refine st_alloc M92 (.cells (iv zeros) 23 (0, 0)) (by kernel_rfl) (by kernel_rfl) ?_
          intro g93 W94 M95
          refine st_storeRow M95 0 rfl 23 (.tmp 13) (.tmp 90) (by rfl) (iv (bx l k)) (by kernel_rfl) (by kernel_rfl) (info64 _ (bx_length l k)) (iv_same (bx_length l k) zeros_length) (iv_one _) (by kernel_rfl) ((g93, .cells (iv (bx l k)) 23 (0, 0)) :: ((rT g74 v75 (endOf (payload (cumB l lf i))) a TB76) ++ [])) rfl ?_
          intro W96 M97
          refine wl_nil ?_
          refine hK90 _ _ ?_
          try clear hK90 K90
          refine wp_frame (a' := ⟨#[.slice A l.length c, .slice Af lf.length cf, undef, undef, (u84 4), .pointer (some ⟨g12, 0, none⟩), .int .i64 n, .int .i64 ((i : Nat) : Int), (u17 8), (u17 9), .pointer (some ⟨g74, 0, none⟩), .int .i64 0, .int .i64 ((k : Nat) : Int), .pointer (some ⟨g93, 0, none⟩), (u84 14), (u84 15), .slice A l.length c, .int .i64 ((l.length : Nat) : Int), .bool false, .bool false, .slice Af lf.length cf, .int .i64 ((lf.length : Nat) : Int), .bool false, .bool false, .pointer (some ⟨g12, 0, none⟩), .int .i64 ((i : Nat) : Int), .slice Af lf.length cf, .int .i64 ((lf.length : Nat) : Int), .bool false, (u17 29), (u17 30), (u17 31), (u17 32), (u17 33), (u17 34), (u17 35), (u17 36), (u17 37), (u17 38), (u17 39), (u17 40), (u17 41), (u17 42), (u17 43), (u17 44), (u17 45), (u17 46), (u17 47), (u17 48), (u17 49), (u17 50), (u17 51), (u17 52), (u17 53), (u17 54), (u17 55), (u17 56), (u17 57), (u17 58), (u17 59), (u17 60), (u17 61), (u17 62), (u17 63), (u17 64), (u17 65), (u17 66), (u17 67), (u17 68), .tuple #[.pointer (some ⟨g74, 0, none⟩), .int .i64 0], .pointer (some ⟨g12, 0, none⟩), .slice A66 ((payload (cumB l lf i)).length) cq67, .tuple #[.pointer (some ⟨g74, 0, none⟩), .int .i64 0], .pointer (some ⟨g74, 0, none⟩), .int .i64 0, .int .i64 0, .bool false, .int .i64 ((k : Nat) : Int), .slice Af lf.length cf, .int .i64 ((lf.length : Nat) : Int), .bool true, (u84 81), (u84 82), .slice A l.length c, .int .i64 ((k : Nat) : Int), .int .i64 (64 * ((k : Nat) : Int)), .slice A l.length c, .int .i64 ((l.length : Nat) : Int), .int .i64 ((min (64 * k) l.length : Nat) : Int), (subS A l.length c (min (64 * k) l.length)), .agg (iv (bx l k)), (u84 91), (u84 92), (u84 93), (u84 94), (u84 95), (u84 96), (u84 97), (u84 98), (u84 99), (u84 100), (u84 101), (u84 102), (u84 103), (u84 104), (u84 105), (u84 106), (u84 107), (u84 108), (u84 109), (u84 110), (u84 111), (u84 112), undef, undef, undef, undef, undef, undef], []⟩) (by kernel_rfl) ?_
          refine wp_seq_k (fun K98 hK98 => ?_)
          refine wp_seq_k (fun K99 hK99 => ?_)
          refine wl_region ?_
          refine st_val (.slice Af lf.length cf) (by kernel_rfl) (by kernel_rfl) ?_
          refine st_val (.int .i64 ((k : Nat) : Int)) (by kernel_rfl) (by kernel_rfl) ?_
          obtain ⟨b100, o101, eA102⟩ := RdK.addr (hrf.keep M97.keep (fun _ _ h => h)) (j := k * 1) (by rw [i64s_length]; omega)
          refine st_val (.pointer (some ⟨b100, o101 + k * 1, none⟩)) (by kernel_rfl) (run_indexSliceA 22 (.tmp 91) (.tmp 92) rfl Af ⟨b100, o101, none⟩ eA102 lf.length cf .i64 k (by kernel_rfl) (by kernel_rfl) Try.underlying22 1 (by kernel_rfl) (by omega) ⟨b100, o101 + k * 1, none⟩ (addr_atK _ _ _ _)) ?_
          refine st_val (.int .i64 (lf.getD k 0)) (by kernel_rfl) (run_load_cell 3 (.tmp 93) rfl ⟨b100, o101 + k * 1, none⟩ (by kernel_rfl) _ ((hrf.keep M97.keep (fun _ _ h => h)).cellF eA102 (f := 0) (i64s_get lf k (by omega))) (by kernel_rfl)) ?_
          rcases Decidable.em ((lf.getD k 0 : Int) = 1) with c95 | c95
          ·
            refine st_val (.bool true) (by kernel_rfl) (bool_of (dec_t c95) (by kernel_rfl)) ?_
            refine wl_nil ?_
            refine hK99 _ _ ?_
            try clear hK99 K99
            refine wp_cond_true (by kernel_rfl) ?_
            refine wl_region ?_
            refine st_val (.pointer (some ⟨g93, 0, none⟩)) (by kernel_rfl) (run_indexAddr 23 (.tmp 13) _ rfl ⟨g93, 0, none⟩ .i64 0 (by kernel_rfl) (by kernel_rfl) Try.underlying23 1 (by kernel_rfl) (by omega) ⟨g93, 0, none⟩ (addr_at0 _ _)) ?_
            refine st_storeCell M97 0 rfl 3 (.tmp 96) _ (by rfl) 0 (.int .i64 0) (iv ((bx l k).set 0 0)) (by kernel_rfl) (by kernel_rfl) (by rw [iv_size, (bx_length l k)]; omega) (by kernel_rfl) rfl (by kernel_rfl) (iv_set _ _ _) (by kernel_rfl) ((g93, .cells (iv ((bx l k).set 0 0)) 23 (0, 0)) :: ((rT g74 v75 (endOf (payload (cumB l lf i))) a TB76) ++ [])) rfl ?_
            intro W103 M104
            refine wl_nil ?_
            refine hK98 _ _ ?_
            try clear hK98 K98
            refine wp_seq_k (fun K105 hK105 => ?_)
            obtain ⟨s, hs⟩ := cumB_drop l lf k i (by omega)
            have htk : tkB ((unpack (payload (cumB l lf i))).take (endOf (payload (cumB l lf i)))) a (lf.getD k 0) = ((bx l k).set 0 0, 0, a + (bC (bx l k) (lf.getD k 0)).length) := by
              have h := tkB_back (lvl_length _) (hE k (by omega)) (L := ((unpack (payload (cumB l lf i))).take (endOf (payload (cumB l lf i))))) (pos := a) (s := s) (by rw [hend, htp, hla, hs]; rfl)
              rw [if_pos c95] at h; exact h
            refine wl_region ?_
            refine st_val (.pointer (some ⟨g74, 0, none⟩)) (by kernel_rfl) (by kernel_rfl) ?_
            refine st_val (.slice Af lf.length cf) (by kernel_rfl) (by kernel_rfl) ?_
            refine st_val (.int .i64 ((k : Nat) : Int)) (by kernel_rfl) (by kernel_rfl) ?_
            obtain ⟨b106, o107, eA108⟩ := RdK.addr (hrf.keep M104.keep (fun _ _ h => h)) (j := k * 1) (by rw [i64s_length]; omega)
            refine st_val (.pointer (some ⟨b106, o107 + k * 1, none⟩)) (by kernel_rfl) (run_indexSliceA 22 (.tmp 99) (.tmp 100) rfl Af ⟨b106, o107, none⟩ eA108 lf.length cf .i64 k (by kernel_rfl) (by kernel_rfl) Try.underlying22 1 (by kernel_rfl) (by omega) ⟨b106, o107 + k * 1, none⟩ (addr_atK _ _ _ _)) ?_
            refine st_val (.int .i64 (lf.getD k 0)) (by kernel_rfl) (run_load_cell 3 (.tmp 101) rfl ⟨b106, o107 + k * 1, none⟩ (by kernel_rfl) _ ((hrf.keep M104.keep (fun _ _ h => h)).cellF eA108 (f := 0) (i64s_get lf k (by omega))) (by kernel_rfl)) ?_
            refine st_callU (A := [(g93, .cells (iv ((bx l k).set 0 0)) 23 (0, 0))]) (T := (rT g74 v75 (endOf (payload (cumB l lf i))) a TB76)) (B := []) M104 (by kernel_rfl) (run_value_call 18 #[(Operand.tmp 98), (Operand.tmp 102)] _ rfl Try.func18 (by kernel_rfl) (by kernel_rfl) _ (by kernel_rfl)) (btake_any W103 F77 (by rw [hend]; omega) (Mem.part (A := [(g93, .cells (iv ((bx l k).set 0 0)) 23 (0, 0))]) (T := (rT g74 v75 (endOf (payload (cumB l lf i))) a TB76)) (B := []) M104) (lf.getD k 0)) ?_
            intro v109 T110 W111 O112 M113
            obtain ⟨rfl, rfl⟩ := O112
            have M114 : Mem NoS w W111 ((g93, .cells (iv ((bx l k).set 0 0)) 23 (0, 0)) :: ((rT g74 v75 (endOf (payload (cumB l lf i))) ((tkB ((unpack (payload (cumB l lf i))).take (endOf (payload (cumB l lf i)))) a (lf.getD k 0)).2.2) TB76) ++ [])) := M113
            refine st_val (.tuple #[.agg (iv (tkB ((unpack (payload (cumB l lf i))).take (endOf (payload (cumB l lf i)))) a (lf.getD k 0)).1), .int .i64 ((tkB ((unpack (payload (cumB l lf i))).take (endOf (payload (cumB l lf i)))) a (lf.getD k 0)).2.1)]) (by kernel_rfl) (by kernel_rfl) ?_
            refine st_val (.agg (iv ((bx l k).set 0 0))) (by kernel_rfl) (val_of (show Value.agg (iv (tkB ((unpack (payload (cumB l lf i))).take (endOf (payload (cumB l lf i)))) a (lf.getD k 0)).1) = .agg (iv ((bx l k).set 0 0)) by rw [htk]) (by kernel_rfl)) ?_
            refine st_val (.int .i64 ((tkB ((unpack (payload (cumB l lf i))).take (endOf (payload (cumB l lf i)))) a (lf.getD k 0)).2.1)) (by kernel_rfl) (by kernel_rfl) ?_
            refine st_alloc M114 (.cells (iv zeros) 23 (0, 0)) (by kernel_rfl) (by kernel_rfl) ?_
            intro g115 W116 M117
            refine st_storeRow M117 0 rfl 23 (.tmp 14) (.tmp 104) (by rfl) (iv ((bx l k).set 0 0)) (by kernel_rfl) (by kernel_rfl) (info64 _ ((List.length_set).trans (bx_length l k))) (iv_same ((List.length_set).trans (bx_length l k)) zeros_length) (iv_one _) (by kernel_rfl) ((g115, .cells (iv ((bx l k).set 0 0)) 23 (0, 0)) :: (g93, .cells (iv ((bx l k).set 0 0)) 23 (0, 0)) :: ((rT g74 v75 (endOf (payload (cumB l lf i))) ((tkB ((unpack (payload (cumB l lf i))).take (endOf (payload (cumB l lf i)))) a (lf.getD k 0)).2.2) TB76) ++ [])) rfl ?_
            intro W118 M119
            refine st_val (.int .i64 ((tkB ((unpack (payload (cumB l lf i))).take (endOf (payload (cumB l lf i)))) a (lf.getD k 0)).2.1)) (by kernel_rfl) (by kernel_rfl) ?_
            refine wl_nil ?_
            refine hK105 _ _ ?_
            try clear hK105 K105
            refine wp_frame (a' := ⟨#[.slice A l.length c, .slice Af lf.length cf, undef, undef, (u84 4), .pointer (some ⟨g12, 0, none⟩), .int .i64 n, .int .i64 ((i : Nat) : Int), (u17 8), (u17 9), .pointer (some ⟨g74, 0, none⟩), .int .i64 0, .int .i64 ((k : Nat) : Int), .pointer (some ⟨g93, 0, none⟩), .pointer (some ⟨g115, 0, none⟩), .int .i64 ((tkB ((unpack (payload (cumB l lf i))).take (endOf (payload (cumB l lf i)))) a (lf.getD k 0)).2.1), .slice A l.length c, .int .i64 ((l.length : Nat) : Int), .bool false, .bool false, .slice Af lf.length cf, .int .i64 ((lf.length : Nat) : Int), .bool false, .bool false, .pointer (some ⟨g12, 0, none⟩), .int .i64 ((i : Nat) : Int), .slice Af lf.length cf, .int .i64 ((lf.length : Nat) : Int), .bool false, (u17 29), (u17 30), (u17 31), (u17 32), (u17 33), (u17 34), (u17 35), (u17 36), (u17 37), (u17 38), (u17 39), (u17 40), (u17 41), (u17 42), (u17 43), (u17 44), (u17 45), (u17 46), (u17 47), (u17 48), (u17 49), (u17 50), (u17 51), (u17 52), (u17 53), (u17 54), (u17 55), (u17 56), (u17 57), (u17 58), (u17 59), (u17 60), (u17 61), (u17 62), (u17 63), (u17 64), (u17 65), (u17 66), (u17 67), (u17 68), .tuple #[.pointer (some ⟨g74, 0, none⟩), .int .i64 0], .pointer (some ⟨g12, 0, none⟩), .slice A66 ((payload (cumB l lf i)).length) cq67, .tuple #[.pointer (some ⟨g74, 0, none⟩), .int .i64 0], .pointer (some ⟨g74, 0, none⟩), .int .i64 0, .int .i64 0, .bool false, .int .i64 ((k : Nat) : Int), .slice Af lf.length cf, .int .i64 ((lf.length : Nat) : Int), .bool true, (u84 81), (u84 82), .slice A l.length c, .int .i64 ((k : Nat) : Int), .int .i64 (64 * ((k : Nat) : Int)), .slice A l.length c, .int .i64 ((l.length : Nat) : Int), .int .i64 ((min (64 * k) l.length : Nat) : Int), (subS A l.length c (min (64 * k) l.length)), .agg (iv (bx l k)), .slice Af lf.length cf, .int .i64 ((k : Nat) : Int), .pointer (some ⟨b100, o101 + k * 1, none⟩), .int .i64 (lf.getD k 0), .bool true, .pointer (some ⟨g93, 0, none⟩), .tuple #[.agg (iv (tkB ((unpack (payload (cumB l lf i))).take (endOf (payload (cumB l lf i)))) a (lf.getD k 0)).1), .int .i64 ((tkB ((unpack (payload (cumB l lf i))).take (endOf (payload (cumB l lf i)))) a (lf.getD k 0)).2.1)], .pointer (some ⟨g74, 0, none⟩), .slice Af lf.length cf, .int .i64 ((k : Nat) : Int), .pointer (some ⟨b106, o107 + k * 1, none⟩), .int .i64 (lf.getD k 0), .tuple #[.agg (iv (tkB ((unpack (payload (cumB l lf i))).take (endOf (payload (cumB l lf i)))) a (lf.getD k 0)).1), .int .i64 ((tkB ((unpack (payload (cumB l lf i))).take (endOf (payload (cumB l lf i)))) a (lf.getD k 0)).2.1)], .agg (iv ((bx l k).set 0 0)), .int .i64 ((tkB ((unpack (payload (cumB l lf i))).take (endOf (payload (cumB l lf i)))) a (lf.getD k 0)).2.1), (u84 106), (u84 107), (u84 108), (u84 109), (u84 110), (u84 111), (u84 112), undef, undef, undef, undef, undef, undef], []⟩) (by kernel_rfl) ?_
            refine wp_seq_k (fun K120 hK120 => ?_)
            refine wl_region ?_
            refine st_val (.int .i64 ((tkB ((unpack (payload (cumB l lf i))).take (endOf (payload (cumB l lf i)))) a (lf.getD k 0)).2.1)) (by kernel_rfl) (by kernel_rfl) ?_
            refine st_val (.bool false) (by kernel_rfl) (bool_of (neq_f (show ((tkB ((unpack (payload (cumB l lf i))).take (endOf (payload (cumB l lf i)))) a (lf.getD k 0)).2.1 : Int) = 0 from (by rw [htk]))) (by kernel_rfl)) ?_
            refine st_val (.bool false) (by kernel_rfl) (by kernel_rfl) ?_
            refine st_val (.agg (iv ((bx l k).set 0 0))) (by kernel_rfl) (run_load_row 23 (.tmp 13) rfl g93 (by kernel_rfl) 23 (iv ((bx l k).set 0 0)) (0, 0) _ (M119.get 1 rfl) Try.underlying23 rfl (info64 _ ((List.length_set).trans (bx_length l k)))) ?_
            refine st_val (.agg (iv ((bx l k).set 0 0))) (by kernel_rfl) (run_load_row 23 (.tmp 14) rfl g115 (by kernel_rfl) 23 (iv ((bx l k).set 0 0)) (0, 0) _ (M119.get 0 rfl) Try.underlying23 rfl (info64 _ ((List.length_set).trans (bx_length l k)))) ?_
            refine st_val (.bool false) (by kernel_rfl) (run_value_bin .neq 23 _ (.tmp 109) (.tmp 110) rfl (.agg (iv ((bx l k).set 0 0))) (.agg (iv ((bx l k).set 0 0))) _ (by kernel_rfl) (by kernel_rfl) (by kernel_rfl) (neq_same W118 ((bx l k).set 0 0) ((List.length_set).trans (bx_length l k)))) ?_
            refine st_val (.bool false) (by kernel_rfl) (by kernel_rfl) ?_
            refine wl_nil ?_
            refine hK120 _ _ ?_
            try clear hK120 K120
            refine wp_cond_false (by kernel_rfl) ?_
            refine wp_skip ?_
            refine blk_normal ?_
            refine hK89 _ _ ?_
            try clear hK89 K89
            refine wl_region ?_
            refine st_val (.int .i64 ((k : Nat) : Int)) (by kernel_rfl) (by kernel_rfl) ?_
            refine st_val (.int .i64 (((k : Nat) : Int) + 1)) (by kernel_rfl) (i64_of (by omega) (by kernel_rfl)) ?_
            refine st_val (.int .i64 (((k : Nat) : Int) + 1)) (by kernel_rfl) (by kernel_rfl) ?_
            refine wl_nil ?_
            refine th_normal ?_
            have M121 : Mem NoS w W118 (((rT g74 v75 (endOf (payload (cumB l lf i))) ((tkB ((unpack (payload (cumB l lf i))).take (endOf (payload (cumB l lf i)))) a (lf.getD k 0)).2.2) TB76) ++ [])) := M119.sub ((((List.Sublist.refl []).append_left (rT g74 v75 (endOf (payload (cumB l lf i))) ((tkB ((unpack (payload (cumB l lf i))).take (endOf (payload (cumB l lf i)))) a (lf.getD k 0)).2.2) TB76)).cons _).cons _)
            exact ⟨_, by omega, (k + 1), ((tkB ((unpack (payload (cumB l lf i))).take (endOf (payload (cumB l lf i)))) a (lf.getD k 0)).2.2), (fun zz => Array.getD #[.slice A l.length c, .slice Af lf.length cf, undef, undef, (u84 4), .pointer (some ⟨g12, 0, none⟩), .int .i64 n, .int .i64 ((i : Nat) : Int), (u17 8), (u17 9), .pointer (some ⟨g74, 0, none⟩), .int .i64 0, .int .i64 (((k : Nat) : Int) + 1), .pointer (some ⟨g93, 0, none⟩), .pointer (some ⟨g115, 0, none⟩), .int .i64 ((tkB ((unpack (payload (cumB l lf i))).take (endOf (payload (cumB l lf i)))) a (lf.getD k 0)).2.1), .slice A l.length c, .int .i64 ((l.length : Nat) : Int), .bool false, .bool false, .slice Af lf.length cf, .int .i64 ((lf.length : Nat) : Int), .bool false, .bool false, .pointer (some ⟨g12, 0, none⟩), .int .i64 ((i : Nat) : Int), .slice Af lf.length cf, .int .i64 ((lf.length : Nat) : Int), .bool false, (u17 29), (u17 30), (u17 31), (u17 32), (u17 33), (u17 34), (u17 35), (u17 36), (u17 37), (u17 38), (u17 39), (u17 40), (u17 41), (u17 42), (u17 43), (u17 44), (u17 45), (u17 46), (u17 47), (u17 48), (u17 49), (u17 50), (u17 51), (u17 52), (u17 53), (u17 54), (u17 55), (u17 56), (u17 57), (u17 58), (u17 59), (u17 60), (u17 61), (u17 62), (u17 63), (u17 64), (u17 65), (u17 66), (u17 67), (u17 68), .tuple #[.pointer (some ⟨g74, 0, none⟩), .int .i64 0], .pointer (some ⟨g12, 0, none⟩), .slice A66 ((payload (cumB l lf i)).length) cq67, .tuple #[.pointer (some ⟨g74, 0, none⟩), .int .i64 0], .pointer (some ⟨g74, 0, none⟩), .int .i64 0, .int .i64 0, .bool false, .int .i64 ((k : Nat) : Int), .slice Af lf.length cf, .int .i64 ((lf.length : Nat) : Int), .bool true, .int .i64 ((k : Nat) : Int), .int .i64 (((k : Nat) : Int) + 1), .slice A l.length c, .int .i64 ((k : Nat) : Int), .int .i64 (64 * ((k : Nat) : Int)), .slice A l.length c, .int .i64 ((l.length : Nat) : Int), .int .i64 ((min (64 * k) l.length : Nat) : Int), (subS A l.length c (min (64 * k) l.length)), .agg (iv (bx l k)), .slice Af lf.length cf, .int .i64 ((k : Nat) : Int), .pointer (some ⟨b100, o101 + k * 1, none⟩), .int .i64 (lf.getD k 0), .bool true, .pointer (some ⟨g93, 0, none⟩), .tuple #[.agg (iv (tkB ((unpack (payload (cumB l lf i))).take (endOf (payload (cumB l lf i)))) a (lf.getD k 0)).1), .int .i64 ((tkB ((unpack (payload (cumB l lf i))).take (endOf (payload (cumB l lf i)))) a (lf.getD k 0)).2.1)], .pointer (some ⟨g74, 0, none⟩), .slice Af lf.length cf, .int .i64 ((k : Nat) : Int), .pointer (some ⟨b106, o107 + k * 1, none⟩), .int .i64 (lf.getD k 0), .tuple #[.agg (iv (tkB ((unpack (payload (cumB l lf i))).take (endOf (payload (cumB l lf i)))) a (lf.getD k 0)).1), .int .i64 ((tkB ((unpack (payload (cumB l lf i))).take (endOf (payload (cumB l lf i)))) a (lf.getD k 0)).2.1)], .agg (iv ((bx l k).set 0 0)), .int .i64 ((tkB ((unpack (payload (cumB l lf i))).take (endOf (payload (cumB l lf i)))) a (lf.getD k 0)).2.1), .int .i64 ((tkB ((unpack (payload (cumB l lf i))).take (endOf (payload (cumB l lf i)))) a (lf.getD k 0)).2.1), .bool false, .bool false, .agg (iv ((bx l k).set 0 0)), .agg (iv ((bx l k).set 0 0)), .bool false, .bool false, undef, undef, undef, undef, undef, undef] zz undef), ⟨⟨by omega, by rw [cumB_next, htk, hla]⟩, M121⟩, rfl, (by kernel_rfl)⟩
          ·
            refine st_val (.bool false) (by kernel_rfl) (bool_of (dec_f c95) (by kernel_rfl)) ?_
            refine wl_nil ?_
            refine hK99 _ _ ?_
            try clear hK99 K99
            refine wp_cond_false (by kernel_rfl) ?_
            refine wp_skip ?_
            refine hK98 _ _ ?_
            try clear hK98 K98
            refine wp_seq_k (fun K122 hK122 => ?_)
            obtain ⟨s, hs⟩ := cumB_drop l lf k i (by omega)
            have htk : tkB ((unpack (payload (cumB l lf i))).take (endOf (payload (cumB l lf i)))) a (lf.getD k 0) = (bx l k, 0, a + (bC (bx l k) (lf.getD k 0)).length) := by
              have h := tkB_back (lvl_length _) (hE k (by omega)) (L := ((unpack (payload (cumB l lf i))).take (endOf (payload (cumB l lf i))))) (pos := a) (s := s) (by rw [hend, htp, hla, hs]; rfl)
              rw [if_neg c95] at h; exact h
            refine wl_region ?_
            refine st_val (.pointer (some ⟨g74, 0, none⟩)) (by kernel_rfl) (by kernel_rfl) ?_
            refine st_val (.slice Af lf.length cf) (by kernel_rfl) (by kernel_rfl) ?_
            refine st_val (.int .i64 ((k : Nat) : Int)) (by kernel_rfl) (by kernel_rfl) ?_
            obtain ⟨b123, o124, eA125⟩ := RdK.addr (hrf.keep M97.keep (fun _ _ h => h)) (j := k * 1) (by rw [i64s_length]; omega)
            refine st_val (.pointer (some ⟨b123, o124 + k * 1, none⟩)) (by kernel_rfl) (run_indexSliceA 22 (.tmp 99) (.tmp 100) rfl Af ⟨b123, o124, none⟩ eA125 lf.length cf .i64 k (by kernel_rfl) (by kernel_rfl) Try.underlying22 1 (by kernel_rfl) (by omega) ⟨b123, o124 + k * 1, none⟩ (addr_atK _ _ _ _)) ?_
            refine st_val (.int .i64 (lf.getD k 0)) (by kernel_rfl) (run_load_cell 3 (.tmp 101) rfl ⟨b123, o124 + k * 1, none⟩ (by kernel_rfl) _ ((hrf.keep M97.keep (fun _ _ h => h)).cellF eA125 (f := 0) (i64s_get lf k (by omega))) (by kernel_rfl)) ?_
            refine st_callU (A := [(g93, .cells (iv (bx l k)) 23 (0, 0))]) (T := (rT g74 v75 (endOf (payload (cumB l lf i))) a TB76)) (B := []) M97 (by kernel_rfl) (run_value_call 18 #[(Operand.tmp 98), (Operand.tmp 102)] _ rfl Try.func18 (by kernel_rfl) (by kernel_rfl) _ (by kernel_rfl)) (btake_any W96 F77 (by rw [hend]; omega) (Mem.part (A := [(g93, .cells (iv (bx l k)) 23 (0, 0))]) (T := (rT g74 v75 (endOf (payload (cumB l lf i))) a TB76)) (B := []) M97) (lf.getD k 0)) ?_
            intro v126 T127 W128 O129 M130
            obtain ⟨rfl, rfl⟩ := O129
            have M131 : Mem NoS w W128 ((g93, .cells (iv (bx l k)) 23 (0, 0)) :: ((rT g74 v75 (endOf (payload (cumB l lf i))) ((tkB ((unpack (payload (cumB l lf i))).take (endOf (payload (cumB l lf i)))) a (lf.getD k 0)).2.2) TB76) ++ [])) := M130
            refine st_val (.tuple #[.agg (iv (tkB ((unpack (payload (cumB l lf i))).take (endOf (payload (cumB l lf i)))) a (lf.getD k 0)).1), .int .i64 ((tkB ((unpack (payload (cumB l lf i))).take (endOf (payload (cumB l lf i)))) a (lf.getD k 0)).2.1)]) (by kernel_rfl) (by kernel_rfl) ?_
            refine st_val (.agg (iv (bx l k))) (by kernel_rfl) (val_of (show Value.agg (iv (tkB ((unpack (payload (cumB l lf i))).take (endOf (payload (cumB l lf i)))) a (lf.getD k 0)).1) = .agg (iv (bx l k)) by rw [htk]) (by kernel_rfl)) ?_
            refine st_val (.int .i64 ((tkB ((unpack (payload (cumB l lf i))).take (endOf (payload (cumB l lf i)))) a (lf.getD k 0)).2.1)) (by kernel_rfl) (by kernel_rfl) ?_
            refine st_alloc M131 (.cells (iv zeros) 23 (0, 0)) (by kernel_rfl) (by kernel_rfl) ?_
            intro g132 W133 M134
            refine st_storeRow M134 0 rfl 23 (.tmp 14) (.tmp 104) (by rfl) (iv (bx l k)) (by kernel_rfl) (by kernel_rfl) (info64 _ (bx_length l k)) (iv_same (bx_length l k) zeros_length) (iv_one _) (by kernel_rfl) ((g132, .cells (iv (bx l k)) 23 (0, 0)) :: (g93, .cells (iv (bx l k)) 23 (0, 0)) :: ((rT g74 v75 (endOf (payload (cumB l lf i))) ((tkB ((unpack (payload (cumB l lf i))).take (endOf (payload (cumB l lf i)))) a (lf.getD k 0)).2.2) TB76) ++ [])) rfl ?_
            intro W135 M136
            refine st_val (.int .i64 ((tkB ((unpack (payload (cumB l lf i))).take (endOf (payload (cumB l lf i)))) a (lf.getD k 0)).2.1)) (by kernel_rfl) (by kernel_rfl) ?_
            refine wl_nil ?_
            refine hK122 _ _ ?_
            try clear hK122 K122
            refine wp_frame (a' := ⟨#[.slice A l.length c, .slice Af lf.length cf, undef, undef, (u84 4), .pointer (some ⟨g12, 0, none⟩), .int .i64 n, .int .i64 ((i : Nat) : Int), (u17 8), (u17 9), .pointer (some ⟨g74, 0, none⟩), .int .i64 0, .int .i64 ((k : Nat) : Int), .pointer (some ⟨g93, 0, none⟩), .pointer (some ⟨g132, 0, none⟩), .int .i64 ((tkB ((unpack (payload (cumB l lf i))).take (endOf (payload (cumB l lf i)))) a (lf.getD k 0)).2.1), .slice A l.length c, .int .i64 ((l.length : Nat) : Int), .bool false, .bool false, .slice Af lf.length cf, .int .i64 ((lf.length : Nat) : Int), .bool false, .bool false, .pointer (some ⟨g12, 0, none⟩), .int .i64 ((i : Nat) : Int), .slice Af lf.length cf, .int .i64 ((lf.length : Nat) : Int), .bool false, (u17 29), (u17 30), (u17 31), (u17 32), (u17 33), (u17 34), (u17 35), (u17 36), (u17 37), (u17 38), (u17 39), (u17 40), (u17 41), (u17 42), (u17 43), (u17 44), (u17 45), (u17 46), (u17 47), (u17 48), (u17 49), (u17 50), (u17 51), (u17 52), (u17 53), (u17 54), (u17 55), (u17 56), (u17 57), (u17 58), (u17 59), (u17 60), (u17 61), (u17 62), (u17 63), (u17 64), (u17 65), (u17 66), (u17 67), (u17 68), .tuple #[.pointer (some ⟨g74, 0, none⟩), .int .i64 0], .pointer (some ⟨g12, 0, none⟩), .slice A66 ((payload (cumB l lf i)).length) cq67, .tuple #[.pointer (some ⟨g74, 0, none⟩), .int .i64 0], .pointer (some ⟨g74, 0, none⟩), .int .i64 0, .int .i64 0, .bool false, .int .i64 ((k : Nat) : Int), .slice Af lf.length cf, .int .i64 ((lf.length : Nat) : Int), .bool true, (u84 81), (u84 82), .slice A l.length c, .int .i64 ((k : Nat) : Int), .int .i64 (64 * ((k : Nat) : Int)), .slice A l.length c, .int .i64 ((l.length : Nat) : Int), .int .i64 ((min (64 * k) l.length : Nat) : Int), (subS A l.length c (min (64 * k) l.length)), .agg (iv (bx l k)), .slice Af lf.length cf, .int .i64 ((k : Nat) : Int), .pointer (some ⟨b100, o101 + k * 1, none⟩), .int .i64 (lf.getD k 0), .bool false, (u84 96), .tuple #[.agg (iv (tkB ((unpack (payload (cumB l lf i))).take (endOf (payload (cumB l lf i)))) a (lf.getD k 0)).1), .int .i64 ((tkB ((unpack (payload (cumB l lf i))).take (endOf (payload (cumB l lf i)))) a (lf.getD k 0)).2.1)], .pointer (some ⟨g74, 0, none⟩), .slice Af lf.length cf, .int .i64 ((k : Nat) : Int), .pointer (some ⟨b123, o124 + k * 1, none⟩), .int .i64 (lf.getD k 0), .tuple #[.agg (iv (tkB ((unpack (payload (cumB l lf i))).take (endOf (payload (cumB l lf i)))) a (lf.getD k 0)).1), .int .i64 ((tkB ((unpack (payload (cumB l lf i))).take (endOf (payload (cumB l lf i)))) a (lf.getD k 0)).2.1)], .agg (iv (bx l k)), .int .i64 ((tkB ((unpack (payload (cumB l lf i))).take (endOf (payload (cumB l lf i)))) a (lf.getD k 0)).2.1), (u84 106), (u84 107), (u84 108), (u84 109), (u84 110), (u84 111), (u84 112), undef, undef, undef, undef, undef, undef], []⟩) (by kernel_rfl) ?_
            refine wp_seq_k (fun K137 hK137 => ?_)
            refine wl_region ?_
            refine st_val (.int .i64 ((tkB ((unpack (payload (cumB l lf i))).take (endOf (payload (cumB l lf i)))) a (lf.getD k 0)).2.1)) (by kernel_rfl) (by kernel_rfl) ?_
            refine st_val (.bool false) (by kernel_rfl) (bool_of (neq_f (show ((tkB ((unpack (payload (cumB l lf i))).take (endOf (payload (cumB l lf i)))) a (lf.getD k 0)).2.1 : Int) = 0 from (by rw [htk]))) (by kernel_rfl)) ?_
            refine st_val (.bool false) (by kernel_rfl) (by kernel_rfl) ?_
            refine st_val (.agg (iv (bx l k))) (by kernel_rfl) (run_load_row 23 (.tmp 13) rfl g93 (by kernel_rfl) 23 (iv (bx l k)) (0, 0) _ (M136.get 1 rfl) Try.underlying23 rfl (info64 _ (bx_length l k))) ?_
            refine st_val (.agg (iv (bx l k))) (by kernel_rfl) (run_load_row 23 (.tmp 14) rfl g132 (by kernel_rfl) 23 (iv (bx l k)) (0, 0) _ (M136.get 0 rfl) Try.underlying23 rfl (info64 _ (bx_length l k))) ?_
            refine st_val (.bool false) (by kernel_rfl) (run_value_bin .neq 23 _ (.tmp 109) (.tmp 110) rfl (.agg (iv (bx l k))) (.agg (iv (bx l k))) _ (by kernel_rfl) (by kernel_rfl) (by kernel_rfl) (neq_same W135 (bx l k) (bx_length l k))) ?_
            refine st_val (.bool false) (by kernel_rfl) (by kernel_rfl) ?_
            refine wl_nil ?_
            refine hK137 _ _ ?_
            try clear hK137 K137
            refine wp_cond_false (by kernel_rfl) ?_
            refine wp_skip ?_
            refine blk_normal ?_
            refine hK89 _ _ ?_
            try clear hK89 K89
            refine wl_region ?_
            refine st_val (.int .i64 ((k : Nat) : Int)) (by kernel_rfl) (by kernel_rfl) ?_
            refine st_val (.int .i64 (((k : Nat) : Int) + 1)) (by kernel_rfl) (i64_of (by omega) (by kernel_rfl)) ?_
            refine st_val (.int .i64 (((k : Nat) : Int) + 1)) (by kernel_rfl) (by kernel_rfl) ?_
            refine wl_nil ?_
            refine th_normal ?_
            have M138 : Mem NoS w W135 (((rT g74 v75 (endOf (payload (cumB l lf i))) ((tkB ((unpack (payload (cumB l lf i))).take (endOf (payload (cumB l lf i)))) a (lf.getD k 0)).2.2) TB76) ++ [])) := M136.sub ((((List.Sublist.refl []).append_left (rT g74 v75 (endOf (payload (cumB l lf i))) ((tkB ((unpack (payload (cumB l lf i))).take (endOf (payload (cumB l lf i)))) a (lf.getD k 0)).2.2) TB76)).cons _).cons _)
            exact ⟨_, by omega, (k + 1), ((tkB ((unpack (payload (cumB l lf i))).take (endOf (payload (cumB l lf i)))) a (lf.getD k 0)).2.2), (fun zz => Array.getD #[.slice A l.length c, .slice Af lf.length cf, undef, undef, (u84 4), .pointer (some ⟨g12, 0, none⟩), .int .i64 n, .int .i64 ((i : Nat) : Int), (u17 8), (u17 9), .pointer (some ⟨g74, 0, none⟩), .int .i64 0, .int .i64 (((k : Nat) : Int) + 1), .pointer (some ⟨g93, 0, none⟩), .pointer (some ⟨g132, 0, none⟩), .int .i64 ((tkB ((unpack (payload (cumB l lf i))).take (endOf (payload (cumB l lf i)))) a (lf.getD k 0)).2.1), .slice A l.length c, .int .i64 ((l.length : Nat) : Int), .bool false, .bool false, .slice Af lf.length cf, .int .i64 ((lf.length : Nat) : Int), .bool false, .bool false, .pointer (some ⟨g12, 0, none⟩), .int .i64 ((i : Nat) : Int), .slice Af lf.length cf, .int .i64 ((lf.length : Nat) : Int), .bool false, (u17 29), (u17 30), (u17 31), (u17 32), (u17 33), (u17 34), (u17 35), (u17 36), (u17 37), (u17 38), (u17 39), (u17 40), (u17 41), (u17 42), (u17 43), (u17 44), (u17 45), (u17 46), (u17 47), (u17 48), (u17 49), (u17 50), (u17 51), (u17 52), (u17 53), (u17 54), (u17 55), (u17 56), (u17 57), (u17 58), (u17 59), (u17 60), (u17 61), (u17 62), (u17 63), (u17 64), (u17 65), (u17 66), (u17 67), (u17 68), .tuple #[.pointer (some ⟨g74, 0, none⟩), .int .i64 0], .pointer (some ⟨g12, 0, none⟩), .slice A66 ((payload (cumB l lf i)).length) cq67, .tuple #[.pointer (some ⟨g74, 0, none⟩), .int .i64 0], .pointer (some ⟨g74, 0, none⟩), .int .i64 0, .int .i64 0, .bool false, .int .i64 ((k : Nat) : Int), .slice Af lf.length cf, .int .i64 ((lf.length : Nat) : Int), .bool true, .int .i64 ((k : Nat) : Int), .int .i64 (((k : Nat) : Int) + 1), .slice A l.length c, .int .i64 ((k : Nat) : Int), .int .i64 (64 * ((k : Nat) : Int)), .slice A l.length c, .int .i64 ((l.length : Nat) : Int), .int .i64 ((min (64 * k) l.length : Nat) : Int), (subS A l.length c (min (64 * k) l.length)), .agg (iv (bx l k)), .slice Af lf.length cf, .int .i64 ((k : Nat) : Int), .pointer (some ⟨b100, o101 + k * 1, none⟩), .int .i64 (lf.getD k 0), .bool false, (u84 96), .tuple #[.agg (iv (tkB ((unpack (payload (cumB l lf i))).take (endOf (payload (cumB l lf i)))) a (lf.getD k 0)).1), .int .i64 ((tkB ((unpack (payload (cumB l lf i))).take (endOf (payload (cumB l lf i)))) a (lf.getD k 0)).2.1)], .pointer (some ⟨g74, 0, none⟩), .slice Af lf.length cf, .int .i64 ((k : Nat) : Int), .pointer (some ⟨b123, o124 + k * 1, none⟩), .int .i64 (lf.getD k 0), .tuple #[.agg (iv (tkB ((unpack (payload (cumB l lf i))).take (endOf (payload (cumB l lf i)))) a (lf.getD k 0)).1), .int .i64 ((tkB ((unpack (payload (cumB l lf i))).take (endOf (payload (cumB l lf i)))) a (lf.getD k 0)).2.1)], .agg (iv (bx l k)), .int .i64 ((tkB ((unpack (payload (cumB l lf i))).take (endOf (payload (cumB l lf i)))) a (lf.getD k 0)).2.1), .int .i64 ((tkB ((unpack (payload (cumB l lf i))).take (endOf (payload (cumB l lf i)))) a (lf.getD k 0)).2.1), .bool false, .bool false, .agg (iv (bx l k)), .agg (iv (bx l k)), .bool false, .bool false, undef, undef, undef, undef, undef, undef] zz undef), ⟨⟨by omega, by rw [cumB_next, htk, hla]⟩, M138⟩, rfl, (by kernel_rfl)⟩
        ·
          refine st_val (.bool false) (by kernel_rfl) (bool_of (dec_f c80) (by kernel_rfl)) ?_
          refine wl_nil ?_
          refine hK88 _ _ ?_
          try clear hK88 K88
          refine wp_cond_false (by kernel_rfl) ?_
          refine wp_exit ?_
          refine th_exit ?_
          refine th_exit ?_
          refine blk_exit ?_
          refine hK81 _ _ ?_
          try clear hK81 K81
          refine wp_seq_k (fun K139 hK139 => ?_)
          have hki : k = i := (by omega)
          rw [hki] at hla
          refine wl_region ?_
          refine st_callB M86 (.bool true) (by kernel_rfl) (args := #[]) (run_value_call 12 #[] _ rfl Try.func12 (by kernel_rfl) (by kernel_rfl) _ (by kernel_rfl)) (awake_walk W85) ?_
          intro W140 M141
          refine st_val (.bool true) (by kernel_rfl) (by kernel_rfl) ?_
          refine st_val (.pointer (some ⟨g74, 0, none⟩)) (by kernel_rfl) (by kernel_rfl) ?_
          refine st_callB M141 (.int .i64 (((endOf (payload (cumB l lf i))) - a : Nat) : Int)) (by kernel_rfl) (args := #[.pointer (some ⟨g74, 0, none⟩)]) (run_value_call 22 #[(Operand.tmp 115)] _ rfl Try.func22 (by kernel_rfl) (by kernel_rfl) _ (by kernel_rfl)) (rLeftM W140 F77 (by rw [hend]; omega) (Mem.part (A := []) (T := (rT g74 v75 (endOf (payload (cumB l lf i))) a TB76)) (B := []) M141)) ?_
          intro W142 M143
          refine st_val (.bool true) (by kernel_rfl) (bool_of (dec_t (show ((((endOf (payload (cumB l lf i))) - a : Nat) : Int) : Int) = 0 from (by rw [hend]; omega))) (by kernel_rfl)) ?_
          refine st_val (.bool true) (by kernel_rfl) (by kernel_rfl) ?_
          refine st_val (.bool true) (by kernel_rfl) (by kernel_rfl) ?_
          refine wl_nil ?_
          refine hK139 _ _ ?_
          try clear hK139 K139
          refine wp_ret ?_
          exact done1 4 (.bool true) (by kernel_rfl) (by kernel_rfl) (by kernel_rfl) ⟨rfl, M143.toBelow⟩
end Go.Proofs.Ytmchfkkifeioeaa
