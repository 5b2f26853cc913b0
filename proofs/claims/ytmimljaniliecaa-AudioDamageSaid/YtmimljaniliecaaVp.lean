/- Variable-length codes, plainly. -/
import Derived.Test.YtmimljaniliecaaBits2
namespace Go.Proofs.Ytmimljaniliecaa.Bt

def zeros0 : List Nat → Nat
  | [] => 0
  | b :: r => if b = 0 then zeros0 r + 1 else 0
theorem zeros0_z {b : Nat} (r : List Nat) (h : b = 0) : zeros0 (b :: r) = zeros0 r + 1 := if_pos h
theorem zeros0_n {b : Nat} (r : List Nat) (h : ¬ b = 0) : zeros0 (b :: r) = 0 := if_neg h
theorem zeros0_le (r : List Nat) : zeros0 r ≤ r.length := by
  induction r with
  | nil => exact Nat.le_refl _
  | cons b r ih =>
    unfold zeros0
    split
    · simp only [List.length_cons]; omega
    · exact Nat.zero_le _
theorem zeros0_of (r : List Nat) : ∀ k, (∀ i, i < k → r.getD i 0 = 0) → k ≤ r.length → (k = r.length ∨ ¬ r.getD k 0 = 0) → zeros0 r = k := by
  induction r with
  | nil => intro k _ h _; simp at h; subst h; rfl
  | cons b r ih =>
    intro k h hl hs
    cases k with
    | zero =>
      rcases hs with hs | hs
      · simp at hs
      · have hb : ¬ b = 0 := hs
        unfold zeros0; rw [if_neg hb]
    | succ k =>
      have hb : b = 0 := h 0 (by omega)
      unfold zeros0
      rw [if_pos hb, ih k (fun i hi => h (i + 1) (by omega)) (by simpa using hl) (hs.imp (fun h => by simpa using h) id)]
theorem zeros0_ge (r : List Nat) : ∀ k, (∀ i, i < k → r.getD i 0 = 0) → k ≤ r.length → k ≤ zeros0 r := by
  induction r with
  | nil => intro k _ h; simp at h; omega
  | cons b r ih =>
    intro k h hl
    cases k with
    | zero => exact Nat.zero_le _
    | succ k =>
      have hb : b = 0 := h 0 (by omega)
      unfold zeros0
      rw [if_pos hb]
      have := ih k (fun i hi => h (i + 1) (by omega)) (by simpa using hl)
      omega
theorem zeros0_spec (r : List Nat) : r.take (zeros0 r) = List.replicate (zeros0 r) 0 ∧ (zeros0 r < r.length → ¬ r.getD (zeros0 r) 0 = 0) := by
  induction r with
  | nil => exact ⟨rfl, fun h => by simp at h⟩
  | cons b r ih =>
    by_cases hb : b = 0
    · have e := zeros0_z r hb
      rw [e, List.take_succ_cons, ih.1, hb]
      exact ⟨rfl, fun h => ih.2 (by simpa using h)⟩
    · have e := zeros0_n r hb
      rw [e]
      exact ⟨rfl, fun _ => hb⟩
theorem zeros0_rep (k : Nat) (s : List Nat) : zeros0 (List.replicate k 0 ++ s) = k + zeros0 s := by
  induction k with
  | zero => simp
  | succ k ih =>
    rw [List.replicate_succ, List.cons_append, zeros0_z _ rfl, ih]; omega
theorem valueOf_zeros (k : Nat) : valueOf (List.replicate k 0) = 0 := by
  induction k with
  | zero => rfl
  | succ k ih =>
    rw [List.replicate_succ', valueOf_append, ih]; rfl
/-- what is read of the bits r: the number, the error, how many bits -/
def tk (r : List Nat) : Int × Int × Nat :=
  if 16 ≤ zeros0 r then (0, 3, 0) else if r.length < 2 * zeros0 r + 1 then (0, 4, 0) else (((valueOf (r.take (2 * zeros0 r + 1)) : Nat) : Int) - 1, 0, 2 * zeros0 r + 1)
theorem tk_form {r : List Nat} (h : 16 ≤ zeros0 r) : tk r = (0, 3, 0) := by unfold tk; rw [if_pos h]
theorem tk_short {r : List Nat} (h : zeros0 r < 16) (h2 : r.length < 2 * zeros0 r + 1) : tk r = (0, 4, 0) := by unfold tk; rw [if_neg (by omega), if_pos h2]
theorem tk_ok {r : List Nat} (h : zeros0 r < 16) (h2 : 2 * zeros0 r + 1 ≤ r.length) : tk r = (((valueOf (r.take (2 * zeros0 r + 1)) : Nat) : Int) - 1, 0, 2 * zeros0 r + 1) := by unfold tk; rw [if_neg (by omega), if_neg (by omega)]
theorem tk_cases (r : List Nat) : tk r = (0, 3, 0) ∨ tk r = (0, 4, 0) ∨ (zeros0 r < 16 ∧ 2 * zeros0 r + 1 ≤ r.length ∧ tk r = (((valueOf (r.take (2 * zeros0 r + 1)) : Nat) : Int) - 1, 0, 2 * zeros0 r + 1)) := by
  by_cases h : 16 ≤ zeros0 r
  · exact .inl (tk_form h)
  · by_cases h2 : r.length < 2 * zeros0 r + 1
    · exact .inr (.inl (tk_short (by omega) h2))
    · exact .inr (.inr ⟨by omega, by omega, tk_ok (by omega) (by omega)⟩)
/-- with k zeros, a 1, and k bits more -/
theorem val_code {r : List Nat} (hb : Bin r) (h2 : 2 * zeros0 r + 1 ≤ r.length) : valueOf (r.take (2 * zeros0 r + 1)) = 2 ^ zeros0 r + valueOf ((r.drop (zeros0 r + 1)).take (zeros0 r)) ∧ valueOf ((r.drop (zeros0 r + 1)).take (zeros0 r)) < 2 ^ zeros0 r := by
  obtain ⟨h3, h4⟩ := zeros0_spec r
  have h5 := h4 (by omega)
  have h6 : r.getD (zeros0 r) 0 ≤ 1 := bin_getD hb _
  have h7 : r.getD (zeros0 r) 0 = 1 := by omega
  generalize zeros0 r = k at *
  have e : r.take (2 * k + 1) = (r.take k ++ [1]) ++ (r.drop (k + 1)).take k := by
    have hk : r.take (k + 1) = r.take k ++ [1] := by
      rw [List.take_succ_eq_append_getElem (by omega)]
      rw [List.getD_eq_getElem?_getD, List.getElem?_eq_getElem (show k < r.length by omega)] at h7
      simp only [Option.getD_some] at h7
      rw [h7]
    rw [← hk, show 2 * k + 1 = (k + 1) + k by omega, List.take_add]
  have hl : ((r.drop (k + 1)).take k).length = k := by rw [List.length_take, List.length_drop]; omega
  have hv : valueOf ((r.drop (k + 1)).take k) < 2 ^ ((r.drop (k + 1)).take k).length := valueOf_lt (fun x hx => hb x (List.mem_of_mem_drop (List.mem_of_mem_take hx)))
  rw [hl] at hv
  refine ⟨?_, hv⟩
  rw [e, valueOf_append, valueOf_append, h3, valueOf_zeros, hl]
  have h1 : valueOf [1] = 1 := rfl
  rw [h1]; simp
theorem tk_val_lt {r : List Nat} (hb : Bin r) : 0 ≤ (tk r).1 ∧ (tk r).1 ≤ 65534 := by
  rcases tk_cases r with h | h | ⟨h1, h2, h⟩
  · rw [h]; decide
  · rw [h]; decide
  · obtain ⟨h3, h4⟩ := val_code hb h2
    have h5 : 2 ^ zeros0 r ≤ 2 ^ 15 := Nat.pow_le_pow_right (by decide) (by omega)
    have h6 : 0 < 2 ^ zeros0 r := Nat.pow_pos (by decide)
    rw [h, h3]
    show (0 : Int) ≤ ((2 ^ zeros0 r + valueOf ((r.drop (zeros0 r + 1)).take (zeros0 r)) : Nat) : Int) - 1 ∧ ((2 ^ zeros0 r + valueOf ((r.drop (zeros0 r + 1)).take (zeros0 r)) : Nat) : Int) - 1 ≤ 65534
    omega
theorem tk_le (r : List Nat) : (tk r).2.2 ≤ r.length := by
  rcases tk_cases r with h | h | ⟨h1, h2, h⟩
  · rw [h]; exact Nat.zero_le _
  · rw [h]; exact Nat.zero_le _
  · rw [h]; exact h2
theorem tk_bad {r : List Nat} (h : ¬ (tk r).2.1 = 0) : (tk r).1 = 0 ∧ (tk r).2.2 = 0 := by
  rcases tk_cases r with e | e | ⟨h1, h2, e⟩
  · rw [e]; exact ⟨rfl, rfl⟩
  · rw [e]; exact ⟨rfl, rfl⟩
  · rw [e] at h; exact absurd rfl h

/-- how many zeros the code of v has -/
def kOf (v : Nat) : Nat := (v + 1).log2
def codeN (v : Nat) : List Nat := bitsOf (v + 1) (2 * kOf v + 1)
theorem codeN_length (v : Nat) : (codeN v).length = 2 * kOf v + 1 := bitsOf_length _ _
theorem codeN_bin (v : Nat) : Bin (codeN v) := bitsOf_bin _ _
theorem kOf_spec (v : Nat) : 2 ^ kOf v ≤ v + 1 ∧ v + 1 < 2 ^ (kOf v + 1) := ⟨Nat.log2_self_le (by omega), Nat.lt_log2_self⟩
theorem kOf_of {v k : Nat} (h1 : 2 ^ k ≤ v + 1) (h2 : v + 1 < 2 ^ (k + 1)) : kOf v = k := by
  obtain ⟨h3, h4⟩ := kOf_spec v
  rcases Nat.lt_trichotomy (kOf v) k with h | h | h
  · have : 2 ^ (kOf v + 1) ≤ 2 ^ k := Nat.pow_le_pow_right (by decide) (by omega); omega
  · exact h
  · have : 2 ^ (k + 1) ≤ 2 ^ kOf v := Nat.pow_le_pow_right (by decide) (by omega); omega
theorem kOf_lt {v : Nat} (h : v ≤ 65534) : kOf v < 16 := by
  have := (kOf_spec v).1
  rcases Nat.lt_or_ge (kOf v) 16 with h1 | h1
  · exact h1
  · have : 2 ^ 16 ≤ 2 ^ kOf v := Nat.pow_le_pow_right (by decide) h1
    omega
theorem kOf_mono {a b : Nat} (h : a ≤ b) : kOf a ≤ kOf b := by
  have h1 := (kOf_spec a).1
  have h2 := (kOf_spec b).2
  rcases Nat.lt_or_ge (kOf b) (kOf a) with h3 | h3
  · have : 2 ^ (kOf b + 1) ≤ 2 ^ kOf a := Nat.pow_le_pow_right (by decide) (by omega)
    omega
  · exact h3
theorem bits_split (v m n : Nat) : bitsOf v (m + n) = bitsOf (v / 2 ^ n) m ++ bitsOf v n := by
  induction n generalizing v with
  | zero => simp [bitsOf]
  | succ n ih =>
    rw [← Nat.add_assoc, bitsOf_succ, ih, bitsOf_succ v n, Nat.div_div_eq_div_mul, Nat.mul_comm 2, ← Nat.pow_succ, List.append_assoc]
theorem bits_zero (n : Nat) : bitsOf 0 n = List.replicate n 0 := by
  refine List.eq_replicate_iff.2 ⟨bitsOf_length _ _, fun b hb => ?_⟩
  simp only [bitsOf, List.mem_map] at hb
  obtain ⟨i, _, rfl⟩ := hb
  simp
theorem codeN_eq (v : Nat) : codeN v = bitsOf 0 (kOf v) ++ bitsOf (v + 1) (kOf v + 1) := by
  unfold codeN
  rw [show 2 * kOf v + 1 = kOf v + (kOf v + 1) by omega, bits_split, Nat.div_eq_of_lt (kOf_spec v).2]
theorem bits_top {x k : Nat} (h1 : 2 ^ k ≤ x) (h2 : x < 2 ^ (k + 1)) : bitsOf x (k + 1) = 1 :: bitsOf x k := by
  have e : x / 2 ^ k = 1 := Nat.div_eq_of_lt_le (by omega) (by rw [Nat.pow_succ] at h2; omega)
  rw [Nat.add_comm, bits_split, e]
  rfl
theorem zeros0_code (v : Nat) (s : List Nat) : zeros0 (codeN v ++ s) = kOf v := by
  obtain ⟨h1, h2⟩ := kOf_spec v
  rw [codeN_eq, bits_zero, List.append_assoc, zeros0_rep, bits_top h1 h2, List.cons_append]
  have : zeros0 (1 :: (bitsOf (v + 1) (kOf v) ++ s)) = 0 := zeros0_n _ (by decide)
  rw [this]; rfl
theorem value_code (v : Nat) : valueOf (codeN v) = v + 1 := by
  unfold codeN
  rw [valueOf_bitsOf]
  apply Nat.mod_eq_of_lt
  have h1 := (kOf_spec v).2
  have h2 : 2 ^ (kOf v + 1) ≤ 2 ^ (2 * kOf v + 1) := Nat.pow_le_pow_right (by decide) (by omega)
  omega
theorem tk_code (v : Nat) (hv : v ≤ 65534) (s : List Nat) : tk (codeN v ++ s) = ((v : Int), 0, 2 * kOf v + 1) := by
  have hz := zeros0_code v s
  have hk := kOf_lt hv
  rw [tk_ok (by rw [hz]; exact hk) (by rw [hz, List.length_append, codeN_length]; omega), hz]
  have e : (codeN v ++ s).take (2 * kOf v + 1) = codeN v := by
    rw [← codeN_length v]; exact List.take_left ..
  rw [e, value_code]
  refine Prod.ext ?_ rfl
  show ((v + 1 : Nat) : Int) - 1 = v
  omega
theorem tk_unique {r : List Nat} (hb : Bin r) (h : (tk r).2.1 = 0) : ∃ v : Nat, v ≤ 65534 ∧ (tk r).1 = (v : Int) ∧ (tk r).2.2 = 2 * kOf v + 1 ∧ r.take (2 * kOf v + 1) = codeN v ∧ 2 * kOf v + 1 ≤ r.length := by
  rcases tk_cases r with e | e | ⟨h1, h2, e⟩
  · rw [e] at h; exact absurd h (by decide)
  · rw [e] at h; exact absurd h (by decide)
  · obtain ⟨h3, h4⟩ := val_code hb h2
    have h5 : 2 ^ zeros0 r ≤ 2 ^ 15 := Nat.pow_le_pow_right (by decide) (by omega)
    have h6 : 0 < 2 ^ zeros0 r := Nat.pow_pos (by decide)
    obtain ⟨v, hv⟩ : ∃ v, valueOf (r.take (2 * zeros0 r + 1)) = v + 1 := ⟨valueOf (r.take (2 * zeros0 r + 1)) - 1, by omega⟩
    have hk : kOf v = zeros0 r := kOf_of (by rw [← hv, h3]; omega) (by rw [← hv, h3, Nat.pow_succ]; omega)
    refine ⟨v, by omega, by rw [e, hv]; show ((v + 1 : Nat) : Int) - 1 = v; omega, by rw [e, hk], ?_, by rw [hk]; exact h2⟩
    have hl : (r.take (2 * zeros0 r + 1)).length = 2 * zeros0 r + 1 := by rw [List.length_take]; omega
    have := bitsOf_valueOf (l := r.take (2 * zeros0 r + 1)) (fun x hx => hb x (List.mem_of_mem_take hx))
    rw [hl, hv] at this
    rw [hk]
    unfold codeN
    rw [hk]
    exact this.symm

/-! with whole numbers -/
/-- may v be coded? -/
abbrev mayU (v : Int) : Prop := 0 ≤ v ∧ v ≤ 65534
abbrev mayS (v : Int) : Prop := -32767 ≤ v ∧ v ≤ 32767
def unsg (v : Int) : Int := if v > 0 then 2 * v - 1 else -2 * v
def sgn (u : Int) : Int := if u % 2 = 1 then (u + 1) / 2 else -(u / 2)
theorem sgn_unsg (v : Int) : sgn (unsg v) = v := by
  unfold sgn unsg
  split <;> split <;> omega
theorem unsg_may {v : Int} (h : mayS v) : mayU (unsg v) := by
  unfold unsg
  obtain ⟨h1, h2⟩ := h
  split <;> constructor <;> omega
theorem unsg_sgn {u : Int} (h : mayU u) : unsg (sgn u) = u ∧ mayS (sgn u) := by
  obtain ⟨h1, h2⟩ := h
  unfold sgn
  split
  · refine ⟨?_, by constructor <;> omega⟩
    unfold unsg; split <;> omega
  · refine ⟨?_, by constructor <;> omega⟩
    unfold unsg; split <;> omega
def codeU (v : Int) : List Nat := if mayU v then codeN v.toNat else []
def codeS (v : Int) : List Nat := if mayS v then codeN (unsg v).toNat else []
def bitsU (v : Int) : Int := if mayU v then 2 * (kOf v.toNat : Int) + 1 else 0
def bitsS (v : Int) : Int := if mayS v then 2 * (kOf (unsg v).toNat : Int) + 1 else 0
def errU (v : Int) : Int := if mayU v then 0 else 2
def errS (v : Int) : Int := if mayS v then 0 else 2
theorem codeU_bin (v : Int) : Bin (codeU v) := by unfold codeU; split; exact codeN_bin _; intro x hx; simp at hx
theorem codeS_bin (v : Int) : Bin (codeS v) := by unfold codeS; split; exact codeN_bin _; intro x hx; simp at hx
theorem codeU_len (v : Int) : ((codeU v).length : Int) = bitsU v := by unfold codeU bitsU; split; rw [codeN_length]; omega; rfl
theorem codeS_len (v : Int) : ((codeS v).length : Int) = bitsS v := by unfold codeS bitsS; split; rw [codeN_length]; omega; rfl
theorem codeU_le (v : Int) : (codeU v).length ≤ 31 := by
  unfold codeU; split
  · rename_i h; rw [codeN_length]; have := kOf_lt (v := v.toNat) (by have := h.2; omega); omega
  · exact Nat.zero_le _
theorem codeS_le (v : Int) : (codeS v).length ≤ 31 := by
  unfold codeS; split
  · rename_i h; rw [codeN_length]; have := kOf_lt (v := (unsg v).toNat) (by have := (unsg_may h).2; omega); omega
  · exact Nat.zero_le _
theorem codeS_unsg {v : Int} (h : mayS v) : codeS v = codeU (unsg v) := by unfold codeS codeU; rw [if_pos h, if_pos (unsg_may h)]
/-- what is read of the bits r as a signed number -/
def tks (r : List Nat) : Int := if (tk r).2.1 = 0 then sgn (tk r).1 else 0
theorem tks_eq (r : List Nat) : tks r = sgn (tk r).1 := by
  unfold tks; split
  · rfl
  · rename_i h; rw [(tk_bad h).1]; rfl
theorem tk_codeU {v : Int} (h : mayU v) (s : List Nat) : tk (codeU v ++ s) = (v, 0, (codeU v).length) := by
  obtain ⟨h1, h2⟩ := h
  unfold codeU
  rw [if_pos ⟨h1, h2⟩, tk_code v.toNat (by omega), codeN_length]
  refine Prod.ext ?_ rfl
  show (v.toNat : Int) = v
  omega
theorem tk_codeS {v : Int} (h : mayS v) (s : List Nat) : tks (codeS v ++ s) = v ∧ (tk (codeS v ++ s)).2 = (0, (codeS v).length) := by
  rw [codeS_unsg h]
  have := tk_codeU (unsg_may h) s
  refine ⟨?_, by rw [this]⟩
  rw [tks_eq, this]
  exact sgn_unsg v
end Go.Proofs.Ytmimljaniliecaa.Bt
