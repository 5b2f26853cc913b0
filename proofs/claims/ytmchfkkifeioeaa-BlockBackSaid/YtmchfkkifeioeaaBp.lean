/- Codes of blocks, plainly. -/
import Derived.Test.YtmchfkkifeioeaaVr
import Derived.Test.YtmchfkkifeioeaaArr
namespace Go.Proofs.Ytmchfkkifeioeaa
open Go.RowKit Bt

/-- a level in range -/
abbrev lev (v : Int) : Prop := -4095 ≤ v ∧ v ≤ 4095
theorem lev_mayS {v : Int} (h : lev v) : mayS v := by have := h.1; have := h.2; constructor <;> omega
/-- the code of the levels from p on (n of them), where the last one that was coded stands ahead of at -/
def bcode (x : List Int) : Nat → Nat → Nat → List Nat
  | 0, _, _ => codeN 0
  | n + 1, at_, p => if x.getD p 0 = 0 then bcode x n at_ (p + 1) else codeN (p - at_ + 1) ++ (codeS (x.getD p 0) ++ bcode x n (p + 1) (p + 1))
theorem bcode_zero {x : List Int} {n at_ p : Nat} (h : x.getD p 0 = 0) : bcode x (n + 1) at_ p = bcode x n at_ (p + 1) := if_pos h
theorem bcode_level {x : List Int} {n at_ p : Nat} (h : ¬ x.getD p 0 = 0) : bcode x (n + 1) at_ p = codeN (p - at_ + 1) ++ (codeS (x.getD p 0) ++ bcode x n (p + 1) (p + 1)) := if_neg h
theorem bcode_bin (x : List Int) : ∀ n at_ p, Bin (bcode x n at_ p) := by
  intro n
  induction n with
  | zero => intro _ _; exact codeN_bin 0
  | succ n ih =>
    intro at_ p
    by_cases h : x.getD p 0 = 0
    · rw [bcode_zero h]; exact ih _ _
    · rw [bcode_level h]; exact bin_append (codeN_bin _) (bin_append (codeS_bin _) (ih _ _))
theorem codeN_le {v : Nat} (h : v ≤ 65534) : (codeN v).length ≤ 31 := by rw [codeN_length]; have := kOf_lt h; omega
theorem bcode_le (x : List Int) : ∀ n at_ p, p + n ≤ 64 → (bcode x n at_ p).length ≤ 31 + 62 * n := by
  intro n
  induction n with
  | zero => intro _ _ _; exact codeN_le (by omega)
  | succ n ih =>
    intro at_ p hp
    by_cases h : x.getD p 0 = 0
    · rw [bcode_zero h]; have := ih at_ (p + 1) (by omega); omega
    · rw [bcode_level h, List.length_append, List.length_append]
      have h1 := codeN_le (v := p - at_ + 1) (by omega)
      have h2 := codeS_le (x.getD p 0)
      have := ih (p + 1) (p + 1) (by omega)
      omega
/-- are all levels from f on in range? -/
noncomputable def okB (x : List Int) (f : Nat) : Bool := @decide (∀ i, i < 64 → f ≤ i → lev (x.getD i 0)) (Classical.propDecidable _)
theorem okB_t {x : List Int} {f : Nat} (h : ∀ i, i < 64 → f ≤ i → lev (x.getD i 0)) : okB x f = true := @decide_eq_true _ (Classical.propDecidable _) h
theorem okB_f {x : List Int} {f i : Nat} (hi : i < 64) (hf : f ≤ i) (h : ¬ lev (x.getD i 0)) : okB x f = false := @decide_eq_false _ (Classical.propDecidable _) (fun c => h (c i hi hf))
theorem okB_of {x : List Int} {f : Nat} (h : okB x f = true) : ∀ i, i < 64 → f ≤ i → lev (x.getD i 0) := @of_decide_eq_true _ (Classical.propDecidable _) h
/-- the code and the error of a block -/
noncomputable def bE (x : List Int) (fr : Int) : Int := if fr = 0 ∨ fr = 1 then (if okB x fr.toNat = true then 0 else 2) else 1
noncomputable def bC (x : List Int) (fr : Int) : List Nat := if fr = 0 ∨ fr = 1 then (if okB x fr.toNat = true then bcode x (64 - fr.toNat) fr.toNat fr.toNat else []) else []
section
variable {x : List Int} {fr : Int}
theorem bE_arg (h : ¬ (fr = 0 ∨ fr = 1)) : bE x fr = 1 ∧ bC x fr = [] := by unfold bE bC; rw [if_neg h, if_neg h]; exact ⟨rfl, rfl⟩
theorem bE_rng {f : Nat} (hf : f ≤ 1) (h : okB x f = false) : bE x f = 2 ∧ bC x f = [] := by
  have h1 : (f : Int) = 0 ∨ (f : Int) = 1 := by omega
  unfold bE bC; rw [if_pos h1, if_pos h1, Int.toNat_natCast, h]; exact ⟨rfl, rfl⟩
theorem bE_ok {f : Nat} (hf : f ≤ 1) (h : okB x f = true) : bE x f = 0 ∧ bC x f = bcode x (64 - f) f f := by
  have h1 : (f : Int) = 0 ∨ (f : Int) = 1 := by omega
  unfold bE bC; rw [if_pos h1, if_pos h1, Int.toNat_natCast, h]; exact ⟨rfl, rfl⟩
end
theorem bE_cases (x : List Int) (fr : Int) : (¬ (fr = 0 ∨ fr = 1) ∧ bE x fr = 1 ∧ bC x fr = []) ∨ ∃ f : Nat, fr = f ∧ f ≤ 1 ∧ ((okB x f = false ∧ bE x fr = 2 ∧ bC x fr = []) ∨ (okB x f = true ∧ bE x fr = 0 ∧ bC x fr = bcode x (64 - f) f f)) := by
  by_cases h : fr = 0 ∨ fr = 1
  · right
    obtain ⟨f, rfl⟩ := Int.eq_ofNat_of_zero_le (show 0 ≤ fr by omega)
    refine ⟨f, rfl, by omega, ?_⟩
    cases e : okB x f with
    | false => exact .inl ⟨rfl, bE_rng (by omega) e⟩
    | true => exact .inr ⟨rfl, bE_ok (by omega) e⟩
  · exact .inl ⟨h, bE_arg h⟩
theorem bC_bin (x : List Int) (fr : Int) : Bin (bC x fr) := by
  rcases bE_cases x fr with ⟨_, _, h⟩ | ⟨f, _, _, ⟨_, _, h⟩ | ⟨_, _, h⟩⟩
  · rw [h]; intro y hy; simp at hy
  · rw [h]; intro y hy; simp at hy
  · rw [h]; exact bcode_bin _ _ _ _
theorem bC_le (x : List Int) (fr : Int) : (bC x fr).length ≤ 4000 := by
  rcases bE_cases x fr with ⟨_, _, h⟩ | ⟨f, _, hf, ⟨_, _, h⟩ | ⟨_, _, h⟩⟩
  · rw [h]; exact Nat.zero_le _
  · rw [h]; exact Nat.zero_le _
  · rw [h]; have := bcode_le x (64 - f) f f (by omega); omega

/-- what is read of the bits L from bit pos on, with room for n levels: the levels, the error, the bit behind -/
def btk (L : List Nat) : Nat → Nat → Nat → List Int → List Int × Int × Nat
  | 0, pos, _, x => (x, 0, pos)
  | n + 1, pos, at_, x =>
    if ¬ (tk (L.drop pos)).2.1 = 0 then (zeros, (tk (L.drop pos)).2.1, pos + (tk (L.drop pos)).2.2)
    else if (tk (L.drop pos)).1 = 0 then (x, 0, pos + (tk (L.drop pos)).2.2)
    else if 64 ≤ at_ + (tk (L.drop pos)).1.toNat - 1 then (zeros, 3, pos + (tk (L.drop pos)).2.2)
    else if ¬ (tk (L.drop (pos + (tk (L.drop pos)).2.2))).2.1 = 0 then (zeros, (tk (L.drop (pos + (tk (L.drop pos)).2.2))).2.1, pos + (tk (L.drop pos)).2.2 + (tk (L.drop (pos + (tk (L.drop pos)).2.2))).2.2)
    else if tks (L.drop (pos + (tk (L.drop pos)).2.2)) = 0 ∨ ¬ lev (tks (L.drop (pos + (tk (L.drop pos)).2.2))) then (zeros, 3, pos + (tk (L.drop pos)).2.2 + (tk (L.drop (pos + (tk (L.drop pos)).2.2))).2.2)
    else btk L n (pos + (tk (L.drop pos)).2.2 + (tk (L.drop (pos + (tk (L.drop pos)).2.2))).2.2) (at_ + (tk (L.drop pos)).1.toNat) (x.set (at_ + (tk (L.drop pos)).1.toNat - 1) (tks (L.drop (pos + (tk (L.drop pos)).2.2))))
section
variable {L : List Nat} {n pos at_ : Nat} {x : List Int}
theorem btk_err (h1 : ¬ (tk (L.drop pos)).2.1 = 0) : btk L (n + 1) pos at_ x = (zeros, (tk (L.drop pos)).2.1, pos + (tk (L.drop pos)).2.2) := by rw [btk]; rw [if_pos h1]
theorem btk_end (h1 : (tk (L.drop pos)).2.1 = 0) (h2 : (tk (L.drop pos)).1 = 0) : btk L (n + 1) pos at_ x = (x, 0, pos + (tk (L.drop pos)).2.2) := by rw [btk]; rw [if_neg (fun c => c h1), if_pos h2]
theorem btk_far (h1 : (tk (L.drop pos)).2.1 = 0) (h2 : ¬ (tk (L.drop pos)).1 = 0) (h3 : 64 ≤ at_ + (tk (L.drop pos)).1.toNat - 1) : btk L (n + 1) pos at_ x = (zeros, 3, pos + (tk (L.drop pos)).2.2) := by rw [btk]; rw [if_neg (fun c => c h1), if_neg h2, if_pos h3]
theorem btk_err2 (h1 : (tk (L.drop pos)).2.1 = 0) (h2 : ¬ (tk (L.drop pos)).1 = 0) (h3 : ¬ 64 ≤ at_ + (tk (L.drop pos)).1.toNat - 1) (h4 : ¬ (tk (L.drop (pos + (tk (L.drop pos)).2.2))).2.1 = 0) :
    btk L (n + 1) pos at_ x = (zeros, (tk (L.drop (pos + (tk (L.drop pos)).2.2))).2.1, pos + (tk (L.drop pos)).2.2 + (tk (L.drop (pos + (tk (L.drop pos)).2.2))).2.2) := by rw [btk]; rw [if_neg (fun c => c h1), if_neg h2, if_neg h3, if_pos h4]
theorem btk_bad (h1 : (tk (L.drop pos)).2.1 = 0) (h2 : ¬ (tk (L.drop pos)).1 = 0) (h3 : ¬ 64 ≤ at_ + (tk (L.drop pos)).1.toNat - 1) (h4 : (tk (L.drop (pos + (tk (L.drop pos)).2.2))).2.1 = 0) (h5 : tks (L.drop (pos + (tk (L.drop pos)).2.2)) = 0 ∨ ¬ lev (tks (L.drop (pos + (tk (L.drop pos)).2.2)))) :
    btk L (n + 1) pos at_ x = (zeros, 3, pos + (tk (L.drop pos)).2.2 + (tk (L.drop (pos + (tk (L.drop pos)).2.2))).2.2) := by rw [btk]; rw [if_neg (fun c => c h1), if_neg h2, if_neg h3, if_neg (fun c => c h4), if_pos h5]
theorem btk_next (h1 : (tk (L.drop pos)).2.1 = 0) (h2 : ¬ (tk (L.drop pos)).1 = 0) (h3 : ¬ 64 ≤ at_ + (tk (L.drop pos)).1.toNat - 1) (h4 : (tk (L.drop (pos + (tk (L.drop pos)).2.2))).2.1 = 0) (h5 : ¬ (tks (L.drop (pos + (tk (L.drop pos)).2.2)) = 0 ∨ ¬ lev (tks (L.drop (pos + (tk (L.drop pos)).2.2))))) :
    btk L (n + 1) pos at_ x = btk L n (pos + (tk (L.drop pos)).2.2 + (tk (L.drop (pos + (tk (L.drop pos)).2.2))).2.2) (at_ + (tk (L.drop pos)).1.toNat) (x.set (at_ + (tk (L.drop pos)).1.toNat - 1) (tks (L.drop (pos + (tk (L.drop pos)).2.2)))) := by rw [btk]; rw [if_neg (fun c => c h1), if_neg h2, if_neg h3, if_neg (fun c => c h4), if_neg h5]
end
theorem tk_zero_bits {r : List Nat} (h : (tk r).2.1 = 0) (h2 : (tk r).1 = 0) (hb : Bin r) : r.take (tk r).2.2 = codeN 0 ∧ (tk r).2.2 ≤ r.length := by
  obtain ⟨v, _, h3, h4, h5, h6⟩ := tk_unique hb h
  have : v = 0 := by omega
  subst this
  rw [h4]; exact ⟨h5, h6⟩
theorem tk_nat {r : List Nat} (hb : Bin r) : (tk r).1 = ((tk r).1.toNat : Nat) := by have := tk_val_lt hb; omega
theorem take3 (a b c : Nat) (M : List Nat) (k : Nat) : (M.drop k).take (a + (b + c)) = (M.drop k).take a ++ ((M.drop (k + a)).take b ++ (M.drop (k + a + b)).take c) := by
  rw [List.take_add, List.drop_drop, List.take_add, List.drop_drop]
/-- what is read is in range, and its code are the bits that were read -/
theorem btk_unique (L : List Nat) (hb : Bin L) : ∀ (n pos at_ : Nat) (x : List Int), x.length = 64 → at_ ≤ 64 → 64 ≤ at_ + n → pos ≤ L.length → (∀ i, at_ ≤ i → i < 64 → x.getD i 0 = 0) →
    (btk L (n + 1) pos at_ x).2.1 = 0 → (btk L (n + 1) pos at_ x).1.length = 64 ∧ pos ≤ (btk L (n + 1) pos at_ x).2.2 ∧ (btk L (n + 1) pos at_ x).2.2 ≤ L.length ∧ (∀ i, i < at_ → (btk L (n + 1) pos at_ x).1.getD i 0 = x.getD i 0) ∧ (∀ i, at_ ≤ i → i < 64 → lev ((btk L (n + 1) pos at_ x).1.getD i 0)) ∧
      (∀ p, at_ ≤ p → p ≤ 64 → (∀ i, at_ ≤ i → i < p → (btk L (n + 1) pos at_ x).1.getD i 0 = 0) → (L.drop pos).take ((btk L (n + 1) pos at_ x).2.2 - pos) = bcode (btk L (n + 1) pos at_ x).1 (64 - p) at_ p) := by
  intro n
  induction n with
  | zero =>
    intro pos at_ x hx ha hf hp hz h
    have ha : at_ = 64 := by omega
    subst ha
    by_cases h1 : (tk (L.drop pos)).2.1 = 0
    · by_cases h2 : (tk (L.drop pos)).1 = 0
      · rw [btk_end h1 h2] at h ⊢
        obtain ⟨q1, q2⟩ := tk_zero_bits h1 h2 (fun y hy => hb y (List.mem_of_mem_drop hy))
        rw [List.length_drop] at q2
        refine ⟨hx, Nat.le_add_right _ _, by show pos + _ ≤ _; omega, fun i _ => rfl, fun i h1 h2 => by omega, fun p hp1 hp2 _ => ?_⟩
        have : p = 64 := by omega
        subst this
        show (L.drop pos).take (pos + _ - pos) = _
        rw [Nat.add_sub_cancel_left, q1]; rfl
      · have := tk_val_lt (r := L.drop pos) (fun y hy => hb y (List.mem_of_mem_drop hy))
        rw [btk_far h1 h2 (by omega)] at h
        exact absurd (show (3 : Int) = 0 from h) (by decide)
    · rw [btk_err h1] at h
      exact absurd h h1
  | succ n ih =>
    intro pos at_ x hx ha hf hp hz h
    have hbd : ∀ k, Bin (L.drop k) := fun k y hy => hb y (List.mem_of_mem_drop hy)
    by_cases h1 : (tk (L.drop pos)).2.1 = 0
    case neg => rw [btk_err h1] at h; exact absurd h h1
    by_cases h2 : (tk (L.drop pos)).1 = 0
    · rw [btk_end h1 h2] at h ⊢
      obtain ⟨q1, q2⟩ := tk_zero_bits h1 h2 (hbd _)
      rw [List.length_drop] at q2
      have hall : ∀ k p, p + k = 64 → at_ ≤ p → bcode x k at_ p = codeN 0 := by
        intro k
        induction k with
        | zero => intro p _ _; rfl
        | succ k ih2 => intro p h3 h4; rw [bcode_zero (hz p h4 (by omega))]; exact ih2 (p + 1) (by omega) (by omega)
      refine ⟨hx, Nat.le_add_right _ _, by show pos + _ ≤ _; omega, fun i _ => rfl, fun i h3 h4 => by show lev (x.getD i 0); rw [hz i h3 h4]; decide, fun p hp1 hp2 _ => ?_⟩
      show (L.drop pos).take (pos + _ - pos) = _
      rw [Nat.add_sub_cancel_left, q1]
      exact (hall _ p (by omega) hp1).symm
    by_cases h3 : 64 ≤ at_ + (tk (L.drop pos)).1.toNat - 1
    case pos => rw [btk_far h1 h2 h3] at h; exact absurd (show (3 : Int) = 0 from h) (by decide)
    by_cases h4 : (tk (L.drop (pos + (tk (L.drop pos)).2.2))).2.1 = 0
    case neg => rw [btk_err2 h1 h2 h3 h4] at h; exact absurd h h4
    by_cases h5 : tks (L.drop (pos + (tk (L.drop pos)).2.2)) = 0 ∨ ¬ lev (tks (L.drop (pos + (tk (L.drop pos)).2.2)))
    case pos => rw [btk_bad h1 h2 h3 h4 h5] at h; exact absurd (show (3 : Int) = 0 from h) (by decide)
    rw [btk_next h1 h2 h3 h4 h5] at h ⊢
    obtain ⟨v, hv, e1, e2, e3, e4⟩ := tk_unique (hbd pos) h1
    rw [List.length_drop] at e4
    obtain ⟨u, hu, f1, f2, f3, f4⟩ := tk_unique (hbd _) h4
    rw [List.length_drop] at f4
    have hV : (tk (L.drop pos)).1.toNat = v := by omega
    rw [hV] at h h3 ⊢
    rw [e2] at h h5 f1 f2 f3 f4 ⊢
    rw [f2] at h ⊢
    have hs : tks (L.drop (pos + (2 * kOf v + 1))) = sgn u := by rw [tks_eq, f1]
    rw [hs] at h h5 ⊢
    have hv0 : v ≠ 0 := by intro c; subst c; exact h2 e1
    have hq : at_ + v - 1 < 64 := by omega
    have hnz : ¬ sgn u = 0 := fun c => h5 (.inl c)
    have hlev : lev (sgn u) := Classical.byContradiction fun c => h5 (.inr c)
    have hcs : codeS (sgn u) = codeN u := by
      obtain ⟨g1, g2⟩ := unsg_sgn (u := (u : Int)) ⟨by omega, by omega⟩
      unfold codeS
      rw [if_pos g2, g1, Int.toNat_natCast]
    have hset : ∀ i, i ≠ at_ + v - 1 → (x.set (at_ + v - 1) (sgn u)).getD i 0 = x.getD i 0 := fun i hi => by
      rw [List.getD_eq_getElem?_getD, List.getElem?_set_ne (Ne.symm hi), ← List.getD_eq_getElem?_getD]
    have hself : (x.set (at_ + v - 1) (sgn u)).getD (at_ + v - 1) 0 = sgn u := by
      rw [List.getD_eq_getElem?_getD, List.getElem?_set_self (by omega)]; rfl
    obtain ⟨r1, r2, r3, r4, r5, r6⟩ := ih (pos + (2 * kOf v + 1) + (2 * kOf u + 1)) (at_ + v) (x.set (at_ + v - 1) (sgn u)) (by rw [List.length_set]; exact hx) (by omega) (by omega) (by omega)
      (fun i h6 h7 => by rw [hset i (by omega)]; exact hz i (by omega) h7) h
    generalize hy : btk L (n + 1) (pos + (2 * kOf v + 1) + (2 * kOf u + 1)) (at_ + v) (x.set (at_ + v - 1) (sgn u)) = y at *
    have hmid : ∀ i, at_ ≤ i → i < at_ + v - 1 → y.1.getD i 0 = 0 := fun i h6 h7 => by rw [r4 i (by omega), hset i (by omega)]; exact hz i h6 (by omega)
    have hlast : y.1.getD (at_ + v - 1) 0 = sgn u := by rw [r4 _ (by omega), hself]
    refine ⟨r1, by omega, r3, fun i hi => by rw [r4 i (by omega), hset i (by omega)], fun i h6 h7 => ?_, fun p hp1 hp2 hzp => ?_⟩
    · rcases Nat.lt_trichotomy i (at_ + v - 1) with h8 | h8 | h8
      · rw [hmid i h6 h8]; decide
      · subst h8; rw [hlast]; exact hlev
      · exact r5 i (by omega) h7
    · have hpq : p ≤ at_ + v - 1 := by
        rcases Nat.lt_or_ge (at_ + v - 1) p with h8 | h8
        · have := hzp (at_ + v - 1) (by omega) h8
          rw [hlast] at this; exact absurd this hnz
        · exact h8
      have hskip : ∀ k p, p + k = at_ + v - 1 → at_ ≤ p → bcode y.1 (64 - p) at_ p = bcode y.1 (64 - (at_ + v - 1)) at_ (at_ + v - 1) := by
        intro k
        induction k with
        | zero => intro p h8 _; have : p = at_ + v - 1 := (by omega); subst this; rfl
        | succ k ih2 =>
          intro p h8 h9
          rw [← ih2 (p + 1) (by omega) (by omega), show 64 - p = (64 - (p + 1)) + 1 by omega, bcode_zero (hmid p h9 (by omega))]
      rw [hskip (at_ + v - 1 - p) p (by omega) hp1, show 64 - (at_ + v - 1) = (64 - (at_ + v)) + 1 by omega, bcode_level (by rw [hlast]; exact hnz), hlast, hcs, show at_ + v - 1 - at_ + 1 = v by omega, show at_ + v - 1 + 1 = at_ + v by omega]
      have r7 := r6 (at_ + v) (Nat.le_refl _) (by omega) (fun i h8 h9 => by omega)
      rw [← r7, ← e3, ← f3, show y.2.2 - pos = (2 * kOf v + 1) + ((2 * kOf u + 1) + (y.2.2 - (pos + (2 * kOf v + 1) + (2 * kOf u + 1)))) by omega, take3]
/-- a block's code is read back -/
theorem btk_back (x : List Int) (hx : x.length = 64) (L : List Nat) : ∀ (m n pos at_ p : Nat) (y : List Int) (s : List Nat), p + m = 64 → at_ ≤ p → 64 ≤ at_ + n → (∀ i, p ≤ i → i < 64 → lev (x.getD i 0)) → L.drop pos = bcode x m at_ p ++ s → y.length = 64 → (∀ i, i < p → y.getD i 0 = x.getD i 0) → (∀ i, p ≤ i → i < 64 → y.getD i 0 = 0) →
    btk L (n + 1) pos at_ y = (x, 0, pos + (bcode x m at_ p).length) := by
  intro m
  induction m with
  | zero =>
    intro n pos at_ p y s hp ha hn hl hL hy h1 h2
    have ht : tk (L.drop pos) = (0, 0, (codeN 0).length) := by rw [hL]; show tk (codeN 0 ++ s) = _; rw [tk_code 0 (by omega), codeN_length]; rfl
    rw [btk_end (by rw [ht]) (by rw [ht]), ht]
    have : y = x := by
      apply List.ext_getElem (by omega)
      intro i h3 h4
      have := h1 i (by omega)
      rw [List.getD_eq_getElem?_getD, List.getD_eq_getElem?_getD, List.getElem?_eq_getElem h3, List.getElem?_eq_getElem h4] at this
      exact this
    rw [this]; rfl
  | succ m ih =>
    intro n pos at_ p y s hp ha hn hl hL hy h1 h2
    by_cases hz : x.getD p 0 = 0
    · rw [bcode_zero hz] at hL ⊢
      refine ih n pos at_ (p + 1) y s (by omega) (by omega) hn (fun i h3 h4 => hl i (by omega) h4) hL hy (fun i hi => ?_) (fun i h3 h4 => h2 i (by omega) h4)
      by_cases e : i = p
      · subst e; rw [hz]; exact h2 _ (Nat.le_refl _) (by omega)
      · exact h1 i (by omega)
    · rw [bcode_level hz] at hL ⊢
      have hlv := hl p (Nat.le_refl _) (by omega)
      have hms := lev_mayS hlv
      have ht : tk (L.drop pos) = (((p - at_ + 1 : Nat) : Int), 0, (codeN (p - at_ + 1)).length) := by
        rw [hL, List.append_assoc, tk_code _ (by omega), codeN_length]
      have hL2 : L.drop (pos + (codeN (p - at_ + 1)).length) = codeS (x.getD p 0) ++ (bcode x m (p + 1) (p + 1) ++ s) := by
        rw [← List.drop_drop, hL, List.append_assoc, List.drop_left, List.append_assoc]
      obtain ⟨t1, t2⟩ := tk_codeS hms (bcode x m (p + 1) (p + 1) ++ s)
      rw [← hL2] at t1 t2
      obtain ⟨n, rfl⟩ : ∃ k, n = k + 1 := ⟨n - 1, by omega⟩
      have e1 : (tk (L.drop pos)).2.1 = 0 := by rw [ht]
      have e0 : (tk (L.drop pos)).2.2 = (codeN (p - at_ + 1)).length := by rw [ht]
      have eV : (tk (L.drop pos)).1.toNat = p - at_ + 1 := by rw [ht]; simp
      rw [btk_next e1 (by rw [ht]; show ¬ ((p - at_ + 1 : Nat) : Int) = 0; omega) (by rw [eV]; omega) (by rw [e0, t2]) (by rw [e0, t1]; exact fun c => c.elim hz (fun c => c hlv)), e0, t1, eV, t2]
      rw [show at_ + (p - at_ + 1) - 1 = p by omega, show at_ + (p - at_ + 1) = p + 1 by omega]
      have hL3 : L.drop (pos + (codeN (p - at_ + 1)).length + (codeS (x.getD p 0)).length) = bcode x m (p + 1) (p + 1) ++ s := by
        rw [← List.drop_drop, hL2, List.drop_left]
      show btk L (n + 1) (pos + (codeN (p - at_ + 1)).length + (codeS (x.getD p 0)).length) (p + 1) _ = _
      rw [ih n _ (p + 1) (p + 1) _ s (by omega) (Nat.le_refl _) (by omega) (fun i h3 h4 => hl i (by omega) h4) hL3 (by rw [List.length_set]; exact hy) (fun i hi => ?_) (fun i h3 h4 => ?_)]
      · rw [List.length_append, List.length_append]
        refine Prod.ext rfl (Prod.ext rfl ?_)
        show pos + _ + _ + _ = pos + (_ + (_ + _)); omega
      · by_cases e : i = p
        · subst e; rw [List.getD_eq_getElem?_getD, List.getElem?_set_self (by omega)]; rfl
        · rw [List.getD_eq_getElem?_getD, List.getElem?_set_ne (Ne.symm e), ← List.getD_eq_getElem?_getD]; exact h1 i (by omega)
      · rw [List.getD_eq_getElem?_getD, List.getElem?_set_ne (by omega), ← List.getD_eq_getElem?_getD]; exact h2 i (by omega) h4
end Go.Proofs.Ytmchfkkifeioeaa
