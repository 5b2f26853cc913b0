/- Sound that is coded and decoded, plainly: exponents, samples, channels. -/
import Derived.Test.YtmimljaniliecaaDe
import Derived.Test.YtmimljaniliecaaBa
namespace Go.Proofs.Ytmimljaniliecaa
open Go.RowKit Bt

/-- a sample coded and decoded -/
def rnd1 (e : Nat) (x : Int) : Int := dcS e (mOf e x)
def rndC (l : List Int) : List Int := l.map (rnd1 (expo l))
def rndP (ls : List (List Int)) : List (List Int) := ls.map rndC
theorem rndC_length (l : List Int) : (rndC l).length = l.length := by simp [rndC]
theorem rndP_length (ls : List (List Int)) : (rndP ls).length = ls.length := by simp [rndP]
theorem rndP_get (ls : List (List Int)) (j : Nat) : (rndP ls).getD j [] = rndC (ls.getD j []) := by
  unfold rndP
  rw [List.getD_eq_getElem?_getD, List.getD_eq_getElem?_getD, List.getElem?_map]
  cases ls[j]? <;> rfl
theorem rndC_get (l : List Int) (i : Nat) (h : i < l.length) : (rndC l).getD i 0 = rnd1 (expo l) (l.getD i 0) := by
  unfold rndC
  rw [List.getD_eq_getElem?_getD, List.getD_eq_getElem?_getD, List.getElem?_map, List.getElem?_eq_getElem h]
  rfl
theorem pow_pos_int (e : Nat) : (0 : Int) < 2 ^ e := Int.pow_pos (by decide)
theorem pow_nat (e : Nat) : ((2 ^ e : Nat) : Int) = 2 ^ e := by rw [Int.natCast_pow]; rfl
theorem quo_rng {e : Nat} {x : Int} (h : fitsE e x) : -256 ≤ x / 2 ^ e ∧ x / 2 ^ e ≤ 255 := by
  obtain ⟨h1, h2⟩ := h
  rw [pow_nat] at h1 h2
  have hp := pow_pos_int e
  constructor
  · apply Int.le_ediv_of_mul_le hp
    omega
  · have := Int.ediv_lt_of_lt_mul hp (a := x) (b := 256) (by omega)
    omega
theorem sx_mOf {e : Nat} {x : Int} (h : fitsE e x) : sx (mOf e x) = x / 2 ^ e := by
  have h1 := quo_rng h
  have h2 := mOf_eq e x
  unfold sx
  split <;> omega
theorem rnd1_eq {e : Nat} {x : Int} (h : fitsE e x) : rnd1 e x = x / 2 ^ e * 2 ^ e + (half e : Nat) := by
  unfold rnd1 dcS
  rw [sx_mOf h, pow_nat]
theorem half_dbl {e : Nat} : (e = 0 ∧ half e = 0) ∨ ((2 : Int) ^ e = 2 * (half e : Nat) ∧ 0 < half e) := by
  unfold half
  cases e with
  | zero => exact .inl ⟨rfl, rfl⟩
  | succ n =>
    refine .inr ?_
    rw [if_neg (by omega), Nat.add_sub_cancel]
    have := pow_nat n
    refine ⟨by rw [Int.pow_succ]; omega, Nat.pow_pos (by decide)⟩
theorem rnd1_near {e : Nat} {x : Int} (h : fitsE e x) : rnd1 e x - x ≤ (half e : Nat) ∧ -(rnd1 e x - x) ≤ (half e : Nat) := by
  rw [rnd1_eq h]
  have h1 := Int.mul_ediv_add_emod x (2 ^ e)
  have h2 := Int.emod_nonneg x (Int.ne_of_gt (pow_pos_int e))
  have h3 := Int.emod_lt_of_pos x (pow_pos_int e)
  rw [Int.mul_comm] at h1
  generalize x / 2 ^ e * 2 ^ e = q at *
  generalize x % 2 ^ e = r at *
  rcases half_dbl (e := e) with ⟨h4, h5⟩ | ⟨h4, h5⟩
  · subst h4
    rw [Int.pow_zero] at h3
    omega
  · omega
theorem half_lt_int {e : Nat} (he : e ≤ 7) : ((half e : Nat) : Int) < 2 ^ e := by
  have := half_lt he
  rw [← pow_nat]; omega
theorem rnd1_quo {e : Nat} {x : Int} (he : e ≤ 7) (h : fitsE e x) : rnd1 e x / 2 ^ e = x / 2 ^ e := by
  rw [rnd1_eq h, Int.add_comm, Int.add_mul_ediv_right _ _ (Int.ne_of_gt (pow_pos_int e)), Int.ediv_eq_zero_of_lt (by omega) (half_lt_int he), Int.zero_add]
theorem mOf_rnd1 {e : Nat} {x : Int} (he : e ≤ 7) (h : fitsE e x) : mOf e (rnd1 e x) = mOf e x := by
  unfold mOf
  rw [rnd1_quo he h]
theorem fits_quo {e f : Nat} (hf : f ≤ e) (he : e ≤ 7) {x y : Int} (h : y / 2 ^ e = x / 2 ^ e) (hx : fitsE f x) : fitsE f y := by
  obtain ⟨h1, h2⟩ := hx
  have hB : (256 : Int) * 2 ^ f = 2 ^ (8 - (e - f)) * 2 ^ e := by
    rw [← Int.pow_add, show 8 - (e - f) + e = 8 + f by omega, Int.pow_add]
    rfl
  rw [pow_nat] at h1 h2
  rw [hB] at h1 h2
  have hp := pow_pos_int e
  have h3 : -(2 ^ (8 - (e - f))) ≤ x / 2 ^ e := Int.le_ediv_of_mul_le hp (by rw [Int.neg_mul]; exact h1)
  have h4 : x / 2 ^ e < 2 ^ (8 - (e - f)) := Int.ediv_lt_of_lt_mul hp h2
  rw [← h] at h3 h4
  have h5 := Int.mul_le_of_le_ediv hp h3
  have h6 := Int.lt_mul_of_ediv_lt hp h4
  constructor
  · rw [pow_nat, hB]; rw [Int.neg_mul] at h5; exact h5
  · rw [pow_nat, hB]; exact h6
theorem bumpN_bound {f : Nat} {x : Int} (hx : fitsE f x) : ∀ n ex, ex ≤ f → bumpN n ex x ≤ f := by
  intro n
  induction n with
  | zero => intro ex h; exact h
  | succ n ih =>
    intro ex h
    unfold bumpN
    split
    · exact h
    · rename_i h1
      rcases Nat.lt_or_ge ex f with h2 | h2
      · exact ih (ex + 1) h2
      · obtain rfl : ex = f := by omega
        exact absurd hx h1
theorem foldl_bound {f : Nat} (l : List Int) (hl : ∀ x ∈ l, fitsE f x) : ∀ ex, ex ≤ f → l.foldl bump ex ≤ f := by
  induction l with
  | nil => intro ex h; exact h
  | cons x l ih => intro ex h; rw [List.foldl_cons]; exact ih (fun y hy => hl y (List.mem_cons_of_mem _ hy)) _ (bumpN_bound (hl x (List.mem_cons_self ..)) _ _ h)
theorem expo_bound {l : List Int} {f : Nat} (h : ∀ x ∈ l, fitsE f x) : expo l ≤ f := foldl_bound l h 0 (Nat.zero_le _)
theorem rndC_S16 {l : List Int} : S16 (rndC l) := by
  intro x hx
  obtain ⟨y, _, rfl⟩ := List.mem_map.1 hx
  exact dcS_rng (expo_le l) (mOf_lt _ _)
theorem expo_rndC {l : List Int} (hl : S16 l) : expo (rndC l) = expo l := by
  have he := expo_le l
  apply Nat.le_antisymm
  · apply expo_bound
    intro x hx
    obtain ⟨y, hy, rfl⟩ := List.mem_map.1 hx
    exact fits_quo (Nat.le_refl _) he (rnd1_quo he (expo_fits hl y hy)) (expo_fits hl y hy)
  · rcases Nat.lt_or_ge (expo (rndC l)) (expo l) with h | h
    · apply expo_bound
      intro y hy
      have h1 := expo_fits (l := rndC l) rndC_S16 (rnd1 (expo l) y) (List.mem_map.2 ⟨y, hy, rfl⟩)
      exact fits_quo (by omega) he (rnd1_quo he (expo_fits hl y hy)).symm h1
    · exact h
theorem getD_mem {l : List Int} {k : Nat} (h : k < l.length) : l.getD k 0 ∈ l := by
  rw [List.getD_eq_getElem?_getD, List.getElem?_eq_getElem h]; exact List.getElem_mem h
theorem chB_rndC {l : List Int} (hl : S16 l) (k : Nat) : Go.Proofs.Ytmimljaniliecaa.chB (expo l) (rndC l) k = Go.Proofs.Ytmimljaniliecaa.chB (expo l) l k := by
  induction k with
  | zero => rfl
  | succ k ih =>
    show Go.Proofs.Ytmimljaniliecaa.chB _ _ k ++ bitsOf (mOf _ ((rndC l).getD k 0)) 9 = Go.Proofs.Ytmimljaniliecaa.chB _ _ k ++ bitsOf (mOf _ (l.getD k 0)) 9
    rw [ih]
    congr 2
    rcases Nat.lt_or_ge k l.length with h | h
    · rw [rndC_get l k h, mOf_rnd1 (expo_le l) (expo_fits hl _ (getD_mem h))]
    · rw [List.getD_eq_getElem?_getD, List.getD_eq_getElem?_getD, List.getElem?_eq_none h, List.getElem?_eq_none (by rw [rndC_length]; exact h)]
theorem blB_rndP {ls : List (List Int)} (hl : SP ls) : ∀ n, n ≤ ls.length → blB (rndP ls) n = blB ls n := by
  intro n
  induction n with
  | zero => intro _; rfl
  | succ n ih =>
    intro h
    show blB (rndP ls) n ++ (bitsOf (expo ((rndP ls).getD n [])) 4 ++ Go.Proofs.Ytmimljaniliecaa.chB (expo ((rndP ls).getD n [])) ((rndP ls).getD n []) 32) = blB ls n ++ (bitsOf (expo (ls.getD n [])) 4 ++ Go.Proofs.Ytmimljaniliecaa.chB (expo (ls.getD n [])) (ls.getD n []) 32)
    rw [ih (by omega), rndP_get, expo_rndC (hl n (by omega)), chB_rndC (hl n (by omega))]
theorem rndP_bp {ls : List (List Int)} (h : BP ls) : BP (rndP ls) := by
  obtain ⟨⟨h1, h2, h3⟩, h4, h5⟩ := h
  refine ⟨⟨by rw [rndP_length]; exact h1, by rw [rndP_get, rndC_length]; exact h2, fun j hj => ?_⟩, by rw [rndP_get, rndC_length]; exact h4, by rw [rndP_get, rndC_length]; exact h5⟩
  rw [rndP_length] at hj
  rw [rndP_get, rndP_get, rndC_length, rndC_length]; exact h3 j hj
/-- what is decoded is coded again to the same bytes -/
theorem blkL_rndP {ls : List (List Int)} (hl : SP ls) : blkL (rndP ls) = blkL ls := by
  unfold blkL
  rw [rndP_length, rndP_get, rndC_length, blB_rndP hl _ (Nat.le_refl _)]
/-- parts of equal length, one behind the other -/
theorem seg {F g : Nat → List Nat} {c K : Nat} (h0 : F 0 = []) (hs : ∀ n, F (n + 1) = F n ++ g n) (hl : ∀ n, n < K → (g n).length = c) : ∀ n, n ≤ K → (F n).length = c * n ∧ ∀ i, i < n → ((F n).drop (c * i)).take c = g i := by
  intro n
  induction n with
  | zero => intro _; exact ⟨by rw [h0]; simp, fun i h => by omega⟩
  | succ n ih =>
    intro hn
    obtain ⟨h1, h2⟩ := ih (by omega)
    refine ⟨by rw [hs, List.length_append, h1, hl n (by omega), Nat.mul_succ], fun i hi => ?_⟩
    rw [hs]
    rcases Nat.lt_or_ge i n with h | h
    · have h3 : c * (i + 1) ≤ c * n := Nat.mul_le_mul_left _ h
      rw [Nat.mul_succ] at h3
      rw [List.drop_append_of_le_length (by omega), List.take_append_of_le_length (by rw [List.length_drop]; omega)]
      exact h2 i h
    · obtain rfl : i = n := by omega
      rw [← h1, List.drop_left, List.take_of_length_le (by rw [hl i (by omega)]; exact Nat.le_refl _)]
theorem chB_seg (e : Nat) (l : List Int) (k : Nat) (h : k < 32) : ((Go.Proofs.Ytmimljaniliecaa.chB e l 32).drop (9 * k)).take 9 = bitsOf (mOf e (l.getD k 0)) 9 :=
  (seg (F := Go.Proofs.Ytmimljaniliecaa.chB e l) (g := fun k => bitsOf (mOf e (l.getD k 0)) 9) (K := 32) rfl (fun _ => rfl) (fun _ _ => bitsOf_length _ _) 32 (Nat.le_refl _)).2 k h
theorem blB_seg (ls : List (List Int)) (n i : Nat) (h : i < n) : ((blB ls n).drop (292 * i)).take 292 = bitsOf (expo (ls.getD i [])) 4 ++ Go.Proofs.Ytmimljaniliecaa.chB (expo (ls.getD i [])) (ls.getD i []) 32 :=
  (seg (F := blB ls) (g := fun i => bitsOf (expo (ls.getD i [])) 4 ++ Go.Proofs.Ytmimljaniliecaa.chB (expo (ls.getD i [])) (ls.getD i []) 32) (K := n) rfl (fun _ => rfl) (fun _ _ => by rw [List.length_append, bitsOf_length, chB_len]) n (Nat.le_refl _)).2 i h
theorem take_drop_take {α : Type} {X : List α} {a b c n : Nat} (h : b + c ≤ n) : (((X.drop a).take n).drop b).take c = (X.drop (a + b)).take c := by
  rw [List.drop_take, List.take_take, List.drop_drop, Nat.min_eq_left (by omega)]
theorem blB_expo (ls : List (List Int)) (n i : Nat) (h : i < n) : ((blB ls n).drop (292 * i)).take 4 = bitsOf (expo (ls.getD i [])) 4 := by
  have h1 := take_drop_take (X := blB ls n) (a := 292 * i) (b := 0) (c := 4) (n := 292) (by omega)
  rw [Nat.add_zero] at h1
  rw [← h1, blB_seg ls n i h, List.drop_zero, List.take_left' (bitsOf_length _ _)]
theorem blB_mant (ls : List (List Int)) (n i k : Nat) (h : i < n) (hk : k < 32) : ((blB ls n).drop (292 * i + 4 + 9 * k)).take 9 = bitsOf (mOf (expo (ls.getD i [])) ((ls.getD i []).getD k 0)) 9 := by
  have h1 := take_drop_take (X := blB ls n) (a := 292 * i) (b := 4 + 9 * k) (c := 9) (n := 292) (by omega)
  rw [Nat.add_assoc, ← h1, blB_seg ls n i h, ← List.drop_drop, List.drop_left' (bitsOf_length _ _)]
  exact chB_seg _ _ k hk
theorem valueOf_bits {v n : Nat} (h : v < 2 ^ n) : valueOf (bitsOf v n) = v := by rw [valueOf_bitsOf, Nat.mod_eq_of_lt h]
/-- what is decoded out of the bits of a block -/
theorem chE_blB {ls : List (List Int)} {D : List Nat} {n i : Nat} (hD : D.take (292 * n) = blB ls n) (h : i < n) : chE D (292 * i) = expo (ls.getD i []) := by
  have he := expo_le (ls.getD i [])
  unfold chE
  have h1 : ((blB ls n).drop (292 * i)).take 4 = (D.drop (292 * i)).take 4 := by
    rw [← hD, List.drop_take, List.take_take, Nat.min_eq_left (by omega)]
  rw [← h1, blB_expo ls n i h, valueOf_bits (by omega)]
theorem chM_blB {ls : List (List Int)} {D : List Nat} {n i k : Nat} (hD : D.take (292 * n) = blB ls n) (h : i < n) (hk : k < 32) : chM D (292 * i) k = mOf (expo (ls.getD i [])) ((ls.getD i []).getD k 0) := by
  have he := mOf_lt (expo (ls.getD i [])) ((ls.getD i []).getD k 0)
  unfold chM
  have h1 : ((blB ls n).drop (292 * i + 4 + 9 * k)).take 9 = (D.drop (292 * i + 4 + 9 * k)).take 9 := by
    rw [← hD, List.drop_take, List.take_take, Nat.min_eq_left (by omega)]
  rw [← h1, blB_mant ls n i k h hk, valueOf_bits (by omega)]
theorem chB'_all {D : List Nat} {a n : Nat} (h0 : chE D a ≤ 7) (h : ∀ k, k < 32 → n ≤ k → chM D a k = 0) : ∀ k, k ≤ 32 → chB' D a n k = true := by
  intro k
  induction k with
  | zero => intro _; exact decide_eq_true h0
  | succ k ih =>
    intro hk
    rcases Nat.lt_or_ge k n with h1 | h1
    · rw [chB_lt h1]; exact ih (by omega)
    · rw [chB_ge (by omega), ih (by omega), decide_eq_true (h k (by omega) h1)]; rfl
theorem chL_map {D : List Nat} {a : Nat} {l : List Int} {e : Nat} (he : chE D a = e) (he7 : e ≤ 7) (h : ∀ k, k < l.length → chM D a k = mOf e (l.getD k 0)) : ∀ k, k ≤ l.length → chL D a k = (l.take k).map (rnd1 e) := by
  intro k
  induction k with
  | zero => intro _; simp [chL]
  | succ k ih =>
    intro hk
    show chL D a k ++ [dcS (min (chE D a) 7) (chM D a k)] = _
    rw [ih (by omega), he, Nat.min_eq_left he7, h k (by omega), List.take_succ_eq_append_getElem (by omega), List.map_append]
    congr 1
    rw [List.getD_eq_getElem?_getD, List.getElem?_eq_getElem (by omega)]
    rfl
theorem sl_summed (b : List Nat) : sl (summedB b) 0 ((summedB b).length - 2) = b := by
  unfold sl
  rw [summedB_len, List.drop_zero, Nat.add_sub_cancel]
  exact List.take_left
theorem intB_summed (b : List Nat) : intB (summedB b) = true := by
  unfold intB
  rw [sl_summed]
  exact decide_eq_true rfl
/-- a coded block is decoded -/
theorem tb_blk {ls : List (List Int)} (hB : BP ls) (hl : SP ls) : tbE (blkL ls) = 0 ∧ tbL (blkL ls) = rndP ls := by
  obtain ⟨⟨h1, h2, h3⟩, h4, h5⟩ := id hB
  have hlen := blkL_len (ls := ls)
  have hpl := payload_length (blB ls ls.length)
  have hbl := blB_len ls ls.length
  have g0 : (blkL ls).getD 0 0 = ls.length := rfl
  have g1 : (blkL ls).getD 1 0 = (ls.getD 0 []).length := rfl
  have hA : tbA (blkL ls) := by
    refine ⟨by omega, by rw [g0]; exact h1, by rw [g1]; exact ⟨h4, h5⟩, ?_⟩
    rw [g0, bsz_v h1, hlen]
    omega
  have hI : intB (blkL ls) = true := intB_summed _
  have hP : tbP (blkL ls) = payload (blB ls ls.length) := by
    unfold tbP sl
    have e : blkL ls = [ls.length, (ls.getD 0 []).length] ++ (payload (blB ls ls.length) ++ [crc ([ls.length, (ls.getD 0 []).length] ++ payload (blB ls ls.length)) / 256, crc ([ls.length, (ls.getD 0 []).length] ++ payload (blB ls ls.length)) % 256]) := by
      unfold blkL summedB; rw [List.append_assoc]
    rw [hlen]
    rw [e]
    show List.take _ (payload (blB ls ls.length) ++ _) = _
    rw [List.take_left' (by rw [hpl, hbl]; omega)]
  have hD : (unpack (payload (blB ls ls.length))).take (292 * ls.length) = blB ls ls.length := by
    have := take_payload (blB ls ls.length) (blB_bin _ _)
    rw [hbl] at this; exact this
  have hF : tbF (blkL ls) := by
    unfold tbF
    rw [hP, g0, g1]
    refine ⟨fun h => ?_, by rw [end_payload _ (blB_bin _ _), hbl], fun i hi => ?_⟩
    · rcases h with h | h
      · exact payload_ne _ h
      · exact payload_last _ (blB_bin _ _) h
    · refine chB'_all (by rw [chE_blB hD hi]; exact expo_le _) (fun k hk hn => ?_) 32 (Nat.le_refl _)
      rw [chM_blB hD hi hk, List.getD_eq_getElem?_getD (l := ls.getD i []), List.getElem?_eq_none (by rw [h3 i hi]; exact hn)]
      exact mOf_zero _
  obtain ⟨e1, e2⟩ := tb_t hA hI hF
  refine ⟨e1, ?_⟩
  rw [e2, hP, g0, g1]
  refine ls_ext (by rw [chLs_length, rndP_length]) (fun j hj => ?_)
  rw [chLs_length] at hj
  rw [chLs_get _ _ _ _ hj, rndP_get, ← h3 j hj, chL_map (chE_blB hD hj) (expo_le _) (fun k hk => chM_blB hD hj (by have := h3 j hj; omega)) _ (Nat.le_refl _), List.take_of_length_le (Nat.le_refl _)]
  rfl
end Go.Proofs.Ytmimljaniliecaa
