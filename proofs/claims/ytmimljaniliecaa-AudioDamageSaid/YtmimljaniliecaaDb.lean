/- Sound that is coded and decoded, plainly: the bytes, whole or damaged. -/
import Derived.Test.YtmimljaniliecaaDa
namespace Go.Proofs.Ytmimljaniliecaa
open Go.RowKit Bt

theorem intD_append (l m : List Int) (i : Nat) : (l ++ m).getD i 0 = if i < l.length then l.getD i 0 else m.getD (i - l.length) 0 := by
  simp only [List.getD_eq_getElem?_getD]
  split
  · rw [List.getElem?_append_left (by assumption)]
  · rw [List.getElem?_append_right (by omega)]
theorem intD_rep (n i : Nat) : (List.replicate n (0 : Int)).getD i 0 = 0 := by
  rw [List.getD_eq_getElem?_getD, List.getElem?_replicate]
  split <;> rfl
theorem intD_cut {l : List Int} {q n i : Nat} (h : i < n) : ((l.drop q).take n).getD i 0 = l.getD (q + i) 0 := by
  rw [List.getD_eq_getElem?_getD, List.getElem?_take, if_pos h, List.getElem?_drop, ← List.getD_eq_getElem?_getD]
/-- a decoded sample -/
theorem deL_get {l : List Nat} {c : Nat} (hc : c < deC l) : ∀ k i, i < min (32 * k) (deN l) → (deL l c k).getD i 0 = if deOk l (i / 32) then ((whL (deB l (i / 32)) (deC l) (deW l (i / 32))).getD c []).getD (i % 32) 0 else 0 := by
  intro k
  induction k with
  | zero => intro i h; omega
  | succ k ih =>
    intro i h
    have hl := deL_len hc k
    by_cases hi : i < (deL l c k).length
    · have h1 : (deL l c (k + 1)).getD i 0 = (deL l c k).getD i 0 := by
        show (deL l c k ++ _).getD i 0 = _
        rw [intD_append, if_pos hi]
      rw [h1]; exact ih i (by omega)
    · have e1 : i / 32 = k := by omega
      have e2 : i - (deL l c k).length = i % 32 := by omega
      show (deL l c k ++ (if deOk l k then (whL (deB l k) (deC l) (deW l k)).getD c [] else List.replicate (deW l k) 0)).getD i 0 = _
      rw [intD_append, if_neg hi, e1, e2]
      by_cases hk : deOk l k
      · rw [if_pos hk, if_pos hk]
      · rw [if_neg hk, if_neg hk, intD_rep]
theorem deR_get {l : List Nat} (hE : deE l = 0) {c i : Nat} (hc : c < deC l) (hi : i < deN l) : ((deR l).getD c []).getD i 0 = if deOk l (i / 32) then ((whL (deB l (i / 32)) (deC l) (deW l (i / 32))).getD c []).getD (i % 32) 0 else 0 := by
  rw [(de_ok hE).1, mk_get hc]
  exact deL_get hc _ i (by unfold deK; omega)
theorem deR_len {l : List Nat} (hE : deE l = 0) : (deR l).length = deC l ∧ ∀ c, c < deC l → ((deR l).getD c []).length = deN l := by
  rw [(de_ok hE).1]
  exact ⟨mk_length _ _, fun c hc => by rw [mk_get hc, deL_len hc]; unfold deK; omega⟩
/-- the damaged blocks: none, or one -/
theorem deD_none {l : List Nat} : ∀ k, (∀ j, j < k → deOk l j) → deD l k = [] := by
  intro k
  induction k with
  | zero => intro _; rfl
  | succ k ih => intro h; rw [deD_ok (h k (by omega))]; exact ih (fun j hj => h j (by omega))
theorem deD_one {l : List Nat} {q : Nat} : ∀ k, (∀ j, j < k → (deOk l j ↔ j ≠ q)) → deD l k = if q < k then [((q : Nat) : Int)] else [] := by
  intro k
  induction k with
  | zero => intro _; rfl
  | succ k ih =>
    intro h
    have h1 := ih (fun j hj => h j (by omega))
    by_cases hk : k = q
    · subst hk
      rw [deD_bad (fun h2 => (h k (by omega)).1 h2 rfl), h1, if_neg (by omega), if_pos (by omega)]; rfl
    · rw [deD_ok ((h k (by omega)).2 hk), h1]
      by_cases h3 : q < k
      · rw [if_pos h3, if_pos (by omega)]
      · rw [if_neg h3, if_neg (by omega)]

/-- what the head of coded sound says -/
theorem head_facts {ls : List (List Int)} {l : List Nat} (hP : PP ls) (hh : sl l 0 10 = hdL ls) : deC l = ls.length ∧ deN l = (ls.getD 0 []).length ∧ deG l ∧ intB (sl l 0 (10 - 0)) = true := by
  have g : ∀ i, i < 10 → l.getD i 0 = (hdL ls).getD i 0 := fun i hi => by rw [← hh, sl_get hi, Nat.zero_add]
  have hC : deC l = ls.length := g 4 (by omega)
  have e5 : l.getD 5 0 = (ls.getD 0 []).length / 65536 := g 5 (by omega)
  have e6 : l.getD 6 0 = (ls.getD 0 []).length / 256 % 256 := g 6 (by omega)
  have e7 : l.getD 7 0 = (ls.getD 0 []).length % 256 := g 7 (by omega)
  have hN : deN l = (ls.getD 0 []).length := by unfold deN; rw [e5, e6, e7]; omega
  have hM : sl l 0 (4 - 0) = [67, 82, 83, 68] := by
    have := sl_sl (l := l) (a := 0) (b := 0) (n := 10) (m := 4) (by omega)
    rw [hh] at this
    rw [← this]; rfl
  refine ⟨hC, hN, ⟨hM, by rw [hC]; exact hP.1, by rw [hN]; exact hP.2.1⟩, ?_⟩
  rw [show 10 - 0 = 10 from rfl, hh]
  exact intB_summed _
theorem head_size {ls : List (List Int)} {l : List Nat} (hP : PP ls) (hh : sl l 0 10 = hdL ls) : deS l = 292 * ls.length / 8 + 5 ∧ deK l = ((ls.getD 0 []).length + 31) / 32 := by
  obtain ⟨h1, h2, hG, _⟩ := head_facts hP hh
  have hb := (de_bnd hG).1
  rw [h1, bsz_v hP.1] at hb
  exact ⟨by omega, by unfold deK; rw [h2]⟩
theorem head_ok {ls : List (List Int)} {l : List Nat} (hP : PP ls) (hh : sl l 0 10 = hdL ls) (h10 : 10 ≤ l.length) (hl : l.length - 10 ≤ deK l * deS l) : deE l = 0 := by
  obtain ⟨h1, h2, hG, hI⟩ := head_facts hP hh
  unfold deE
  rw [if_neg (by omega), if_neg (fun h => h hG), if_neg (by rw [hI]; decide), if_neg (by omega)]
theorem cut_pb {ls : List (List Int)} (hP : PP ls) {k : Nat} (hk : 32 * k < (ls.getD 0 []).length) : pbL (cutL ls (32 * k)) = blkL (cutL ls (32 * k)) ∧ (pbL (cutL ls (32 * k))).length = 292 * ls.length / 8 + 5 := by
  have h := (pb_t (cut_bp hP hk)).1
  refine ⟨h, ?_⟩
  rw [h, blkL_len, cutL_length]
/-- a block that is there whole -/
theorem block_good {ls : List (List Int)} {l : List Nat} {k : Nat} (hP : PP ls) (hS : SP ls) (hh : sl l 0 10 = hdL ls) (hk : 32 * k < (ls.getD 0 []).length) (hl : 10 + k * deS l + deS l ≤ l.length) (hx : deX l k = pbL (cutL ls (32 * k))) : deOk l k ∧ whL (deB l k) (deC l) (deW l k) = rndP (cutL ls (32 * k)) := by
  obtain ⟨h1, h2, hG, _⟩ := head_facts hP hh
  have hB := cut_bp hP hk
  obtain ⟨t1, t2⟩ := tb_blk hB (cut_sp hS (32 * k))
  rw [← (cut_pb hP hk).1, ← hx] at t1 t2
  have h10 : 10 ≤ l.length := by omega
  have hok : deOk l k := (de_block hG h10).2 ⟨hl, t1, by rw [t2, rndP_length, cutL_length, h1], by rw [t2, rndP_get, rndC_length, cutL_glen]; unfold deW; rw [h2]⟩
  exact ⟨hok, by rw [de_blockL hG h10 hok, t2]⟩
theorem enB_seg {ls : List (List Int)} (hP : PP ls) (k n : Nat) (hn : n ≤ ((ls.getD 0 []).length + 31) / 32) (h : k < n) : (enB ls n).length = (292 * ls.length / 8 + 5) * n ∧ ((enB ls n).drop ((292 * ls.length / 8 + 5) * k)).take (292 * ls.length / 8 + 5) = pbL (cutL ls (32 * k)) := by
  obtain ⟨h1, h2⟩ := seg (F := enB ls) (g := fun k => pbL (cutL ls (32 * k))) (c := 292 * ls.length / 8 + 5) (K := ((ls.getD 0 []).length + 31) / 32) rfl (fun _ => rfl) (fun j hj => (cut_pb hP (by omega)).2) n hn
  exact ⟨h1, h2 k h⟩
theorem enB_length {ls : List (List Int)} (hP : PP ls) : (enB ls (((ls.getD 0 []).length + 31) / 32)).length = (292 * ls.length / 8 + 5) * (((ls.getD 0 []).length + 31) / 32) :=
  (seg (F := enB ls) (g := fun k => pbL (cutL ls (32 * k))) (c := 292 * ls.length / 8 + 5) (K := ((ls.getD 0 []).length + 31) / 32) rfl (fun _ => rfl) (fun j hj => (cut_pb hP (by omega)).2) _ (Nat.le_refl _)).1
/-- coded sound -/
theorem en_facts {ls : List (List Int)} (hP : PP ls) : sl (enL ls) 0 10 = hdL ls ∧ (enL ls).length = 10 + deK (enL ls) * deS (enL ls) ∧ ∀ k, k < deK (enL ls) → deX (enL ls) k = pbL (cutL ls (32 * k)) := by
  have hh : sl (enL ls) 0 10 = hdL ls := by
    rw [(en_t hP).1]
    unfold sl
    rw [List.drop_zero, List.take_left' (hdL_len ls)]
  obtain ⟨hs, hk⟩ := head_size hP hh
  refine ⟨hh, ?_, fun k h => ?_⟩
  · rw [hs, hk, (en_t hP).1, List.length_append, hdL_len, enB_length hP, Nat.mul_comm]
  · have h1 := (enB_seg hP k _ (Nat.le_refl _) (by rw [hk] at h; exact h)).2
    unfold deX
    rw [show 10 + k * deS (enL ls) + deS (enL ls) - (10 + k * deS (enL ls)) = deS (enL ls) by omega, hs, (en_t hP).1]
    unfold sl
    rw [← List.drop_drop, List.drop_left' (hdL_len ls), Nat.mul_comm k]
    exact h1
/-- where bytes l of coded sound are as they were -/
theorem part_same {ls : List (List Int)} {l : List Nat} (hP : PP ls) (hh : sl l 0 10 = hdL ls) {k : Nat} (hk : k < deK l) (hl : 10 + k * deS l + deS l ≤ l.length) (h : ∀ i, i < deS l → l.getD (10 + k * deS l + i) 0 = (enL ls).getD (10 + k * deS l + i) 0) : deX l k = pbL (cutL ls (32 * k)) := by
  obtain ⟨he, hn, hx⟩ := en_facts hP
  obtain ⟨hs, hkk⟩ := head_size hP hh
  obtain ⟨hs2, hkk2⟩ := head_size hP he
  have e1 : deS (enL ls) = deS l := by rw [hs, hs2]
  have e2 : deK (enL ls) = deK l := by rw [hkk, hkk2]
  rw [← hx k (by omega)]
  have hm : k * deS l + deS l ≤ deK l * deS l := by rw [← Nat.succ_mul]; exact Nat.mul_le_mul_right _ hk
  unfold deX
  rw [e1, show 10 + k * deS l + deS l - (10 + k * deS l) = deS l by omega]
  rw [e1, e2] at hn
  refine ext_getD (d := 0) (by rw [sl_len (by omega), sl_len (by omega)]) (fun i hi => ?_)
  rw [sl_len (by omega)] at hi
  rw [sl_get hi, sl_get hi]
  exact h i hi
theorem kN {l : List Nat} {k : Nat} (h : k < deK l) : 32 * k < deN l := by unfold deK at h; omega
theorem blk_end {l : List Nat} {k : Nat} (h : k < deK l) : 10 + k * deS l + deS l ≤ 10 + deK l * deS l := by
  have : (k + 1) * deS l ≤ deK l * deS l := Nat.mul_le_mul_right _ h
  rw [Nat.succ_mul] at this
  omega
/-- sound that is coded is decoded -/
theorem back_facts {ls : List (List Int)} (hP : PP ls) (hS : SP ls) : deE (enL ls) = 0 ∧ deC (enL ls) = ls.length ∧ deN (enL ls) = (ls.getD 0 []).length ∧ (∀ k, k < deK (enL ls) → deOk (enL ls) k ∧ whL (deB (enL ls) k) (deC (enL ls)) (deW (enL ls) k) = rndP (cutL ls (32 * k))) ∧ deM (enL ls) = [] := by
  obtain ⟨he, hn, hx⟩ := en_facts hP
  obtain ⟨h1, h2, hG, _⟩ := head_facts hP he
  have hE := head_ok hP he (by omega) (by omega)
  have hb : ∀ k, k < deK (enL ls) → deOk (enL ls) k ∧ whL (deB (enL ls) k) (deC (enL ls)) (deW (enL ls) k) = rndP (cutL ls (32 * k)) := fun k hk =>
    block_good hP hS he (by rw [← h2]; exact kN hk) (by have := blk_end hk; omega) (hx k hk)
  exact ⟨hE, h1, h2, hb, by rw [(de_ok hE).2]; exact deD_none _ (fun j hj => (hb j hj).1)⟩
theorem div_lt_K {l : List Nat} {i : Nat} (h : i < deN l) : i / 32 < deK l := by unfold deK; omega
theorem back_get {ls : List (List Int)} (hP : PP ls) (hS : SP ls) {c i : Nat} (hc : c < ls.length) (hi : i < (ls.getD 0 []).length) : ((deR (enL ls)).getD c []).getD i 0 = rnd1 (expo (((ls.getD c []).drop (32 * (i / 32))).take 32)) ((ls.getD c []).getD i 0) := by
  obtain ⟨hE, h1, h2, hb, _⟩ := back_facts hP hS
  obtain ⟨k1, k2⟩ := hb (i / 32) (div_lt_K (by rw [h2]; exact hi))
  rw [deR_get hE (by rw [h1]; exact hc) (by rw [h2]; exact hi), if_pos k1, k2, rndP_get, rndC_get _ _ (by rw [cutL_glen, hP.2.2 c hc]; omega), cutL_get, intD_cut (by omega), show 32 * (i / 32) + i % 32 = i by omega]
theorem back_len {ls : List (List Int)} (hP : PP ls) (hS : SP ls) : (deR (enL ls)).length = ls.length ∧ ∀ c, c < ls.length → ((deR (enL ls)).getD c []).length = (ls.getD c []).length := by
  obtain ⟨hE, h1, h2, _, _⟩ := back_facts hP hS
  obtain ⟨r1, r2⟩ := deR_len hE
  rw [h1] at r1 r2
  exact ⟨r1, fun c hc => by rw [r2 c hc, h2, hP.2.2 c hc]⟩
/-- the error of a decoded sample -/
theorem back_near {ls : List (List Int)} (hP : PP ls) (hS : SP ls) {c i : Nat} (hc : c < ls.length) (hi : i < (ls.getD 0 []).length) :
    ((deR (enL ls)).getD c []).getD i 0 - (ls.getD c []).getD i 0 ≤ (half (expo (((ls.getD c []).drop (32 * (i / 32))).take 32)) : Nat) ∧ -(((deR (enL ls)).getD c []).getD i 0 - (ls.getD c []).getD i 0) ≤ (half (expo (((ls.getD c []).drop (32 * (i / 32))).take 32)) : Nat) := by
  rw [back_get hP hS hc hi]
  have hl := hP.2.2 c hc
  refine rnd1_near (expo_fits (fun x hx => hS c hc x (List.mem_of_mem_drop (List.mem_of_mem_take hx))) _ ?_)
  have h1 := getD_mem (l := ((ls.getD c []).drop (32 * (i / 32))).take 32) (k := i % 32) (by rw [List.length_take, List.length_drop]; omega)
  rw [intD_cut (by omega), show 32 * (i / 32) + i % 32 = i by omega] at h1
  exact h1
/-- decoded sound is coded again -/
theorem gen_cut {ls : List (List Int)} (hP : PP ls) (hS : SP ls) {k : Nat} (hk : 32 * k < (ls.getD 0 []).length) : cutL (deR (enL ls)) (32 * k) = rndP (cutL ls (32 * k)) := by
  obtain ⟨l1, l2⟩ := back_len hP hS
  refine ls_ext (by rw [cutL_length, rndP_length, cutL_length, l1]) (fun j hj => ?_)
  rw [cutL_length, l1] at hj
  have h3 := hP.2.2 j hj
  rw [rndP_get, cutL_get, cutL_get]
  refine ext_getD (d := 0) (by rw [rndC_length, List.length_take, List.length_take, List.length_drop, List.length_drop, l2 j hj]) (fun i hi => ?_)
  rw [List.length_take, List.length_drop, l2 j hj] at hi
  rw [intD_cut (by omega), rndC_get _ _ (by rw [List.length_take, List.length_drop]; omega), intD_cut (by omega), back_get hP hS hj (by omega), show 32 * ((32 * k + i) / 32) = 32 * k by omega]
theorem gen_pp {ls : List (List Int)} (hP : PP ls) (hS : SP ls) : PP (deR (enL ls)) ∧ SP (deR (enL ls)) := by
  obtain ⟨l1, l2⟩ := back_len hP hS
  have h0 : 0 < ls.length := hP.1.1
  refine ⟨⟨by rw [l1]; exact hP.1, by rw [l2 0 h0]; exact hP.2.1, fun j hj => ?_⟩, fun j hj => ?_⟩
  · rw [l1] at hj
    rw [l2 j hj, l2 0 h0]; exact hP.2.2 j hj
  · rw [l1] at hj
    intro x hx
    obtain ⟨i, hi, rfl⟩ := List.mem_iff_getElem.1 hx
    have h1 := back_get hP hS hj (i := i) (by have := l2 j hj; have := hP.2.2 j hj; omega)
    rw [List.getD_eq_getElem?_getD, List.getElem?_eq_getElem hi] at h1
    rw [show ((deR (enL ls)).getD j [])[i] = _ from h1]
    exact dcS_rng (expo_le _) (mOf_lt _ _)
theorem gen_en {ls : List (List Int)} (hP : PP ls) (hS : SP ls) : enL (deR (enL ls)) = enL ls ∧ enE (deR (enL ls)) = 0 := by
  obtain ⟨l1, l2⟩ := back_len hP hS
  obtain ⟨g1, _⟩ := gen_pp hP hS
  have h0 : 0 < ls.length := hP.1.1
  have hN := l2 0 h0
  refine ⟨?_, (en_t g1).2⟩
  rw [(en_t g1).1, hN]
  have hH : hdL (deR (enL ls)) = hdL ls := by unfold hdL hdR; rw [hN, l1]
  rw [hH]
  refine Eq.trans ?_ (en_t hP).1.symm
  congr 1
  have hb : ∀ k, k ≤ ((ls.getD 0 []).length + 31) / 32 → enB (deR (enL ls)) k = enB ls k := by
    intro k
    induction k with
    | zero => intro _; rfl
    | succ k ih =>
      intro hk
      show enB (deR (enL ls)) k ++ pbL (cutL (deR (enL ls)) (32 * k)) = enB ls k ++ pbL (cutL ls (32 * k))
      have hB := cut_bp hP (q := 32 * k) (by omega)
      rw [ih (by omega), gen_cut hP hS (by omega), (pb_t hB).1, (pb_t (rndP_bp hB)).1, blkL_rndP (cut_sp hS _)]
  exact hb _ (Nat.le_refl _)
/-- bytes that are missing at the end -/
theorem short_facts {ls : List (List Int)} {l : List Nat} {m : Nat} (hP : PP ls) (hS : SP ls) (hl : l = (enL ls).take m) (hm : 10 ≤ m) (hm2 : m ≤ (enL ls).length) : deE l = 0 ∧ deC l = ls.length ∧ deN l = (ls.getD 0 []).length ∧ ∀ c i, c < ls.length → i < (ls.getD 0 []).length → i / 32 < (m - 10) / (292 * ls.length / 8 + 5) → ((deR l).getD c []).getD i 0 = ((deR (enL ls)).getD c []).getD i 0 := by
  obtain ⟨he, hn, hx⟩ := en_facts hP
  have hlen : l.length = m := by rw [hl, List.length_take]; omega
  have hh : sl l 0 10 = hdL ls := by
    rw [← he, hl]
    unfold sl
    rw [List.drop_zero, List.drop_zero, List.take_take, Nat.min_eq_left hm]
  obtain ⟨h1, h2, hG, _⟩ := head_facts hP hh
  obtain ⟨hs, hk⟩ := head_size hP hh
  obtain ⟨hs2, hk2⟩ := head_size hP he
  have e1 : deS (enL ls) = deS l := by rw [hs, hs2]
  have e2 : deK (enL ls) = deK l := by rw [hk, hk2]
  rw [e1, e2] at hn
  have hE := head_ok hP hh (by omega) (by omega)
  refine ⟨hE, h1, h2, fun c i hc hi hib => ?_⟩
  obtain ⟨b1, b2, b3, b4, _⟩ := back_facts hP hS
  have hkk : i / 32 < deK l := div_lt_K (by rw [h2]; exact hi)
  rw [deR_get hE (by rw [h1]; exact hc) (by rw [h2]; exact hi), deR_get b1 (by rw [b2]; exact hc) (by rw [b3]; exact hi)]
  generalize i / 32 = k at *
  obtain ⟨o1, o2⟩ := b4 k (by omega)
  have hend : 10 + k * deS l + deS l ≤ m := by
    rw [← hs] at hib
    have hp : 0 < deS l := by omega
    have h5 : (k + 1) * deS l ≤ m - 10 := (Nat.le_div_iff_mul_le hp).1 hib
    rw [Nat.succ_mul] at h5
    omega
  obtain ⟨k1, k2⟩ := block_good (k := k) hP hS hh (by rw [← h2]; exact kN hkk) (by omega) (part_same hP hh hkk (by omega) (fun j hj => by
    rw [hl, List.getD_eq_getElem?_getD, List.getElem?_take, if_pos (by rw [← hl]; omega), ← List.getD_eq_getElem?_getD]))
  rw [if_pos k1, if_pos o1, k2, o2]

-- the check tells every change of one byte
theorem xor_zero {a b : Nat} (h : a ^^^ b = 0) : a = b := by
  apply Nat.eq_of_testBit_eq
  intro i
  have h1 := congrArg (fun x => x.testBit i) h
  simp only [Nat.testBit_xor, Nat.zero_testBit] at h1
  cases ha : a.testBit i <;> cases hb : b.testBit i <;> simp_all
theorem crcBit_zero {r : Nat} (h : r < 65536) (h0 : crcBit r = 0) : r = 0 := by
  unfold crcBit at h0
  split at h0
  · have := congrArg (fun x => x % 2) h0
    have h2 : ((2 * r % 65536) ^^^ 4129) % 2 = 1 := by
      rw [← Nat.pow_one 2, Nat.xor_mod_two_pow, Nat.pow_one, show 2 * r % 65536 % 2 = 0 by omega]
      rfl
    omega
  · omega
theorem crcBit_inj {a b : Nat} (ha : a < 65536) (hb : b < 65536) (h : crcBit a = crcBit b) : a = b :=
  xor_zero (crcBit_zero (xor_lt (n := 16) (by omega) (by omega)) (by rw [crcBit_xor ha hb, h, Nat.xor_self]))
theorem bitN_inj {a b : Nat} (ha : a < 65536) (hb : b < 65536) (n : Nat) : bitN n a = bitN n b → a = b := by
  induction n with
  | zero => exact id
  | succ n ih => intro h; exact ih (crcBit_inj (bitN_lt ha n) (bitN_lt hb n) h)
theorem xor_left_inj {a b c : Nat} (h : a ^^^ c = b ^^^ c) : a = b := by
  have := congrArg (fun x => x ^^^ c) h
  simpa [Nat.xor_assoc] using this
theorem xor_right_inj {a b c : Nat} (h : c ^^^ a = c ^^^ b) : a = b := by
  rw [Nat.xor_comm c a, Nat.xor_comm c b] at h; exact xor_left_inj h
theorem crcB_inj_r {a b x : Nat} (ha : a < 65536) (hb : b < 65536) (hx : x < 256) (h : crcB a x = crcB b x) : a = b :=
  xor_left_inj (bitN_inj (xor_lt (n := 16) (by omega) (by omega)) (xor_lt (n := 16) (by omega) (by omega)) 8 h)
theorem crcB_inj_b {a x y : Nat} (ha : a < 65536) (hx : x < 256) (hy : y < 256) (h : crcB a x = crcB a y) : x = y := by
  have := xor_right_inj (bitN_inj (xor_lt (n := 16) (by omega) (by omega)) (xor_lt (n := 16) (by omega) (by omega)) 8 h)
  omega
theorem foldl_inj (l : List Nat) (hl : ∀ x ∈ l, x < 256) : ∀ a b, a < 65536 → b < 65536 → l.foldl crcB a = l.foldl crcB b → a = b := by
  induction l with
  | nil => intro a b _ _ h; exact h
  | cons x l ih =>
    intro a b ha hb h
    have hx := hl x (List.mem_cons_self ..)
    rw [List.foldl_cons, List.foldl_cons] at h
    exact crcB_inj_r ha hb hx (ih (fun y hy => hl y (List.mem_cons_of_mem _ hy)) (crcB a x) (crcB b x) (crcB_lt ha hx) (crcB_lt hb hx) h)
theorem split_at (l : List Nat) {r : Nat} (h : r < l.length) : l = l.take r ++ (l.getD r 0 :: l.drop (r + 1)) := by
  rw [List.getD_eq_getElem?_getD, List.getElem?_eq_getElem h, Option.getD_some, List.getElem_cons_drop, List.take_append_drop]
theorem crc_diff {a b : List Nat} (hl : a.length = b.length) (ha : ∀ x ∈ a, x < 256) (hb : ∀ x ∈ b, x < 256) {r : Nat} (hr : r < a.length) (hs : ∀ i, i < a.length → i ≠ r → a.getD i 0 = b.getD i 0) (hd : a.getD r 0 ≠ b.getD r 0) : crc a ≠ crc b := by
  intro h
  have e1 := split_at a hr
  have e2 := split_at b (r := r) (by omega)
  have t1 : a.take r = b.take r := ext_getD (d := 0) (by rw [List.length_take, List.length_take, hl]) (fun i hi => by
    rw [List.length_take] at hi
    have := hs i (by omega) (by omega)
    simpa [List.getD_eq_getElem?_getD, List.getElem?_take, show i < r by omega] using this)
  have t2 : a.drop (r + 1) = b.drop (r + 1) := ext_getD (d := 0) (by rw [List.length_drop, List.length_drop, hl]) (fun i hi => by
    rw [List.length_drop] at hi
    have := hs (r + 1 + i) (by omega) (by omega)
    simpa [List.getD_eq_getElem?_getD, List.getElem?_drop] using this)
  have hp : (a.take r).foldl crcB 65535 < 65536 := foldl_crc_lt _ (fun x hx => ha x (List.mem_of_mem_take hx)) _ (by omega)
  have hA := getD_b ha r
  have hB := getD_b hb r
  unfold crc at h
  rw [e1, e2, t1, t2, List.foldl_append, List.foldl_append, List.foldl_cons, List.foldl_cons] at h
  rw [t1] at hp
  exact hd (crcB_inj_b hp hA hB (foldl_inj _ (fun x hx => hb x (List.mem_of_mem_drop hx)) _ _ (crcB_lt hp hA) (crcB_lt hp hB) h))
theorem int_dmg {a b : List Nat} (hl : a.length = b.length) (h2 : 2 ≤ a.length) (ha : ∀ x ∈ a, x < 256) (hb : ∀ x ∈ b, x < 256) {r : Nat} (hr : r < a.length) (hs : ∀ i, i < a.length → i ≠ r → a.getD i 0 = b.getD i 0) (hd : a.getD r 0 ≠ b.getD r 0) (hA : intB a = true) : intB b = false := by
  rcases Bool.eq_false_or_eq_true (intB b) with hB | hB
  · exfalso
    obtain ⟨a1, a2⟩ := (intB_iff h2).1 (of_decide_eq_true hA)
    obtain ⟨b1, b2⟩ := (intB_iff (l := b) (by omega)).1 (of_decide_eq_true hB)
    rw [← hl] at b1 b2
    have g : ∀ (l : List Nat) i, i < a.length - 2 → (sl l 0 (a.length - 2)).getD i 0 = l.getD i 0 := fun l i hi => by rw [sl_get hi, Nat.zero_add]
    have la : (sl a 0 (a.length - 2)).length = a.length - 2 := sl_len (by omega)
    have lb : (sl b 0 (a.length - 2)).length = a.length - 2 := sl_len (by omega)
    rcases Nat.lt_or_ge r (a.length - 2) with h | h
    · refine crc_diff (a := sl a 0 (a.length - 2)) (b := sl b 0 (a.length - 2)) (by rw [la, lb]) (sl_lt ha _ _) (sl_lt hb _ _) (r := r) (by rw [la]; exact h) (fun i hi hne => ?_) (by rw [g a r h, g b r h]; exact hd) ?_
      · rw [la] at hi
        rw [g a i hi, g b i hi]; exact hs i (by omega) hne
      · have s1 := hs (a.length - 2) (by omega) (by omega)
        have s2 := hs (a.length - 2 + 1) (by omega) (by omega)
        omega
    · have e : sl a 0 (a.length - 2) = sl b 0 (a.length - 2) := ext_getD (d := 0) (by rw [la, lb]) (fun i hi => by
        rw [la] at hi
        rw [g a i hi, g b i hi]; exact hs i (by omega) (by omega))
      rw [e] at a1 a2
      rcases (show r = a.length - 2 ∨ r = a.length - 2 + 1 by omega) with h3 | h3
      · rw [h3] at hd; omega
      · rw [h3] at hd; omega
  · exact hB
/-- a byte of block q is changed -/
theorem damage_facts {ls : List (List Int)} {l : List Nat} {p : Nat} (hP : PP ls) (hS : SP ls) (hl : l.length = (enL ls).length) (hb : ∀ x ∈ l, x < 256) (hp : 10 + p < (enL ls).length) (hs : ∀ i, i ≠ 10 + p → l.getD i 0 = (enL ls).getD i 0) (hd : l.getD (10 + p) 0 ≠ (enL ls).getD (10 + p) 0) :
    deE l = 0 ∧ deC l = ls.length ∧ deN l = (ls.getD 0 []).length ∧ deM l = [((p / (292 * ls.length / 8 + 5) : Nat) : Int)] ∧ ∀ c i, c < ls.length → i < (ls.getD 0 []).length → ((deR l).getD c []).getD i 0 = if i / 32 = p / (292 * ls.length / 8 + 5) then 0 else ((deR (enL ls)).getD c []).getD i 0 := by
  obtain ⟨he, hn, hx⟩ := en_facts hP
  have hh : sl l 0 10 = hdL ls := by
    rw [← he]
    exact ext_getD (d := 0) (by rw [sl_len (by omega), sl_len (by omega)]) (fun i hi => by
      rw [sl_len (by omega)] at hi
      rw [sl_get hi, sl_get hi]; exact hs _ (by omega))
  obtain ⟨h1, h2, hG, _⟩ := head_facts hP hh
  obtain ⟨hsz, hk⟩ := head_size hP hh
  obtain ⟨hs2, hk2⟩ := head_size hP he
  have e1 : deS (enL ls) = deS l := by rw [hsz, hs2]
  have e2 : deK (enL ls) = deK l := by rw [hk, hk2]
  rw [e1, e2] at hn
  have hE := head_ok hP hh (by omega) (by omega)
  rw [← hsz]
  obtain ⟨q, hq⟩ : ∃ q, q = p / deS l := ⟨_, rfl⟩
  have hSp : 0 < deS l := by omega
  have hpq : p = q * deS l + p % deS l := by rw [hq, Nat.mul_comm]; exact (Nat.div_add_mod _ _).symm
  have hpm : p % deS l < deS l := Nat.mod_lt _ hSp
  have hqK : q < deK l := by rw [hq]; exact Nat.div_lt_of_lt_mul (by rw [Nat.mul_comm]; omega)
  rw [← hq]
  obtain ⟨b1, b2, b3, b4, _⟩ := back_facts hP hS
  -- the other blocks
  have good : ∀ j, j < deK l → j ≠ q → deOk l j ∧ whL (deB l j) (deC l) (deW l j) = rndP (cutL ls (32 * j)) := fun j hj hne =>
    block_good hP hS hh (by rw [← h2]; exact kN hj) (by have := blk_end hj; omega) (part_same hP hh hj (by have := blk_end hj; omega) (fun i hi => hs _ (fun e => by
      have e3 : j * deS l + i = p := by omega
      have : p / deS l = j := by rw [← e3, Nat.add_comm, Nat.add_mul_div_right _ _ hSp, Nat.div_eq_of_lt hi, Nat.zero_add]
      omega)))
  -- the changed block
  have bad : ¬ deOk l q := by
    intro hok
    have hend := blk_end hqK
    have h3 := ((de_block hG (by omega)).1 hok).2.1
    have hX := hx q (by omega)
    have hB := cut_bp hP (q := 32 * q) (by rw [← h2]; exact kN hqK)
    have hA : intB (deX (enL ls) q) = true := by rw [hX, (pb_t hB).1]; exact intB_summed _
    unfold deX at hA h3
    rw [e1, show 10 + q * deS l + deS l - (10 + q * deS l) = deS l by omega] at hA
    rw [show 10 + q * deS l + deS l - (10 + q * deS l) = deS l by omega] at h3
    have l1 : (sl (enL ls) (10 + q * deS l) (deS l)).length = deS l := sl_len (by omega)
    have l2 : (sl l (10 + q * deS l) (deS l)).length = deS l := sl_len (by omega)
    have hI := int_dmg (a := sl (enL ls) (10 + q * deS l) (deS l)) (b := sl l (10 + q * deS l) (deS l)) (by rw [l1, l2]) (by omega) (sl_lt (enL_lt ls) _ _) (sl_lt hb _ _) (r := p % deS l) (by omega) (fun i hi hne => by
      rw [l1] at hi
      rw [sl_get hi, sl_get hi]; exact (hs _ (by omega)).symm) (by rw [sl_get hpm, sl_get hpm, show 10 + q * deS l + p % deS l = 10 + p by omega]; exact Ne.symm hd) hA
    rcases Decidable.em (tbA (sl l (10 + q * deS l) (deS l))) with hta | hta
    · rw [(tb_i hta hI).1] at h3; omega
    · rw [(tb_a hta).1] at h3; omega
  refine ⟨hE, h1, h2, ?_, fun c i hc hi => ?_⟩
  · rw [(de_ok hE).2, deD_one (q := q) (deK l) (fun j hj => ⟨fun h e => by subst e; exact bad h, fun h => (good j hj h).1⟩), if_pos hqK]
  · have hkk : i / 32 < deK l := div_lt_K (by rw [h2]; exact hi)
    obtain ⟨o1, o2⟩ := b4 (i / 32) (by omega)
    rw [deR_get hE (by rw [h1]; exact hc) (by rw [h2]; exact hi), deR_get b1 (by rw [b2]; exact hc) (by rw [b3]; exact hi), if_pos o1, o2]
    by_cases h : i / 32 = q
    · rw [if_pos h, h, if_neg bad]
    · rw [if_neg h, if_pos (good _ hkk h).1, (good _ hkk h).2]
end Go.Proofs.Ytmimljaniliecaa
