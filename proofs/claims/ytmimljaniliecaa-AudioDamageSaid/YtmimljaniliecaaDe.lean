/- The blocks of coded sound. -/
import Derived.Test.YtmimljaniliecaaBg
namespace Go.Proofs.Ytmimljaniliecaa
open Go.RowKit Bt

theorem sl_sl {l : List Nat} {a b n m : Nat} (h : b + m ≤ n) : sl (sl l a n) b m = sl l (a + b) m := by
  unfold sl
  rw [List.drop_take, List.take_take, List.drop_drop, Nat.min_eq_left (by omega)]
theorem int_same {l : List Nat} (h : 10 ≤ l.length) : decide (sl l 0 (10 - 0) = summedB (sl l 0 (8 - 0))) = intB (sl l 0 (10 - 0)) := by
  unfold intB
  rw [sl_len (l := l) (lo := 0) (n := 10 - 0) (by omega), sl_sl (by omega)]
theorem de_bnd {l : List Nat} (hG : deG l) : bsz ((deC l : Nat) : Int) = ((deS l : Nat) : Int) ∧ 41 ≤ deS l ∧ deS l ≤ 151 := by
  have hbz := bsz_v hG.2.1
  have hC := hG.2.1
  have hdS : bsz ((deC l : Nat) : Int) = ((deS l : Nat) : Int) := (by unfold deS; omega)
  exact ⟨hdS, by omega, by omega⟩
/-- the bytes of block k -/
abbrev deX (l : List Nat) (k : Nat) : List Nat := sl l (10 + k * deS l) (10 + k * deS l + deS l - (10 + k * deS l))
theorem de_part {l : List Nat} (hG : deG l) (k : Nat) (h : 10 + k * deS l + deS l ≤ l.length) : sl (deB l k) 0 ((bsz ((deC l : Nat) : Int)).toNat - 0) = deX l k ∧ (deB l k).length = l.length - 10 - k * deS l := by
  obtain ⟨hb, h1, h2⟩ := de_bnd hG
  rw [hb, Int.toNat_natCast]
  unfold deB
  have hat : deAt l k = k * deS l := Nat.min_eq_left (by omega)
  refine ⟨?_, ?_⟩
  · rw [hat, sl_sl (by omega), sl_sl (by omega), Nat.add_zero, Nat.sub_zero]
    unfold deX
    rw [show 10 + k * deS l + deS l - (10 + k * deS l) = deS l by omega]
  · rw [hat, sl_len (by rw [sl_len (by omega)]; omega)]
theorem de_block {l : List Nat} (hG : deG l) (h10 : 10 ≤ l.length) {k : Nat} : deOk l k ↔ (10 + k * deS l + deS l ≤ l.length ∧ tbE (deX l k) = 0 ∧ (tbL (deX l k)).length = deC l ∧ ((tbL (deX l k)).getD 0 []).length = deW l k) := by
  obtain ⟨hb, h1, h2⟩ := de_bnd hG
  rcases Nat.lt_or_ge l.length (10 + k * deS l + deS l) with h | h
  · constructor
    · intro hk
      have h3 := hk.1
      rw [hb] at h3
      have h4 : (deB l k).length = l.length - 10 - deAt l k := by
        unfold deB
        have : deAt l k ≤ l.length - 10 := Nat.min_le_right _ _
        rw [sl_len (by rw [sl_len (by omega)]; omega)]
      have h5 : deAt l k = min (k * deS l) (l.length - 10) := rfl
      omega
    · intro hk; omega
  · obtain ⟨e1, e2⟩ := de_part hG k h
    show whB _ _ _ ↔ _
    unfold whB
    rw [e1, e2, hb]
    constructor
    · intro hk; exact ⟨h, hk.2⟩
    · intro hk; exact ⟨by omega, hk.2⟩
theorem de_blockL {l : List Nat} (hG : deG l) (h10 : 10 ≤ l.length) {k : Nat} (h : deOk l k) : whL (deB l k) (deC l) (deW l k) = tbL (deX l k) := by
  have h1 := ((de_block hG h10).1 h).1
  rw [wh_t h, (de_part hG k h1).1]
end Go.Proofs.Ytmimljaniliecaa
