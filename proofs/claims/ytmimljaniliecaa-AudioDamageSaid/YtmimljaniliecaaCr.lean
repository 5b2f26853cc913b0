/- The cyclic redundancy check, plainly. -/
import Derived.Test.YtmimljaniliecaaBits2
import Derived.Laws.BitsAllLaws
namespace Go.Proofs.Ytmimljaniliecaa.Bt

theorem nat_xor_join (i x y : Nat) (hx : x % 2 ^ i = 0) (hy : y < 2 ^ i) : x ^^^ y = x + y := by
  rw [← nat_join i x y hx hy]
  apply Nat.eq_of_testBit_eq
  intro j
  rw [Nat.testBit_xor, Nat.testBit_or]
  by_cases hj : j < i
  · have : x.testBit j = false := by
      have h := Nat.testBit_mod_two_pow x i j
      rw [hx, Nat.zero_testBit] at h
      simpa [hj] using h.symm
    rw [this]; simp
  · have : y.testBit j = false := Nat.testBit_lt_two_pow (Nat.lt_of_lt_of_le hy (Nat.pow_le_pow_right (by decide) (by omega)))
    rw [this]; simp
/-- a bit of the check -/
def crcBit (r : Nat) : Nat := if 32768 ≤ r then (2 * r % 65536) ^^^ 4129 else 2 * r
def bitN : Nat → Nat → Nat
  | 0, r => r
  | n + 1, r => crcBit (bitN n r)
/-- a byte of it -/
def crcB (r b : Nat) : Nat := bitN 8 (r ^^^ (b * 256))
def crc (l : List Nat) : Nat := l.foldl crcB 65535
theorem xor_lt {a b n : Nat} (ha : a < 2 ^ n) (hb : b < 2 ^ n) : a ^^^ b < 2 ^ n := Nat.xor_lt_two_pow ha hb
theorem crcBit_lt {r : Nat} (h : r < 65536) : crcBit r < 65536 := by
  unfold crcBit
  split
  · exact xor_lt (n := 16) (by omega) (by omega)
  · omega
theorem bitN_lt {r : Nat} (h : r < 65536) (n : Nat) : bitN n r < 65536 := by
  induction n with
  | zero => exact h
  | succ n ih => exact crcBit_lt ih
theorem crcB_lt {r b : Nat} (h : r < 65536) (hb : b < 256) : crcB r b < 65536 := bitN_lt (xor_lt (n := 16) (by omega) (by omega)) 8
theorem foldl_crc_lt (l : List Nat) (hl : ∀ x ∈ l, x < 256) : ∀ r, r < 65536 → l.foldl crcB r < 65536 := by
  induction l with
  | nil => intro r h; exact h
  | cons x l ih => intro r h; rw [List.foldl_cons]; exact ih (fun y hy => hl y (List.mem_cons_of_mem _ hy)) _ (crcB_lt h (hl x (List.mem_cons_self ..)))
theorem crc_lt {l : List Nat} (hl : ∀ x ∈ l, x < 256) : crc l < 65536 := by unfold crc; exact foldl_crc_lt l hl 65535 (by omega)
/-- the table of four bits -/
def crcT : List Nat := [0, 4129, 8258, 12387, 16516, 20645, 24774, 28903, 33032, 37161, 41290, 45419, 49548, 53677, 57806, 61935]
theorem crcT_lt (i : Nat) : crcT.getD i 0 < 65536 := by
  rw [List.getD_eq_getElem?_getD]
  cases e : crcT[i]? with
  | none => decide
  | some x =>
    have : ∀ y ∈ crcT, y < 65536 := by decide +kernel
    simpa using this x (List.mem_of_getElem? e)
def nib (r : Nat) : Nat := (r * 16 % 65536) ^^^ crcT.getD (r / 4096) 0
theorem nib_lt (r : Nat) : nib r < 65536 := xor_lt (n := 16) (by omega) (crcT_lt _)
theorem top_bit {r : Nat} (h : r < 65536) : r.testBit 15 = decide (32768 ≤ r) := by
  rw [Nat.testBit_eq_decide_div_mod_eq]
  by_cases h1 : 32768 ≤ r
  · rw [decide_eq_true h1, decide_eq_true (by omega)]
  · rw [decide_eq_false h1, decide_eq_false (by omega)]
theorem crcBit_eq {r : Nat} (h : r < 65536) : crcBit r = (2 * r % 65536) ^^^ (if r.testBit 15 then 4129 else 0) := by
  unfold crcBit
  rw [top_bit h]
  by_cases h1 : 32768 ≤ r
  · rw [if_pos h1, decide_eq_true h1]; rfl
  · rw [if_neg h1, decide_eq_false h1, if_neg (by decide), Nat.xor_zero, Nat.mod_eq_of_lt (by omega)]
theorem dbl_xor (a b : Nat) : 2 * (a ^^^ b) % 65536 = (2 * a % 65536) ^^^ (2 * b % 65536) := by
  have h : ∀ x : Nat, 2 * x = x <<< 1 := fun x => by rw [Nat.shiftLeft_eq]; omega
  rw [h, h, h, Nat.shiftLeft_xor_distrib]
  exact Nat.xor_mod_two_pow (n := 16)
theorem crcBit_xor {a b : Nat} (ha : a < 65536) (hb : b < 65536) : crcBit (a ^^^ b) = crcBit a ^^^ crcBit b := by
  rw [crcBit_eq ha, crcBit_eq hb, crcBit_eq (xor_lt (n := 16) (by omega) (by omega)), dbl_xor, Nat.testBit_xor]
  generalize 2 * a % 65536 = x
  generalize 2 * b % 65536 = y
  cases a.testBit 15 <;> cases b.testBit 15 <;> simp [Nat.xor_assoc]
  · rw [Nat.xor_comm 4129 y]
  · rw [← Nat.xor_assoc 4129 y 4129, Nat.xor_comm 4129 y, Nat.xor_assoc y, Nat.xor_self, Nat.xor_zero]
theorem bitN_xor {a b : Nat} (ha : a < 65536) (hb : b < 65536) (n : Nat) : bitN n (a ^^^ b) = bitN n a ^^^ bitN n b := by
  induction n with
  | zero => rfl
  | succ n ih => show crcBit (bitN n (a ^^^ b)) = crcBit (bitN n a) ^^^ crcBit (bitN n b); rw [ih, crcBit_xor (bitN_lt ha n) (bitN_lt hb n)]
theorem crcBit_low {r : Nat} (h : r < 32768) : crcBit r = 2 * r := if_neg (by omega)
theorem bit4_low {r : Nat} (h : r < 4096) : bitN 4 r = 16 * r := by
  show crcBit (crcBit (crcBit (crcBit r))) = _
  rw [crcBit_low (r := r) (by omega), crcBit_low (r := 2 * r) (by omega), crcBit_low (r := 2 * (2 * r)) (by omega), crcBit_low (r := 2 * (2 * (2 * r))) (by omega)]
  omega
theorem bit4_high : ((List.range 16).all fun h => bitN 4 (4096 * h) == crcT.getD h 0) = true := by decide +kernel
theorem nib_eq {r : Nat} (h : r < 65536) : nib r = bitN 4 r := by
  have h1 : bitN 4 (4096 * (r / 4096)) = crcT.getD (r / 4096) 0 := by
    have := List.all_eq_true.1 bit4_high (r / 4096) (List.mem_range.2 (by omega))
    simpa using this
  have h2 : r = (4096 * (r / 4096)) ^^^ (r % 4096) := by
    have h3 := nat_xor_join 12 (4096 * (r / 4096)) (r % 4096) (by omega) (by omega)
    rw [h3]; omega
  have h4 : bitN 4 r = bitN 4 (4096 * (r / 4096)) ^^^ bitN 4 (r % 4096) := by
    have := bitN_xor (a := 4096 * (r / 4096)) (b := r % 4096) (by omega) (by omega) 4
    rw [← h2] at this; exact this
  rw [h4, h1, bit4_low (by omega), Nat.xor_comm]
  unfold nib
  rw [show r * 16 % 65536 = 16 * (r % 4096) by omega]
theorem crcB_nib {r b : Nat} (h : r < 65536) (hb : b < 256) : crcB r b = nib (nib (r ^^^ (b * 256))) := by
  have h1 : r ^^^ (b * 256) < 65536 := xor_lt (n := 16) (by omega) (by omega)
  rw [nib_eq (nib_lt _), nib_eq h1]
  simp only [crcB, bitN]
theorem crc_take (l : List Nat) (i : Nat) (h : i < l.length) : (l.take (i + 1)).foldl crcB 65535 = crcB ((l.take i).foldl crcB 65535) (l.getD i 0) := by
  rw [List.take_succ_eq_append_getElem h, List.foldl_append, List.getD_eq_getElem?_getD, List.getElem?_eq_getElem h]
  simp only [List.foldl_cons, List.foldl_nil, Option.getD_some]
end Go.Proofs.Ytmimljaniliecaa.Bt
