/- How many bits a number has. -/
import Derived.Test.YtmimljaniliecaaObj
import Derived.Test.YtmimljaniliecaaVp
import Derived.Test.YtmimljaniliecaaU
namespace Go.Proofs.Ytmimljaniliecaa
open Go.RowKit Bt

theorem wrap_u8 {e : Int} (h : 0 ≤ e ∧ e ≤ 255) : IntKind.u8.wrap e = e := by
  simp only [IntKind.wrap, IntKind.bits, IntKind.signed]
  simp
  omega
theorem wrap_u32 {e : Int} (h : 0 ≤ e ∧ e ≤ 4294967295) : IntKind.u32.wrap e = e := by
  simp only [IntKind.wrap, IntKind.bits, IntKind.signed]
  simp
  omega
theorem i64_or_nat (a b : Nat) (ha : a < 4611686018427387904) (hb : b < 4611686018427387904) : bits .or .i64 (a : Int) (b : Int) = ((a ||| b : Nat) : Int) := by
  have hx : a ||| b < 2 ^ 62 := Nat.or_lt_two_pow (by omega) (by omega)
  show IntKind.i64.wrap ((BitVec.ofInt 64 (a : Int) ||| BitVec.ofInt 64 (b : Int)).toNat : Int) = _
  have h64 : ∀ x : Nat, x < 4611686018427387904 → (BitVec.ofInt 64 (x : Int)).toNat = x := fun x hx => by
    rw [BitVec.ofInt_natCast, BitVec.toNat_ofNat]; exact Nat.mod_eq_of_lt (by omega)
  rw [BitVec.toNat_or, h64 a ha, h64 b hb]
  exact i64_wrap (by omega)
/-- how many bits a number has -/
def lenN (x : Nat) : Nat := if x = 0 then 0 else x.log2 + 1
theorem lenN_pos (v : Nat) : lenN (v + 1) = kOf v + 1 := by unfold lenN kOf; rw [if_neg (by omega)]
theorem lenN_le {x : Nat} (h : x < 256) : lenN x ≤ 8 := by
  unfold lenN
  split
  · omega
  · have h1 := Nat.log2_self_le (n := x) (by omega)
    rcases Nat.lt_or_ge x.log2 8 with h2 | h2
    · omega
    · have : 2 ^ 8 ≤ 2 ^ x.log2 := Nat.pow_le_pow_right (by decide) h2
      omega
theorem lenN_div {x : Nat} (h : 256 ≤ x) : lenN x = 8 + lenN (x / 256) := by
  obtain ⟨v, rfl⟩ : ∃ v, x = v + 1 := ⟨x - 1, by omega⟩
  obtain ⟨u, hu⟩ : ∃ u, (v + 1) / 256 = u + 1 := ⟨(v + 1) / 256 - 1, by omega⟩
  rw [hu, lenN_pos, lenN_pos]
  obtain ⟨h1, h2⟩ := kOf_spec u
  have e : kOf v = kOf u + 8 := by
    apply kOf_of
    · rw [Nat.pow_add]; omega
    · rw [show kOf u + 8 + 1 = (kOf u + 1) + 8 by omega, Nat.pow_add]; omega
  omega
/-- the table of the lengths of bytes -/
def lenTab : ByteArray := ⟨((List.range 256).map fun n => UInt8.ofNat (lenN n)).toArray⟩
theorem lenTab_at (n : Nat) (h : n < 256) : lenTab[n]? = some (UInt8.ofNat (lenN n)) := by
  have hs : n < lenTab.size := by show n < (((List.range 256).map fun n => UInt8.ofNat (lenN n)).toArray).size; simpa using h
  rw [getElem?_pos lenTab n hs]
  congr 1
  have hd : lenTab.data = ((List.range 256).map fun n => UInt8.ofNat (lenN n)).toArray := rfl
  have h2 : lenTab[n] = lenTab.data[n]'hs := rfl
  rw [h2]
  simp only [hd]
  simp
theorem lenTab_val (n : Nat) (h : n < 256) : (((UInt8.ofNat (lenN n)).toNat : Nat) : Int) = ((lenN n : Nat) : Int) := by
  have := lenN_le h
  rw [UInt8.toNat_ofNat', Nat.mod_eq_of_lt (by omega)]
theorem wrap_kz (k : Nat) (h : k ≤ 16) : IntKind.i64.wrap (2 * 2 ^ k) = ((2 ^ (k + 1) : Nat) : Int) := by
  have h1 : (2 : Nat) ^ k ≤ 2 ^ 16 := Nat.pow_le_pow_right (by decide) h
  have e : (2 : Int) * 2 ^ k = ((2 ^ (k + 1) : Nat) : Int) := by rw [Nat.pow_succ, Int.natCast_mul, Int.natCast_pow, Int.mul_comm]; rfl
  rw [e]
  apply i64_wrap
  rw [Nat.pow_succ]
  generalize (2 : Nat) ^ k = z at *
  omega
theorem wrap_k1 (k : Nat) (h : k ≤ 16) : IntKind.i64.wrap (1 * 2 ^ k) = ((2 ^ k : Nat) : Int) := by
  have h1 : (2 : Nat) ^ k ≤ 2 ^ 16 := Nat.pow_le_pow_right (by decide) h
  have e : (1 : Int) * 2 ^ k = ((2 ^ k : Nat) : Int) := by rw [Int.one_mul, Int.natCast_pow]; rfl
  rw [e]
  apply i64_wrap
  generalize (2 : Nat) ^ k = z at *
  omega
theorem or_low (k r : Nat) (hk : k ≤ 16) (hr : r < 2 ^ k) : bits .or .i64 ((2 ^ k : Nat) : Int) (r : Int) = ((2 ^ k + r : Nat) : Int) := by
  have h1 : (2 : Nat) ^ k ≤ 2 ^ 16 := Nat.pow_le_pow_right (by decide) hk
  rw [i64_or_nat _ _ (by omega) (by omega), nat_join k _ _ (by rw [Nat.mod_self]) hr]
end Go.Proofs.Ytmimljaniliecaa
