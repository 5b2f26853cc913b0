/- Laws of decoded sound: lemmas. -/
import Derived.Test.YtmimljaniliecaaDb
import Derived.Test.YtmimljaniliecaaBh
import Derived.Test.YtmimljaniliecaaBb
namespace Go.Proofs.Ytmimljaniliecaa
open Go.RowKit Bt

theorem enL_le (ls : List (List Int)) : (enL ls).length ≤ 10 + 151 * (((ls.getD 0 []).length + 31) / 32) := by
  rcases Classical.em (PP ls) with h | h
  · rw [(en_t h).1, List.length_append, hdL_len]; have := enB_len ls (((ls.getD 0 []).length + 31) / 32); omega
  · rw [(en_f h).1]; exact Nat.zero_le _
theorem cut_rdk {w : World} {A : Option Addr} {c q : Nat} {l : List Int} (h : RdK w (.slice A l.length c) l.length (i16s l)) (hq : q ≤ l.length) : RdK w (.slice (subA A c q) ((l.drop q).take 32).length (c - q)) ((l.drop q).take 32).length (i16s ((l.drop q).take 32)) := by
  have hl : ((l.drop q).take 32).length = min 32 (l.length - q) := by rw [List.length_take, List.length_drop]
  have h2 := rdk_sub h (i16s_length _) h.cap (lo := q) (hi := q + ((l.drop q).take 32).length) (by omega) (by omega)
  rw [Nat.add_sub_cancel_left, i16s_cut, take_len] at h2
  exact h2
theorem en_long {ls : List (List Int)} (hP : PP ls) : 10 ≤ (enL ls).length ∧ (0 < (ls.getD 0 []).length → 10 < (enL ls).length) := by
  obtain ⟨he, hn, _⟩ := en_facts hP
  obtain ⟨_, h2, hG, _⟩ := head_facts hP he
  have hS := (de_bnd hG).2.1
  refine ⟨by omega, fun h => ?_⟩
  have hK : 1 ≤ deK (enL ls) := by unfold deK; omega
  have := Nat.mul_le_mul hK hS
  omega
theorem bin_quoN {P : Program} {w : World} {t : TypeId} {a b : Nat} (ha : a ≤ 9223372036854775807) (hb : 0 < b) : (binOp .quo t (.int .i64 ((a : Nat) : Int)) (.int .i64 ((b : Nat) : Int))).run P w = .ok (.int .i64 ((a / b : Nat) : Int)) w := by
  rw [binOp_quo]
  unfold Op.intDiv
  rw [if_neg (by omega)]
  show (pure (Value.int .i64 (IntKind.i64.wrap (Int.tdiv (a : Int) (b : Int)))) : Sem Value).run P w = _
  rw [quo_nat a b ha hb]
  rfl
theorem bin_remN {P : Program} {w : World} {t : TypeId} {a b : Nat} (hb : 0 < b) : (binOp .rem t (.int .i64 ((a : Nat) : Int)) (.int .i64 ((b : Nat) : Int))).run P w = .ok (.int .i64 ((a % b : Nat) : Int)) w := by
  rw [binOp_rem]
  unfold Op.intDiv
  rw [if_neg (by omega)]
  show (pure (Value.int .i64 (Int.tmod (a : Int) (b : Int))) : Sem Value).run P w = _
  rw [rem_nat a b]
  rfl
theorem sl_zero (l : List Nat) (n : Nat) : sl l 0 (n - 0) = l.take n := by unfold sl; rw [List.drop_zero, Nat.sub_zero]
theorem bsz_n {n : Nat} (h : 1 ≤ n ∧ n ≤ 4) : bsz (n : Int) = ((292 * n / 8 + 5 : Nat) : Int) := by rw [bsz_v h]; omega
theorem wf_u8 {n : Int} (h : (Lit.int .u8 n).wf = true) : 0 ≤ n ∧ n ≤ 255 := by
  simpa [Lit.wf, IntKind.min, IntKind.max, IntKind.signed, IntKind.bits] using h
theorem u8_xor_nat (a b : Nat) (ha : a < 256) (hb : b < 256) : bits .xor .u8 (a : Int) (b : Int) = ((a ^^^ b : Nat) : Int) := by
  have hx : a ^^^ b < 2 ^ 8 := Nat.xor_lt_two_pow (by omega) (by omega)
  show IntKind.u8.wrap ((BitVec.ofInt 8 (a : Int) ^^^ BitVec.ofInt 8 (b : Int)).toNat : Int) = _
  have h64 : ∀ x : Nat, x < 256 → (BitVec.ofInt 8 (x : Int)).toNat = x := fun x hx => by
    rw [BitVec.ofInt_natCast, BitVec.toNat_ofNat]; exact Nat.mod_eq_of_lt (by omega)
  rw [BitVec.toNat_xor, h64 a ha, h64 b hb, wrap_u8m]
  rw [Nat.mod_eq_of_lt (by omega)]
theorem u8s_setJ (l : List Nat) (j x : Nat) : (u8s l).set (j * 1 + 0) (.int .u8 ((x : Nat) : Int)) = u8s (l.set j x) := by
  rw [Nat.mul_one, Nat.add_zero]
  simp [u8s, List.map_set]
theorem set_lt {l : List Nat} (h : ∀ x ∈ l, x < 256) (i : Nat) {y : Nat} (hy : y < 256) : ∀ x ∈ l.set i y, x < 256 := by
  intro x hx
  rcases List.mem_or_eq_of_mem_set hx with hx | rfl
  · exact h x hx
  · exact hy
theorem xor_ne {a b : Nat} (h : b ≠ 0) : a ^^^ b ≠ a := by
  intro e
  have := xor_zero (a := a ^^^ b) (b := a) (by rw [e, Nat.xor_self])
  have h2 : (a ^^^ b) ^^^ a = b := by rw [Nat.xor_comm a b, Nat.xor_assoc, Nat.xor_self, Nat.xor_zero]
  rw [this, Nat.xor_self] at h2
  exact h h2.symm
theorem set_facts {ls : List (List Int)} {p bb : Nat} (hp : 10 + p < (enL ls).length) (hb : bb < 256) (h0 : bb ≠ 0) : (enL ls).getD (10 + p) 0 ^^^ bb < 256 ∧ (∀ i, i ≠ 10 + p → ((enL ls).set (10 + p) ((enL ls).getD (10 + p) 0 ^^^ bb)).getD i 0 = (enL ls).getD i 0) ∧ ((enL ls).set (10 + p) ((enL ls).getD (10 + p) 0 ^^^ bb)).getD (10 + p) 0 ≠ (enL ls).getD (10 + p) 0 := by
  have h1 := getD_b (enL_lt ls) (10 + p)
  refine ⟨xor_lt (n := 8) (by omega) (by omega), fun i hi => ?_, ?_⟩
  · rw [List.getD_eq_getElem?_getD, List.getElem?_set_ne (Ne.symm hi), ← List.getD_eq_getElem?_getD]
  · rw [List.getD_eq_getElem?_getD, List.getElem?_set_self hp, Option.getD_some]
    exact xor_ne h0
theorem S16_cut {l : List Int} (h : S16 l) (q : Nat) : S16 ((l.drop q).take 32) := fun x hx => h x (List.mem_of_mem_drop (List.mem_of_mem_take hx))
end Go.Proofs.Ytmimljaniliecaa
