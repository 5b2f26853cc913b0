/- More on payloads, plainly: the end mark is the last bit that is set; a payload and its bits. -/
import Derived.Test.YtmimljaniliecaaBits
namespace Go.Proofs.Ytmimljaniliecaa.Bt

theorem tz_spec (k : Nat) : ∀ x, x ≠ 0 → x < 2 ^ k → tz k x < k ∧ x / 2 ^ tz k x % 2 = 1 ∧ ∀ i, i < tz k x → x / 2 ^ i % 2 = 0 := by
  induction k with
  | zero => intro x h0 h; simp at h; omega
  | succ k ih =>
    intro x h0 h
    simp only [tz]
    by_cases h2 : x % 2 = 0
    · rw [if_pos h2]
      have hx : x / 2 < 2 ^ k := by rw [Nat.pow_succ] at h; omega
      obtain ⟨a, b, c⟩ := ih (x / 2) (by omega) hx
      refine ⟨by omega, ?_, ?_⟩
      · rw [Nat.pow_succ, Nat.mul_comm, ← Nat.div_div_eq_div_mul]; exact b
      · intro i hi
        cases i with
        | zero => simpa using h2
        | succ i =>
          rw [Nat.pow_succ, Nat.mul_comm, ← Nat.div_div_eq_div_mul]
          exact c i (by omega)
    · rw [if_neg h2]
      refine ⟨by omega, by simp; omega, fun i hi => by omega⟩

theorem last_lt {p : List Nat} (h : ∀ x ∈ p, x < 256) (i : Nat) : p.getD i 0 < 256 := by
  rw [List.getD_eq_getElem?_getD]
  cases e : p[i]? with
  | none => simp
  | some x => simpa using h x (List.mem_of_getElem? e)

theorem end_bit (p : List Nat) (hp : ∀ x ∈ p, x < 256) (hne : p ≠ []) (hlast : p.getD (p.length - 1) 0 ≠ 0) : bitOf p (endOf p) = 1 ∧ ∀ i, endOf p < i → i < 8 * p.length → bitOf p i = 0 := by
  have hl := List.length_pos_iff.2 hne
  obtain ⟨h1, h2, h3⟩ := tz_spec 8 _ hlast (last_lt hp _)
  refine ⟨?_, ?_⟩
  · have := last_bit p (tz 8 (p.getD (p.length - 1) 0)) h1 hne
    unfold endOf
    rw [this]; exact h2
  · intro i hi hi2
    unfold endOf at hi
    have hk : 8 * p.length - 1 - i < tz 8 (p.getD (p.length - 1) 0) := by omega
    have := last_bit p (8 * p.length - 1 - i) (by omega) hne
    rw [show 8 * p.length - 1 - (8 * p.length - 1 - i) = i by omega] at this
    rw [this]; exact h3 _ hk

theorem end_unique (p : List Nat) (hp : ∀ x ∈ p, x < 256) (hne : p ≠ []) (hlast : p.getD (p.length - 1) 0 ≠ 0) (e : Nat) (he : e < 8 * p.length) (h1 : bitOf p e = 1) (h0 : ∀ i, e < i → i < 8 * p.length → bitOf p i = 0) : endOf p = e := by
  obtain ⟨a, b⟩ := end_bit p hp hne hlast
  have hlt := endOf_lt p hne
  rcases Nat.lt_trichotomy (endOf p) e with h | h | h
  · have := b e h he; omega
  · exact h
  · have := h0 _ h hlt; omega

/-- a byte out of its bits -/
theorem byte_bits (x : Nat) (h : x < 256) : x / 2 ^ 7 % 2 * 128 + x / 2 ^ 6 % 2 * 64 + x / 2 ^ 5 % 2 * 32 + x / 2 ^ 4 % 2 * 16 + x / 2 ^ 3 % 2 * 8 + x / 2 ^ 2 % 2 * 4 + x / 2 ^ 1 % 2 * 2 + x / 2 ^ 0 % 2 = x := by
  simp only [show 2 ^ 7 = 128 from rfl, show 2 ^ 6 = 64 from rfl, show 2 ^ 5 = 32 from rfl, show 2 ^ 4 = 16 from rfl, show 2 ^ 3 = 8 from rfl, show 2 ^ 2 = 4 from rfl, show 2 ^ 1 = 2 from rfl, show 2 ^ 0 = 1 from rfl]
  omega

theorem packed_of_bits (L p : List Nat) (hp : ∀ x ∈ p, x < 256) (hlen : (L.length + 7) / 8 = p.length) (h : ∀ i, i < 8 * p.length → L.getD i 0 = bitOf p i) : packed L = p := by
  apply List.ext_getElem?
  intro j
  unfold packed
  rw [List.getElem?_map, hlen]
  by_cases hj : j < p.length
  · rw [List.getElem?_range hj, List.getElem?_eq_getElem hj, Option.map_some]
    congr 1
    unfold byteAt
    rw [h (8*j) (by omega), h (8*j+1) (by omega), h (8*j+2) (by omega), h (8*j+3) (by omega), h (8*j+4) (by omega), h (8*j+5) (by omega), h (8*j+6) (by omega), h (8*j+7) (by omega)]
    have hg : p.getD j 0 = p[j] := by rw [List.getD_eq_getElem?_getD, List.getElem?_eq_getElem hj]; rfl
    have hb : ∀ r, r < 8 → bitOf p (8 * j + r) = p[j] / 2 ^ (7 - r) % 2 := by
      intro r hr
      unfold bitOf
      rw [show (8 * j + r) / 8 = j by omega, show (8 * j + r) % 8 = r by omega, hg]
    have h0 := hb 0 (by omega); have h1 := hb 1 (by omega); have h2 := hb 2 (by omega); have h3 := hb 3 (by omega); have h4 := hb 4 (by omega); have h5 := hb 5 (by omega); have h6 := hb 6 (by omega); have h7 := hb 7 (by omega)
    rw [Nat.add_zero] at h0
    rw [h0, h1, h2, h3, h4, h5, h6, h7]
    exact byte_bits _ (hp _ (List.getElem_mem hj))
  · rw [List.getElem?_eq_none (by simpa using hj), List.getElem?_eq_none (by omega)]; rfl

/-- a payload that is accepted is the one of its bits -/
theorem payload_unpack (p : List Nat) (hp : ∀ x ∈ p, x < 256) (hne : p ≠ []) (hlast : p.getD (p.length - 1) 0 ≠ 0) : payload ((unpack p).take (endOf p)) = p := by
  have hl := List.length_pos_iff.2 hne
  have hlt := endOf_lt p hne
  obtain ⟨h1, h0⟩ := end_bit p hp hne hlast
  obtain ⟨ht, _, _⟩ := tz_spec 8 _ hlast (last_lt hp _)
  have hge : 8 * p.length - 8 ≤ endOf p := by unfold endOf; omega
  have hlen : ((unpack p).take (endOf p)).length = endOf p := by rw [List.length_take, unpack_length]; omega
  refine packed_of_bits _ p hp (by rw [List.length_append, hlen, List.length_singleton]; omega) ?_
  intro i hi
  rw [getD_snoc, hlen]
  by_cases h : i < endOf p
  · rw [if_pos h, List.getD_eq_getElem?_getD, List.getElem?_take, if_pos h, ← List.getD_eq_getElem?_getD, unpack_getD p i hi]
  · rw [if_neg h]
    by_cases e : i = endOf p
    · rw [if_pos e, e, h1]
    · rw [if_neg e, h0 i (by omega) hi]

theorem payload_length (l : List Nat) : (payload l).length = l.length / 8 + 1 := by
  unfold payload
  rw [packed_length, List.length_append, List.length_singleton]
  omega

theorem payload_last (l : List Nat) (h : Bin l) : (payload l).getD ((payload l).length - 1) 0 ≠ 0 := by
  have hb : Bin (l ++ [1]) := bin_append h (by intro y hy; simp at hy; omega)
  have h1 := bitOf_packed hb l.length
  rw [getD_snoc, if_neg (by omega), if_pos rfl] at h1
  rw [payload_length]
  intro h0
  unfold bitOf at h1
  unfold payload at h0
  rw [show l.length / 8 + 1 - 1 = l.length / 8 by omega] at h0
  rw [h0] at h1
  simp at h1

theorem payload_ne (l : List Nat) : payload l ≠ [] := by
  intro h
  have := payload_length l
  rw [h] at this; simp at this

theorem end_payload (l : List Nat) (h : Bin l) : endOf (payload l) = l.length := by
  have hb : Bin (l ++ [1]) := bin_append h (by intro y hy; simp at hy; omega)
  refine end_unique _ (payload_lt l h) (payload_ne l) (payload_last l h) _ (by rw [payload_length]; omega) ?_ ?_
  · unfold payload
    rw [bitOf_packed hb, getD_snoc, if_neg (by omega), if_pos rfl]
  · intro i hi _
    unfold payload
    rw [bitOf_packed hb, getD_snoc, if_neg (by omega), if_neg (by omega)]

theorem take_payload (l : List Nat) (h : Bin l) : (unpack (payload l)).take l.length = l := by
  have hb : Bin (l ++ [1]) := bin_append h (by intro y hy; simp at hy; omega)
  apply List.ext_getElem?
  intro i
  rw [List.getElem?_take, unpack_get?]
  by_cases hi : i < l.length
  · rw [if_pos hi, if_pos (by rw [payload_length]; omega)]
    unfold payload
    rw [bitOf_packed hb, getD_snoc, if_pos hi, List.getD_eq_getElem?_getD, List.getElem?_eq_getElem hi]
    rfl
  · rw [if_neg hi, List.getElem?_eq_none (by omega)]

theorem bitsOf_one (v : Nat) (h : v ≤ 1) : bitsOf v 1 = [v] := by
  simp [bitsOf]; omega

end Go.Proofs.Ytmimljaniliecaa.Bt
