/- Bits and payloads, plainly: no program in it. -/
namespace Go.Proofs.Ytmimljaniliecaa.Bt

/-- bit i (from the most significant of n) of v -/
def bitsOf (v n : Nat) : List Nat := (List.range n).map fun i => v / 2 ^ (n - 1 - i) % 2

def byteAt (l : List Nat) (j : Nat) : Nat :=
  l.getD (8*j) 0 * 128 + l.getD (8*j+1) 0 * 64 + l.getD (8*j+2) 0 * 32 + l.getD (8*j+3) 0 * 16 +
  l.getD (8*j+4) 0 * 8 + l.getD (8*j+5) 0 * 4 + l.getD (8*j+6) 0 * 2 + l.getD (8*j+7) 0

def packed (l : List Nat) : List Nat := (List.range ((l.length + 7) / 8)).map (byteAt l)

def payload (l : List Nat) : List Nat := packed (l ++ [1])

def Bin (l : List Nat) : Prop := ∀ x ∈ l, x ≤ 1

theorem bin_getD {l : List Nat} (h : Bin l) (i : Nat) : l.getD i 0 ≤ 1 := by
  rw [List.getD_eq_getElem?_getD]
  cases e : l[i]? with
  | none => simp
  | some x => simpa using h x (List.mem_of_getElem? e)

theorem bitsOf_length (v n : Nat) : (bitsOf v n).length = n := by simp [bitsOf]
theorem bitsOf_bin (v n : Nat) : Bin (bitsOf v n) := by
  intro x hx
  simp only [bitsOf, List.mem_map] at hx
  obtain ⟨i, _, rfl⟩ := hx
  omega

theorem bin_append {l m : List Nat} (h : Bin l) (k : Bin m) : Bin (l ++ m) := by
  intro x hx
  rcases List.mem_append.1 hx with hx | hx
  · exact h x hx
  · exact k x hx

theorem packed_length (l : List Nat) : (packed l).length = (l.length + 7) / 8 := by simp [packed]

theorem byteAt_lt {l : List Nat} (h : Bin l) (j : Nat) : byteAt l j < 256 := by
  have := fun i => bin_getD h i
  unfold byteAt
  have h0 := this (8*j); have h1 := this (8*j+1); have h2 := this (8*j+2); have h3 := this (8*j+3)
  have h4 := this (8*j+4); have h5 := this (8*j+5); have h6 := this (8*j+6); have h7 := this (8*j+7)
  omega

theorem getD_snoc (l : List Nat) (b i : Nat) : (l ++ [b]).getD i 0 = if i < l.length then l.getD i 0 else if i = l.length then b else 0 := by
  simp only [List.getD_eq_getElem?_getD, List.getElem?_append]
  by_cases h : i < l.length
  · simp [h]
  · by_cases e : i = l.length
    · simp [e]
    · simp [h, e]
      rw [List.getElem?_eq_none (by simp; omega)]
      rfl

theorem payload_lt (l : List Nat) (h : Bin l) : ∀ x ∈ payload l, x < 256 := by
  intro x hx
  have hb : Bin (l ++ [1]) := bin_append h (by intro y hy; simp at hy; omega)
  simp only [payload, packed, List.mem_map] at hx
  obtain ⟨j, _, rfl⟩ := hx
  exact byteAt_lt hb j

theorem getD_past (l : List Nat) (i : Nat) (h : l.length ≤ i) : l.getD i 0 = 0 := by
  rw [List.getD_eq_getElem?_getD, List.getElem?_eq_none h]; rfl

/-- a bit more: the byte at its place -/
theorem byteAt_snoc (l : List Nat) (b j : Nat) : byteAt (l ++ [b]) j = if l.length / 8 = j then byteAt l j + b * 2 ^ (7 - l.length % 8) else byteAt l j := by
  unfold byteAt
  simp only [getD_snoc]
  by_cases h : l.length / 8 = j
  · rw [if_pos h]
    have hp : ∀ i, l.length ≤ i → l.getD i 0 = 0 := getD_past l
    have hr : l.length % 8 < 8 := Nat.mod_lt _ (by decide)
    have hl : l.length = 8 * j + l.length % 8 := by omega
    generalize l.length % 8 = r at *
    rw [hl] at hp ⊢
    match r, hr with
    | 0, _ => rw [hp (8*j) (by omega), hp (8*j+1) (by omega), hp (8*j+2) (by omega), hp (8*j+3) (by omega), hp (8*j+4) (by omega), hp (8*j+5) (by omega), hp (8*j+6) (by omega), hp (8*j+7) (by omega)]; simp
    | 1, _ => rw [hp (8*j+1) (by omega), hp (8*j+2) (by omega), hp (8*j+3) (by omega), hp (8*j+4) (by omega), hp (8*j+5) (by omega), hp (8*j+6) (by omega), hp (8*j+7) (by omega)]; simp
    | 2, _ => rw [hp (8*j+2) (by omega), hp (8*j+3) (by omega), hp (8*j+4) (by omega), hp (8*j+5) (by omega), hp (8*j+6) (by omega), hp (8*j+7) (by omega)]; simp
    | 3, _ => rw [hp (8*j+3) (by omega), hp (8*j+4) (by omega), hp (8*j+5) (by omega), hp (8*j+6) (by omega), hp (8*j+7) (by omega)]; simp
    | 4, _ => rw [hp (8*j+4) (by omega), hp (8*j+5) (by omega), hp (8*j+6) (by omega), hp (8*j+7) (by omega)]; simp
    | 5, _ => rw [hp (8*j+5) (by omega), hp (8*j+6) (by omega), hp (8*j+7) (by omega)]; simp
    | 6, _ => rw [hp (8*j+6) (by omega), hp (8*j+7) (by omega)]; simp
    | 7, _ => rw [hp (8*j+7) (by omega)]; simp
  · rw [if_neg h]
    have hp : ∀ i, l.length < i → l.getD i 0 = 0 := fun i hi => getD_past l i (by omega)
    by_cases hlt : l.length / 8 < j
    · have g : ∀ i, i < 8 → ¬ (8 * j + i < l.length) ∧ ¬ (8 * j + i = l.length) := fun i hi => by omega
      have g0 := g 0 (by omega); have g1 := g 1 (by omega); have g2 := g 2 (by omega); have g3 := g 3 (by omega)
      have g4 := g 4 (by omega); have g5 := g 5 (by omega); have g6 := g 6 (by omega); have g7 := g 7 (by omega)
      simp only [Nat.add_zero] at g0
      simp only [g0, g1, g2, g3, g4, g5, g6, g7, if_false]
      rw [hp (8*j) (by omega), hp (8*j+1) (by omega), hp (8*j+2) (by omega), hp (8*j+3) (by omega), hp (8*j+4) (by omega), hp (8*j+5) (by omega), hp (8*j+6) (by omega), hp (8*j+7) (by omega)]
    · have g : ∀ i, i < 8 → (8 * j + i < l.length) := fun i hi => by omega
      have g0 := g 0 (by omega); have g1 := g 1 (by omega); have g2 := g 2 (by omega); have g3 := g 3 (by omega)
      have g4 := g 4 (by omega); have g5 := g 5 (by omega); have g6 := g 6 (by omega); have g7 := g 7 (by omega)
      simp only [Nat.add_zero] at g0
      simp only [g0, g1, g2, g3, g4, g5, g6, g7, if_true]

/-- the open byte has no bits behind the length -/
theorem byteAt_low (l : List Nat) : byteAt l (l.length / 8) % 2 ^ (8 - l.length % 8) = 0 := by
  have hp : ∀ i, l.length ≤ i → l.getD i 0 = 0 := getD_past l
  have hr : l.length % 8 < 8 := Nat.mod_lt _ (by decide)
  unfold byteAt
  have hl : l.length = 8 * (l.length / 8) + l.length % 8 := by omega
  generalize l.length % 8 = r at *
  generalize l.length / 8 = j at *
  rw [hl] at hp
  match r, hr with
  | 0, _ => rw [hp (8*j) (by omega), hp (8*j+1) (by omega), hp (8*j+2) (by omega), hp (8*j+3) (by omega), hp (8*j+4) (by omega), hp (8*j+5) (by omega), hp (8*j+6) (by omega), hp (8*j+7) (by omega)]
  | 1, _ => rw [hp (8*j+1) (by omega), hp (8*j+2) (by omega), hp (8*j+3) (by omega), hp (8*j+4) (by omega), hp (8*j+5) (by omega), hp (8*j+6) (by omega), hp (8*j+7) (by omega)]; simp <;> omega
  | 2, _ => rw [hp (8*j+2) (by omega), hp (8*j+3) (by omega), hp (8*j+4) (by omega), hp (8*j+5) (by omega), hp (8*j+6) (by omega), hp (8*j+7) (by omega)]; simp <;> omega
  | 3, _ => rw [hp (8*j+3) (by omega), hp (8*j+4) (by omega), hp (8*j+5) (by omega), hp (8*j+6) (by omega), hp (8*j+7) (by omega)]; simp <;> omega
  | 4, _ => rw [hp (8*j+4) (by omega), hp (8*j+5) (by omega), hp (8*j+6) (by omega), hp (8*j+7) (by omega)]; simp <;> omega
  | 5, _ => rw [hp (8*j+5) (by omega), hp (8*j+6) (by omega), hp (8*j+7) (by omega)]; simp <;> omega
  | 6, _ => rw [hp (8*j+6) (by omega), hp (8*j+7) (by omega)]; simp <;> omega
  | 7, _ => rw [hp (8*j+7) (by omega)]; simp <;> omega

theorem packed_getD (l : List Nat) (j : Nat) : (packed l).getD j 0 = if j < (l.length + 7) / 8 then byteAt l j else 0 := by
  unfold packed
  rw [List.getD_eq_getElem?_getD, List.getElem?_map]
  by_cases h : j < (l.length + 7) / 8
  · rw [List.getElem?_range h, if_pos h]; rfl
  · rw [List.getElem?_eq_none (by simp; omega), if_neg h]; rfl

theorem byteAt_past (l : List Nat) (j : Nat) (h : l.length ≤ 8 * j) : byteAt l j = 0 := by
  unfold byteAt
  rw [getD_past l _ h, getD_past l _ (by omega), getD_past l _ (by omega), getD_past l _ (by omega), getD_past l _ (by omega), getD_past l _ (by omega), getD_past l _ (by omega), getD_past l _ (by omega)]

/-- one bit more, where a byte is open -/
theorem packed_snoc_open (l : List Nat) (b : Nat) (h : l.length % 8 ≠ 0) :
    packed (l ++ [b]) = (packed l).set (l.length / 8) (byteAt l (l.length / 8) + b * 2 ^ (7 - l.length % 8)) := by
  apply List.ext_getElem?
  intro j
  rw [List.getElem?_set]
  unfold packed
  rw [List.getElem?_map, List.getElem?_map, List.length_map, List.length_range]
  have hlen : ((l ++ [b]).length + 7) / 8 = (l.length + 7) / 8 := by simp; omega
  rw [hlen]
  by_cases hj : j < (l.length + 7) / 8
  · rw [List.getElem?_range hj]
    simp only [Option.map_some, byteAt_snoc]
    by_cases e : l.length / 8 = j
    · rw [if_pos e, if_pos e, if_pos (by omega), e]
    · rw [if_neg e, if_neg e]
  · rw [List.getElem?_eq_none (by simp; omega), if_neg (by omega)]
    rfl

/-- one bit more, where a byte must be begun -/
theorem packed_snoc_new (l : List Nat) (b : Nat) (h : l.length % 8 = 0) : packed (l ++ [b]) = packed l ++ [b * 128] := by
  unfold packed
  have hlen : ((l ++ [b]).length + 7) / 8 = (l.length + 7) / 8 + 1 := by simp; omega
  have h8 : (l.length + 7) / 8 = l.length / 8 := by omega
  rw [hlen, List.range_succ, List.map_append, h8]
  congr 1
  · apply List.map_congr_left
    intro j hj
    have := List.mem_range.1 hj
    rw [byteAt_snoc, if_neg (by omega)]
  · simp only [List.map_cons, List.map_nil]
    rw [byteAt_snoc, if_pos rfl, h, byteAt_past l _ (by omega)]
    simp



/-! ### the reference's way: a row of zeros into which the bits are put -/
def pcs (L : List Nat) (m i : Nat) : List Nat := (List.range m).map (byteAt (L.take i))
theorem pcs_length (L : List Nat) (m i : Nat) : (pcs L m i).length = m := by simp [pcs]
theorem pcs_zero (L : List Nat) (m : Nat) : pcs L m 0 = List.replicate m 0 := by
  unfold pcs
  apply List.ext_getElem?
  intro j
  rw [List.getElem?_map, List.getElem?_replicate]
  by_cases h : j < m
  · rw [List.getElem?_range h, if_pos h]; simp [byteAt]
  · rw [List.getElem?_eq_none (by simpa using h), if_neg h]; rfl
theorem take_snoc' (L : List Nat) (i : Nat) (h : i < L.length) : L.take (i + 1) = L.take i ++ [L.getD i 0] := by
  rw [List.take_succ_eq_append_getElem h, List.getD_eq_getElem?_getD, List.getElem?_eq_getElem h]; rfl
theorem pcs_getD (L : List Nat) (m i j : Nat) (h : j < m) : (pcs L m i)[j]? = some (byteAt (L.take i) j) := by
  unfold pcs
  rw [List.getElem?_map, List.getElem?_range h]; rfl
theorem pcs_step0 (L : List Nat) (m i : Nat) (h : i < L.length) (h0 : L.getD i 0 = 0) : pcs L m (i + 1) = pcs L m i := by
  unfold pcs
  apply List.map_congr_left
  intro j _
  rw [take_snoc' L i h, byteAt_snoc, h0]
  simp
theorem pcs_step1 (L : List Nat) (m i : Nat) (h : i < L.length) (h0 : L.getD i 0 = 1) : pcs L m (i + 1) = (pcs L m i).set (i / 8) (byteAt (L.take i) (i / 8) + 2 ^ (7 - i % 8)) := by
  have hl : (L.take i).length = i := by rw [List.length_take]; omega
  apply List.ext_getElem?
  intro j
  rw [List.getElem?_set, pcs_length]
  by_cases hj : j < m
  · rw [pcs_getD _ _ _ _ hj, pcs_getD _ _ _ _ hj, take_snoc' L i h, byteAt_snoc, h0, hl]
    by_cases e : i / 8 = j
    · rw [if_pos e, if_pos e, if_pos (by omega), e, Nat.one_mul]
    · rw [if_neg e, if_neg e]
  · rw [List.getElem?_eq_none (by rw [pcs_length]; omega), List.getElem?_eq_none (by rw [pcs_length]; omega)]
    by_cases e : i / 8 = j
    · rw [if_pos e, if_neg (by omega)]
    · rw [if_neg e]
theorem pcs_end (L : List Nat) : pcs L ((L.length + 7) / 8) L.length = packed L := by
  unfold pcs packed
  rw [List.take_length]

/-! ### reading -/
def bitOf (p : List Nat) (i : Nat) : Nat := p.getD (i / 8) 0 / 2 ^ (7 - i % 8) % 2
def unpack (p : List Nat) : List Nat := (List.range (8 * p.length)).map (bitOf p)
theorem unpack_length (p : List Nat) : (unpack p).length = 8 * p.length := by simp [unpack]
theorem unpack_getD (p : List Nat) (i : Nat) (h : i < 8 * p.length) : (unpack p).getD i 0 = bitOf p i := by
  unfold unpack
  rw [List.getD_eq_getElem?_getD, List.getElem?_map, List.getElem?_range h]; rfl
theorem bitOf_le (p : List Nat) (i : Nat) : bitOf p i ≤ 1 := by unfold bitOf; omega
theorem unpack_bin (p : List Nat) : Bin (unpack p) := by
  intro x hx
  simp only [unpack, List.mem_map] at hx
  obtain ⟨i, _, rfl⟩ := hx
  exact bitOf_le p i

theorem getD_append (l m : List Nat) (i : Nat) : (l ++ m).getD i 0 = if i < l.length then l.getD i 0 else m.getD (i - l.length) 0 := by
  simp only [List.getD_eq_getElem?_getD, List.getElem?_append]
  by_cases h : i < l.length
  · simp [h]
  · simp [h]

theorem bit_byte (b0 b1 b2 b3 b4 b5 b6 b7 : Nat) (h0 : b0 ≤ 1) (h1 : b1 ≤ 1) (h2 : b2 ≤ 1) (h3 : b3 ≤ 1) (h4 : b4 ≤ 1) (h5 : b5 ≤ 1) (h6 : b6 ≤ 1) (h7 : b7 ≤ 1) (x : Nat)
    (hx : x = b0 * 128 + b1 * 64 + b2 * 32 + b3 * 16 + b4 * 8 + b5 * 4 + b6 * 2 + b7) :
    x / 2 ^ 7 % 2 = b0 ∧ x / 2 ^ 6 % 2 = b1 ∧ x / 2 ^ 5 % 2 = b2 ∧ x / 2 ^ 4 % 2 = b3 ∧ x / 2 ^ 3 % 2 = b4 ∧ x / 2 ^ 2 % 2 = b5 ∧ x / 2 ^ 1 % 2 = b6 ∧ x / 2 ^ 0 % 2 = b7 := by
  refine ⟨?_, ?_, ?_, ?_, ?_, ?_, ?_, ?_⟩ <;> omega

theorem unpack_get? (p : List Nat) (i : Nat) : (unpack p)[i]? = if i < 8 * p.length then some (bitOf p i) else none := by
  unfold unpack
  rw [List.getElem?_map]
  by_cases h : i < 8 * p.length
  · rw [List.getElem?_range h, if_pos h]; rfl
  · rw [List.getElem?_eq_none (by simpa using h), if_neg h]; rfl

theorem bitsOf_get? (v n i : Nat) : (bitsOf v n)[i]? = if i < n then some (v / 2 ^ (n - 1 - i) % 2) else none := by
  unfold bitsOf
  rw [List.getElem?_map]
  by_cases h : i < n
  · rw [List.getElem?_range h, if_pos h]; rfl
  · rw [List.getElem?_eq_none (by simpa using h), if_neg h]; rfl

theorem unpack_step (p : List Nat) (i : Nat) (h : i < p.length) : (unpack p).take (8 * (i + 1)) = (unpack p).take (8 * i) ++ bitsOf (p.getD i 0) 8 := by
  have hl : ((unpack p).take (8 * i)).length = 8 * i := by rw [List.length_take, unpack_length]; omega
  apply List.ext_getElem?
  intro j
  rw [List.getElem?_append, hl, List.getElem?_take, List.getElem?_take, unpack_get?, bitsOf_get?]
  by_cases h1 : j < 8 * i
  · rw [if_pos (by omega), if_pos h1, if_pos h1]
  · rw [if_neg h1]
    by_cases h2 : j < 8 * (i + 1)
    · rw [if_pos h2, if_pos (by omega), if_pos (by omega)]
      unfold bitOf
      rw [show j / 8 = i by omega, show 8 - 1 - (j - 8 * i) = 7 - j % 8 by omega]
    · rw [if_neg h2, if_neg (by omega)]

theorem bitOf_packed_at {l : List Nat} (hb : Bin l) (j r : Nat) (hr : r < 8) (h : j < (l.length + 7) / 8) : bitOf (packed l) (8 * j + r) = l.getD (8 * j + r) 0 := by
  unfold bitOf
  rw [show (8 * j + r) / 8 = j by omega, show (8 * j + r) % 8 = r by omega, packed_getD, if_pos h]
  have k := bit_byte _ _ _ _ _ _ _ _ (bin_getD hb (8*j)) (bin_getD hb (8*j+1)) (bin_getD hb (8*j+2)) (bin_getD hb (8*j+3)) (bin_getD hb (8*j+4)) (bin_getD hb (8*j+5)) (bin_getD hb (8*j+6)) (bin_getD hb (8*j+7)) (byteAt l j) rfl
  match r, hr with
  | 0, _ => exact k.1
  | 1, _ => exact k.2.1
  | 2, _ => exact k.2.2.1
  | 3, _ => exact k.2.2.2.1
  | 4, _ => exact k.2.2.2.2.1
  | 5, _ => exact k.2.2.2.2.2.1
  | 6, _ => exact k.2.2.2.2.2.2.1
  | 7, _ => exact k.2.2.2.2.2.2.2

theorem bitOf_packed {l : List Nat} (hb : Bin l) (i : Nat) : bitOf (packed l) i = l.getD i 0 := by
  by_cases h : i / 8 < (l.length + 7) / 8
  · have := bitOf_packed_at hb (i / 8) (i % 8) (Nat.mod_lt _ (by decide)) h
    rwa [show 8 * (i / 8) + i % 8 = i by omega] at this
  · unfold bitOf
    rw [packed_getD, if_neg h, getD_past l i (by omega)]; simp

theorem snoc_ind {P : List Nat → Prop} (h0 : P []) (h1 : ∀ l b, P l → P (l ++ [b])) (l : List Nat) : P l := by
  rw [← List.reverse_reverse l]
  induction l.reverse with
  | nil => exact h0
  | cons b r ih => rw [List.reverse_cons]; exact h1 _ _ ih

theorem take_bits (v n k : Nat) (h : k < n) : (bitsOf v n).take (k + 1) = (bitsOf v n).take k ++ [v / 2 ^ (n - 1 - k) % 2] := by
  rw [List.take_succ_eq_append_getElem (by rw [bitsOf_length]; exact h)]
  congr 2
  simp [bitsOf]

/-- number of zero bits at the end of a byte -/
def tz : Nat → Nat → Nat
  | 0, _ => 0
  | k + 1, x => if x % 2 = 0 then tz k (x / 2) + 1 else 0

theorem tz_step (k x : Nat) (h : x / 2 ^ k % 2 = 0) (hx : x / 2 ^ k ≠ 0) (hx8 : x < 256) : k < 7 := by
  by_cases hk : k < 7
  · exact hk
  · exfalso
    have h1 : 2 ^ 7 ≤ 2 ^ k := Nat.pow_le_pow_right (by decide) (by omega)
    have h2 : x / 2 ^ k ≤ x / 2 ^ 7 := Nat.div_le_div_left h1 (by decide)
    have h3 : x / 2 ^ 7 ≤ 1 := by omega
    generalize x / 2 ^ k = q at *
    omega

theorem tz_succ (k x : Nat) (hk : k < 8) (h : x / 2 ^ k % 2 = 0) : tz (8 - k) (x / 2 ^ k) = tz (8 - (k + 1)) (x / 2 ^ (k + 1)) + 1 := by
  rw [show 8 - k = (8 - (k + 1)) + 1 by omega]
  simp only [tz]
  rw [if_pos h, Nat.pow_succ, Nat.div_div_eq_div_mul]

theorem tz_odd (k x : Nat) (hk : k < 8) (h : x / 2 ^ k % 2 = 1) : tz (8 - k) (x / 2 ^ k) = 0 := by
  rw [show 8 - k = (8 - (k + 1)) + 1 by omega]
  simp only [tz]
  rw [if_neg (by omega)]

def endOf (p : List Nat) : Nat := 8 * p.length - 1 - tz 8 (p.getD (p.length - 1) 0)

theorem endOf_lt (p : List Nat) (h : p ≠ []) : endOf p < 8 * p.length := by
  have := List.length_pos_iff.2 h
  unfold endOf; omega

/-- the bits of the last byte, from its end -/
theorem last_bit (p : List Nat) (k : Nat) (hk : k < 8) (hp : p ≠ []) : bitOf p (8 * p.length - 1 - k) = p.getD (p.length - 1) 0 / 2 ^ k % 2 := by
  have := List.length_pos_iff.2 hp
  unfold bitOf
  rw [show (8 * p.length - 1 - k) / 8 = p.length - 1 by omega, show 7 - (8 * p.length - 1 - k) % 8 = k by omega]

def valueOf (l : List Nat) : Nat := l.foldl (fun v b => 2 * v + b) 0

theorem foldl_value (l : List Nat) (a : Nat) : l.foldl (fun v b => 2 * v + b) a = a * 2 ^ l.length + valueOf l := by
  unfold valueOf
  induction l generalizing a with
  | nil => simp
  | cons x r ih =>
    simp only [List.foldl_cons, List.length_cons]
    rw [ih, ih (2 * 0 + x), Nat.pow_succ, Nat.add_mul, Nat.mul_comm 2 a, Nat.mul_assoc, Nat.mul_comm (2 ^ r.length) 2]
    simp [Nat.add_assoc]

theorem valueOf_append (l m : List Nat) : valueOf (l ++ m) = valueOf l * 2 ^ m.length + valueOf m := by
  unfold valueOf
  rw [List.foldl_append]
  exact foldl_value m _

theorem take_value (p : List Nat) (a k : Nat) (h : a + k < 8 * p.length) : valueOf (((unpack p).drop a).take (k + 1)) = 2 * valueOf (((unpack p).drop a).take k) + bitOf p (a + k) := by
  rw [List.take_succ_eq_append_getElem (by rw [List.length_drop, unpack_length]; omega), valueOf_append]
  have h1 := unpack_getD p (a + k) h
  rw [List.getD_eq_getElem?_getD, List.getElem?_eq_getElem (by rw [unpack_length]; exact h)] at h1
  simp only [Option.getD_some] at h1
  rw [List.getElem_drop, h1, List.length_singleton, Nat.pow_one]
  have h3 : valueOf [bitOf p (a + k)] = bitOf p (a + k) := by simp [valueOf]
  rw [h3, Nat.mul_comm]

theorem take_value' (l : List Nat) (a k : Nat) (h : a + k < l.length) : valueOf ((l.drop a).take (k + 1)) = 2 * valueOf ((l.drop a).take k) + l.getD (a + k) 0 := by
  rw [List.take_succ_eq_append_getElem (by rw [List.length_drop]; omega), valueOf_append]
  rw [List.getElem_drop, List.length_singleton, Nat.pow_one, List.getD_eq_getElem?_getD, List.getElem?_eq_getElem h]
  have h3 : valueOf [l[a + k]] = l[a + k] := by simp [valueOf]
  rw [h3, Nat.mul_comm]
  rfl

theorem valueOf_lt {l : List Nat} (h : Bin l) : valueOf l < 2 ^ l.length := by
  induction l using snoc_ind with
  | h0 => simp [valueOf]
  | h1 l b ih =>
    rw [valueOf_append]
    have h1 := ih (fun x hx => h x (by simp [hx]))
    have h2 := h b (by simp)
    have h3 : valueOf [b] = b := by simp [valueOf]
    rw [h3, List.length_append, List.length_singleton, Nat.pow_succ]
    omega

theorem bitsOf_succ (v n : Nat) : bitsOf v (n + 1) = bitsOf (v / 2) n ++ [v % 2] := by
  unfold bitsOf
  rw [List.range_succ, List.map_append]
  congr 1
  · apply List.map_congr_left
    intro i hi
    have := List.mem_range.1 hi
    rw [show n + 1 - 1 - i = (n - 1 - i) + 1 by omega, Nat.pow_succ, Nat.mul_comm, Nat.div_div_eq_div_mul]
  · simp

theorem valueOf_bitsOf (v n : Nat) : valueOf (bitsOf v n) = v % 2 ^ n := by
  induction n generalizing v with
  | zero => simp [bitsOf, valueOf, Nat.mod_one]
  | succ n ih =>
    rw [bitsOf_succ, valueOf_append, ih]
    have h3 : valueOf [v % 2] = v % 2 := by simp [valueOf]
    rw [h3, List.length_singleton, Nat.pow_one, Nat.pow_succ, Nat.mul_comm (2 ^ n) 2, Nat.mod_mul]
    omega

theorem bitsOf_valueOf {l : List Nat} (h : Bin l) : bitsOf (valueOf l) l.length = l := by
  induction l using snoc_ind with
  | h0 => simp [bitsOf]
  | h1 l b ih =>
    have h1 := ih (fun x hx => h x (by simp [hx]))
    have h2 := h b (by simp)
    have h3 : valueOf [b] = b := by simp [valueOf]
    rw [valueOf_append, h3, List.length_append, List.length_singleton, bitsOf_succ, Nat.pow_one]
    rw [show (valueOf l * 2 + b) / 2 = valueOf l by omega, show (valueOf l * 2 + b) % 2 = b by omega, h1]

end Go.Proofs.Ytmimljaniliecaa.Bt
