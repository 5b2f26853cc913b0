/- Samples and their exponents, plainly; slices of samples that are read. -/
import Derived.Test.YtmimljaniliecaaAs
namespace Go.Proofs.Ytmimljaniliecaa
open Go.RowKit Bt

def i16s (l : List Int) : List Value := l.map (Value.int .i16)
theorem i16s_length (l : List Int) : (i16s l).length = l.length := by simp [i16s]
theorem i16s_get (l : List Int) (j : Nat) (h : j < l.length) : (i16s l)[j * 1 + 0]? = some (.int .i16 (l.getD j 0)) := by
  rw [Nat.mul_one, Nat.add_zero]
  simp [i16s, List.getElem?_eq_getElem h]
def S16 (l : List Int) : Prop := ∀ x ∈ l, -32768 ≤ x ∧ x ≤ 32767
theorem s16_get {l : List Int} (h : S16 l) (j : Nat) : -32768 ≤ l.getD j 0 ∧ l.getD j 0 ≤ 32767 := by
  rw [List.getD_eq_getElem?_getD]
  cases e : l[j]? with
  | none => simp
  | some x => simpa using h x (List.mem_of_getElem? e)
/-- the values of the channels -/
def pvs (ls : List (List Int)) (As : Nat → Option Addr) (cs : Nat → Nat) : List Value := (List.range ls.length).map fun j => Value.slice (As j) (ls.getD j []).length (cs j)
theorem pvs_length (ls : List (List Int)) (As : Nat → Option Addr) (cs : Nat → Nat) : (pvs ls As cs).length = ls.length := by simp [pvs]
theorem pvs_get (ls : List (List Int)) (As : Nat → Option Addr) (cs : Nat → Nat) (j : Nat) (h : j < ls.length) : (pvs ls As cs)[j * 1 + 0]? = some (.slice (As j) (ls.getD j []).length (cs j)) := by
  rw [Nat.mul_one, Nat.add_zero]
  simp [pvs, List.getElem?_range h]
/-- v is a slice of the channels ls -/
structure RdP (w : World) (v : Value) (ls : List (List Int)) (As : Nat → Option Addr) (cs : Nat → Nat) : Prop where
  rd : RdK w v ls.length (pvs ls As cs)
  ch : ∀ j, j < ls.length → 0 < (ls.getD j []).length → RdK w (.slice (As j) (ls.getD j []).length (cs j)) (ls.getD j []).length (i16s (ls.getD j []))
def SP (ls : List (List Int)) : Prop := ∀ j, j < ls.length → S16 (ls.getD j [])
theorem RdP.keep {w w' : World} {v : Value} {ls : List (List Int)} {As : Nat → Option Addr} {cs : Nat → Nat} (h : RdP w v ls As cs) {S : Nat → Prop} (hk : Keep S w w') (hS : ∀ k, ¬ S k) : RdP w' v ls As cs :=
  ⟨h.rd.keep hk (fun k _ => hS k), fun j hj h0 => (h.ch j hj h0).keep hk (fun k _ => hS k)⟩

/-- does x fit with exponent ex? -/
abbrev fitsE (ex : Nat) (x : Int) : Prop := -(256 * ((2 ^ ex : Nat) : Int)) ≤ x ∧ x < 256 * ((2 ^ ex : Nat) : Int)
def bumpN : Nat → Nat → Int → Nat
  | 0, ex, _ => ex
  | n + 1, ex, x => if fitsE ex x then ex else bumpN n (ex + 1) x
def bump (ex : Nat) (x : Int) : Nat := bumpN (7 - ex) ex x
theorem fits7 {x : Int} (h : -32768 ≤ x ∧ x ≤ 32767) : fitsE 7 x := by
  show -(256 * (((2 ^ 7 : Nat)) : Int)) ≤ x ∧ x < 256 * (((2 ^ 7 : Nat)) : Int)
  constructor <;> omega
theorem bump_fit {ex : Nat} {x : Int} (he : ex ≤ 7) (h : fitsE ex x) : bump ex x = ex := by
  unfold bump
  cases e : 7 - ex with
  | zero => rfl
  | succ n => exact if_pos h
theorem bump_step {ex : Nat} {x : Int} (he : ex ≤ 7) (hx : -32768 ≤ x ∧ x ≤ 32767) (h : ¬ fitsE ex x) : ex < 7 ∧ bump ex x = bump (ex + 1) x := by
  have h7 : ex < 7 := by
    rcases Nat.lt_or_ge ex 7 with h1 | h1
    · exact h1
    · obtain rfl : ex = 7 := by omega
      exact absurd (fits7 hx) h
  refine ⟨h7, ?_⟩
  unfold bump
  rw [show 7 - ex = (7 - (ex + 1)) + 1 by omega]
  exact if_neg h
theorem bumpN_le (x : Int) : ∀ n ex, ex + n ≤ 7 → ex ≤ bumpN n ex x ∧ bumpN n ex x ≤ 7 := by
  intro n
  induction n with
  | zero => intro ex h; exact ⟨Nat.le_refl _, h⟩
  | succ n ih =>
    intro ex h
    unfold bumpN
    split
    · exact ⟨Nat.le_refl _, by omega⟩
    · have := ih (ex + 1) (by omega); omega
theorem bump_le {ex : Nat} {x : Int} (he : ex ≤ 7) : ex ≤ bump ex x ∧ bump ex x ≤ 7 := bumpN_le x _ _ (by omega)
theorem bumpN_fits {x : Int} (hx : -32768 ≤ x ∧ x ≤ 32767) : ∀ n ex, ex + n = 7 → fitsE (bumpN n ex x) x := by
  intro n
  induction n with
  | zero => intro ex h; obtain rfl : ex = 7 := h; exact fits7 hx
  | succ n ih =>
    intro ex h
    unfold bumpN
    split
    · assumption
    · exact ih (ex + 1) (by omega)
theorem bump_fits {ex : Nat} {x : Int} (he : ex ≤ 7) (hx : -32768 ≤ x ∧ x ≤ 32767) : fitsE (bump ex x) x := bumpN_fits hx _ _ (by omega)
theorem fits_mono {e f : Nat} {x : Int} (h : e ≤ f) (hx : fitsE e x) : fitsE f x := by
  have : (2 : Nat) ^ e ≤ 2 ^ f := Nat.pow_le_pow_right (by decide) h
  obtain ⟨h1, h2⟩ := hx
  constructor <;> omega
/-- the least exponent with which all samples fit -/
def expo (l : List Int) : Nat := l.foldl bump 0
theorem expo_take (l : List Int) (i : Nat) (h : i < l.length) : (l.take (i + 1)).foldl bump 0 = bump ((l.take i).foldl bump 0) (l.getD i 0) := by
  rw [List.take_succ_eq_append_getElem h, List.foldl_append, List.getD_eq_getElem?_getD, List.getElem?_eq_getElem h]
  simp only [List.foldl_cons, List.foldl_nil, Option.getD_some]
theorem foldl_bump_le (l : List Int) : ∀ ex, ex ≤ 7 → ex ≤ l.foldl bump ex ∧ l.foldl bump ex ≤ 7 := by
  induction l with
  | nil => intro ex h; exact ⟨Nat.le_refl _, h⟩
  | cons x l ih => intro ex h; rw [List.foldl_cons]; have h1 := bump_le (x := x) h; have := ih (bump ex x) h1.2; omega
theorem expo_le (l : List Int) : expo l ≤ 7 := (foldl_bump_le l 0 (by omega)).2
theorem foldl_bump_fits (l : List Int) (hl : S16 l) : ∀ ex, ex ≤ 7 → ∀ x ∈ l, fitsE (l.foldl bump ex) x := by
  induction l with
  | nil => intro ex _ x hx; simp at hx
  | cons y l ih =>
    intro ex h x hx
    rw [List.foldl_cons]
    have h1 := bump_le (x := y) h
    rcases List.mem_cons.1 hx with rfl | hx
    · exact fits_mono (foldl_bump_le l _ h1.2).1 (bump_fits h (hl x (List.mem_cons_self ..)))
    · exact ih (fun z hz => hl z (List.mem_cons_of_mem _ hz)) _ h1.2 x hx
theorem expo_fits {l : List Int} (hl : S16 l) : ∀ x ∈ l, fitsE (expo l) x := foldl_bump_fits l hl 0 (by omega)
theorem wrap_n8 (ex : Nat) (h : ex ≤ 7) : IntKind.i64.wrap (-1 * 2 ^ (8 + ex)) = -(256 * ((2 ^ ex : Nat) : Int)) := by
  have h1 : (2 : Nat) ^ ex ≤ 2 ^ 7 := Nat.pow_le_pow_right (by decide) h
  have e : (-1 : Int) * 2 ^ (8 + ex) = -(256 * ((2 ^ ex : Nat) : Int)) := by rw [Int.pow_add, Int.natCast_pow]; show (-1 : Int) * (2 ^ 8 * 2 ^ ex) = -(256 * 2 ^ ex); omega
  rw [e]
  apply i64_wrap
  generalize (2 : Nat) ^ ex = z at *
  omega
theorem wrap_p8 (ex : Nat) (h : ex ≤ 7) : IntKind.i64.wrap (1 * 2 ^ (8 + ex)) = 256 * ((2 ^ ex : Nat) : Int) := by
  have h1 : (2 : Nat) ^ ex ≤ 2 ^ 7 := Nat.pow_le_pow_right (by decide) h
  have e : (1 : Int) * 2 ^ (8 + ex) = 256 * ((2 ^ ex : Nat) : Int) := by rw [Int.pow_add, Int.natCast_pow]; show (1 : Int) * (2 ^ 8 * 2 ^ ex) = 256 * 2 ^ ex; omega
  rw [e]
  apply i64_wrap
  generalize (2 : Nat) ^ ex = z at *
  omega
theorem wrap_256 (ex : Nat) (h : ex ≤ 7) : IntKind.i64.wrap (256 * 2 ^ ex) = 256 * ((2 ^ ex : Nat) : Int) := by
  have h1 : (2 : Nat) ^ ex ≤ 2 ^ 7 := Nat.pow_le_pow_right (by decide) h
  have e : (256 : Int) * 2 ^ ex = 256 * ((2 ^ ex : Nat) : Int) := by rw [Int.natCast_pow]; rfl
  rw [e]
  apply i64_wrap
  generalize (2 : Nat) ^ ex = z at *
  omega
/-- the mantissa of a sample, as nine bits -/
def mOf (ex : Nat) (x : Int) : Nat := (x / 2 ^ ex % 512).toNat
theorem mOf_lt (ex : Nat) (x : Int) : mOf ex x < 512 := by unfold mOf; omega
theorem mOf_eq (ex : Nat) (x : Int) : ((mOf ex x : Nat) : Int) = x / 2 ^ ex % 512 := by unfold mOf; omega
theorem mOf_zero (ex : Nat) : mOf ex 0 = 0 := by unfold mOf; rw [Int.zero_ediv]; rfl
theorem i64_and511 (n : Int) : bits .and .i64 n 511 = n % 512 := by
  have h127 : (BitVec.ofInt 64 511).toNat = 2 ^ 9 - 1 := by decide
  have key : (BitVec.ofInt 64 n &&& BitVec.ofInt 64 511).toNat = (n % ((2 ^ 64 : Nat) : Int)).toNat % 2 ^ 9 := by
    rw [BitVec.toNat_and, BitVec.toNat_ofInt, h127, Nat.and_two_pow_sub_one_eq_mod]
  show IntKind.i64.wrap ((BitVec.ofInt 64 n &&& BitVec.ofInt 64 511).toNat : Nat) = n % 512
  rw [key, IntKind.wrap_i64]
  omega
theorem u32_and511 (n : Int) : bits .and .u32 (n % 4294967296) 511 = n % 512 := by
  rw [u32_and _ _ (by omega) (by omega) (by decide) (by decide)]
  show (((n % 4294967296).toNat &&& 511 : Nat) : Int) = _
  rw [show (511 : Nat) = 2 ^ 9 - 1 from rfl, Nat.and_two_pow_sub_one_eq_mod]
  omega
/-- the bits of a channel -/
def chB (ex : Nat) (l : List Int) : Nat → List Nat
  | 0 => []
  | k + 1 => chB ex l k ++ bitsOf (mOf ex (l.getD k 0)) 9
theorem chB_len (ex : Nat) (l : List Int) (k : Nat) : (chB ex l k).length = 9 * k := by
  induction k with
  | zero => rfl
  | succ k ih => show (chB ex l k ++ _).length = _; rw [List.length_append, ih, bitsOf_length]; omega
theorem chB_bin (ex : Nat) (l : List Int) (k : Nat) : Bin (chB ex l k) := by
  induction k with
  | zero => intro x hx; simp [chB] at hx
  | succ k ih => exact bin_append ih (bitsOf_bin _ _)
/-- the bits of the first n channels -/
def blB (ls : List (List Int)) : Nat → List Nat
  | 0 => []
  | n + 1 => blB ls n ++ (bitsOf (expo (ls.getD n [])) 4 ++ chB (expo (ls.getD n [])) (ls.getD n []) 32)
theorem blB_len (ls : List (List Int)) (n : Nat) : (blB ls n).length = 292 * n := by
  induction n with
  | zero => rfl
  | succ n ih => show (blB ls n ++ _).length = _; rw [List.length_append, List.length_append, ih, bitsOf_length, chB_len]; omega
theorem blB_bin (ls : List (List Int)) (n : Nat) : Bin (blB ls n) := by
  induction n with
  | zero => intro x hx; simp [blB] at hx
  | succ n ih => exact bin_append ih (bin_append (bitsOf_bin _ _) (chB_bin _ _ _))
/-- may the sound be coded? -/
abbrev PP (ls : List (List Int)) : Prop := (1 ≤ ls.length ∧ ls.length ≤ 4) ∧ (ls.getD 0 []).length ≤ 1048576 ∧ ∀ j, j < ls.length → (ls.getD j []).length = (ls.getD 0 []).length
noncomputable def ppB (ls : List (List Int)) : Bool := @decide (PP ls) (Classical.propDecidable _)
theorem ppB_t {ls : List (List Int)} (h : PP ls) : ppB ls = true := @decide_eq_true _ (Classical.propDecidable _) h
theorem ppB_f {ls : List (List Int)} (h : ¬ PP ls) : ppB ls = false := @decide_eq_false _ (Classical.propDecidable _) h
theorem ppB_of {ls : List (List Int)} (h : ppB ls = true) : PP ls := @of_decide_eq_true _ (Classical.propDecidable _) h
theorem ppB_not {ls : List (List Int)} (h : ppB ls = false) : ¬ PP ls := @of_decide_eq_false _ (Classical.propDecidable _) h
/-- is the sound a block? -/
abbrev BP (ls : List (List Int)) : Prop := PP ls ∧ 1 ≤ (ls.getD 0 []).length ∧ (ls.getD 0 []).length ≤ 32
/-- the bytes of a block -/
def blkL (ls : List (List Int)) : List Nat := summedB ([ls.length, (ls.getD 0 []).length] ++ payload (blB ls ls.length))
noncomputable def pbL (ls : List (List Int)) : List Nat := @ite _ (BP ls) (Classical.propDecidable _) (blkL ls) []
noncomputable def pbE (ls : List (List Int)) : Int := @ite _ (BP ls) (Classical.propDecidable _) 0 1
theorem pb_t {ls : List (List Int)} (h : BP ls) : pbL ls = blkL ls ∧ pbE ls = 0 := by unfold pbL pbE; rw [if_pos h, if_pos h]; exact ⟨rfl, rfl⟩
theorem pb_f {ls : List (List Int)} (h : ¬ BP ls) : pbL ls = [] ∧ pbE ls = 1 := by unfold pbL pbE; rw [if_neg h, if_neg h]; exact ⟨rfl, rfl⟩
theorem blkL_len {ls : List (List Int)} : (blkL ls).length = 292 * ls.length / 8 + 5 := by
  unfold blkL
  rw [summedB_len, List.length_append, payload_length, blB_len]; simp; omega
theorem blkL_lt {ls : List (List Int)} (h : BP ls) : ∀ x ∈ blkL ls, x < 256 := by
  apply summedB_lt
  intro x hx
  rcases List.mem_append.1 hx with hx | hx
  · have h1 := h.1.1; have h2 := h.2.2
    simp only [List.mem_cons, List.not_mem_nil, or_false] at hx; omega
  · exact payload_lt _ (blB_bin _ _) x hx
end Go.Proofs.Ytmimljaniliecaa
