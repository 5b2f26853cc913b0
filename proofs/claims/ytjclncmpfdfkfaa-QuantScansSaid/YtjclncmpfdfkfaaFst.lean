/- What Forward computes, its bounds, and the store of its loops. -/
import Derived.Test.YtjclncmpfdfkfaaFn
import Derived.Test.YtjclncmpfdfkfaaFl
namespace Go.Proofs.Ytjclncmpfdfkfaa
open Go.RowKit

/-- one product of the first pass of Forward -/
def t1 (xs : List Int) (n l : Nat) : Int := mt (n % 8) l * xs.getD (8 * (n / 8) + l) 0
/-- the first pass of Forward -/
def R1 (xs : List Int) (n : Nat) : Int := dot (t1 xs n) 8
def t2 (xs : List Int) (n k : Nat) : Int := mt (n / 8) k * R1 xs (8 * k + n % 8)
/-- what Forward returns -/
def Y1 (xs : List Int) (n : Nat) : Int := dot (t2 xs n) 8
def fwd (xs : List Int) : List Int := tab 64 (Y1 xs)
/-- all numbers are from -m to m -/
def Lim (m : Int) (xs : List Int) : Prop := ∀ n, n < 64 → -m ≤ xs.getD n 0 ∧ xs.getD n 0 ≤ m

theorem mul_bound {a b A B : Int} (ha : -A ≤ a ∧ a ≤ A) (hb : -B ≤ b ∧ b ≤ B) : -(A * B) ≤ a * b ∧ a * b ≤ A * B := by
  have h1 : (a * b).natAbs ≤ (A * B).natAbs := by
    rw [Int.natAbs_mul, Int.natAbs_mul]
    exact Nat.mul_le_mul (by omega) (by omega)
  have h2 : 0 ≤ A * B := Int.mul_nonneg (by omega) (by omega)
  omega
theorem dot_le {f : Nat → Int} {B : Int} (h : ∀ i, i < 8 → -B ≤ f i ∧ f i ≤ B) (n : Nat) (hn : n ≤ 8) : -(8 * B) ≤ dot f n ∧ dot f n ≤ 8 * B := by
  have hB : 0 ≤ B := by have := h 0 (by omega); omega
  have := dot_bound f B n (fun i hi => h i (by omega))
  have h2 : (n : Int) * B ≤ 8 * B := Int.mul_le_mul_of_nonneg_right (by omega) hB
  omega
theorem t1_le {xs : List Int} {m : Int} (h : Lim m xs) (n l : Nat) (hn : n < 64) (hl : l < 8) : -(12 * m) ≤ t1 xs n l ∧ t1 xs n l ≤ 12 * m := mul_bound (mt_le _ _) (h _ (by omega))
theorem R1_le {xs : List Int} {m : Int} (h : Lim m xs) (n : Nat) (hn : n < 64) (k : Nat) (hk : k ≤ 8) : -(96 * m) ≤ dot (t1 xs n) k ∧ dot (t1 xs n) k ≤ 96 * m := by
  have := dot_le (fun i hi => t1_le h n i hn hi) k hk
  omega
theorem t2_le {xs : List Int} {m : Int} (h : Lim m xs) (n l : Nat) (hn : n < 64) (hl : l < 8) : -(1152 * m) ≤ t2 xs n l ∧ t2 xs n l ≤ 1152 * m := by
  have := mul_bound (mt_le (n / 8) l) (R1_le h (8 * l + n % 8) (by omega) 8 (Nat.le_refl _))
  unfold t2 R1
  omega
theorem Y1_le {xs : List Int} {m : Int} (h : Lim m xs) (n : Nat) (hn : n < 64) (k : Nat) (hk : k ≤ 8) : -(9216 * m) ≤ dot (t2 xs n) k ∧ dot (t2 xs n) k ≤ 9216 * m := by
  have := dot_le (fun i hi => t2_le h n i hn hi) k hk
  omega

theorem mat_at (w : World) (g : Nat) (t : TypeId) (h : Has w g t matL) (i k : Nat) (hi : i < 8) (hk : k < 8) : w.cell? ⟨g, i * 8 + k, none⟩ = some (.int .i64 (mt i k)) := by
  rw [h.cell (i * 8 + k) (by show i * 8 + k < 64; omega)]
  unfold mt
  rw [Nat.mul_comm]

/-- the store of Forward's loops -/
def FSt (N M : Nat) (w wr : World) (xs f g : List Int) : Prop :=
  Has wr N 30 xs ∧ Has wr (N + 1) 30 zeros ∧ Has wr M 50 matL ∧ Has wr (M + 1) 30 f ∧ Has wr (M + 2) 30 g ∧ Below N w wr
namespace FSt
variable {N M : Nat} {w wr : World} {xs f g : List Int}
theorem setF (h : FSt N M w wr xs f g) (hN : N + 1 < M) (c : Nat) (v : Int) : FSt N M w (wr.setCell ⟨M + 1, c, none⟩ (.int .i64 v)) xs (f.set c v) g := by
  obtain ⟨h1, h2, h3, h4, h5, h6⟩ := h
  exact ⟨h1.other (by simp; omega) _, h2.other (by simp; omega) _, h3.other (by simp) _, h4.set c v, h5.other (by simp) _, h6.setCell (by simp; omega) _⟩
theorem setG (h : FSt N M w wr xs f g) (hN : N + 1 < M) (c : Nat) (v : Int) : FSt N M w (wr.setCell ⟨M + 2, c, none⟩ (.int .i64 v)) xs f (g.set c v) := by
  obtain ⟨h1, h2, h3, h4, h5, h6⟩ := h
  exact ⟨h1.other (by simp; omega) _, h2.other (by simp; omega) _, h3.other (by simp) _, h4.other (by simp) _, h5.set c v, h6.setCell (by simp; omega) _⟩
theorem drewN (h : FSt N M w wr xs f g) (n : Nat) : FSt N M w (wr.drewN n) xs f g := by
  obtain ⟨h1, h2, h3, h4, h5, h6⟩ := h
  exact ⟨h1, h2, h3, h4, h5, ⟨h6.1, h6.2, h6.3, h6.4, h6.5⟩⟩
end FSt
end Go.Proofs.Ytjclncmpfdfkfaa
