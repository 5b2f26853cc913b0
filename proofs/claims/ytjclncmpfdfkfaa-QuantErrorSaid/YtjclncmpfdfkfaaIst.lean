/- What Inverse computes, its bounds, and the store of its loops. -/
import Derived.Test.YtjclncmpfdfkfaaFst
namespace Go.Proofs.Ytjclncmpfdfkfaa
open Go.RowKit

/-- the scale of a row -/
def sc (i : Nat) : Int := 739840 / nrm i
/-- a scaled element of the matrix -/
def tm (i k : Nat) : Int := mt i k * sc i
def cl (v : Int) : Int := min (max v (-2097152)) 2097152
def s1 (ys : List Int) (n j : Nat) : Int := tm j (n % 8) * cl (ys.getD (8 * (n / 8) + j) 0)
/-- the first pass of Inverse -/
def R2 (ys : List Int) (n : Nat) : Int := dot (s1 ys n) 8
def s2 (ys : List Int) (n i : Nat) : Int := tm i (n / 8) * R2 ys (8 * i + n % 8)
def S2 (ys : List Int) (n : Nat) : Int := dot (s2 ys n) 8
/-- what Inverse returns -/
def X2 (ys : List Int) (n : Nat) : Int := (2 * S2 ys n + 547363225600) / 1094726451200
def inv (ys : List Int) : List Int := tab 64 (X2 ys)

theorem sc_in (i : Nat) (h : i < 8) : sc i = 1445 ∨ sc i = 1280 ∨ sc i = 2312 := by
  have : ∀ n : Fin 8, sc n.val = 1445 ∨ sc n.val = 1280 ∨ sc n.val = 2312 := by decide
  exact this ⟨i, h⟩
theorem tm_le (i k : Nat) (hi : i < 8) : -27744 ≤ tm i k ∧ tm i k ≤ 27744 := by
  have h1 := mt_le i k
  have h2 := sc_in i hi
  have := mul_bound (A := 12) (B := 2312) h1 (show -2312 ≤ sc i ∧ sc i ≤ 2312 by omega)
  unfold tm
  omega
theorem cl_le (v : Int) : -2097152 ≤ cl v ∧ cl v ≤ 2097152 := by unfold cl; omega
theorem s1_le (ys : List Int) (n j : Nat) (hj : j < 8) : -58183385088 ≤ s1 ys n j ∧ s1 ys n j ≤ 58183385088 := mul_bound (tm_le _ _ hj) (cl_le _)
theorem R2_le (ys : List Int) (n : Nat) (k : Nat) (hk : k ≤ 8) : -465467080704 ≤ dot (s1 ys n) k ∧ dot (s1 ys n) k ≤ 465467080704 := by
  have := dot_le (fun i hi => s1_le ys n i hi) k hk
  omega
theorem s2_le (ys : List Int) (n i : Nat) (hi : i < 8) : -12913918687051776 ≤ s2 ys n i ∧ s2 ys n i ≤ 12913918687051776 := by
  have := mul_bound (tm_le i (n / 8) hi) (R2_le ys (8 * i + n % 8) 8 (Nat.le_refl _))
  unfold s2 R2
  omega
theorem S2_le (ys : List Int) (n : Nat) (k : Nat) (hk : k ≤ 8) : -103311349496414208 ≤ dot (s2 ys n) k ∧ dot (s2 ys n) k ≤ 103311349496414208 := by
  have := dot_le (fun i hi => s2_le ys n i hi) k hk
  omega

/-- entries below c are scaled -/
def mid (c : Nat) : Nat → Int := fun n => if n < c then tm (n / 8) (n % 8) else mt (n / 8) (n % 8)
def tmL : List Int := tab 64 (fun n => tm (n / 8) (n % 8))
theorem mid_zero : tab 64 (mid 0) = matL := by decide
theorem mid_end : tab 64 (mid 64) = tmL := tab_congr (fun i hi => by unfold mid; rw [if_pos hi])
theorem mid_at (c : Nat) (h : c < 64) : (tab 64 (mid c)).getD c 0 = mt (c / 8) (c % 8) := by rw [tab_getD _ _ _ h]; unfold mid; rw [if_neg (Nat.lt_irrefl _)]
theorem mid_set (c : Nat) : (tab 64 (mid c)).set c (tm (c / 8) (c % 8)) = tab 64 (mid (c + 1)) := by
  rw [tab_set]
  apply tab_congr
  intro i _
  unfold mid
  by_cases h : i = c
  · subst h; rw [if_pos rfl, if_pos (by omega)]
  · rw [if_neg h]
    by_cases h2 : i < c
    · rw [if_pos h2, if_pos (by omega)]
    · rw [if_neg h2, if_neg (by omega)]
theorem tm_at (w : World) (g : Nat) (t : TypeId) (h : Has w g t tmL) (i k : Nat) (hi : i < 8) (hk : k < 8) : w.cell? ⟨g, i * 8 + k, none⟩ = some (.int .i64 (tm i k)) := by
  rw [h.cell (i * 8 + k) (by rw [tmL, tab_length]; omega), tmL, tab_getD _ _ _ (by omega)]
  rw [show (i * 8 + k) / 8 = i by omega, show (i * 8 + k) % 8 = k by omega]

/-- the store of Inverse's first loops -/
def FSc (N M : Nat) (w wr : World) (xs m : List Int) : Prop :=
  Has wr N 30 xs ∧ Has wr (N + 1) 30 zeros ∧ Has wr M 50 m ∧ Below N w wr
theorem FSc.setM {N M : Nat} {w wr : World} {xs m : List Int} (h : FSc N M w wr xs m) (hN : N + 1 < M) (c : Nat) (v : Int) : FSc N M w (wr.setCell ⟨M, c, none⟩ (.int .i64 v)) xs (m.set c v) := by
  obtain ⟨h1, h2, h3, h4⟩ := h
  exact ⟨h1.other (by simp; omega) _, h2.other (by simp; omega) _, h3.set c v, h4.setCell (by simp; omega) _⟩
theorem FSc.drewN {N M : Nat} {w wr : World} {xs m : List Int} (h : FSc N M w wr xs m) (n : Nat) : FSc N M w (wr.drewN n) xs m := by
  obtain ⟨h1, h2, h3, h6⟩ := h
  exact ⟨h1, h2, h3, ⟨h6.1, h6.2, h6.3, h6.4, h6.5⟩⟩
/-- the store of Inverse's other loops -/
def FSm (N M R : Nat) (w wr : World) (xs f g : List Int) : Prop :=
  Has wr N 30 xs ∧ Has wr (N + 1) 30 zeros ∧ Has wr M 50 tmL ∧ Has wr R 30 f ∧ Has wr (R + 1) 30 g ∧ Below N w wr
namespace FSm
variable {N M R : Nat} {w wr : World} {xs f g : List Int}
theorem setF (h : FSm N M R w wr xs f g) (hN : N + 1 < M ∧ M < R) (c : Nat) (v : Int) : FSm N M R w (wr.setCell ⟨R, c, none⟩ (.int .i64 v)) xs (f.set c v) g := by
  obtain ⟨h1, h2, h3, h4, h5, h6⟩ := h
  exact ⟨h1.other (by simp; omega) _, h2.other (by simp; omega) _, h3.other (by simp; omega) _, h4.set c v, h5.other (by simp) _, h6.setCell (by simp; omega) _⟩
theorem setG (h : FSm N M R w wr xs f g) (hN : N + 1 < M ∧ M < R) (c : Nat) (v : Int) : FSm N M R w (wr.setCell ⟨R + 1, c, none⟩ (.int .i64 v)) xs f (g.set c v) := by
  obtain ⟨h1, h2, h3, h4, h5, h6⟩ := h
  exact ⟨h1.other (by simp; omega) _, h2.other (by simp; omega) _, h3.other (by simp; omega) _, h4.other (by simp) _, h5.set c v, h6.setCell (by simp; omega) _⟩
theorem drewN (h : FSm N M R w wr xs f g) (n : Nat) : FSm N M R w (wr.drewN n) xs f g := by
  obtain ⟨h1, h2, h3, h4, h5, h6⟩ := h
  exact ⟨h1, h2, h3, h4, h5, ⟨h6.1, h6.2, h6.3, h6.4, h6.5⟩⟩
end FSm
end Go.Proofs.Ytjclncmpfdfkfaa
