/- The store of the loops of the reference's Forward. -/
import Derived.Test.YtjclncmpfdfkfaaRn
namespace Go.Proofs.Ytjclncmpfdfkfaa
open Go.RowKit Go.Great

/-- the store of the loops of the reference's Forward -/
def FSr (N : Nat) (w wr : World) (xs f g : List Int) : Prop :=
  Has wr N 30 xs ∧ Has wr (N + 1) 30 zeros ∧ Has wr (N + 1 + 1) 30 f ∧ Has wr (N + 1 + 1 + 1) 30 g ∧ Below N w wr
namespace FSr
variable {N : Nat} {w wr : World} {xs f g : List Int}
theorem setF (h : FSr N w wr xs f g) (c : Nat) (v : Int) : FSr N w (wr.setCell ⟨N + 1 + 1, c, none⟩ (.int .i64 v)) xs (f.set c v) g := by
  obtain ⟨h1, h2, h4, h5, h6⟩ := h
  exact ⟨h1.other (by simp; omega) _, h2.other (by simp) _, h4.set c v, h5.other (by simp) _, h6.setCell (by simp; omega) _⟩
theorem setG (h : FSr N w wr xs f g) (c : Nat) (v : Int) : FSr N w (wr.setCell ⟨N + 1 + 1 + 1, c, none⟩ (.int .i64 v)) xs f (g.set c v) := by
  obtain ⟨h1, h2, h4, h5, h6⟩ := h
  exact ⟨h1.other (by simp; omega) _, h2.other (by simp; omega) _, h4.other (by simp) _, h5.set c v, h6.setCell (by simp; omega) _⟩
theorem drewN (h : FSr N w wr xs f g) (n : Nat) : FSr N w (wr.drewN n) xs f g := by
  obtain ⟨h1, h2, h4, h5, h6⟩ := h
  exact ⟨h1, h2, h4, h5, ⟨h6.1, h6.2, h6.3, h6.4, h6.5⟩⟩
theorem below (h : FSr N w wr xs f g) {w' : World} (hb : Below wr.heap.size wr w') : FSr N w w' xs f g := by
  obtain ⟨h1, h2, h4, h5, h6⟩ := h
  exact ⟨h1.belowS hb, h2.belowS hb, h4.belowS hb, h5.belowS hb, h6.trans (hb.mono (by have := h1.lt; omega))⟩
theorem size (h : FSr N w wr xs f g) : N + 4 ≤ wr.heap.size := by have := h.2.2.2.1.lt; omega
end FSr
end Go.Proofs.Ytjclncmpfdfkfaa
