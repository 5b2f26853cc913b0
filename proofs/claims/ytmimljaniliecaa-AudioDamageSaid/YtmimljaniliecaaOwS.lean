/- A cell of an own slice is set. -/
import Derived.Test.YtmimljaniliecaaOwn
namespace Go.Proofs.Ytmimljaniliecaa
open Go.RowKit
theorem Mem.setOwn {S : Nat → Prop} {w0 w : World} {A B T : List (Nat × Obj)} {e : TypeId} {k n c b off : Nat} {xs : List Value} (M : Mem S w0 w (A ++ (T ++ B))) (hO : Own e k (.slice (some ⟨b, off, none⟩) n c) n xs T) (j : Nat) (v : Value) :
    ∃ T', Own e k (.slice (some ⟨b, off, none⟩) n c) n (xs.set j v) T' ∧ Mem S w0 (w.setCell ⟨b, off + j, none⟩ v) (A ++ (T' ++ B)) ∧ w.frozen? ⟨b, off + j, none⟩ = false ∧ (n * k ≤ j → True) := by
  rcases hO.at_ with ⟨h, _⟩ | ⟨g, cap, cur, h, rfl, hc, hm, hs, ht⟩
  · cases h
  · cases h
    have hget : (A ++ ([(b, Obj.cells cur e (0, 0))] ++ B))[A.length]? = some (b, .cells cur e (0, 0)) := by
      rw [List.getElem?_append_right (Nat.le_refl _), Nat.sub_self]; rfl
    have M' := M.setCell A.length hget j v
    have e1 : (A ++ ([(b, Obj.cells cur e (0, 0))] ++ B)).set A.length (b, .cells (cur.setIfInBounds j v) e (0, 0)) = A ++ ([(b, Obj.cells (cur.setIfInBounds j v) e (0, 0))] ++ B) := by
      rw [List.set_append_right _ _ (Nat.le_refl _), Nat.sub_self]; rfl
    rw [e1] at M'
    refine ⟨[(b, .cells (cur.setIfInBounds j v) e (0, 0))], ⟨by rw [List.length_set]; exact hO.len, .inr ⟨b, c, cur.setIfInBounds j v, rfl, rfl, hc, hm, by simpa using hs, ?_⟩⟩, by rw [Nat.zero_add]; exact M', frozen_of_row (M.get A.length hget) _, fun _ => trivial⟩
    rw [← ht, Array.toList_setIfInBounds, List.take_set]
section
variable {P : Program} {ops : Array Oper} {Q : Exit → Act → World → Prop} {rest : List Oper} {o : Oper} {a : Act} {w : World} {S : Nat → Prop} {w0 : World} {A B T : List (Nat × Obj)}
theorem st_storeOwn {e : TypeId} {k n c b off : Nat} {xs : List Value} {Ao : Option Addr} (M : Mem S w0 w (A ++ (T ++ B))) (hO : Own e k (.slice Ao n c) n xs T) (hA : Ao = some ⟨b, off, none⟩) (ty : TypeId) (p x : Operand) (ho : o.op = .store ty p x) (i f : Nat) (v : Value)
    (hp : a.eval p = .pointer (some ⟨b, off + i + f, none⟩)) (hx : a.eval x = v) (hj : i + f < xs.length) (hi : (sizeOf ty).run P w = .ok 1 w) (h1 : v.oneCell' = true) (hv : v.cells = #[v]) (hw : Region.wanted o (yielded ops a.tmps) = true)
    (h : ∀ T' w', Own e k (.slice Ao n c) n (xs.set (i + f) v) T' → Mem S w0 w' (A ++ (T' ++ B)) → WL P ops Q rest (a.put o.dst undef) w') : WL P ops Q (o :: rest) a w := by
  subst hA
  obtain ⟨T', hO', M', hf, _⟩ := M.setOwn hO (i + f) v
  have hc := (hO.rd M.tailA).cellF rfl (i := i) (f := f) (List.getElem?_eq_getElem hj)
  rw [← Nat.add_assoc] at M' hf
  exact st_do _ hw (run_store_cell ty p x ho ⟨b, off + i + f, none⟩ v hp hx _ hc hf hi h1 hv) (h T' _ hO' M')
end
end Go.Proofs.Ytmimljaniliecaa
