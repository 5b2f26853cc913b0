/- A region that draws its order, taken as the moves come: what hangs on nothing first, what turns the world when it alone may come up. -/
import Derived.Test.YtmimljaniliecaaGw
import Derived.OrdersHeld
namespace Go.Proofs.Ytmimljaniliecaa
open Go.RowKit

structure WH (P : Program) (l : List Oper) (Q : Exit → Act → World → Prop) (S : World → Prop) (fuel : Nat) (listed : Array Bool) (a : Act) (w : World) : Prop where
  h : wpAnyH P .any l.toArray Q S fuel listed a w
structure RegOk (l : List Oper) (Q : Exit → Act → World → Prop) : Prop where
  nosel : Region.noSelect l.toArray = true
  panic : ∀ d v c a w, Q (.panic c) (Act.put a d v) w → Q (.panic c) a w
section
variable {P : Program} {l : List Oper} {Q : Exit → Act → World → Prop} {S : World → Prop} {a : Act} {w : World} {fuel : Nat} {listed : Array Bool} {o : Oper}
theorem wh_region {id : Nat} (S : World → Prop) (hmix : P.follows .mixedOrders = true) (hs : Region.noSelect l.toArray = true) (hQ : ∀ d v c a w, Q (.panic c) (Act.put a d v) w → Q (.panic c) a w) (n : Nat) (hn : l.length = n) (listed : Array Bool) (hl : Array.replicate n false = listed)
    (h : RegOk l Q → WH P l Q S n listed a w.drew) : (Code.region id l.toArray true).wp P Q a w := by
  subst hn; subst hl
  exact wp_region_held hmix (h ⟨hs, hQ⟩).h
theorem wh_take (R : RegOk l Q) (i : Nat) (v : Value) (hi : l[i]? = some o) (hf : Region.free .any l.toArray listed i = true) (hr : (Region.ready .any l.toArray listed).contains i = true) (hw : Region.wanted o (yielded l.toArray a.tmps) = true)
    (hrun : ∀ w', S w' → (execOp a.eval o).run P w' = .ok (.value v) w') (hS : S w) (listed' : Array Bool) (hl : listed.setIfInBounds i true = listed') (h : WH P l Q S fuel listed' (a.put o.dst v) w) : WH P l Q S (fuel + 1) listed a w := by
  subst hl
  exact ⟨wpAnyH_take (by simpa using hi) R.nosel hf hr (fun c a w => R.panic _ _ c a w) (.inl ⟨hw, hrun⟩) hS h.h⟩
theorem wh_skip (R : RegOk l Q) (i : Nat) (hi : l[i]? = some o) (hf : Region.free .any l.toArray listed i = true) (hr : (Region.ready .any l.toArray listed).contains i = true) (hw : Region.wanted o (yielded l.toArray a.tmps) = false)
    (hS : S w) (listed' : Array Bool) (hl : listed.setIfInBounds i true = listed') (h : WH P l Q S fuel listed' (a.put o.dst undef) w) : WH P l Q S (fuel + 1) listed a w := by
  subst hl
  exact ⟨wpAnyH_take (by simpa using hi) R.nosel hf hr (fun c a w => R.panic _ _ c a w) (.inr ⟨hw, rfl⟩) hS h.h⟩
theorem wh_forced (i : Nat) (hi : l[i]? = some o) (hr : Region.ready .any l.toArray listed = [i]) (hw : Region.wanted o (yielded l.toArray a.tmps) = true) (listed' : Array Bool) (hl : listed.setIfInBounds i true = listed')
    (h : Oper.wp P o a w (fun a' w' => S w' ∧ WH P l Q S fuel listed' a' w') Q) : WH P l Q S (fuel + 1) listed a w := by
  subst hl
  refine ⟨wpAnyH_all hr (by simp) fun j hj => ?_⟩
  rw [List.mem_singleton] at hj
  subst hj
  unfold wpOp
  have hi' : l.toArray[j]? = some o := by simpa using hi
  simp only [hi', hw, if_true]
  exact .inl (Oper.wp_mono (fun a' w' h => ⟨h.1, h.2.h⟩) h)
theorem wh_world (i : Nat) (v : Value) (w' : World) (hi : l[i]? = some o) (hr : Region.ready .any l.toArray listed = [i]) (hw : Region.wanted o (yielded l.toArray a.tmps) = true) (hrun : (execOp a.eval o).run P w = .ok (.value v) w') (listed' : Array Bool) (hl : listed.setIfInBounds i true = listed')
    (hS : S w') (h : WH P l Q S fuel listed' (a.put o.dst v) w') : WH P l Q S (fuel + 1) listed a w := by
  refine wh_forced i hi hr hw listed' hl ?_
  unfold Oper.wp
  rw [hrun]
  exact ⟨hS, h⟩
theorem wh_do (i : Nat) (w' : World) (hi : l[i]? = some o) (hr : Region.ready .any l.toArray listed = [i]) (hw : Region.wanted o (yielded l.toArray a.tmps) = true) (hrun : (execOp a.eval o).run P w = .ok .skip w') (listed' : Array Bool) (hl : listed.setIfInBounds i true = listed')
    (hS : S w') (h : WH P l Q S fuel listed' (a.put o.dst undef) w') : WH P l Q S (fuel + 1) listed a w := by
  refine wh_forced i hi hr hw listed' hl ?_
  unfold Oper.wp
  rw [hrun]
  exact ⟨hS, h⟩
theorem wh_call {f : FuncId} {args : Array Value} {R : Ending → World → Prop} (i : Nat) (Φ : Value → World → Prop) (hi : l[i]? = some o) (hr : Region.ready .any l.toArray listed = [i]) (hw : Region.wanted o (yielded l.toArray a.tmps) = true) (hrun : (execOp a.eval o).run P w = .ok (.enter f args) w) (listed' : Array Bool) (hl : listed.setIfInBounds i true = listed')
    (hc : Calls P f args w R) (hΦ : ∀ e w', R e w' → ∃ v, e = .returned v ∧ Φ v w') (h : ∀ v w', Φ v w' → S w' ∧ WH P l Q S fuel listed' (a.put o.dst v) w') : WH P l Q S (fuel + 1) listed a w := by
  refine wh_forced i hi hr hw listed' hl ?_
  unfold Oper.wp
  rw [hrun]
  refine Calls.mono hc fun e w' he => ?_
  obtain ⟨v, rfl, hv⟩ := hΦ e w' he
  exact h v w' hv
theorem wh_callB {f : FuncId} {args : Array Value} {S0 : Nat → Prop} {w0 : World} {L : List (Nat × Obj)} (M : Mem S0 w0 w L) (i : Nat) (v : Value) (hi : l[i]? = some o) (hr : Region.ready .any l.toArray listed = [i]) (hw : Region.wanted o (yielded l.toArray a.tmps) = true) (hrun : (execOp a.eval o).run P w = .ok (.enter f args) w) (listed' : Array Bool) (hl : listed.setIfInBounds i true = listed')
    (hc : Calls P f args w fun e w' => e = .returned v ∧ Below w.heap.size w w') (h : ∀ w', Mem S0 w0 w' L → S w' ∧ WH P l Q S fuel listed' (a.put o.dst v) w') : WH P l Q S (fuel + 1) listed a w :=
  wh_call i (fun u w' => u = v ∧ Mem S0 w0 w' L) hi hr hw hrun listed' hl hc (fun e w' ⟨he, hb⟩ => ⟨v, he, rfl, M.below hb⟩) (fun u w' ⟨hu, hm⟩ => by subst hu; exact h w' hm)
theorem wh_done (hr : Region.ready .any l.toArray listed = []) (h : Q .normal a w) : WH P l Q S fuel listed a w := ⟨wpAnyH_done hr h _⟩
end
end Go.Proofs.Ytmimljaniliecaa
