/- Panics that are recovered. -/
import Derived.Test.YtmchfkkifeioeaaB9p
namespace Go.Proofs.Ytmchfkkifeioeaa
open Go.RowKit Bt

section
variable {P : Program} {ops : Array Oper} {Q : Exit → Act → World → Prop} {rest : List Oper} {o : Oper} {a : Act} {w : World}
theorem st_defer (d : Deferred) (hw : Region.wanted o (yielded ops a.tmps) = true) (hr : (execOp a.eval o).run P w = .ok (.defer d) w) (h : WL P ops Q rest ({ a with defers := d :: a.defers }.put o.dst undef) w) : WL P ops Q (o :: rest) a w := by
  refine ⟨?_⟩
  unfold wpList
  rw [if_pos hw]
  refine .inl ?_
  unfold Oper.wp
  rw [hr]
  exact h.h
theorem st_panic (v : Value) (hw : Region.wanted o (yielded ops a.tmps) = true) (hr : (execOp a.eval o).run P w = .halt (.panic v) w) (h : Q (.panic [{ v, recovered := false }]) a w) : WL P ops Q (o :: rest) a w := by
  refine ⟨?_⟩
  unfold wpList
  rw [if_pos hw]
  refine .inl ?_
  unfold Oper.wp
  rw [hr]
  exact h
theorem st_callP {f : FuncId} {args : Array Value} {S : Nat → Prop} {w0 : World} {L : List (Nat × Obj)} (M : Mem S w0 w L) (c : List PanicEntry) (hw : Region.wanted o (yielded ops a.tmps) = true) (hr : (execOp a.eval o).run P w = .ok (.enter f args) w)
    (hc : Calls P f args w fun e w' => e = .panicked c ∧ Below w.heap.size w w') (h : ∀ w', Mem S w0 w' L → Q (.panic c) a w') : WL P ops Q (o :: rest) a w := by
  refine ⟨?_⟩
  unfold wpList
  rw [if_pos hw]
  refine .inl ?_
  unfold Oper.wp
  rw [hr]
  refine Calls.mono hc fun e w' he => ?_
  obtain ⟨rfl, hb⟩ := he
  exact h w' (M.below hb)
end
section
variable {P : Program} {l : List Oper} {Q : Exit → Act → World → Prop} {D : World → Prop} {a : Act} {w : World} {fuel : Nat} {listed : Array Bool} {o : Oper} {S0 : Nat → Prop} {w0 : World} {L : List (Nat × Obj)}
theorem wh_storeRow (M : Mem S0 w0 w L) (i : Nat) {g : Nat} {cs : Array Value} {t : TypeId} (hL : L[i]? = some (g, .cells cs t (0, 0))) (ty : TypeId) (p x : Operand) (ho : o.op = .store ty p x) (cs' : Array Value) (hp : a.eval p = .pointer (some ⟨g, 0, none⟩)) (hx : a.eval x = .agg cs') (hi : (P.info? ty).map (·.size) = some cs'.size) (hs : cs'.size = cs.size) (h1 : cs'.all (·.oneCell') = true) (hw : Region.wanted o (yielded l.toArray a.tmps) = true)
    (L' : List (Nat × Obj)) (hL' : L.set i (g, .cells cs' t (0, 0)) = L') (k : Nat) (hk : l[k]? = some o) (hr : Region.ready .any l.toArray listed = [k]) (listed' : Array Bool) (hl : listed.setIfInBounds k true = listed') (h : ∀ w', Mem S0 w0 w' L' → D w' ∧ WH P l Q D fuel listed' (a.put o.dst undef) w') : WH P l Q D (fuel + 1) listed a w :=
  have h' := h _ (hL' ▸ M.setRow i hL cs')
  wh_do k _ hk hr hw (run_store_row ty p x ho g cs' hp hx cs t (M.get i hL) hi hs h1) listed' hl h'.1 h'.2
theorem wh_storeCell (M : Mem S0 w0 w L) (i : Nat) {g : Nat} {cs : Array Value} {t : TypeId} (hL : L[i]? = some (g, .cells cs t (0, 0))) (ty : TypeId) (p x : Operand) (ho : o.op = .store ty p x) (j : Nat) (v : Value) (cs' : Array Value) (hp : a.eval p = .pointer (some ⟨g, j, none⟩)) (hx : a.eval x = v) (hj : j < cs.size) (hi : (sizeOf ty).run P w = .ok 1 w) (h1 : v.oneCell' = true) (hv : v.cells = #[v]) (hcs : cs.setIfInBounds j v = cs') (hw : Region.wanted o (yielded l.toArray a.tmps) = true)
    (L' : List (Nat × Obj)) (hL' : L.set i (g, .cells cs' t (0, 0)) = L') (k : Nat) (hk : l[k]? = some o) (hr : Region.ready .any l.toArray listed = [k]) (listed' : Array Bool) (hl : listed.setIfInBounds k true = listed') (h : ∀ w', Mem S0 w0 w' L' → D w' ∧ WH P l Q D fuel listed' (a.put o.dst undef) w') : WH P l Q D (fuel + 1) listed a w := by
  subst hcs; subst hL'
  have h' := h _ (M.setCell i hL j v)
  exact wh_do k _ hk hr hw (run_store_cell ty p x ho ⟨g, j, none⟩ v hp hx cs[j] (M.cell i hL j _ (by simp [hj])) (frozen_of_row (M.get i hL) _) hi h1 hv) listed' hl h'.1 h'.2
end
theorem done0 {P : Program} {fn : Func} {R : Ending → World → Prop} {a : Act} {w : World} (hr : fn.results = #[]) (hd : a.defers = []) (hR : R (.returned (.tuple #[])) w) : bodyPost P fn R .normal a w :=
  ⟨hd, _, results_none hr _ _ _, hR⟩
theorem results_cell_cell {fn : Func} {p q : Tmp} {ty uy : TypeId} (h : fn.results = #[.cell p ty, .cell q uy]) (tmps : Array Value) (P : Program) (w : World) :
    (results fn tmps).run P w = ((asAddr (tmps.getD p undef)).run P w).andThen fun a w₁ => ((loadVar ty a).run P w₁).andThen fun v w₂ => ((asAddr (tmps.getD q undef)).run P w₂).andThen fun b w₃ => ((loadVar uy b).run P w₃).andThen fun u w₄ => .ok (.tuple #[v, u]) w₄ := by
  simp only [results, h]
  simp [Sem.run_bind, Result.andThen]
theorem results_row_cell {P : Program} {fn : Func} {p q : Tmp} {ty uy : TypeId} (h : fn.results = #[.cell p ty, .cell q uy]) (tmps : Array Value) (w : World) (g : Nat) (t : TypeId) (cs : Array Value) (fr : Nat × Nat) (d : TypeDesc)
    (hp : tmps.getD p undef = .pointer (some ⟨g, 0, none⟩)) (hg : w.heap[g]? = some (.cells cs t fr)) (hu : P.underlying ty = some d) (hd : (match d with | .struct _ | .array _ _ => true | _ => false) = true) (hi : (P.info? ty).map (·.size) = some cs.size)
    (b : Addr) (v : Value) (hq : tmps.getD q undef = .pointer (some b)) (hc : w.cell? b = some v) (hty : (isAgg uy).run P w = .ok false w) : (results fn tmps).run P w = .ok (.tuple #[.agg cs, v]) w := by
  have h1 := run_loadVar_row w g t ty cs fr d hg hu hd hi
  have h2 : (loadVar uy b).run P w = .ok v w := by simp [loadVar, hty, hc]
  rw [results_cell_cell h, hp, hq]
  simp [asAddr, h1, h2]

theorem wpS_rec {P : Program} {Q : Exit → Act → List Frame → World → Prop} {a : Act} {cs : List Frame} {w : World} {id : Nat} {y : Code} {o1 o2 : Oper} {d1 d2 : Nat} (h1 : o1.op = .call { callee := .builtin .recover, args := #[], argTypes := #[] }) (g1 : o1.guard = none) (e1 : o1.dst = some d1) (h2 : o2.op = .assign (.tmp d1)) (g2 : o2.guard = none) (e2 : o2.dst = some d2)
    (v : Value) (cs' : List Frame) (hv : (recoverD cs = some (v, cs')) ∨ (recoverD cs = none ∧ v = .nilIface ∧ cs' = cs)) (h : y.wp P (fun e a' w' => Q e a' cs' w') ((a.put (some d1) v).put (some d2) ((a.put (some d1) v).eval (.tmp d1))) w) : (Code.seq (Code.region id #[o1, o2] false) y).wpS P Q a cs w := by
  refine wpS_seq (wpS_region ?_)
  show wpOpsS P #[o1, o2] _ [0, 1] a cs w
  have w1 : Region.wanted o1 (yielded #[o1, o2] a.tmps) = true := by simp [Region.wanted, g1]
  have w2 : ∀ b : Act, Region.wanted o2 (yielded #[o1, o2] b.tmps) = true := fun b => by simp [Region.wanted, g2]
  have r1 : (execOp a.eval o1).run P w = .ok .recover w := by unfold execOp; simp [h1, resolve, invoke, builtin]
  have r2 : ∀ b : Act, (execOp b.eval o2).run P w = .ok (.value (b.eval (.tmp d1))) w := fun b => by unfold execOp; simp [h2]
  have h' := wpS_of_wp h
  rcases hv with hv | ⟨hv, rfl, rfl⟩
  · simp [wpOpsS, w1, r1, hv, w2, r2, Oper.upon, e1, e2, Exit.thenS]
    exact h'
  · simp [wpOpsS, w1, r1, hv, w2, r2, Oper.upon, e1, e2, Exit.thenS]
    exact h'
theorem clo_done {P : Program} {fn : Func} {c₀ : Frame} {cs cs' : List Frame} {R : Ending → FrameMode → World → Prop} {a : Act} {w : World} (u' : FrameMode) (hr : fn.results = #[]) (hd : a.defers = []) (hcs : cs' = { c₀ with mode := u' } :: cs) (hR : R (.returned (.tuple #[])) u' w) : bodyPostS P fn c₀ cs R .normal a cs' w :=
  ⟨hd, u', hcs, _, results_none hr _ _ _, hR⟩
end Go.Proofs.Ytmchfkkifeioeaa
