/- Readers and writers of bits as objects of a memory that is known block by block. -/
import Derived.Test.YtmimljaniliecaaOwS
import Derived.Test.YtmimljaniliecaaOrA
import Derived.Test.YtmimljaniliecaaOpen
import Derived.Test.YtmimljaniliecaaBits2
namespace Go.Proofs.Ytmimljaniliecaa
open Go.RowKit Bt

/-- a call that turns the blocks of T: R v T' says how -/
def UpdRow (P : Program) (f : FuncId) (args : Array Value) (w : World) (T : List (Nat × Obj)) (R : Value → List (Nat × Obj) → Prop) : Prop :=
  Calls P f args w fun e w' => ∃ v T', e = .returned v ∧ R v T' ∧ Mem (fun k => k ∈ T.map (·.1)) w w' T'
theorem below_drewN {w : World} (m : Nat) : Below w.heap.size w (w.drewN m) := ⟨rfl, rfl, rfl, Nat.le_refl _, fun _ _ => rfl⟩
theorem calls_drewN {P : Program} {f : FuncId} {args : Array Value} {w : World} {v : Value} (h : Calls P f args w fun e w' => e = .returned v ∧ ∃ m, w' = w.drewN m) : Calls P f args w fun e w' => e = .returned v ∧ Below w.heap.size w w' :=
  h.mono fun _ _ ⟨he, m, hm⟩ => ⟨he, hm ▸ below_drewN m⟩
theorem calls_same {P : Program} {f : FuncId} {args : Array Value} {w : World} {v : Value} (h : Calls P f args w fun e w' => e = .returned v ∧ w = w') : Calls P f args w fun e w' => e = .returned v ∧ Below w.heap.size w w' :=
  h.mono fun _ _ ⟨he, hm⟩ => ⟨he, hm ▸ Below.refl _ _⟩
namespace Mem
variable {S : Nat → Prop} {w0 w w' : World} {A B T T' : List (Nat × Obj)}
theorem part (M : Mem S w0 w (A ++ (T ++ B))) : Mem (fun k => k ∈ T.map (·.1)) w w T := by
  refine ⟨Keep.refl _ _, M.tailA, fun p hp => .inl (List.mem_map.2 ⟨p, hp, rfl⟩), ?_⟩
  have h := M.apart
  rw [List.map_append, List.pairwise_append, List.map_append, List.pairwise_append] at h
  exact h.2.1.1
/-- behind a call that turned T into T' -/
theorem upd (M : Mem S w0 w (A ++ (T ++ B))) (N : Mem (fun k => k ∈ T.map (·.1)) w w' T') : Mem S w0 w' (A ++ (T' ++ B)) := by
  have hap := M.apart
  rw [List.map_append, List.pairwise_append, List.map_append, List.pairwise_append] at hap
  obtain ⟨hA, ⟨_, hB, hTB⟩, hAT⟩ := hap
  have MAB : Mem S w0 w (A ++ B) := M.sub ((List.Sublist.refl A).append (List.sublist_append_right T B))
  have hown : ∀ k, k ∈ T.map (·.1) → S k ∨ w0.heap.size ≤ k := by
    intro k hk
    obtain ⟨p, hp, rfl⟩ := List.mem_map.1 hk
    exact M.own p (List.mem_append_right _ (List.mem_append_left _ hp))
  have hnot : ∀ p ∈ A ++ B, ¬ p.1 ∈ T.map (·.1) := by
    intro p hp hc
    rcases List.mem_append.1 hp with h | h
    · exact hAT p.1 (List.mem_map.2 ⟨p, h, rfl⟩) p.1 (List.mem_append_left _ hc) rfl
    · exact hTB p.1 hc p.1 (List.mem_map.2 ⟨p, h, rfl⟩) rfl
  have M' : Mem S w0 w' (A ++ B) := MAB.call N.keep hown hnot
  have hlt : ∀ p ∈ A ++ B, p.1 < w.heap.size := fun p hp => MAB.lt hp
  have hnew : ∀ k ∈ T'.map (·.1), ∀ p ∈ A ++ B, p.1 ≠ k := by
    intro k hk p hp hc
    obtain ⟨q, hq, rfl⟩ := List.mem_map.1 hk
    rcases N.own q hq with h | h
    · exact hnot p hp (hc ▸ h)
    · have := hlt p hp; omega
  refine ⟨M'.keep, ?_, ?_, ?_⟩
  · intro p hp
    rcases List.mem_append.1 hp with h | h
    · exact M'.at_ p (List.mem_append_left _ h)
    · rcases List.mem_append.1 h with h | h
      · exact N.at_ p h
      · exact M'.at_ p (List.mem_append_right _ h)
  · intro p hp
    rcases List.mem_append.1 hp with h | h
    · exact M'.own p (List.mem_append_left _ h)
    · rcases List.mem_append.1 h with h | h
      · rcases N.own p h with h | h
        · exact hown p.1 h
        · exact .inr (by have := M.keep.size; omega)
      · exact M'.own p (List.mem_append_right _ h)
  · rw [List.map_append, List.pairwise_append, List.map_append, List.pairwise_append]
    refine ⟨hA, ⟨N.apart, hB, fun a ha b hb => ?_⟩, fun a ha b hb => ?_⟩
    · obtain ⟨p, hp, rfl⟩ := List.mem_map.1 hb
      exact Ne.symm (hnew a ha p (List.mem_append_right _ hp))
    · obtain ⟨p, hp, rfl⟩ := List.mem_map.1 ha
      rcases List.mem_append.1 hb with hb | hb
      · exact hnew b hb p (List.mem_append_left _ hp)
      · exact hAT _ (List.mem_map.2 ⟨p, hp, rfl⟩) b (List.mem_append_right _ hb)
/-- one block turned -/
theorem one {g : Nat} {o o' : Obj} (M : Mem (fun k => k ∈ ((g, o) :: T).map (·.1)) w w ((g, o) :: T)) (hk : Keep (fun k => k = g) w w') (ho : w'.heap[g]? = some o') : Mem (fun k => k ∈ ((g, o) :: T).map (·.1)) w w' ((g, o') :: T) := by
  have hap := M.apart
  rw [List.map_cons, List.pairwise_cons] at hap
  refine ⟨hk.mono (fun i _ hi => by subst hi; simp), ?_, ?_, ?_⟩
  · intro p hp
    rcases List.mem_cons.1 hp with rfl | hp
    · exact ho
    · exact hk.heap (M.at_ p (List.mem_cons_of_mem _ hp)) (fun h => hap.1 p.1 (List.mem_map.2 ⟨p, hp, rfl⟩) h.symm)
  · intro p hp
    rcases List.mem_cons.1 hp with rfl | hp
    · exact .inl (by simp)
    · exact .inl (List.mem_map.2 ⟨p, List.mem_cons_of_mem _ hp, rfl⟩)
  · rw [List.map_cons, List.pairwise_cons]; exact hap
end Mem
section
variable {P : Program} {ops : Array Oper} {Q : Exit → Act → World → Prop} {rest : List Oper} {o : Oper} {a : Act} {w : World} {S : Nat → Prop} {w0 : World} {A B T : List (Nat × Obj)} {f : FuncId} {args : Array Value} {R : Value → List (Nat × Obj) → Prop}
theorem st_callU (M : Mem S w0 w (A ++ (T ++ B))) (hw : Region.wanted o (yielded ops a.tmps) = true) (hr : (execOp a.eval o).run P w = .ok (.enter f args) w) (hc : UpdRow P f args w T R)
    (h : ∀ v T' w', R v T' → Mem S w0 w' (A ++ (T' ++ B)) → WL P ops Q rest (a.put o.dst v) w') : WL P ops Q (o :: rest) a w :=
  st_call (fun v w' => ∃ T', R v T' ∧ Mem S w0 w' (A ++ (T' ++ B))) hw hr hc (fun e w' ⟨v, T', he, hR, hM⟩ => ⟨v, he, T', hR, M.upd hM⟩) (fun v w' ⟨T', hR, hM⟩ => h v T' w' hR hM)
variable {l : List Oper} {D : World → Prop} {fuel : Nat} {listed : Array Bool}
theorem wh_callU (M : Mem S w0 w (A ++ (T ++ B))) (i : Nat) (hi : l[i]? = some o) (hrd : Region.ready .any l.toArray listed = [i]) (hw : Region.wanted o (yielded l.toArray a.tmps) = true) (hr : (execOp a.eval o).run P w = .ok (.enter f args) w) (listed' : Array Bool) (hl : listed.setIfInBounds i true = listed') (hc : UpdRow P f args w T R)
    (h : ∀ v T' w', R v T' → Mem S w0 w' (A ++ (T' ++ B)) → D w' ∧ WH P l Q D fuel listed' (a.put o.dst v) w') : WH P l Q D (fuel + 1) listed a w :=
  wh_call i (fun v w' => ∃ T', R v T' ∧ Mem S w0 w' (A ++ (T' ++ B))) hi hrd hw hr listed' hl hc (fun e w' ⟨v, T', he, hR, hM⟩ => ⟨v, he, T', hR, M.upd hM⟩) (fun v w' ⟨T', hR, hM⟩ => h v T' w' hR hM)
end
/-! two effects that may come up, one or the other -/
structure WHI (P : Program) (l : List Oper) (Q : Exit → Act → World → Prop) (S : World → Prop) (fuel : Nat) (listed : Array Bool) (i : Nat) (a : Act) (w : World) : Prop where
  h : wpOp P l.toArray Q i (fun a' w' => S w' ∧ wpAnyH P .any l.toArray Q S fuel (listed.setIfInBounds i true) a' w') a w
section
variable {P : Program} {l : List Oper} {Q : Exit → Act → World → Prop} {S : World → Prop} {a : Act} {w : World} {fuel : Nat} {listed : Array Bool} {o : Oper}
theorem wh_branch2 (i j : Nat) (hr : Region.ready .any l.toArray listed = [i, j]) (h1 : WHI P l Q S fuel listed i a w) (h2 : WHI P l Q S fuel listed j a w) : WH P l Q S (fuel + 1) listed a w :=
  ⟨wpAnyH_all hr (by simp) fun k hk => by
    rcases List.mem_cons.1 hk with rfl | hk
    · exact h1.h
    · rw [List.mem_singleton] at hk; subst hk; exact h2.h⟩
theorem wi_forced (i : Nat) (hi : l[i]? = some o) (hw : Region.wanted o (yielded l.toArray a.tmps) = true) (listed' : Array Bool) (hl : listed.setIfInBounds i true = listed')
    (h : Oper.wp P o a w (fun a' w' => S w' ∧ WH P l Q S fuel listed' a' w') Q) : WHI P l Q S fuel listed i a w := by
  subst hl
  refine ⟨?_⟩
  unfold wpOp
  have hi' : l.toArray[i]? = some o := by simpa using hi
  simp only [hi', hw, if_true]
  exact .inl (Oper.wp_mono (fun a' w' h => ⟨h.1, h.2.h⟩) h)
theorem wi_world (i : Nat) (v : Value) (w' : World) (hi : l[i]? = some o) (_ : True) (hw : Region.wanted o (yielded l.toArray a.tmps) = true) (hrun : (execOp a.eval o).run P w = .ok (.value v) w') (listed' : Array Bool) (hl : listed.setIfInBounds i true = listed')
    (hS : S w') (h : WH P l Q S fuel listed' (a.put o.dst v) w') : WHI P l Q S fuel listed i a w := by
  refine wi_forced i hi hw listed' hl ?_
  unfold Oper.wp
  rw [hrun]
  exact ⟨hS, h⟩
theorem wi_call {f : FuncId} {args : Array Value} {R : Ending → World → Prop} (i : Nat) (Φ : Value → World → Prop) (hi : l[i]? = some o) (_ : True) (hw : Region.wanted o (yielded l.toArray a.tmps) = true) (hrun : (execOp a.eval o).run P w = .ok (.enter f args) w) (listed' : Array Bool) (hl : listed.setIfInBounds i true = listed')
    (hc : Calls P f args w R) (hΦ : ∀ e w', R e w' → ∃ v, e = .returned v ∧ Φ v w') (h : ∀ v w', Φ v w' → S w' ∧ WH P l Q S fuel listed' (a.put o.dst v) w') : WHI P l Q S fuel listed i a w := by
  refine wi_forced i hi hw listed' hl ?_
  unfold Oper.wp
  rw [hrun]
  refine Calls.mono hc fun e w' he => ?_
  obtain ⟨v, rfl, hv⟩ := hΦ e w' he
  exact h v w' hv
variable {S0 : Nat → Prop} {w0 : World} {A B T L : List (Nat × Obj)} {f : FuncId} {args : Array Value} {R : Value → List (Nat × Obj) → Prop}
theorem wi_callB (M : Mem S0 w0 w L) (i : Nat) (v : Value) (hi : l[i]? = some o) (ht : True) (hw : Region.wanted o (yielded l.toArray a.tmps) = true) (hrun : (execOp a.eval o).run P w = .ok (.enter f args) w) (listed' : Array Bool) (hl : listed.setIfInBounds i true = listed')
    (hc : Calls P f args w fun e w' => e = .returned v ∧ Below w.heap.size w w') (h : ∀ w', Mem S0 w0 w' L → S w' ∧ WH P l Q S fuel listed' (a.put o.dst v) w') : WHI P l Q S fuel listed i a w :=
  wi_call i (fun u w' => u = v ∧ Mem S0 w0 w' L) hi ht hw hrun listed' hl hc (fun e w' ⟨he, hb⟩ => ⟨v, he, rfl, M.below hb⟩) (fun u w' ⟨hu, hm⟩ => by subst hu; exact h w' hm)
theorem wi_callR (M : Mem S0 w0 w (A ++ B)) (i : Nat) (hi : l[i]? = some o) (ht : True) (hw : Region.wanted o (yielded l.toArray a.tmps) = true) (hr : (execOp a.eval o).run P w = .ok (.enter f args) w) (listed' : Array Bool) (hl : listed.setIfInBounds i true = listed') (hc : MakesRow P f args w R)
    (h : ∀ v T w', R v T → Mem S0 w0 w' (A ++ (T ++ B)) → S w' ∧ WH P l Q S fuel listed' (a.put o.dst v) w') : WHI P l Q S fuel listed i a w :=
  wi_call i (fun v w' => ∃ T, R v T ∧ Mem S0 w0 w' (A ++ (T ++ B))) hi ht hw hr listed' hl hc (fun e w' ⟨v, T, he, hR, hM⟩ => ⟨v, he, T, hR, M.join hM⟩) (fun v w' ⟨T, hR, hM⟩ => h v T w' hR hM)
theorem wi_callU (M : Mem S0 w0 w (A ++ (T ++ B))) (i : Nat) (hi : l[i]? = some o) (ht : True) (hw : Region.wanted o (yielded l.toArray a.tmps) = true) (hr : (execOp a.eval o).run P w = .ok (.enter f args) w) (listed' : Array Bool) (hl : listed.setIfInBounds i true = listed') (hc : UpdRow P f args w T R)
    (h : ∀ v T' w', R v T' → Mem S0 w0 w' (A ++ (T' ++ B)) → S w' ∧ WH P l Q S fuel listed' (a.put o.dst v) w') : WHI P l Q S fuel listed i a w :=
  wi_call i (fun v w' => ∃ T', R v T' ∧ Mem S0 w0 w' (A ++ (T' ++ B))) hi ht hw hr listed' hl hc (fun e w' ⟨v, T', he, hR, hM⟩ => ⟨v, he, T', hR, M.upd hM⟩) (fun v w' ⟨T', hR, hM⟩ => h v T' w' hR hM)
theorem wi_new (M : Mem S0 w0 w L) (i : Nat) (ob : Obj) (F : Nat → Value) (hi : l[i]? = some o) (ht : True) (hw : Region.wanted o (yielded l.toArray a.tmps) = true) (hr : (execOp a.eval o).run P w = .ok (.value (F w.heap.size)) (w.alloc ob)) (listed' : Array Bool) (hl : listed.setIfInBounds i true = listed')
    (h : ∀ g w', Mem S0 w0 w' ((g, ob) :: L) → S w' ∧ WH P l Q S fuel listed' (a.put o.dst (F g)) w') : WHI P l Q S fuel listed i a w :=
  wi_world i _ _ hi ht hw hr listed' hl (h _ _ (M.alloc ob)).1 (h _ _ (M.alloc ob)).2
end
theorem pull_perm {α : Type} (L1 : List (List α)) (T : List α) (L2 : List (List α)) : ((T :: (L1 ++ L2)).foldr (· ++ ·) []).Perm ((L1 ++ T :: L2).foldr (· ++ ·) []) := by
  induction L1 with
  | nil => exact List.Perm.refl _
  | cons U L1 ih =>
    have h : (T ++ (U ++ (L1 ++ L2).foldr (· ++ ·) [])).Perm (U ++ (T ++ (L1 ++ L2).foldr (· ++ ·) [])) := by
      rw [← List.append_assoc, ← List.append_assoc]
      exact List.Perm.append_right _ List.perm_append_comm
    exact h.trans (List.Perm.append_left U ih)
theorem Mem.pull {S : Nat → Prop} {w0 w : World} {A : List (Nat × Obj)} (L1 : List (List (Nat × Obj))) (T : List (Nat × Obj)) (L2 : List (List (Nat × Obj))) (M : Mem S w0 w (A ++ (L1 ++ T :: L2).foldr (· ++ ·) [])) : Mem S w0 w (A ++ (T :: (L1 ++ L2)).foldr (· ++ ·) []) :=
  M.perm (List.Perm.append_left A (pull_perm L1 T L2))
/-! values of functions, makes, shifts, tables -/
section
variable {P : Program} {w : World} {o : Oper} {a : Act}
theorem run_fv_call (fv : Operand) (args : Array Operand) (tys : Array TypeId) (ho : o.op = .call { callee := .value fv, args := args, argTypes := tys }) (f : FuncId) (first : Array Value) (hv : a.eval fv = .func (.func f) first #[]) {fn : Func} (hf : P.funcs[f]? = some fn) (hn : (fn.name == "runtime.NumGoroutine") = false) (hb : fn.body.isNone = false)
    (vs : Array Value) (hvs : first ++ args.map a.eval = vs) : (execOp a.eval o).run P w = .ok (.enter f vs) w := by
  subst hvs
  unfold execOp
  simp [ho, resolve, invoke, hv, Deferred.ofValue, run_callFunc hf hn hb]
theorem run_make_op (t e : TypeId) (l c : Operand) (ho : o.op = .makeSlice t l c) (i : TypeInfo) (z : Value) (ht : P.underlying t = some (.slice e)) (hi : P.info? e = some i) (hz : i.zero = some z) (hs : i.size = 1) (hzc : z.cells = #[z]) (kl kc : IntKind) (n : Nat) (hl : a.eval l = .int kl (n : Int)) (hc : a.eval c = .int kc (n : Int)) (hb : i.bytes * n ≤ 281474976710656) (h63 : n ≤ 9223372036854775807) :
    (execOp a.eval o).run P w = .ok (.value (.slice (some ⟨w.heap.size, 0, none⟩) n n)) (w.alloc (.cells (madeCells #[z] n) e (0, 0))) := by
  have hb' : (i.bytes : Int) * (n : Int) ≤ 281474976710656 := by
    have h : ((i.bytes * n : Nat) : Int) ≤ 281474976710656 := by omega
    rwa [Int.natCast_mul] at h
  have hr := run_make (P := P) w t e i z ht hi hz kl kc n n (by omega) (Int.le_refl _) hb' (by omega)
  rw [hzc, hs] at hr
  simp only [Int.toNat_natCast, Nat.mul_one] at hr
  unfold execOp
  simp [ho, hl, hc, hr]
theorem own_made (e : TypeId) (g : Nat) (z : Value) (n : Nat) (h : n ≤ maxLen) : Own e 1 (.slice (some ⟨g, 0, none⟩) n n) n (List.replicate n z) [(g, .cells (madeCells #[z] n) e (0, 0))] := by
  refine ⟨by simp, .inr ⟨g, n, madeCells #[z] n, rfl, rfl, Nat.le_refl _, h, by simp [size_madeCells], ?_⟩⟩
  rw [Nat.mul_one, made1, List.take_of_length_le (by simp)]
theorem run_make_u8 (l c : Operand) (ho : o.op = .makeSlice 22 l c) (kl kc : IntKind) (n : Nat) (hl : a.eval l = .int kl (n : Int)) (hc : a.eval c = .int kc (n : Int)) (hb : n ≤ 281474976710656) :
    (execOp a.eval o).run Try.prog w = .ok (.value (.slice (some ⟨w.heap.size, 0, none⟩) n n)) (w.alloc (.cells (madeCells #[.int .u8 0] n) 5 (0, 0))) := by
  obtain ⟨i0, hi, hz0, hz1, hz2⟩ := info_parts info_u8
  exact run_make_op (P := Try.prog) 22 5 l c ho i0 (.int .u8 0) Try.underlying22 hi hz0 hz1 rfl kl kc n hl hc (by rw [hz2]; omega) (by omega)
theorem bin_shl {t : TypeId} {k yk : IntKind} {x r : Int} {n : Nat} (hn : n ≤ k.bits) (h : k.wrap (x * 2 ^ n) = r) : (binOp .shl t (.int k x) (.int yk (n : Int))).run P w = .ok (.int k r) w := by
  have h0 : ¬ (n : Int) < 0 := by omega
  have h1 : min n k.bits = n := by omega
  simp [binOp, Op.shift, h0, h1, h]
theorem bin_shr {t : TypeId} {k yk : IntKind} {x : Int} {n : Nat} (hn : n ≤ k.bits) : (binOp .shr t (.int k x) (.int yk (n : Int))).run P w = .ok (.int k (x / 2 ^ n)) w := by
  have h0 : ¬ (n : Int) < 0 := by omega
  have h1 : min n k.bits = n := by omega
  have h2 : x.fdiv (2 ^ n) = x / 2 ^ n := Int.fdiv_eq_ediv_of_nonneg _ (Int.le_of_lt (Int.pow_pos (by decide)))
  simp [binOp, Op.shift, h0, h1, h2]
theorem bin_bits {t : TypeId} {op : BinOp} (hop : op = .and ∨ op = .or ∨ op = .xor) {k : IntKind} {x y r : Int} (h : bits op k x y = r) : (binOp op t (.int k x) (.int k y)).run P w = .ok (.int k r) w := by
  subst h
  rcases hop with rfl | rfl | rfl <;> simp [binOp, Op.intBits, bits]
theorem run_indexStr (t : TypeId) (x ix : Operand) (ho : o.op = .index t x ix) (s : ByteArray) (k : IntKind) (n : Nat) (b : UInt8) (hx : a.eval x = .string s) (hix : a.eval ix = .int k (n : Int)) (hu : P.underlying t = some .string) (hb : s[n]? = some b) (r : Int) (hr : (b.toNat : Int) = r) : (execOp a.eval o).run P w = .ok (.value (.int .u8 r)) w := by
  subst hr
  unfold execOp
  have h0 : (0 : Int) ≤ (n : Int) := by omega
  simp [ho, hx, hix, Instr.index, run_underlying hu, asIntOf, hb]
end
theorem u8s_get (l : List Nat) (j : Nat) (h : j < l.length) : (u8s l)[j * 1 + 0]? = some (.int .u8 ((l.getD j 0 : Nat) : Int)) := by
  rw [Nat.mul_one, Nat.add_zero]
  simp [u8s, List.getElem?_eq_getElem h]
theorem u8s_append (l m : List Nat) : u8s (l ++ m) = u8s l ++ u8s m := by simp [u8s]
theorem u8s_rep (n x : Nat) : List.replicate n (Value.int .u8 (x : Int)) = u8s (List.replicate n x) := by simp [u8s]
theorem append_u8 {S : Nat → Prop} {w0 w : World} {A B T : List (Nat × Obj)} (M : Mem S w0 w (A ++ (T ++ B))) (ty : TypeId) (v : Value) (n : Nat) (xs : List Value) (hO : Own 5 1 v n xs T) (u : Value) (m : Nat) (news : List Value) (hu : RdK w u m news) (hl : news.length = m * 1) (h1 : ∀ u ∈ news, u.oneCell' = true) (hn : n + m ≤ 1000000000000) :
    ∃ v' T' w', (Builtin.append_ #[22, 22] ty #[v, u]).run Try.prog w = .ok v' w' ∧ Own 5 1 v' (n + m) (xs ++ news) T' ∧ Mem S w0 w' (A ++ (T' ++ B)) := by
  obtain ⟨i0, hi, hz0, hz1, hz2⟩ := info_parts info_u8
  exact append_of M 22 ty 5 i0 (.int .u8 0) 1 1 Try.underlying22 hi hz0 hz1 hz2 rfl (by decide) v n xs hO u m news hu hl h1 (by simp only [maxLen]; omega) (by omega)
theorem rd_of_k {w : World} {v : Value} {n : Nat} {xs : List Value} (h : RdK w v n xs) (hl : xs.length = n) : Rd w v xs := by
  subst hl
  rcases h with ⟨rfl, _, rfl⟩ | ⟨b, off, c, rfl, hc, hx⟩
  · exact .inl ⟨rfl, rfl⟩
  · exact .inr ⟨b, off, c, rfl, hc, hx⟩
theorem rdb {w : World} {v : Value} {l : List Nat} (h : RdK w v l.length (u8s l)) : Rd w v (u8s l) := rd_of_k h (u8s_length l)

/-- a row that a call made is an own slice -/
theorem makes_of_fresh {P : Program} {f : FuncId} {args : Array Value} {w : World} {m : Nat} {xs : List Value} (h : Calls P f args w (Fresh w m xs)) : MakesRow P f args w (fun v T => Own 5 1 v m xs T) :=
  h.mono fun e w' ⟨v, he, ho, hb⟩ => by
    obtain ⟨T, hO, hT, hv, hp⟩ := own_of_row (own_base (base' := 0) ho (fun _ _ => Nat.zero_le _))
    exact ⟨v, T, he, hO, Keep.of_belowS hb _, hT, fun p hp => .inr ((ho.lt p.1 (hv p hp)).1), hp⟩
/-- the object that lies in a world -/
theorem mem_of {S S' : Nat → Prop} {w w' : World} {T : List (Nat × Obj)} (hk : Keep S w w') (hT : ∀ p ∈ T, w'.heap[p.1]? = some p.2) (hS : ∀ p ∈ T, S' p.1) (hp : (T.map (·.1)).Pairwise (· ≠ ·)) (hn : ∀ k, S' k → S k ∨ w.heap.size ≤ k) : Mem S w w' T :=
  ⟨hk, hT, fun p h => hn _ (hS p h), hp⟩

/-! the writer -/
/-- a writer at block g holds the bits l; T: its blocks -/
def OwnW (g : Nat) (l : List Nat) (T : List (Nat × Obj)) : Prop := ∃ v TB, T = (g, .cells #[v, .int .i64 l.length] 78 (0, 0)) :: TB ∧ Own 5 1 v (packed l).length (u8s (packed l)) TB ∧ Bin l
theorem OwnW.isW {w : World} {g : Nat} {l : List Nat} {T : List (Nat × Obj)} (h : OwnW g l T) (M : Mem (fun k => k ∈ T.map (·.1)) w w T) : IsW w (fun k => k ∈ T.map (·.1)) g l := by
  obtain ⟨v, TB, rfl, hO, hb⟩ := h
  have hap := M.apart
  rw [List.map_cons, List.pairwise_cons] at hap
  refine ⟨v, M.at_ _ (List.mem_cons_self ..), hO.row (fun p hp => M.at_ p (List.mem_cons_of_mem _ hp)), hb, by simp, ?_, ?_⟩
  · intro k hk
    rcases hO.at_ with ⟨rfl, _, _⟩ | ⟨gb, cap, cur, rfl, rfl, _⟩
    · simp [Value.ownBlock] at hk
    · simp only [Value.ownBlock, Option.some.injEq] at hk
      subst hk
      exact ⟨by simp, fun h => hap.1 gb (by simp) h.symm⟩
  · intro k hk
    obtain ⟨p, hp, rfl⟩ := List.mem_map.1 hk
    exact M.lt hp
theorem IsW.own {w : World} {S : Nat → Prop} {g : Nat} {l : List Nat} (h : IsW w S g l) : ∃ T, OwnW g l T ∧ (∀ p ∈ T, w.heap[p.1]? = some p.2) ∧ (∀ p ∈ T, S p.1) ∧ (T.map (·.1)).Pairwise (· ≠ ·) := by
  obtain ⟨v, h1, h2, h3, h4, h5, h6⟩ := h
  obtain ⟨TB, hO, hT, hv, hp⟩ := own_of_row h2
  refine ⟨_, ⟨v, TB, rfl, hO, h3⟩, ?_, ?_, ?_⟩
  · intro p hp
    rcases List.mem_cons.1 hp with rfl | hp
    · exact h1
    · exact hT p hp
  · intro p hp
    rcases List.mem_cons.1 hp with rfl | hp
    · exact h4
    · exact (h5 p.1 (hv p hp)).1
  · rw [List.map_cons, List.pairwise_cons]
    refine ⟨fun k hk => ?_, hp⟩
    obtain ⟨p, hp, rfl⟩ := List.mem_map.1 hk
    exact Ne.symm (h5 p.1 (hv p hp)).2
theorem OwnW.bin {g : Nat} {l : List Nat} {T : List (Nat × Obj)} (h : OwnW g l T) : Bin l := by obtain ⟨_, _, _, _, hb⟩ := h; exact hb
theorem newWriterM (w : World) : MakesRow Try.prog 43 #[] w (fun v T => ∃ g, v = .pointer (some ⟨g, 0, none⟩) ∧ OwnW g [] T) :=
  (newWriter w).mono fun e w' ⟨he, hW, hb⟩ => by
    obtain ⟨T, hO, hT, hS, hp⟩ := hW.own
    exact ⟨_, T, he, ⟨_, rfl, hO⟩, mem_of (Keep.of_belowS hb _) hT hS hp (fun k hk => .inr (Nat.le_of_eq (Eq.symm hk)))⟩
theorem wPutM (w : World) {g : Nat} {l : List Nat} {T : List (Nat × Obj)} (h : OwnW g l T) (M : Mem (fun k => k ∈ T.map (·.1)) w w T) (v n : Int) (hl : l.length ≤ 1000000000) (hv : 0 ≤ v ∧ v < 4294967296) (hn : 0 ≤ n ∧ n ≤ 32) (hr : v / 2 ^ n.toNat ≤ 0) :
    UpdRow Try.prog 45 #[.pointer (some ⟨g, 0, none⟩), .int .u32 v, .int .i64 n] w T (fun r T' => r = .int .i64 0 ∧ OwnW g (l ++ bitsOf v.toNat n.toNat) T') :=
  (wPut w _ g l v n (h.isW M) hl hv hn hr).mono fun e w' ⟨he, S', hW, hS, hk⟩ => by
    obtain ⟨T', hO, hT, hS', hp⟩ := hW.own
    exact ⟨_, T', he, ⟨rfl, hO⟩, mem_of hk hT hS' hp hS⟩
theorem wPayM (w : World) {g : Nat} {l : List Nat} {T : List (Nat × Obj)} (h : OwnW g l T) (M : Mem (fun k => k ∈ T.map (·.1)) w w T) (hl : l.length ≤ 1000000000) :
    MakesRow Try.prog 47 #[.pointer (some ⟨g, 0, none⟩)] w (fun v T => Own 5 1 v (payload l).length (u8s (payload l)) T) := makes_of_fresh (wPay w _ g l (h.isW M) hl)

/-! the reader -/
/-- the blocks of a reader at block g, whose slice is v -/
def rT (g : Nat) (v : Value) (en at_ : Nat) (TB : List (Nat × Obj)) : List (Nat × Obj) := (g, .cells #[v, .int .i64 (at_ : Nat), .int .i64 (en : Nat)] 72 (0, 0)) :: TB
structure RF (v : Value) (p : List Nat) (en : Nat) (TB : List (Nat × Obj)) : Prop where
  own : Own 5 1 v p.length (u8s p) TB
  lt : ∀ x ∈ p, x < 256
  len : p.length ≤ 1000000000
  en : en ≤ 8 * p.length
theorem RF.isR {w : World} {g : Nat} {v : Value} {p : List Nat} {en at_ : Nat} {TB : List (Nat × Obj)} (h : RF v p en TB) (ha : at_ ≤ en) (M : Mem (fun k => k ∈ (rT g v en at_ TB).map (·.1)) w w (rT g v en at_ TB)) : IsRv w (fun k => k ∈ (rT g v en at_ TB).map (·.1)) g v p en at_ := by
  obtain ⟨hO, h1, h2, h3⟩ := h
  unfold rT at M ⊢
  have hap := M.apart
  rw [List.map_cons, List.pairwise_cons] at hap
  refine ⟨M.at_ _ (List.mem_cons_self ..), hO.row (fun p hp => M.at_ p (List.mem_cons_of_mem _ hp)), h1, h2, h3, ha, by simp, ?_, ?_⟩
  · intro k hk
    rcases hO.at_ with ⟨rfl, _, _⟩ | ⟨gb, cap, cur, rfl, rfl, _⟩
    · simp [Value.ownBlock] at hk
    · simp only [Value.ownBlock, Option.some.injEq] at hk
      subst hk
      exact ⟨by simp, fun h => hap.1 gb (by simp) h.symm⟩
  · intro k hk
    obtain ⟨p, hp, rfl⟩ := List.mem_map.1 hk
    exact M.lt hp
theorem newReaderM (w : World) (v : Value) (p : List Nat) (h : RdK w v p.length (u8s p)) (hp : ∀ x ∈ p, x < 256) (hl : p.length ≤ 1000000000) (hne : p ≠ []) (hlast : p.getD (p.length - 1) 0 ≠ 0) :
    MakesRow Try.prog 34 #[v] w (fun r T => ∃ g v TB, r = .tuple #[.pointer (some ⟨g, 0, none⟩), .int .i64 0] ∧ T = rT g v (endOf p) 0 TB ∧ RF v p (endOf p) TB) :=
  (newReader w v p (rdb h) hp hl hne hlast).mono fun e w' ⟨g, S', he, ⟨v, h1, h2, h3, h4, h5, h6, h7, h8, h9⟩, hS, hb⟩ => by
    obtain ⟨TB, hO, hT, hv, hp⟩ := own_of_row h2
    refine ⟨_, _, he, ⟨g, v, TB, rfl, rfl, ⟨hO, h3, h4, h5⟩⟩, Keep.of_belowS hb _, ?_, ?_, ?_⟩
    · intro p hp
      rcases List.mem_cons.1 hp with rfl | hp
      · exact h1
      · exact hT p hp
    · intro p hp
      rcases List.mem_cons.1 hp with rfl | hp
      · exact .inr (hS _ h7)
      · exact .inr (hS _ (h8 p.1 (hv p hp)).1)
    · unfold rT
      rw [List.map_cons, List.pairwise_cons]
      refine ⟨fun k hk => ?_, hp⟩
      obtain ⟨p, hp, rfl⟩ := List.mem_map.1 hk
      exact Ne.symm (h8 p.1 (hv p hp)).2
theorem newReaderBadM (w : World) (v : Value) (p : List Nat) (h : RdK w v p.length (u8s p)) (hl : p.length ≤ 1000000000) (hb : p = [] ∨ p.getD (p.length - 1) 0 = 0) :
    Calls Try.prog 34 #[v] w fun e w' => e = .returned (.tuple #[.pointer none, .int .i64 3]) ∧ Below w.heap.size w w' := newReader_bad w v p (rdb h) hl hb
theorem rTakeM (w : World) {g : Nat} {v : Value} {p : List Nat} {en at_ : Nat} {TB : List (Nat × Obj)} (h : RF v p en TB) (M : Mem (fun k => k ∈ (rT g v en at_ TB).map (·.1)) w w (rT g v en at_ TB)) (n : Nat) (hn : n ≤ 32) (hl : at_ + n ≤ en) :
    UpdRow Try.prog 58 #[.pointer (some ⟨g, 0, none⟩), .int .i64 (n : Int)] w (rT g v en at_ TB) (fun r T' => r = .tuple #[.int .u32 (valueOf (((unpack p).drop at_).take n) : Nat), .int .i64 0] ∧ T' = rT g v en (at_ + n) TB) :=
  (rTakeV w _ g v p en at_ n (h.isR (by omega) M) (by omega) (by omega)).mono fun e w' ⟨he, hR, hk⟩ => ⟨_, _, he, ⟨rfl, rfl⟩, M.one hk hR.1⟩
theorem rTakeShortM (w : World) {g : Nat} {v : Value} {p : List Nat} {en at_ : Nat} {TB : List (Nat × Obj)} (h : RF v p en TB) (ha : at_ ≤ en) (M : Mem (fun k => k ∈ (rT g v en at_ TB).map (·.1)) w w (rT g v en at_ TB)) (n : Nat) (hn : n ≤ 32) (hl : en < at_ + n) :
    Calls Try.prog 58 #[.pointer (some ⟨g, 0, none⟩), .int .i64 (n : Int)] w fun e w' => e = .returned (.tuple #[.int .u32 0, .int .i64 4]) ∧ Below w.heap.size w w' :=
  calls_drewN (rTake_short w _ g p en at_ n ⟨v, h.isR ha M⟩ (by omega) (by omega))
theorem rLeftM (w : World) {g : Nat} {v : Value} {p : List Nat} {en at_ : Nat} {TB : List (Nat × Obj)} (h : RF v p en TB) (ha : at_ ≤ en) (M : Mem (fun k => k ∈ (rT g v en at_ TB).map (·.1)) w w (rT g v en at_ TB)) :
    Calls Try.prog 35 #[.pointer (some ⟨g, 0, none⟩)] w fun e w' => e = .returned (.int .i64 ((en - at_ : Nat) : Int)) ∧ Below w.heap.size w w' := calls_drewN (rLeft w _ g p en at_ ⟨v, h.isR ha M⟩)
/-! the reference's reader -/
/-- the reference's reader at block g stands at bit at of the bits l; T: its blocks -/
def OwnQ (g : Nat) (l : List Nat) (at_ : Nat) (T : List (Nat × Obj)) : Prop := ∃ v TB, T = (g, .cells #[v, .int .i64 (at_ : Nat)] 74 (0, 0)) :: TB ∧ Own 5 1 v l.length (u8s l) TB ∧ Bin l ∧ l.length ≤ 10000000000 ∧ at_ ≤ l.length
theorem OwnQ.isQ {w : World} {g : Nat} {l : List Nat} {at_ : Nat} {T : List (Nat × Obj)} (h : OwnQ g l at_ T) (M : Mem (fun k => k ∈ T.map (·.1)) w w T) : IsQ w (fun k => k ∈ T.map (·.1)) g l at_ := by
  obtain ⟨v, TB, rfl, hO, hb, hl, ha⟩ := h
  have hap := M.apart
  rw [List.map_cons, List.pairwise_cons] at hap
  refine ⟨v, M.at_ _ (List.mem_cons_self ..), hO.row (fun p hp => M.at_ p (List.mem_cons_of_mem _ hp)), hb, hl, ha, by simp, ?_, ?_⟩
  · intro k hk
    rcases hO.at_ with ⟨rfl, _, _⟩ | ⟨gb, cap, cur, rfl, rfl, _⟩
    · simp [Value.ownBlock] at hk
    · simp only [Value.ownBlock, Option.some.injEq] at hk
      subst hk
      exact ⟨by simp, fun h => hap.1 gb (by simp) h.symm⟩
  · intro k hk
    obtain ⟨p, hp, rfl⟩ := List.mem_map.1 hk
    exact M.lt hp
theorem IsQ.own {w : World} {S : Nat → Prop} {g : Nat} {l : List Nat} {at_ : Nat} (h : IsQ w S g l at_) : ∃ T, OwnQ g l at_ T ∧ (∀ p ∈ T, w.heap[p.1]? = some p.2) ∧ (∀ p ∈ T, S p.1) ∧ (T.map (·.1)).Pairwise (· ≠ ·) := by
  obtain ⟨v, h1, h2, h3, h3a, h3b, h4, h5, h6⟩ := h
  obtain ⟨TB, hO, hT, hv, hp⟩ := own_of_row h2
  refine ⟨_, ⟨v, TB, rfl, hO, h3, h3a, h3b⟩, ?_, ?_, ?_⟩
  · intro p hp
    rcases List.mem_cons.1 hp with rfl | hp
    · exact h1
    · exact hT p hp
  · intro p hp
    rcases List.mem_cons.1 hp with rfl | hp
    · exact h4
    · exact (h5 p.1 (hv p hp)).1
  · rw [List.map_cons, List.pairwise_cons]
    refine ⟨fun k hk => ?_, hp⟩
    obtain ⟨p, hp, rfl⟩ := List.mem_map.1 hk
    exact Ne.symm (h5 p.1 (hv p hp)).2
theorem OwnQ.le {g : Nat} {l : List Nat} {at_ : Nat} {T : List (Nat × Obj)} (h : OwnQ g l at_ T) : at_ ≤ l.length ∧ l.length ≤ 10000000000 ∧ Bin l := by obtain ⟨_, _, _, _, hb, h1, h2⟩ := h; exact ⟨h2, h1, hb⟩
theorem openM (w : World) (v : Value) (p : List Nat) (h : RdK w v p.length (u8s p)) (hp : ∀ x ∈ p, x < 256) (hl : p.length ≤ 1000000000) (hne : p ≠ []) (hlast : p.getD (p.length - 1) 0 ≠ 0) :
    MakesRow Try.prog 38 #[v] w (fun r T => ∃ g, r = .tuple #[.pointer (some ⟨g, 0, none⟩), .int .i64 0] ∧ OwnQ g ((unpack p).take (endOf p)) 0 T) :=
  (open_walk w v p (rdb h) hp hl hne hlast).mono fun e w' ⟨g, S', he, hQ, hS, hb⟩ => by
    obtain ⟨T, hO, hT, hS', hp⟩ := hQ.own
    exact ⟨_, T, he, ⟨g, rfl, hO⟩, mem_of (Keep.of_belowS hb _) hT hS' hp (fun k hk => .inr (hS k hk))⟩
theorem openBadM (w : World) (v : Value) (p : List Nat) (h : RdK w v p.length (u8s p)) (hl : p.length ≤ 1000000000) (hb : p = [] ∨ p.getD (p.length - 1) 0 = 0) :
    Calls Try.prog 38 #[v] w fun e w' => e = .returned (.tuple #[.pointer none, .int .i64 3]) ∧ Below w.heap.size w w' := calls_same (open_bad w v p (rdb h) hl hb)
theorem qLeftM (w : World) {g : Nat} {l : List Nat} {at_ : Nat} {T : List (Nat × Obj)} (h : OwnQ g l at_ T) (M : Mem (fun k => k ∈ T.map (·.1)) w w T) :
    Calls Try.prog 39 #[.pointer (some ⟨g, 0, none⟩)] w fun e w' => e = .returned (.int .i64 ((l.length - at_ : Nat) : Int)) ∧ Below w.heap.size w w' := calls_drewN (qLeft w _ g l at_ (h.isQ M))
theorem qTakeM (w : World) {g : Nat} {l : List Nat} {at_ : Nat} {T : List (Nat × Obj)} (h : OwnQ g l at_ T) (M : Mem (fun k => k ∈ T.map (·.1)) w w T) (n : Nat) (hn : n ≤ 32) (hl : at_ + n ≤ l.length) :
    UpdRow Try.prog 40 #[.pointer (some ⟨g, 0, none⟩), .int .i64 (n : Int)] w T (fun r T' => r = .tuple #[.int .u32 (valueOf ((l.drop at_).take n) : Nat), .int .i64 0] ∧ OwnQ g l (at_ + n) T') :=
  (qTake w _ g l at_ n (h.isQ M) (by omega) (by omega)).mono fun e w' ⟨he, hQ, hk⟩ => by
    obtain ⟨T', hO, hT, hS', hp⟩ := hQ.own
    refine ⟨_, T', he, ⟨rfl, hO⟩, mem_of (hk.mono fun i _ hi => ?_) hT hS' hp (fun k hk => .inl hk)⟩
    obtain ⟨v, TB, rfl, _⟩ := h
    subst hi; simp
theorem qTakeShortM (w : World) {g : Nat} {l : List Nat} {at_ : Nat} {T : List (Nat × Obj)} (h : OwnQ g l at_ T) (M : Mem (fun k => k ∈ T.map (·.1)) w w T) (n : Nat) (hn : n ≤ 32) (hl : l.length < at_ + n) :
    Calls Try.prog 40 #[.pointer (some ⟨g, 0, none⟩), .int .i64 (n : Int)] w fun e w' => e = .returned (.tuple #[.int .u32 0, .int .i64 4]) ∧ Below w.heap.size w w' :=
  calls_drewN (qTake_short w _ g l at_ n (h.isQ M) (by omega) (by omega))

/-! the reference's rows -/
theorem bitsM (w : World) (v n : Nat) (hv : v < 4294967296) (hn : n ≤ 32) : MakesRow Try.prog 50 #[.int .u32 (v : Int), .int .i64 (n : Int)] w (fun r T => Own 5 1 r n (u8s (bitsOf v n)) T) :=
  makes_of_fresh (bits_walk w v n (by omega) (by omega))
theorem payloadM (w : World) (v : Value) (l : List Nat) (h : RdK w v l.length (u8s l)) (hb : Bin l) (hl : l.length ≤ 1000000000) : MakesRow Try.prog 51 #[v] w (fun r T => Own 5 1 r (payload l).length (u8s (payload l)) T) :=
  makes_of_fresh (payload_walk w v l (rdb h) hb hl)
theorem sameM (w : World) (v u : Value) (l m : List Nat) (h : RdK w v l.length (u8s l)) (k : RdK w u m.length (u8s m)) (hl : ∀ x ∈ l, x < 256) (hm : ∀ x ∈ m, x < 256) :
    Calls Try.prog 23 #[v, u] w fun e w' => e = .returned (.bool (decide (l = m))) ∧ w = w' := same_walk w v u l m (rdb h) (rdb k) hl hm
end Go.Proofs.Ytmimljaniliecaa
