/- Rows that are read: a slice and its cells; an append of such a row onto an owned one. -/
import Derived.Test.YtjclncmpfdfkfaaBase
namespace Go.Proofs.Ytjclncmpfdfkfaa
open Go.RowKit

/-- v is a slice whose elements are the cells xs -/
def Rd (w : World) (v : Value) (xs : List Value) : Prop :=
  (v = .slice none 0 0 ∧ xs = []) ∨ ∃ b off c, v = .slice (some ⟨b, off, none⟩) xs.length c ∧ xs.length ≤ c ∧ ∀ j u, xs[j]? = some u → w.cell? ⟨b, off + j, none⟩ = some u

theorem Rd.shape {w : World} {v : Value} {xs : List Value} (h : Rd w v xs) : ∃ A c, v = .slice A xs.length c ∧ xs.length ≤ c ∧ ∀ j u, xs[j]? = some u → ∃ b off, A = some ⟨b, off, none⟩ ∧ w.cell? ⟨b, off + j, none⟩ = some u := by
  rcases h with ⟨rfl, rfl⟩ | ⟨b, off, c, rfl, hc, hx⟩
  · exact ⟨none, 0, rfl, Nat.le_refl _, fun j u hj => by simp at hj⟩
  · exact ⟨_, c, rfl, hc, fun j u hj => ⟨b, off, rfl, hx j u hj⟩⟩

theorem Rd.keep {w w' : World} {S : Nat → Prop} {v : Value} {xs : List Value} (h : Rd w v xs) (hk : Keep S w w') (hn : ∀ k, v.ownBlock = some k → ¬ S k) : Rd w' v xs := by
  rcases h with h | ⟨b, off, c, rfl, hc, hx⟩
  · exact .inl h
  · exact .inr ⟨b, off, c, rfl, hc, fun j u hj => hk.cell (hx j u hj) (hn b rfl)⟩

theorem Rd.below {w w' : World} {v : Value} {xs : List Value} (h : Rd w v xs) (hk : Below w.heap.size w w') : Rd w' v xs := h.keep (Keep.of_below hk) (fun _ _ h => h)

theorem Rd.own {w : World} {base e n : Nat} {v : Value} {xs : List Value} (h : w.ownsRow base e 1 v n xs) : Rd w v xs := by
  have hl := own_len h
  rcases h.2 with ⟨rfl, rfl⟩ | ⟨g, cap, cur, rfl, _, _, hc, _⟩
  · exact .inl ⟨rfl, List.eq_nil_of_length_eq_zero hl⟩
  · refine .inr ⟨g, 0, cap, by rw [hl], by rw [hl]; exact hc, fun j u hj => ?_⟩
    have := h.cells (g := g) rfl j u hj
    unfold Addr.add at this
    split at this
    · rename_i hj0; subst hj0; simpa using this
    · simpa using this

section
variable {P : Program} (w : World)
/-- append of whatever row onto an owned one -/
theorem run_append_row (t ty e : TypeId) (i : TypeInfo) (z : Value) (bytes : Nat) (ht : P.underlying t = some (.slice e)) (hi : P.info? e = some i) (hz : i.zero = some z)
    (hsize : i.size = 1) (hby : i.bytes = bytes) (hzs : z.cells.size = 1)
    (v : Value) (n : Nat) (xs : List Value) (hown : w.ownsRow 0 e 1 v n xs) (u : Value) (news : List Value) (hu : Rd w u news) (h1 : ∀ u ∈ news, u.oneCell' = true)
    (h63 : n + news.length ≤ maxLen) (hbytes : (n + news.length) * bytes ≤ 140737488355328) :
    ∃ v' w', (Builtin.append_ #[t, t] ty #[v, u]).run P w = .ok v' w' ∧ w'.ownsRow 0 e 1 v' (n + news.length) (xs ++ news) ∧ w.grownBy w' v.ownBlock ∧ AppBlk w v v' := by
  rcases hu with ⟨rfl, rfl⟩ | ⟨b, off, c, rfl, hc, hx⟩
  · refine ⟨v, w, ?_, by simpa using hown, ⟨rfl, rfl, rfl, Nat.le_refl _, fun _ _ _ => rfl⟩, .inl rfl⟩
    rcases hown.2 with ⟨rfl, rfl⟩ | ⟨g, cap, cur, rfl, _, hg, hnc, _⟩
    · simp [Builtin.append_, run_underlying ht, sizeOf, typeInfo, hi, Builtin.lenOf, Builtin.firstCells]
    · simp [Builtin.append_, run_underlying ht, sizeOf, typeInfo, hi, Builtin.lenOf, Builtin.firstCells, hnc, storeCells]
  · obtain ⟨v', w', hr, h2, h3, h4, _⟩ := run_append_mine (P := P) w t ty e i z 1 bytes ht hi hz hsize hby hzs (by decide) v n xs hown ⟨b, off, none⟩ news.length c news (by simp) (fun j u hj => by rw [addr_add]; exact hx j u hj) h1 h63 hbytes
    exact ⟨v', w', hr, h2, h3, h4⟩

/-- at a step of a region that draws its order -/
theorem step_append_row {ops : Array Oper} {o : Oper} {a : Act} {K : Act → World → Prop} {Q : Exit → Act → World → Prop} {E : Prop} (hgd : o.guard = none) (s x : Operand) (t : TypeId)
    (ho : o.op = .call { callee := .builtin .append, args := #[s, x], argTypes := #[t, t] })
    (e : TypeId) (i : TypeInfo) (z : Value) (bytes : Nat) (ht : P.underlying t = some (.slice e)) (hi : P.info? e = some i) (hz : i.zero = some z)
    (hsize : i.size = 1) (hby : i.bytes = bytes) (hzs : z.cells.size = 1)
    (v : Value) (n : Nat) (xs : List Value) (hs : a.eval s = v) (hown : w.ownsRow 0 e 1 v n xs) (u : Value) (news : List Value) (hx : a.eval x = u) (hu : Rd w u news) (h1 : ∀ u ∈ news, u.oneCell' = true)
    (h63 : n + news.length ≤ maxLen) (hbytes : (n + news.length) * bytes ≤ 140737488355328)
    (h : ∀ v' w', w'.ownsRow 0 e 1 v' (n + news.length) (xs ++ news) → w.grownBy w' v.ownBlock → AppBlk w v v' → K (a.put o.dst v') w') :
    if Region.wanted o (yielded ops a.tmps) = true then Oper.wp P o a w K Q else E := by
  have hw : Region.wanted o (yielded ops a.tmps) = true := by simp [Region.wanted, hgd]
  rw [if_pos hw]
  obtain ⟨v', w', hr, h2, h3, h4⟩ := run_append_row (P := P) w t o.type e i z bytes ht hi hz hsize hby hzs v n xs hown u news hu h1 h63 hbytes
  unfold Oper.wp execOp
  simp only [ho, resolve, invoke, builtin, Sem.run_bind, Sem.run_pure, Result.andThen_ok, List.map_toArray, List.map_cons, List.map_nil, hs, hx, hr]
  exact h v' w' h2 h3 h4

theorem wpList_append_row {ops : Array Oper} {rest : List Oper} {o : Oper} {a : Act} {Q : Exit → Act → World → Prop} (hgd : o.guard = none) (s x : Operand) (t : TypeId)
    (ho : o.op = .call { callee := .builtin .append, args := #[s, x], argTypes := #[t, t] })
    (e : TypeId) (i : TypeInfo) (z : Value) (bytes : Nat) (ht : P.underlying t = some (.slice e)) (hi : P.info? e = some i) (hz : i.zero = some z)
    (hsize : i.size = 1) (hby : i.bytes = bytes) (hzs : z.cells.size = 1)
    (v : Value) (n : Nat) (xs : List Value) (hs : a.eval s = v) (hown : w.ownsRow 0 e 1 v n xs) (u : Value) (news : List Value) (hx : a.eval x = u) (hu : Rd w u news) (h1 : ∀ u ∈ news, u.oneCell' = true)
    (h63 : n + news.length ≤ maxLen) (hbytes : (n + news.length) * bytes ≤ 140737488355328)
    (h : ∀ v' w', w'.ownsRow 0 e 1 v' (n + news.length) (xs ++ news) → w.grownBy w' v.ownBlock → AppBlk w v v' → wpList P ops Q rest (a.put o.dst v') w') : wpList P ops Q (o :: rest) a w :=
  wpList_plain hgd fun _ hK => by
    obtain ⟨v', w', hr, h2, h3, h4⟩ := run_append_row (P := P) w t o.type e i z bytes ht hi hz hsize hby hzs v n xs hown u news hu h1 h63 hbytes
    unfold Oper.wp execOp
    simp only [ho, resolve, invoke, builtin, Sem.run_bind, Sem.run_pure, Result.andThen_ok, List.map_toArray, List.map_cons, List.map_nil, hs, hx, hr]
    exact hK _ _ (h v' w' h2 h3 h4)
end
end Go.Proofs.Ytjclncmpfdfkfaa
