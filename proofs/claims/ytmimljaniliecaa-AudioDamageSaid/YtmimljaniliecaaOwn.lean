/- Slices that are made and grow: rows of whatever size, in a memory that is known block by block. -/
import Derived.Test.YtmimljaniliecaaOrE
namespace Go.Proofs.Ytmimljaniliecaa
open Go.RowKit

/-- v is a slice of n elements; the cells of its elements are xs -/
def RdK (w : World) (v : Value) (n : Nat) (xs : List Value) : Prop :=
  (v = .slice none 0 0 ∧ n = 0 ∧ xs = []) ∨ ∃ b off c, v = .slice (some ⟨b, off, none⟩) n c ∧ n ≤ c ∧ ∀ j u, xs[j]? = some u → w.cell? ⟨b, off + j, none⟩ = some u
/-- v is a slice of n elements of k cells, of its own: its block is T -/
structure Own (e : TypeId) (k : Nat) (v : Value) (n : Nat) (xs : List Value) (T : List (Nat × Obj)) : Prop where
  len : xs.length = n * k
  at_ : (v = .slice none 0 0 ∧ n = 0 ∧ T = []) ∨ ∃ g cap cur, v = .slice (some ⟨g, 0, none⟩) n cap ∧ T = [(g, .cells cur e (0, 0))] ∧ n ≤ cap ∧ cap ≤ maxLen ∧ cur.size = cap * k ∧ cur.toList.take (n * k) = xs

namespace RdK
variable {w w' : World} {v : Value} {n : Nat} {xs : List Value}
theorem keep {S : Nat → Prop} (h : RdK w v n xs) (hk : Keep S w w') (hn : ∀ k, v.ownBlock = some k → ¬ S k) : RdK w' v n xs := by
  rcases h with h | ⟨b, off, c, rfl, hc, hx⟩
  · exact .inl h
  · exact .inr ⟨b, off, c, rfl, hc, fun j u hj => hk.cell (hx j u hj) (hn b rfl)⟩
theorem below (h : RdK w v n xs) (hk : Below w.heap.size w w') : RdK w' v n xs := h.keep (Keep.of_below hk) (fun _ _ h => h)
theorem shape (h : RdK w v n xs) : ∃ A c, v = .slice A n c ∧ n ≤ c := by
  rcases h with ⟨rfl, rfl, _⟩ | ⟨b, off, c, rfl, hc, _⟩
  · exact ⟨none, 0, rfl, Nat.le_refl _⟩
  · exact ⟨_, c, rfl, hc⟩
theorem addr {A : Option Addr} {c : Nat} (h : RdK w (.slice A n c) n xs) {j : Nat} (hj : j < xs.length) : ∃ b off, A = some ⟨b, off, none⟩ := by
  rcases h with ⟨h, _, rfl⟩ | ⟨b, off, c', h, _, hx⟩
  · simp at hj
  · cases h; exact ⟨b, off, rfl⟩
theorem cellA {A : Option Addr} {c b off : Nat} (h : RdK w (.slice A n c) n xs) (hA : A = some ⟨b, off, none⟩) {j : Nat} {u : Value} (hj : xs[j]? = some u) : w.cell? ⟨b, off + j, none⟩ = some u := by
  subst hA
  rcases h with ⟨h, _, rfl⟩ | ⟨b', off', c', h, _, hx⟩
  · cases h
  · cases h; exact hx j u hj
theorem cellF {A : Option Addr} {c b off : Nat} (h : RdK w (.slice A n c) n xs) (hA : A = some ⟨b, off, none⟩) {i f : Nat} {u : Value} (hj : xs[i + f]? = some u) : w.cell? ⟨b, off + i + f, none⟩ = some u := by
  rw [Nat.add_assoc]; exact h.cellA hA hj
theorem range {A : Option Addr} {c b off : Nat} (h : RdK w (.slice A n c) n xs) (hA : A = some ⟨b, off, none⟩) {i : Nat} {row : List Value} (hr : ∀ j u, row[j]? = some u → xs[i + j]? = some u) : w.rangeAt b (off + i) row :=
  fun j u hj => h.cellF hA (hr j u hj)
end RdK
theorem addr_atK (b off n k : Nat) : (⟨b, off, none⟩ : Addr).add (n * k) = ⟨b, off + n * k, none⟩ := addr_add b off _

namespace Own
variable {e : TypeId} {k n : Nat} {v : Value} {xs : List Value} {T : List (Nat × Obj)} {w : World}
theorem nil (e : TypeId) (k : Nat) : Own e k (.slice none 0 0) 0 [] [] := ⟨by simp, .inl ⟨rfl, rfl, rfl⟩⟩
theorem shape (h : Own e k v n xs T) : ∃ A c, v = .slice A n c ∧ n ≤ c := by
  rcases h.at_ with ⟨rfl, rfl, _⟩ | ⟨g, cap, cur, rfl, _, hc, _⟩
  · exact ⟨none, 0, rfl, Nat.le_refl _⟩
  · exact ⟨_, cap, rfl, hc⟩
theorem rd (h : Own e k v n xs T) (hT : ∀ p ∈ T, w.heap[p.1]? = some p.2) : RdK w v n xs := by
  rcases h.at_ with ⟨rfl, rfl, _⟩ | ⟨g, cap, cur, rfl, rfl, hc, _, hs, ht⟩
  · refine .inl ⟨rfl, rfl, ?_⟩
    have := h.len; exact List.eq_nil_of_length_eq_zero (by omega)
  · refine .inr ⟨g, 0, cap, rfl, hc, fun j u hj => ?_⟩
    have hg := hT _ (List.mem_singleton.2 rfl)
    rw [Nat.zero_add, cell_of_row w g j _ e (0, 0) hg]
    rw [← ht, List.getElem?_take] at hj
    split at hj
    · simpa using hj
    · cases hj
theorem row (h : Own e k v n xs T) (hT : ∀ p ∈ T, w.heap[p.1]? = some p.2) : w.ownsRow 0 e k v n xs := by
  refine ⟨h.len, ?_⟩
  rcases h.at_ with ⟨rfl, rfl, _⟩ | ⟨g, cap, cur, rfl, rfl, hc, hm, hs, ht⟩
  · exact .inl ⟨rfl, rfl⟩
  · exact .inr ⟨g, cap, cur, rfl, Nat.zero_le _, hT _ (List.mem_singleton.2 rfl), hc, hm, hs, ht⟩
end Own
theorem own_of_row {w : World} {e : TypeId} {k n : Nat} {v : Value} {xs : List Value} (h : w.ownsRow 0 e k v n xs) : ∃ T, Own e k v n xs T ∧ (∀ p ∈ T, w.heap[p.1]? = some p.2) ∧ (∀ p ∈ T, v.ownBlock = some p.1) ∧ (T.map (·.1)).Pairwise (· ≠ ·) := by
  rcases h.2 with ⟨rfl, rfl⟩ | ⟨g, cap, cur, rfl, _, hg, hc, hm, hs, ht⟩
  · exact ⟨[], ⟨h.1, .inl ⟨rfl, rfl, rfl⟩⟩, by simp, by simp, .nil⟩
  · refine ⟨[(g, .cells cur e (0, 0))], ⟨h.1, .inr ⟨g, cap, cur, rfl, rfl, hc, hm, hs, ht⟩⟩, ?_, ?_, ?_⟩
    · intro p hp; rw [List.mem_singleton.1 hp]; exact hg
    · intro p hp; rw [List.mem_singleton.1 hp]; rfl
    · simp

namespace Mem
variable {S : Nat → Prop} {w0 w w' : World} {A B T T' : List (Nat × Obj)}
/-- behind a call that made T -/
theorem join (M : Mem S w0 w (A ++ B)) (N : Mem NoS w w' T) : Mem S w0 w' (A ++ (T ++ B)) := by
  have hb := N.toBelow
  have M' := M.below hb
  have hlt : ∀ p ∈ A ++ B, p.1 < w.heap.size := fun p hp => M.lt hp
  refine ⟨M'.keep, ?_, ?_, ?_⟩
  · intro p hp
    rcases List.mem_append.1 hp with h | h
    · exact M'.at_ p (List.mem_append_left _ h)
    · rcases List.mem_append.1 h with h | h
      · exact N.at_ p h
      · exact M'.at_ p (List.mem_append_right _ h)
  · intro p hp
    rcases List.mem_append.1 hp with h | h
    · exact M'.own p (List.mem_append_left _ h)
    · rcases List.mem_append.1 h with h | h
      · exact .inr (by have := (N.own p h).resolve_left (fun h => h); have := M.keep.size; omega)
      · exact M'.own p (List.mem_append_right _ h)
  · have hp := M'.apart
    rw [List.map_append, List.pairwise_append] at hp ⊢
    rw [List.map_append, List.pairwise_append]
    have hT : ∀ a ∈ T.map (·.1), w.heap.size ≤ a := by
      intro a ha
      obtain ⟨p, hp, rfl⟩ := List.mem_map.1 ha
      exact (N.own p hp).resolve_left (fun h => h)
    have hA : ∀ a ∈ A.map (·.1), a < w.heap.size := by
      intro a ha
      obtain ⟨p, hp, rfl⟩ := List.mem_map.1 ha
      exact hlt p (List.mem_append_left _ hp)
    have hB : ∀ a ∈ B.map (·.1), a < w.heap.size := by
      intro a ha
      obtain ⟨p, hp, rfl⟩ := List.mem_map.1 ha
      exact hlt p (List.mem_append_right _ hp)
    refine ⟨hp.1, ⟨N.apart, hp.2.1, fun a ha b hb => ?_⟩, fun a ha b hb => ?_⟩
    · have := hT a ha; have := hB b hb; omega
    · rcases List.mem_append.1 hb with hb | hb
      · have := hA a ha; have := hT b hb; omega
      · exact hp.2.2 a ha b hb
/-- behind an append onto the slice of T -/
theorem grown {e : TypeId} {k n : Nat} {v v' : Value} {xs xs' : List Value} {n' : Nat} (M : Mem S w0 w (A ++ (T ++ B))) (hO : Own e k v n xs T) (hg : w.grownBy w' v.ownBlock) (ha : AppBlk w v v') (h' : w'.ownsRow 0 e k v' n' xs') : ∃ T', Own e k v' n' xs' T' ∧ Mem S w0 w' (A ++ (T' ++ B)) := by
  obtain ⟨T', hO', hT', hv', hp'⟩ := own_of_row h'
  refine ⟨T', hO', ?_⟩
  -- where the old row lies
  have hvT : ∀ i, v.ownBlock = some i → ∃ o, (i, o) ∈ T := by
    intro i hi
    rcases hO.at_ with ⟨rfl, _, _⟩ | ⟨g, cap, cur, rfl, rfl, _⟩
    · simp [Value.ownBlock] at hi
    · simp only [Value.ownBlock, Option.some.injEq] at hi
      subst hi; exact ⟨_, List.mem_singleton.2 rfl⟩
  have hown : ∀ i, v.ownBlock = some i → S i ∨ w0.heap.size ≤ i := by
    intro i hi
    obtain ⟨o, ho⟩ := hvT i hi
    exact M.own _ (List.mem_append_right _ (List.mem_append_left _ ho))
  have hap := M.apart
  rw [List.map_append, List.pairwise_append, List.map_append, List.pairwise_append] at hap
  obtain ⟨hA, ⟨_, hB, hTB⟩, hAT⟩ := hap
  have hAB : ∀ a ∈ A.map (·.1), ∀ b ∈ B.map (·.1), a ≠ b := fun a ha b hb => hAT a ha b (List.mem_append_right _ hb)
  have lt : ∀ p, p ∈ A ++ B → p.1 < w.heap.size := by
    intro p hp
    rcases List.mem_append.1 hp with h | h
    · exact M.lt (List.mem_append_left _ h)
    · exact M.lt (List.mem_append_right _ (List.mem_append_right _ h))
  -- a block of A or B is not the old row's
  have hnot : ∀ p, p ∈ A ++ B → some p.1 ≠ v.ownBlock := by
    intro p hp hc
    obtain ⟨o, ho⟩ := hvT p.1 hc.symm
    rcases List.mem_append.1 hp with h | h
    · exact hAT p.1 (List.mem_map.2 ⟨p, h, rfl⟩) p.1 (List.mem_append_left _ (List.mem_map.2 ⟨_, ho, rfl⟩)) rfl
    · exact hTB p.1 (List.mem_map.2 ⟨_, ho, rfl⟩) p.1 (List.mem_map.2 ⟨p, h, rfl⟩) rfl
  -- nor the new row's
  have hnew : ∀ a ∈ T'.map (·.1), ∀ p, p ∈ A ++ B → p.1 ≠ a := by
    intro a ha p hp hc
    obtain ⟨q, hq, rfl⟩ := List.mem_map.1 ha
    have h1 := hv' q hq
    rcases ha : ha with h2
    rcases (show v'.ownBlock = v.ownBlock ∨ v'.ownBlock = some w.heap.size from ‹AppBlk w v v'›) with h2 | h2
    · rw [h1] at h2
      exact hnot p hp (by rw [hc, h2])
    · rw [h1] at h2
      have := lt p hp
      injection h2 with h2
      omega
  have hkeep : Keep S w0 w' := M.keep.grown hg hown
  have hsame : ∀ p, p ∈ A ++ B → w.heap[p.1]? = some p.2 → w'.heap[p.1]? = some p.2 := fun p hp h => (hg.block p.1 (lt p hp) (hnot p hp)).trans h
  refine ⟨hkeep, ?_, ?_, ?_⟩
  · intro p hp
    rcases List.mem_append.1 hp with h | h
    · exact hsame p (List.mem_append_left _ h) (M.at_ p (List.mem_append_left _ h))
    · rcases List.mem_append.1 h with h | h
      · exact hT' p h
      · exact hsame p (List.mem_append_right _ h) (M.at_ p (List.mem_append_right _ (List.mem_append_right _ h)))
  · intro p hp
    rcases List.mem_append.1 hp with h | h
    · exact M.own p (List.mem_append_left _ h)
    · rcases List.mem_append.1 h with h | h
      · have h1 := hv' p h
        rcases (show v'.ownBlock = v.ownBlock ∨ v'.ownBlock = some w.heap.size from ha) with h2 | h2
        · exact hown p.1 (h2.symm.trans h1)
        · rw [h1] at h2
          injection h2 with h2
          exact .inr (by rw [h2]; exact M.keep.size)
      · exact M.own p (List.mem_append_right _ (List.mem_append_right _ h))
  · rw [List.map_append, List.pairwise_append, List.map_append, List.pairwise_append]
    refine ⟨hA, ⟨hp', hB, fun a ha b hb => ?_⟩, fun a ha b hb => ?_⟩
    · obtain ⟨p, hp, rfl⟩ := List.mem_map.1 hb
      exact Ne.symm (hnew a ha p (List.mem_append_right _ hp))
    · obtain ⟨p, hp, rfl⟩ := List.mem_map.1 ha
      rcases List.mem_append.1 hb with hb | hb
      · exact hnew b hb p (List.mem_append_left _ hp)
      · exact hAB _ (List.mem_map.2 ⟨p, hp, rfl⟩) b hb
theorem tailA (M : Mem S w0 w (A ++ (T ++ B))) : ∀ p ∈ T, w.heap[p.1]? = some p.2 := fun p hp => M.at_ p (List.mem_append_right _ (List.mem_append_left _ hp))
end Mem

section
variable {P : Program}
/-- append of whatever slice onto an owned one -/
theorem append_of {S : Nat → Prop} {w0 w : World} {A B T : List (Nat × Obj)} (M : Mem S w0 w (A ++ (T ++ B))) (t ty e : TypeId) (i : TypeInfo) (z : Value) (size bytes : Nat) (ht : P.underlying t = some (.slice e)) (hi : P.info? e = some i) (hz : i.zero = some z)
    (hsize : i.size = size) (hby : i.bytes = bytes) (hzs : z.cells.size = size) (hsz : 0 < size)
    (v : Value) (n : Nat) (xs : List Value) (hO : Own e size v n xs T) (u : Value) (m : Nat) (news : List Value) (hu : RdK w u m news) (hl : news.length = m * size) (h1 : ∀ u ∈ news, u.oneCell' = true)
    (h63 : n + m ≤ maxLen) (hbytes : (n + m) * bytes ≤ 140737488355328) :
    ∃ v' T' w', (Builtin.append_ #[t, t] ty #[v, u]).run P w = .ok v' w' ∧ Own e size v' (n + m) (xs ++ news) T' ∧ Mem S w0 w' (A ++ (T' ++ B)) := by
  have hown : w.ownsRow 0 e size v n xs := hO.row M.tailA
  rcases hu with ⟨rfl, rfl, rfl⟩ | ⟨b, off, c, rfl, hc, hx⟩
  · refine ⟨v, T, w, ?_, by simpa using hO, M⟩
    rcases hown.2 with ⟨rfl, rfl⟩ | ⟨g, cap, cur, rfl, _, hg, hnc, _⟩
    · simp [Builtin.append_, run_underlying ht, sizeOf, typeInfo, hi, Builtin.lenOf, Builtin.firstCells]
    · simp [Builtin.append_, run_underlying ht, sizeOf, typeInfo, hi, Builtin.lenOf, Builtin.firstCells, hnc, storeCells]
  · obtain ⟨v', w', hr, h2, h3, h4, _⟩ := run_append_mine (P := P) w t ty e i z size bytes ht hi hz hsize hby hzs hsz v n xs hown ⟨b, off, none⟩ m c news hl (fun j u hj => by rw [addr_add]; exact hx j u hj) h1 h63 hbytes
    obtain ⟨T', hO', hM'⟩ := M.grown hO h3 h4 h2
    exact ⟨v', T', w', hr, hO', hM'⟩
theorem run_append_op {w w' : World} {o : Oper} {a : Act} (s x : Operand) (t : TypeId) (ho : o.op = .call { callee := .builtin .append, args := #[s, x], argTypes := #[t, t] }) (v u v' : Value) (hs : a.eval s = v) (hx : a.eval x = u)
    (hr : (Builtin.append_ #[t, t] o.type #[v, u]).run P w = .ok v' w') : (execOp a.eval o).run P w = .ok (.value v') w' := by
  unfold execOp
  simp only [ho, resolve, invoke, builtin, Sem.run_bind, Sem.run_pure, Result.andThen_ok, List.map_toArray, List.map_cons, List.map_nil, hs, hx, hr]
end
theorem Mem.perm {S : Nat → Prop} {w0 w : World} {L L' : List (Nat × Obj)} (M : Mem S w0 w L) (h : L'.Perm L) : Mem S w0 w L' :=
  ⟨M.keep, fun p hp => M.at_ p (h.subset hp), fun p hp => M.own p (h.subset hp), (List.Perm.pairwise_iff (fun {_ _} h => Ne.symm h) (h.map _)).2 M.apart⟩
theorem Mem.swap {S : Nat → Prop} {w0 w : World} {A T U B : List (Nat × Obj)} (M : Mem S w0 w (A ++ (T ++ (U ++ B)))) : Mem S w0 w (A ++ (U ++ (T ++ B))) :=
  M.perm (List.Perm.append_left A (by
    rw [← List.append_assoc, ← List.append_assoc]
    exact List.Perm.append_right B List.perm_append_comm))
theorem rdk_new {w : World} {g : Nat} {xs : List Value} {t : TypeId} {f : Nat × Nat} (h : w.heap[g]? = some (.cells xs.toArray t f)) : RdK w (.slice (some ⟨g, 0, none⟩) 1 1) 1 xs := by
  refine .inr ⟨g, 0, 1, rfl, Nat.le_refl _, fun j u hj => ?_⟩
  rw [Nat.zero_add, cell_of_row w g j _ t f h]
  simpa using hj
/-- a call that makes a new slice (or values with new slices): R v T says how -/
def MakesRow (P : Program) (f : FuncId) (args : Array Value) (w : World) (R : Value → List (Nat × Obj) → Prop) : Prop := Calls P f args w fun e w' => ∃ v T, e = .returned v ∧ R v T ∧ Mem NoS w w' T
section
variable {P : Program} {ops : Array Oper} {Q : Exit → Act → World → Prop} {rest : List Oper} {o : Oper} {a : Act} {w : World} {S : Nat → Prop} {w0 : World} {A B : List (Nat × Obj)} {f : FuncId} {args : Array Value} {R : Value → List (Nat × Obj) → Prop}
theorem st_callR (M : Mem S w0 w (A ++ B)) (hw : Region.wanted o (yielded ops a.tmps) = true) (hr : (execOp a.eval o).run P w = .ok (.enter f args) w) (hc : MakesRow P f args w R)
    (h : ∀ v T w', R v T → Mem S w0 w' (A ++ (T ++ B)) → WL P ops Q rest (a.put o.dst v) w') : WL P ops Q (o :: rest) a w :=
  st_call (fun v w' => ∃ T, R v T ∧ Mem S w0 w' (A ++ (T ++ B))) hw hr hc (fun e w' ⟨v, T, he, hR, hM⟩ => ⟨v, he, T, hR, M.join hM⟩) (fun v w' ⟨T, hR, hM⟩ => h v T w' hR hM)
theorem st_new {L : List (Nat × Obj)} (M : Mem S w0 w L) (ob : Obj) (F : Nat → Value) (hw : Region.wanted o (yielded ops a.tmps) = true) (hr : (execOp a.eval o).run P w = .ok (.value (F w.heap.size)) (w.alloc ob))
    (h : ∀ g w', Mem S w0 w' ((g, ob) :: L) → WL P ops Q rest (a.put o.dst (F g)) w') : WL P ops Q (o :: rest) a w :=
  st_world _ _ hw hr (h _ _ (M.alloc ob))
variable {l : List Oper} {D : World → Prop} {fuel : Nat} {listed : Array Bool}
theorem wh_callR (M : Mem S w0 w (A ++ B)) (i : Nat) (hi : l[i]? = some o) (hrd : Region.ready .any l.toArray listed = [i]) (hw : Region.wanted o (yielded l.toArray a.tmps) = true) (hr : (execOp a.eval o).run P w = .ok (.enter f args) w) (listed' : Array Bool) (hl : listed.setIfInBounds i true = listed') (hc : MakesRow P f args w R)
    (h : ∀ v T w', R v T → Mem S w0 w' (A ++ (T ++ B)) → D w' ∧ WH P l Q D fuel listed' (a.put o.dst v) w') : WH P l Q D (fuel + 1) listed a w :=
  wh_call i (fun v w' => ∃ T, R v T ∧ Mem S w0 w' (A ++ (T ++ B))) hi hrd hw hr listed' hl hc (fun e w' ⟨v, T, he, hR, hM⟩ => ⟨v, he, T, hR, M.join hM⟩) (fun v w' ⟨T, hR, hM⟩ => h v T w' hR hM)
theorem wh_new {L : List (Nat × Obj)} (M : Mem S w0 w L) (i : Nat) (ob : Obj) (F : Nat → Value) (hi : l[i]? = some o) (hrd : Region.ready .any l.toArray listed = [i]) (hw : Region.wanted o (yielded l.toArray a.tmps) = true) (hr : (execOp a.eval o).run P w = .ok (.value (F w.heap.size)) (w.alloc ob)) (listed' : Array Bool) (hl : listed.setIfInBounds i true = listed')
    (h : ∀ g w', Mem S w0 w' ((g, ob) :: L) → D w' ∧ WH P l Q D fuel listed' (a.put o.dst (F g)) w') : WH P l Q D (fuel + 1) listed a w :=
  wh_world i _ _ hi hrd hw hr listed' hl (h _ _ (M.alloc ob)).1 (h _ _ (M.alloc ob)).2
end
end Go.Proofs.Ytmimljaniliecaa
