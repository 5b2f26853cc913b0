/- Decoded sound, plainly. -/
import Derived.Test.YtmimljaniliecaaBe
namespace Go.Proofs.Ytmimljaniliecaa
open Go.RowKit Bt

theorem done3 {P : Program} {a : Act} {w : World} {fn : Func} {R : Ending → World → Prop} (t u x : Tmp) (v v' v'' : Value) (hr : fn.results = #[.tmp t, .tmp u, .tmp x]) (hv : a.tmps.getD t undef = v) (hv' : a.tmps.getD u undef = v') (hv'' : a.tmps.getD x undef = v'') (hd : a.defers = []) (hR : R (.returned (.tuple #[v, v', v''])) w) : bodyPost P fn R .ret a w :=
  bodyPost_ret (v := .tuple #[v, v', v'']) (by subst hv; subst hv'; subst hv''; simp [results, hr]) hd hR
theorem info_int9 : (Try.prog.info? 3).map (fun i => (i.zero, i.size, i.bytes)) = some (some (.int .i64 0), 1, 8) := by kernel_rfl
theorem append_i64 {S : Nat → Prop} {w0 w : World} {A B T : List (Nat × Obj)} (M : Mem S w0 w (A ++ (T ++ B))) (ty : TypeId) (v : Value) (n : Nat) (xs : List Value) (hO : Own 3 1 v n xs T) (u : Value) (m : Nat) (news : List Value) (hu : RdK w u m news) (hl : news.length = m * 1) (h1 : ∀ u ∈ news, u.oneCell' = true) (hn : n + m ≤ 1000000000000) :
    ∃ v' T' w', (Builtin.append_ #[41, 41] ty #[v, u]).run Try.prog w = .ok v' w' ∧ Own 3 1 v' (n + m) (xs ++ news) T' ∧ Mem S w0 w' (A ++ (T' ++ B)) := by
  obtain ⟨i0, hi, hz0, hz1, hz2⟩ := info_parts info_int9
  exact append_of M 41 ty 3 i0 (.int .i64 0) 1 8 Try.underlying41 hi hz0 hz1 hz2 rfl (by decide) v n xs hO u m news hu hl h1 (by simp only [maxLen]; omega) (by omega)
theorem run_make_s16 {w : World} {o : Oper} {a : Act} (l c : Operand) (ho : o.op = .makeSlice 28 l c) (kl kc : IntKind) (n : Nat) (hl : a.eval l = .int kl (n : Int)) (hc : a.eval c = .int kc (n : Int)) (hb : n ≤ 1000000) :
    (execOp a.eval o).run Try.prog w = .ok (.value (.slice (some ⟨w.heap.size, 0, none⟩) n n)) (w.alloc (.cells (madeCells #[.slice none 0 0] n) 39 (0, 0))) := by
  obtain ⟨i0, hi, hz0, hz1, hz2⟩ := info_parts info_s16
  exact run_make_op (P := Try.prog) 28 39 l c ho i0 (.slice none 0 0) Try.underlying28 hi hz0 hz1 rfl kl kc n hl hc (by rw [hz2]; omega) (by omega)

/-- n channels -/
def mk (f : Nat → List Int) (n : Nat) : List (List Int) := (List.range n).map f
theorem mk_length (f : Nat → List Int) (n : Nat) : (mk f n).length = n := by simp [mk]
theorem mk_get {f : Nat → List Int} {n j : Nat} (h : j < n) : (mk f n).getD j [] = f j := by
  simp [mk, List.getD_eq_getElem?_getD, List.getElem?_range h]
theorem mk_ext {f : Nat → List Int} {n : Nat} {ls : List (List Int)} (hl : ls.length = n) (h : ∀ j, j < n → ls.getD j [] = f j) : ls = mk f n :=
  ls_ext (by rw [hl, mk_length]) (fun j hj => by rw [hl] at hj; rw [h j hj, mk_get hj])
theorem mk_congr {f g : Nat → List Int} {n : Nat} (h : ∀ j, j < n → f j = g j) : mk f n = mk g n :=
  mk_ext (mk_length _ _) (fun j hj => by rw [mk_get hj]; exact h j hj)
theorem mk_set {f : Nat → List Int} {n j : Nat} {x : List Int} (hj : j < n) : (mk f n).set j x = mk (setF f j x) n :=
  mk_ext (by rw [List.length_set, mk_length]) (fun i hi => by
    by_cases e : i = j
    · subst e; rw [getD_set_eq (by rw [mk_length]; exact hj), setF_eq]
    · rw [getD_set_ne e, setF_ne _ _ e, mk_get hi])
theorem tbL_rect (l : List Nat) (j : Nat) (h : j < (tbL l).length) : ((tbL l).getD j []).length = ((tbL l).getD 0 []).length := by
  unfold tbL at h ⊢
  split
  · rename_i hc
    rw [if_pos hc, chLs_length] at h
    rw [chLs_get _ _ _ _ h, chLs_get _ _ _ _ (by omega), chL_length, chL_length]
  · rename_i hc
    rw [if_neg hc] at h
    simp at h
theorem tbL_S16 (l : List Nat) : SP (tbL l) := by
  unfold tbL
  split
  · intro j hj
    rw [chLs_length] at hj
    rw [chLs_get _ _ _ _ hj]
    exact chL_S16 (unpack_bin _) _ _
  · intro j hj; simp at hj
theorem whL_rect {l : List Nat} {ch n : Nat} (h : whB l ch n) : (whL l ch n).length = ch ∧ ∀ j, j < ch → ((whL l ch n).getD j []).length = n := by
  obtain ⟨h1, h2, h3, h4⟩ := h
  rw [wh_t ⟨h1, h2, h3, h4⟩]
  exact ⟨h3, fun j hj => by rw [tbL_rect _ _ (by rw [h3]; exact hj), h4]⟩

/-- the channels, the samples, the blocks that the head names -/
def deC (l : List Nat) : Nat := l.getD 4 0
def deN (l : List Nat) : Nat := l.getD 5 0 * 65536 + l.getD 6 0 * 256 + l.getD 7 0
def deK (l : List Nat) : Nat := (deN l + 31) / 32
def deS (l : List Nat) : Nat := (bsz ((deC l : Nat) : Int)).toNat
def deAt (l : List Nat) (k : Nat) : Nat := min (k * deS l) (l.length - 10)
/-- the bytes from block k on -/
def deB (l : List Nat) (k : Nat) : List Nat := sl (sl l 10 (l.length - 10)) (deAt l k) ((l.length - 10) - deAt l k)
def deW (l : List Nat) (k : Nat) : Nat := min 32 (deN l - 32 * k)
abbrev deOk (l : List Nat) (k : Nat) : Prop := whB (deB l k) (deC l) (deW l k)
/-- the samples of channel c, k blocks decoded -/
def deL (l : List Nat) (c : Nat) : Nat → List Int
  | 0 => []
  | k + 1 => deL l c k ++ (if deOk l k then (whL (deB l k) (deC l) (deW l k)).getD c [] else List.replicate (deW l k) 0)
theorem deL_ok {l : List Nat} {c k : Nat} (h : deOk l k) : deL l c (k + 1) = deL l c k ++ (whL (deB l k) (deC l) (deW l k)).getD c [] := by
  show deL l c k ++ (if deOk l k then _ else _) = _
  rw [if_pos h]
theorem deL_bad {l : List Nat} {c k : Nat} (h : ¬ deOk l k) : deL l c (k + 1) = deL l c k ++ List.replicate (deW l k) 0 := by
  show deL l c k ++ (if deOk l k then _ else _) = _
  rw [if_neg h]
/-- the damaged blocks -/
def deD (l : List Nat) : Nat → List Int
  | 0 => []
  | k + 1 => if deOk l k then deD l k else deD l k ++ [(k : Int)]
theorem deL_len {l : List Nat} {c : Nat} (hc : c < deC l) (k : Nat) : (deL l c k).length = min (32 * k) (deN l) := by
  induction k with
  | zero => show 0 = _; omega
  | succ k ih =>
    by_cases h : deOk l k
    · rw [deL_ok h, List.length_append, ih, (whL_rect h).2 c hc]; unfold deW; omega
    · rw [deL_bad h, List.length_append, ih, List.length_replicate]; unfold deW; omega
/-- the program's channel: zeros behind what is decoded -/
def chS (l : List Nat) (c k : Nat) : List Int := deL l c k ++ List.replicate (deN l - 32 * k) 0
theorem chS_zero (l : List Nat) (c : Nat) : chS l c 0 = List.replicate (deN l) 0 := rfl
theorem chS_len {l : List Nat} {c : Nat} (hc : c < deC l) (k : Nat) : (chS l c k).length = deN l := by
  unfold chS; rw [List.length_append, deL_len hc, List.length_replicate]; omega
theorem chS_bad {l : List Nat} {k : Nat} (h : ¬ deOk l k) (c : Nat) : chS l c (k + 1) = chS l c k := by
  unfold chS
  rw [deL_bad h, List.append_assoc, List.replicate_append_replicate, show deW l k + (deN l - 32 * (k + 1)) = deN l - 32 * k by unfold deW; omega]
theorem chS_ok {l : List Nat} {k c : Nat} (h : deOk l k) (hc : c < deC l) (hk : 32 * k ≤ deN l) : (chS l c k).take (32 * k) ++ ((whL (deB l k) (deC l) (deW l k)).getD c [] ++ (chS l c k).drop (32 * k + deW l k)) = chS l c (k + 1) := by
  have hl : (deL l c k).length = 32 * k := by rw [deL_len hc]; omega
  unfold chS
  rw [deL_ok h, List.take_append_of_le_length (by omega), List.take_of_length_le (by omega), ← hl, List.drop_append, List.drop_eq_nil_of_le (by omega), List.nil_append, List.drop_replicate, List.append_assoc]
  rw [hl, show deN l - 32 * k - (32 * k + deW l k - 32 * k) = deN l - 32 * (k + 1) by unfold deW; omega]
theorem chS_end {l : List Nat} {c k : Nat} (hk : deN l ≤ 32 * k) : chS l c k = deL l c k := by
  unfold chS
  rw [show deN l - 32 * k = 0 by omega]
  simp
def deG (l : List Nat) : Prop := sl l 0 (4 - 0) = [67, 82, 83, 68] ∧ (1 ≤ deC l ∧ deC l ≤ 4) ∧ deN l ≤ 1048576
instance (l : List Nat) : Decidable (deG l) := by unfold deG; infer_instance
def deE (l : List Nat) : Int := if l.length < 10 then 4 else if ¬ deG l then 3 else if intB (sl l 0 (10 - 0)) = false then 10 else if deK l * deS l < l.length - 10 then 3 else 0
/-- the decoded sound, and the numbers of the damaged blocks -/
def deR (l : List Nat) : List (List Int) := if deE l = 0 then mk (fun c => deL l c (deK l)) (deC l) else []
def deM (l : List Nat) : List Int := if deE l = 0 then deD l (deK l) else []
theorem de_bad {l : List Nat} {e : Int} (h : deE l = e) (h0 : e ≠ 0) : deR l = [] ∧ deM l = [] := ⟨if_neg (by rw [h]; exact h0), if_neg (by rw [h]; exact h0)⟩
theorem de_ok {l : List Nat} (h : deE l = 0) : deR l = mk (fun c => deL l c (deK l)) (deC l) ∧ deM l = deD l (deK l) := ⟨if_pos h, if_pos h⟩
end Go.Proofs.Ytmimljaniliecaa
