/- Own channels that are replaced, written and copied into. -/
import Derived.Test.YtmimljaniliecaaBd
import Derived.Laws.IdiomCopy
namespace Go.Proofs.Ytmimljaniliecaa
open Go.RowKit Bt

theorem flatT_split (Ts : Nat → List (Nat × Obj)) (j : Nat) : ∀ n, j < n → ∃ X Y, flatT Ts n = X ++ (Ts j ++ Y) ∧ ∀ T', flatT (setF Ts j T') n = X ++ (T' ++ Y) := by
  intro n
  induction n with
  | zero => intro h; omega
  | succ n ih =>
    intro h
    rcases Nat.lt_or_ge j n with h1 | h1
    · obtain ⟨X, Y, e1, e2⟩ := ih h1
      refine ⟨X, Y ++ Ts n, ?_, fun T' => ?_⟩
      · show flatT Ts n ++ Ts n = _
        rw [e1]; simp only [List.append_assoc]
      · show flatT _ n ++ setF Ts j T' n = _
        rw [e2, setF_ne _ _ (by omega)]; simp only [List.append_assoc]
    · obtain rfl : j = n := by omega
      refine ⟨flatT Ts j, [], ?_, fun T' => ?_⟩
      · show flatT Ts j ++ Ts j = _
        rw [List.append_nil]
      · show flatT _ j ++ setF Ts j T' j = _
        rw [flatT_set _ _ _ _ (Nat.le_refl _), setF_eq, List.append_nil]
theorem getD_set_eq {ls : List (List Int)} {j : Nat} {x : List Int} (h : j < ls.length) : (ls.set j x).getD j [] = x := by
  simp [List.getD_eq_getElem?_getD, h]
theorem getD_set_ne {ls : List (List Int)} {i j : Nat} {x : List Int} (h : i ≠ j) : (ls.set j x).getD i [] = ls.getD i [] := by
  simp [List.getD_eq_getElem?_getD, List.getElem?_set_ne (Ne.symm h)]
/-- a channel is replaced -/
theorem OwnI.setA {ls : List (List Int)} {As : Nat → Option Addr} {cs : Nat → Nat} {Ts : Nat → List (Nat × Obj)} (h : OwnI ls As cs Ts) {j : Nat} (hj : j < ls.length) {x : List Int} {A : Option Addr} {c n : Nat} {T : List (Nat × Obj)} (hO : Own 45 1 (.slice A n c) n (i16s x) T) (hn : x.length = n) :
    OwnI (ls.set j x) (setF As j A) (setF cs j c) (setF Ts j T) := by
  subst hn
  intro i hi
  rw [List.length_set] at hi
  by_cases e : i = j
  · subst e
    rw [getD_set_eq hj, setF_eq, setF_eq, setF_eq]; exact hO
  · rw [getD_set_ne e, setF_ne _ _ e, setF_ne _ _ e, setF_ne _ _ e]; exact h i hi
theorem setF_same {α : Type} (f : Nat → α) (j : Nat) : setF f j (f j) = f := by
  funext i
  unfold setF
  split
  · rename_i h; rw [h]
  · rfl
theorem pvs_set {ls : List (List Int)} {As : Nat → Option Addr} {cs : Nat → Nat} {j n : Nat} (hj : j < ls.length) {x : List Int} (A : Option Addr) (c : Nat) (hn : x.length = n) : pvs (ls.set j x) (setF As j A) (setF cs j c) = (pvs ls As cs).set j (.slice A n c) := by
  subst hn
  apply List.ext_getElem?
  intro i
  unfold pvs
  rw [List.length_set]
  rcases Nat.lt_or_ge i ls.length with h | h
  · by_cases e : i = j
    · subst e
      rw [List.getElem?_set_self (by simpa using h)]
      simp only [List.getElem?_map, List.getElem?_range h, Option.map_some]
      rw [getD_set_eq h, setF_eq, setF_eq]
    · rw [List.getElem?_set_ne (Ne.symm e)]
      simp only [List.getElem?_map, List.getElem?_range h, Option.map_some]
      rw [getD_set_ne e, setF_ne _ _ e, setF_ne _ _ e]
  · rw [List.getElem?_eq_none (by simpa using h), List.getElem?_eq_none (by simpa using h)]
/-- a channel's block by itself -/
theorem Mem.chan {S : Nat → Prop} {w0 w : World} {A B X Y T : List (Nat × Obj)} (M : Mem S w0 w (A ++ ((X ++ (T ++ Y)) ++ B))) : Mem S w0 w ((A ++ X) ++ (T ++ (Y ++ B))) := by
  have e : (A ++ X) ++ (T ++ (Y ++ B)) = A ++ ((X ++ (T ++ Y)) ++ B) := by simp only [List.append_assoc]
  rw [e]; exact M
theorem Mem.unchan {S : Nat → Prop} {w0 w : World} {A B X Y T : List (Nat × Obj)} (M : Mem S w0 w ((A ++ X) ++ (T ++ (Y ++ B)))) : Mem S w0 w (A ++ ((X ++ (T ++ Y)) ++ B)) := by
  have e : (A ++ X) ++ (T ++ (Y ++ B)) = A ++ ((X ++ (T ++ Y)) ++ B) := by simp only [List.append_assoc]
  rw [← e]; exact M
/-- cells of an own slice are set, one behind the other -/
theorem Mem.setOwns {S : Nat → Prop} {w0 : World} {A B : List (Nat × Obj)} {e : TypeId} {k n c b off : Nat} : ∀ (vs : List Value) (o : Nat) (w : World) (xs : List Value) (T : List (Nat × Obj)), Mem S w0 w (A ++ (T ++ B)) → Own e k (.slice (some ⟨b, off, none⟩) n c) n xs T → o + vs.length ≤ xs.length →
    ∃ T', Own e k (.slice (some ⟨b, off, none⟩) n c) n (xs.take o ++ (vs ++ xs.drop (o + vs.length))) T' ∧ Mem S w0 (w.setCells b (off + o) vs) (A ++ (T' ++ B)) := by
  intro vs
  induction vs with
  | nil => intro o w xs T M hO _; exact ⟨T, by simpa using hO, M⟩
  | cons v r ih =>
    intro o w xs T M hO hl
    rw [List.length_cons] at hl
    obtain ⟨T1, hO1, M1, _⟩ := M.setOwn hO o v
    obtain ⟨T2, hO2, M2⟩ := ih (o + 1) _ _ T1 M1 hO1 (by rw [List.length_set]; omega)
    refine ⟨T2, ?_, by rw [World.setCells, Nat.add_assoc]; exact M2⟩
    have e1 : (xs.set o v).take (o + 1) = xs.take o ++ [v] := by
      rw [List.take_add_one, List.take_set_of_le (Nat.le_refl _), List.getElem?_set_self (by omega)]; rfl
    have e2 : (xs.set o v).drop (o + 1 + r.length) = xs.drop (o + (v :: r).length) := by
      rw [List.drop_set_of_lt (by omega), List.length_cons, show o + 1 + r.length = o + (r.length + 1) by omega]
    rw [e1, e2] at hO2
    simpa using hO2
theorem map_set16 (l x : List Int) (q : Nat) : (i16s l).take q ++ (i16s x ++ (i16s l).drop (q + (i16s x).length)) = i16s (l.take q ++ (x ++ l.drop (q + x.length))) := by
  simp [i16s, List.map_take, List.map_drop]
/-- copy into a channel -/
theorem copy_chan {S : Nat → Prop} {w0 w : World} {A B : List (Nat × Obj)} {Ts : Nat → List (Nat × Obj)} {ls : List (List Int)} {As : Nat → Option Addr} {cs : Nat → Nat} {j q m cd nj : Nat} {Bd : Option Addr} {x : List Int} (M : Mem S w0 w (A ++ (flatT Ts ls.length ++ B))) (hI : OwnI ls As cs Ts) (hj : j < ls.length) (hs : RdK w (.slice Bd m cd) m (i16s x)) (hm : x.length = m) (hm1 : 1 ≤ m)
    (hnj : (ls.getD j []).length = nj) (hq : q + m ≤ nj) (ty : TypeId) :
    ∃ T' w', (Builtin.copy_ #[39, 39] ty #[.slice (subA (As j) (cs j) q) (nj - q) (cs j - q), .slice Bd m cd]).run Try.prog w = .ok (goInt m) w' ∧ Mem S w0 w' (A ++ (flatT (setF Ts j T') ls.length ++ B)) ∧
      OwnI (ls.set j ((ls.getD j []).take q ++ (x ++ (ls.getD j []).drop (q + m)))) As cs (setF Ts j T') := by
  subst hm
  obtain ⟨X, Y, e1, e2⟩ := flatT_split Ts j ls.length hj
  rw [e1] at M
  have M1 := M.chan
  have hO := hI j hj
  rw [hnj] at hO
  have hcap := (hO.rd M1.tailA).cap
  rcases hO.at_ with ⟨h, h0, _⟩ | ⟨g, cap, cur, h, hT, hc, hmx, hsz, ht⟩
  · omega
  · injection h with ha _ hcc
    have hA : As j = some ⟨g, 0, none⟩ := ha
    have hx16 : (i16s x).length = x.length := i16s_length x
    obtain ⟨bs, os, eB⟩ := RdK.addr hs (j := 0) (by rw [hx16]; omega)
    subst eB
    have hsub : subA (As j) (cs j) q = some ⟨g, q, none⟩ := by
      unfold subA
      rw [if_neg (by omega), hA]
      show some ((⟨g, 0, none⟩ : Addr).add (q * 1)) = _
      rw [addr_at0]
    have hcell : ∀ i, i < nj → ∃ u, w.cell? ⟨g, i, none⟩ = some u := by
      intro i hi
      have h3 := i16s_get (ls.getD j []) i (by omega)
      rw [Nat.mul_one, Nat.add_zero] at h3
      have := (hO.rd M1.tailA).cellA hA h3
      rw [Nat.zero_add] at this
      exact ⟨_, this⟩
    have hfz : ∀ i, w.frozen? ⟨g, i, none⟩ = false := by
      intro i
      have h4 := M1.at_ (g, .cells cur 45 (0, 0)) (List.mem_append_right _ (List.mem_append_left _ (by rw [hT]; exact List.mem_singleton.2 rfl)))
      exact frozen_of_row h4 _
    have hO' := hO
    rw [hA] at hO'
    obtain ⟨T', hO2, M2⟩ := Mem.setOwns (i16s x) q w _ _ M1 hO' (by rw [i16s_length, i16s_length]; omega)
    rw [Nat.zero_add] at M2
    refine ⟨T', w.setCells g q (i16s x), ?_, ?_, ?_⟩
    · rw [hsub]
      have := run_copy_cells (P := Try.prog) w 39 39 ty 45 g q (nj - q) (cs j - q) ⟨bs, os, none⟩ x.length cd (i16s x) Try.underlying39 (by kernel_rfl) (by rw [hx16]; exact (Nat.min_eq_left (show x.length ≤ nj - q by omega)).symm)
        (fun i v hi => by rw [addr_add]; exact hs.cellA rfl hi) (fun i hi => by obtain ⟨u, hu⟩ := hcell (q + i) (by rw [hx16] at hi; omega); rw [hu]; rfl) (fun i _ => hfz _) (i16s_one x)
      rw [hx16] at this
      exact this
    · rw [e2]; exact M2.unchan
    · rw [map_set16, ← hA] at hO2
      have h5 := hI.setA hj hO2 (by simp only [List.length_append, List.length_take, List.length_drop]; omega)
      rw [setF_same, setF_same] at h5
      exact h5
/-- a list of channels, told by its channels -/
theorem ls_ext {ls ms : List (List Int)} (h : ls.length = ms.length) (he : ∀ j, j < ls.length → ls.getD j [] = ms.getD j []) : ls = ms := ext_getD h he
end Go.Proofs.Ytmimljaniliecaa
