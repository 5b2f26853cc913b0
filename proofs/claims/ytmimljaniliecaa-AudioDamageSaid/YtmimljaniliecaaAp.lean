/- Parts of slices, literal slices, closures that are called. -/
import Derived.Test.YtmimljaniliecaaAx
namespace Go.Proofs.Ytmimljaniliecaa
open Go.RowKit Bt

/-- where a slice's part begins -/
def subA (A : Option Addr) (c lo : Nat) : Option Addr := if c = lo then A else A.map (·.add (lo * 1))
theorem rdk_sub {w : World} {A : Option Addr} {n c : Nat} {xs : List Value} (h : RdK w (.slice A n c) n xs) (hx : xs.length = n) (hc : n ≤ c) {lo hi : Nat} (h1 : lo ≤ hi) (h2 : hi ≤ n) : RdK w (.slice (subA A c lo) (hi - lo) (c - lo)) (hi - lo) ((xs.drop lo).take (hi - lo)) := by
  rcases h with ⟨e, e2, e3⟩ | ⟨b, off, c', e, h3, h4⟩
  · injection e with e1 _ e3'
    subst e1; subst e3'; subst e3
    obtain rfl : lo = 0 := by omega
    obtain rfl : hi = 0 := by omega
    exact .inl ⟨rfl, rfl, by simp⟩
  · injection e with e1 _ e3'
    subst e1; subst e3'
    by_cases ec : c = lo
    · refine .inr ⟨b, off, c - lo, by unfold subA; rw [if_pos ec], by omega, fun j u hj => ?_⟩
      have := (List.getElem?_eq_some_iff.1 hj).1
      simp at this; omega
    · refine .inr ⟨b, off + lo, c - lo, by unfold subA; rw [if_neg ec]; show Value.slice (some (Addr.add _ _)) _ _ = _; rw [addr_add, Nat.mul_one], by omega, fun j u hj => ?_⟩
      rw [Nat.add_assoc]
      apply h4
      rw [List.getElem?_take] at hj
      split at hj
      · rw [List.getElem?_drop] at hj; exact hj
      · cases hj
/-- a part of a list -/
def sl (l : List Nat) (lo n : Nat) : List Nat := (l.drop lo).take n
theorem sl_len {l : List Nat} {lo n : Nat} (h : lo + n ≤ l.length) : (sl l lo n).length = n := by unfold sl; rw [List.length_take, List.length_drop]; omega
theorem sl_lt {l : List Nat} (h : ∀ x ∈ l, x < 256) (lo n : Nat) : ∀ x ∈ sl l lo n, x < 256 := fun x hx => h x (List.mem_of_mem_drop (List.mem_of_mem_take hx))
theorem sl_get {l : List Nat} {lo n i : Nat} (h : i < n) : (sl l lo n).getD i 0 = l.getD (lo + i) 0 := by
  unfold sl
  rw [List.getD_eq_getElem?_getD, List.getElem?_take, if_pos h, List.getElem?_drop, ← List.getD_eq_getElem?_getD]
theorem u8s_sl (l : List Nat) (lo n : Nat) : ((u8s l).drop lo).take n = u8s (sl l lo n) := by simp [u8s, sl, List.map_take, List.map_drop]
theorem rdk_sl {w : World} {A : Option Addr} {n c : Nat} {l : List Nat} (h : RdK w (.slice A n c) n (u8s l)) (hx : l.length = n) (hc : n ≤ c) {lo hi : Nat} (h1 : lo ≤ hi) (h2 : hi ≤ n) : RdK w (.slice (subA A c lo) (hi - lo) (c - lo)) (hi - lo) (u8s (sl l lo (hi - lo))) := by
  have := rdk_sub h (by rw [u8s_length]; exact hx) hc h1 h2
  rwa [u8s_sl] at this
theorem add0 (A : Option Addr) : A.map (fun x => x.add 0) = A := by
  cases A with
  | none => rfl
  | some a => show some (a.add 0) = some a; unfold Addr.add; simp
section
variable {P : Program} {w : World} {o : Oper} {a : Act}
theorem run_sub_lo (t e : TypeId) (x lo : Operand) (ho : o.op = .slice t x (some lo) none none) (hu : P.underlying t = some (.slice e)) (hs : (sizeOf e).run P w = .ok 1 w) (A : Option Addr) (n c : Nat) (hx : a.eval x = .slice A n c) (kd : IntKind) (k : Nat) (hlo : a.eval lo = .int kd (k : Int)) (hk : k ≤ n) (hc : n ≤ c) :
    (execOp a.eval o).run P w = .ok (.value (.slice (subA A c k) (n - k) (c - k))) w := by
  have h3 : k ≤ n := hk
  unfold execOp
  simp [ho, hx, hlo, Instr.sliceAt, Instr.slice, Instr.sliceBounds, Instr.sliceBound, run_underlying hu, asIntOf, hs, h3, subA]
theorem run_sub_hi (t e : TypeId) (x hi : Operand) (ho : o.op = .slice t x none (some hi) none) (hu : P.underlying t = some (.slice e)) (hs : (sizeOf e).run P w = .ok 1 w) (A : Option Addr) (n c : Nat) (hx : a.eval x = .slice A n c) (kd : IntKind) (k : Nat) (hhi : a.eval hi = .int kd (k : Int)) (hk : k ≤ c) :
    (execOp a.eval o).run P w = .ok (.value (.slice (subA A c 0) (k - 0) (c - 0))) w := by
  have h3 : k ≤ c := hk
  unfold execOp
  simp [ho, hx, hhi, Instr.sliceAt, Instr.slice, Instr.sliceBounds, Instr.sliceBound, run_underlying hu, asIntOf, hs, h3, subA]
theorem run_sub_lh (t e : TypeId) (x lo hi : Operand) (ho : o.op = .slice t x (some lo) (some hi) none) (hu : P.underlying t = some (.slice e)) (hs : (sizeOf e).run P w = .ok 1 w) (A : Option Addr) (n c : Nat) (hx : a.eval x = .slice A n c) (kd kh : IntKind) (k m : Nat) (hlo : a.eval lo = .int kd (k : Int)) (hhi : a.eval hi = .int kh (m : Int)) (hk : k ≤ m) (hm : m ≤ c) :
    (execOp a.eval o).run P w = .ok (.value (.slice (subA A c k) (m - k) (c - k))) w := by
  unfold execOp
  simp [ho, hx, hlo, hhi, Instr.sliceAt, Instr.slice, Instr.sliceBounds, Instr.sliceBound, run_underlying hu, asIntOf, hs, hk, hm, subA]
theorem run_clo_call (fv : Operand) (args : Array Operand) (tys : Array TypeId) (ho : o.op = .call { callee := .value fv, args := args, argTypes := tys }) (f : FuncId) (cap : Array Value) (hv : a.eval fv = .func (.func f) #[] cap) {fn : Func} (hf : P.funcs[f]? = some fn) (hn : (fn.name == "runtime.NumGoroutine") = false) (hb : fn.body.isNone = false)
    (vs : Array Value) (hvs : args.map a.eval ++ cap = vs) : (execOp a.eval o).run P w = .ok (.enter f vs) w := by
  subst hvs
  unfold execOp
  simp [ho, resolve, invoke, hv, Deferred.ofValue, run_callFunc hf hn hb]
end
theorem rdk_lit {w : World} {g : Nat} {xs : List Value} {n : Nat} {t : TypeId} {f : Nat × Nat} (h : w.heap[g]? = some (.cells xs.toArray t f)) (hn : xs.length = n) : RdK w (.slice (some ⟨g, 0, none⟩) n n) n xs := by
  refine .inr ⟨g, 0, n, rfl, Nat.le_refl _, fun j u hj => ?_⟩
  rw [Nat.zero_add, cell_of_row w g j _ t f h]
  simpa using hj
theorem own_empty (e : TypeId) (k g : Nat) : Own e k (.slice (some ⟨g, 0, none⟩) 0 0) 0 [] [(g, .cells #[] e (0, 0))] := ⟨by simp, .inr ⟨g, 0, #[], rfl, rfl, Nat.le_refl _, Nat.zero_le _, by simp, by simp⟩⟩
theorem own_lit (e : TypeId) (g : Nat) (xs : List Value) (n : Nat) (hn : xs.length = n) (hm : n ≤ maxLen) : Own e 1 (.slice (some ⟨g, 0, none⟩) n n) n xs [(g, .cells xs.toArray e (0, 0))] := by
  subst hn
  exact ⟨by simp, .inr ⟨g, xs.length, xs.toArray, rfl, rfl, Nat.le_refl _, hm, by simp, by simp⟩⟩
theorem i16s_one (l : List Int) : ∀ u ∈ i16s l, u.oneCell' = true := by
  intro u hu
  simp only [i16s, List.mem_map] at hu
  obtain ⟨x, _, rfl⟩ := hu
  rfl
/-- do the bytes end with the sum of those ahead of it? -/
def intB (l : List Nat) : Bool := decide (l = summedB (sl l 0 (l.length - 2)))
theorem intB_iff {l : List Nat} (h : 2 ≤ l.length) : l = summedB (sl l 0 (l.length - 2)) ↔ l.getD (l.length - 2) 0 = crc (sl l 0 (l.length - 2)) / 256 ∧ l.getD (l.length - 2 + 1) 0 = crc (sl l 0 (l.length - 2)) % 256 := by
  have hs : (sl l 0 (l.length - 2)).length = l.length - 2 := sl_len (by omega)
  have e : l = sl l 0 (l.length - 2) ++ [l.getD (l.length - 2) 0, l.getD (l.length - 2 + 1) 0] := by
    apply List.ext_getElem?
    intro i
    by_cases hi : i < l.length - 2
    · rw [List.getElem?_append_left (by omega)]
      unfold sl
      rw [List.getElem?_take, if_pos hi, List.getElem?_drop, Nat.zero_add]
    · rw [List.getElem?_append_right (by omega), hs]
      rcases (show i = l.length - 2 ∨ i = l.length - 2 + 1 ∨ l.length ≤ i by omega) with h1 | h1 | h1
      · subst h1
        rw [Nat.sub_self, List.getD_eq_getElem?_getD, List.getElem?_eq_getElem (show l.length - 2 < l.length by omega)]; rfl
      · subst h1
        rw [Nat.add_sub_cancel_left, List.getD_eq_getElem?_getD, List.getD_eq_getElem?_getD, List.getElem?_eq_getElem (show l.length - 2 + 1 < l.length by omega)]; rfl
      · rw [List.getElem?_eq_none h1, List.getElem?_eq_none (by simp; omega)]
  constructor
  · intro h2
    unfold summedB at h2
    have h3 := e.symm.trans h2
    have h4 := List.append_cancel_left h3
    injection h4 with h5 h6
    injection h6 with h6 _
    exact ⟨h5, h6⟩
  · rintro ⟨h1, h2⟩
    unfold summedB
    rw [h1, h2] at e
    exact e
end Go.Proofs.Ytmimljaniliecaa
