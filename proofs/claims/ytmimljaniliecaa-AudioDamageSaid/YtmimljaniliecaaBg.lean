/- Decode: lemmas. -/
import Derived.Test.YtmimljaniliecaaBf
namespace Go.Proofs.Ytmimljaniliecaa
open Go.RowKit Bt

theorem i64_or_nat2 (a b : Nat) (ha : a < 4611686018427387904) (hb : b < 4611686018427387904) : bits .or .i64 (a : Int) (b : Int) = ((a ||| b : Nat) : Int) := by
  have hx : a ||| b < 2 ^ 62 := Nat.or_lt_two_pow (by omega) (by omega)
  show IntKind.i64.wrap ((BitVec.ofInt 64 (a : Int) ||| BitVec.ofInt 64 (b : Int)).toNat : Int) = _
  have h64 : ∀ x : Nat, x < 4611686018427387904 → (BitVec.ofInt 64 (x : Int)).toNat = x := fun x hx => by
    rw [BitVec.ofInt_natCast, BitVec.toNat_ofNat]; exact Nat.mod_eq_of_lt (by omega)
  rw [BitVec.toNat_or, h64 a ha, h64 b hb]
  exact i64_wrap (by omega)
theorem or_add (x b i : Nat) (h : b < 2 ^ i) : x * 2 ^ i ||| b = x * 2 ^ i + b := by
  rw [Nat.mul_comm, Nat.two_pow_add_eq_or_of_lt h]
theorem i64_or1 {x y : Nat} (hx : x < 256) (hy : y < 256) : bits .or .i64 ((x * 65536 : Nat) : Int) ((y * 256 : Nat) : Int) = ((x * 65536 + y * 256 : Nat) : Int) := by
  rw [i64_or_nat2 _ _ (by omega) (by omega), show x * 65536 = x * 2 ^ 16 from rfl, or_add _ _ 16 (by omega)]
theorem i64_or2 {x y z : Nat} (hx : x < 256) (hy : y < 256) (hz : z < 256) : bits .or .i64 ((x * 65536 + y * 256 : Nat) : Int) ((z : Nat) : Int) = ((x * 65536 + y * 256 + z : Nat) : Int) := by
  rw [i64_or_nat2 _ _ (by omega) (by omega), show x * 65536 + y * 256 = (x * 256 + y) * 2 ^ 8 by omega, or_add _ _ 8 (by omega)]
theorem pv0_get {l : List Nat} (As : Nat → Option Addr) (cs : Nat → Nat) {c : Nat} (h : c < deC l) : (pvs (mk (fun _ => List.replicate (deN l) 0) (deC l)) As cs)[c * 1 + 0]? = some (.slice (As c) (deN l) (cs c)) := by
  rw [pvs_get _ _ _ _ (by rw [mk_length]; exact h), mk_get h, List.length_replicate]
theorem flatT_nil (n : Nat) : flatT (fun _ => []) n = [] := by
  induction n with
  | zero => rfl
  | succ n ih => show flatT _ n ++ [] = _; rw [ih]; rfl
theorem flatT_tail {Ts : Nat → List (Nat × Obj)} {c : Nat} (h : ∀ j, c ≤ j → Ts j = []) : ∀ n, c ≤ n → flatT Ts n = flatT Ts c := by
  intro n
  induction n with
  | zero => intro h1; obtain rfl : c = 0 := (by omega); rfl
  | succ n ih =>
    intro h1
    rcases Nat.lt_or_ge n c with h2 | h2
    · obtain rfl : c = n + 1 := (by omega)
      rfl
    · show flatT Ts n ++ Ts n = _
      rw [h n h2, List.append_nil, ih h2]
theorem flatT_new {Ts : Nat → List (Nat × Obj)} {c n : Nat} (h : ∀ j, c ≤ j → Ts j = []) (hc : c < n) (T : List (Nat × Obj)) : flatT (setF Ts c T) n = flatT Ts n ++ T := by
  rw [flatT_tail (c := c + 1) (fun j hj => by rw [setF_ne _ _ (by omega)]; exact h j (by omega)) n (by omega), flatT_tail h n (by omega)]
  show flatT _ c ++ setF Ts c T c = _
  rw [flatT_set _ _ _ _ (Nat.le_refl _), setF_eq]
theorem pvs_none {l : List Nat} : pvs (mk (fun j => if j < 0 then List.replicate (deN l) 0 else []) (deC l)) (fun _ => none) (fun _ => 0) = List.replicate (deC l) (.slice none 0 0) := by
  apply List.ext_getElem?
  intro i
  unfold pvs
  rw [mk_length]
  rcases Nat.lt_or_ge i (deC l) with h | h
  · rw [List.getElem?_map, List.getElem?_range h, List.getElem?_replicate, if_pos h]
    simp only [Option.map_some]
    rw [mk_get h, if_neg (by omega)]; rfl
  · rw [List.getElem?_eq_none (by simpa using h), List.getElem?_eq_none (by simpa using h)]
theorem ownI_none {l : List Nat} : OwnI (mk (fun j => if j < 0 then List.replicate (deN l) 0 else []) (deC l)) (fun _ => none) (fun _ => 0) (fun _ => []) := by
  intro j hj
  rw [mk_length] at hj
  rw [mk_get hj, if_neg (by omega)]
  exact Own.nil _ _
theorem ls0_set {l : List Nat} {c : Nat} (h : c < deC l) : (mk (fun j => if j < c then List.replicate (deN l) 0 else []) (deC l)).set c (List.replicate (deN l) 0) = mk (fun j => if j < c + 1 then List.replicate (deN l) 0 else []) (deC l) := by
  rw [mk_set h]
  apply mk_congr
  intro j _
  by_cases e : j = c
  · subst e; rw [setF_eq, if_pos (by omega)]
  · rw [setF_ne _ _ e]
    by_cases e2 : j < c
    · rw [if_pos e2, if_pos (by omega)]
    · rw [if_neg e2, if_neg (by omega)]
theorem ls1_set {l : List Nat} {c k : Nat} (h : c < deC l) {x : List Int} (hx : x = chS l c (k + 1)) : (mk (fun j => if j < c then chS l j (k + 1) else chS l j k) (deC l)).set c x = mk (fun j => if j < c + 1 then chS l j (k + 1) else chS l j k) (deC l) := by
  subst hx
  rw [mk_set h]
  apply mk_congr
  intro j _
  by_cases e : j = c
  · subst e; rw [setF_eq, if_pos (by omega)]
  · rw [setF_ne _ _ e]
    by_cases e2 : j < c
    · rw [if_pos e2, if_pos (by omega)]
    · rw [if_neg e2, if_neg (by omega)]
theorem run_copy_op {P : Program} {w w' : World} {o : Oper} {a : Act} (s x : Operand) (t : TypeId) (ho : o.op = .call { callee := .builtin .copy, args := #[s, x], argTypes := #[t, t] }) (v u v' : Value) (hs : a.eval s = v) (hx : a.eval x = u)
    (hr : (Builtin.copy_ #[t, t] o.type #[v, u]).run P w = .ok v' w') : (execOp a.eval o).run P w = .ok (.value v') w' := by
  unfold execOp
  simp only [ho, resolve, invoke, builtin, Sem.run_bind, Sem.run_pure, Result.andThen_ok, List.map_toArray, List.map_cons, List.map_nil, hs, hx, hr]
theorem copy_chan2 {S : Nat → Prop} {w0 w : World} {A B : List (Nat × Obj)} {Ts : Nat → List (Nat × Obj)} {ls : List (List Int)} {As : Nat → Option Addr} {cs : Nat → Nat} {j q m cd nj n : Nat} {Bd : Option Addr} {x : List Int} (hn : ls.length = n) (M : Mem S w0 w (A ++ (flatT Ts n ++ B))) (hI : OwnI ls As cs Ts) (hj : j < n) (hs : RdK w (.slice Bd m cd) m (i16s x)) (hm : x.length = m) (hm1 : 1 ≤ m)
    (hnj : (ls.getD j []).length = nj) (hq : q + m ≤ nj) (ty : TypeId) :
    ∃ T' w', (Builtin.copy_ #[39, 39] ty #[.slice (subA (As j) (cs j) q) (nj - q) (cs j - q), .slice Bd m cd]).run Try.prog w = .ok (goInt m) w' ∧ Mem S w0 w' (A ++ (flatT (setF Ts j T') n ++ B)) ∧
      OwnI (ls.set j ((ls.getD j []).take q ++ (x ++ (ls.getD j []).drop (q + m)))) As cs (setF Ts j T') := by
  subst hn
  exact copy_chan M hI hj hs hm hm1 hnj hq ty
theorem i16s_rep (n : Nat) : List.replicate n (Value.int .i16 0) = i16s (List.replicate n 0) := by simp [i16s]
theorem deD_ok {l : List Nat} {k : Nat} (h : deOk l k) : deD l (k + 1) = deD l k := if_pos h
theorem deD_bad {l : List Nat} {k : Nat} (h : ¬ deOk l k) : deD l (k + 1) = deD l k ++ [(k : Int)] := if_neg h
theorem deD_le (l : List Nat) (k : Nat) : (deD l k).length ≤ k := by
  induction k with
  | zero => exact Nat.le_refl _
  | succ k ih =>
    by_cases h : deOk l k
    · rw [deD_ok h]; omega
    · rw [deD_bad h, List.length_append]; simp; omega
end Go.Proofs.Ytmimljaniliecaa
