/- The cells of a sequence header; when it is valid. -/
import Derived.Test.YtolfkaljbgpkhaaVb
import Derived.Test.YtolfkaljbgpkhaaRt
import Derived.Deep.MidRow
import Derived.Great.FillDense
namespace Go.Proofs.Ytolfkaljbgpkhaa
open Go.RowKit

/-- a sequence header -/
structure SeqD where
  W : Int
  H : Int
  num : Int
  den : Int
  il : Bool
  br : Int
  bu : Int
  a : List Int
  b : List Int
def sqv (s : SeqD) : Array Value := (Value.int .i64 s.W :: .int .i64 s.H :: .int .i64 s.num :: .int .i64 s.den :: .bool s.il :: .int .i64 s.br :: .int .i64 s.bu :: (s.a.map (Value.int .u8) ++ s.b.map (Value.int .u8))).toArray
/-- its numbers are of their types -/
structure SOk (s : SeqD) : Prop where
  W : -9223372036854775808 ≤ s.W ∧ s.W ≤ 9223372036854775807
  H : -9223372036854775808 ≤ s.H ∧ s.H ≤ 9223372036854775807
  num : -9223372036854775808 ≤ s.num ∧ s.num ≤ 9223372036854775807
  den : -9223372036854775808 ≤ s.den ∧ s.den ≤ 9223372036854775807
  br : -9223372036854775808 ≤ s.br ∧ s.br ≤ 9223372036854775807
  bu : -9223372036854775808 ≤ s.bu ∧ s.bu ≤ 9223372036854775807
  la : s.a.length = 64
  lb : s.b.length = 64
  ba : BL s.a
  bb : BL s.b
theorem sqv_W (s : SeqD) : (sqv s)[0]? = some (.int .i64 s.W) := by simp [sqv]
theorem sqv_H (s : SeqD) : (sqv s)[1]? = some (.int .i64 s.H) := by simp [sqv]
theorem sqv_num (s : SeqD) : (sqv s)[2]? = some (.int .i64 s.num) := by simp [sqv]
theorem sqv_den (s : SeqD) : (sqv s)[3]? = some (.int .i64 s.den) := by simp [sqv]
theorem sqv_il (s : SeqD) : (sqv s)[4]? = some (.bool s.il) := by simp [sqv]
theorem sqv_br (s : SeqD) : (sqv s)[5]? = some (.int .i64 s.br) := by simp [sqv]
theorem sqv_bu (s : SeqD) : (sqv s)[6]? = some (.int .i64 s.bu) := by simp [sqv]
theorem sqv_ilt {s : SeqD} (h : s.il = true) : (sqv s)[4]? = some (.bool true) := by rw [sqv_il, h]
theorem sqv_ilf {s : SeqD} (h : s.il = false) : (sqv s)[4]? = some (.bool false) := by rw [sqv_il, h]
theorem sqv_size {s : SeqD} (la : s.a.length = 64) (lb : s.b.length = 64) : (sqv s).size = 135 := by simp [sqv, la, lb]
theorem sqv_one (s : SeqD) : (sqv s).all (·.oneCell') = true := by
  simp only [sqv, List.all_toArray, List.all_cons, List.all_append, List.all_map]
  simp [Value.oneCell']
theorem sqv_same {s s' : SeqD} {n m : Nat} (h : (sqv s).size = n) (h' : (sqv s').size = m) (e : n = m) : (sqv s).size = (sqv s').size := by rw [h, h', e]
theorem infoSq {s : SeqD} (la : s.a.length = 64) (lb : s.b.length = 64) : (Try.prog.info? 26).map (·.size) = some (sqv s).size := by
  rw [sqv_size la lb]; kernel_rfl
theorem infoMo {s : SeqD} (la : s.a.length = 64) (lb : s.b.length = 64) : (Try.prog.info? 63).map (·.size) = some (sqv s).size := by
  rw [sqv_size la lb]; kernel_rfl
theorem sqv_rate (s : SeqD) : ∀ j v, ([Value.int .i64 s.num, .int .i64 s.den] : List Value)[j]? = some v → (sqv s)[2 + j]? = some v := by
  intro j v h
  match j with
  | 0 => simpa [sqv] using h
  | 1 => simpa [sqv] using h
  | j + 2 => simp at h
theorem sqv_a (s : SeqD) : ∀ j v, (s.a.map (Value.int .u8))[j]? = some v → (sqv s)[7 + j]? = some v := by
  intro j v h
  have hj : j < (s.a.map (Value.int .u8)).length := (List.getElem?_eq_some_iff.1 h).1
  rw [show 7 + j = j + 1 + 1 + 1 + 1 + 1 + 1 + 1 by omega]
  simp only [sqv, List.getElem?_toArray, List.getElem?_cons_succ]
  rw [List.getElem?_append_left hj]; exact h
theorem sqv_b {s : SeqD} (la : s.a.length = 64) : ∀ j v, (s.b.map (Value.int .u8))[j]? = some v → (sqv s)[71 + j]? = some v := by
  intro j v h
  have e : (s.a.map (Value.int .u8)).length = 64 := by simpa using la
  rw [show 71 + j = (64 + j) + 1 + 1 + 1 + 1 + 1 + 1 + 1 by omega]
  simp only [sqv, List.getElem?_toArray, List.getElem?_cons_succ]
  rw [List.getElem?_append_right (by omega), e, show 64 + j - 64 = j by omega]; exact h
theorem list_set_append_l {α : Type} (l l' : List α) (n : Nat) (x : α) (h : n < l.length) : (l ++ l').set n x = l.set n x ++ l' := List.set_append_left n x h
theorem sqv_setA (s : SeqD) (n : Nat) (x : Int) (h : n < s.a.length) : (sqv s).setIfInBounds (7 + n) (.int .u8 x) = sqv { s with a := s.a.set n x } := by
  apply Array.toList_inj.1
  rw [show 7 + n = n + 1 + 1 + 1 + 1 + 1 + 1 + 1 by omega]
  simp only [sqv, Array.toList_setIfInBounds, List.set_cons_succ]
  rw [List.set_append_left n _ (by simpa using h), List.map_set]
theorem sqv_setB (s : SeqD) (n : Nat) (x : Int) (la : s.a.length = 64) : (sqv s).setIfInBounds (71 + n) (.int .u8 x) = sqv { s with b := s.b.set n x } := by
  apply Array.toList_inj.1
  rw [show 71 + n = (64 + n) + 1 + 1 + 1 + 1 + 1 + 1 + 1 by omega]
  simp only [sqv, Array.toList_setIfInBounds, List.set_cons_succ]
  rw [List.set_append_right (64 + n) _ (by simp [la]), List.map_set]
  simp [la]

/-- a part of a block -/
theorem Mem.range {S : Nat → Prop} {w0 w : World} {L : List (Nat × Obj)} {g : Nat} {cs : Array Value} {t : TypeId} {f : Nat × Nat} (M : Mem S w0 w L) (i : Nat) (hi : L[i]? = some (g, .cells cs t f)) (o : Nat) (l : List Value) (h : ∀ j v, l[j]? = some v → cs[o + j]? = some v) : w.rangeAt g o l :=
  fun j v hv => M.cell i hi (o + j) v (h j v hv)
theorem run_load_mid {P : Program} {w : World} {o : Oper} {a : Act} (ty : TypeId) (x : Operand) (ho : o.op = .load ty x) (b off : Nat) (hx : a.eval x = .pointer (some ⟨b, off, none⟩)) (cs : List Value) (d : TypeDesc) (hc : w.rangeAt b off cs)
    (hu : P.underlying ty = some d) (hd : d.isRow = true) (hi : (P.info? ty).map (·.size) = some cs.length) : (execOp a.eval o).run P w = .ok (.value (.agg cs.toArray)) w := by
  unfold execOp
  simp only [ho, hx, Instr.loadAt, Instr.sureAddr, Sem.run_bind, Sem.run_pure, Result.andThen_ok, run_loadVar_mid w b off ty cs d hc hu hd hi]

/-- one part that is the whole -/
theorem fill_whole {n : Nat} (place : Nat → Option (Nat × Nat)) (hp : place 0 = some (0, n)) (z cs : Array Value) (hz : z.size = n) (hc : cs.size = n) : Instr.fill place z [(0, .agg cs)] = some cs := by
  obtain ⟨h1, h2⟩ := Go.Great.foldl_set 0 cs.toList 0 z
  have e : (cs.zipIdx.foldl (fun cs (x : Value × Nat) => cs.setIfInBounds (0 + x.2) x.1) z) = cs := by
    rw [← Array.foldl_toList, Array.toList_zipIdx]
    apply Array.ext_getElem?
    intro k
    rw [h2 k]
    simp only [Nat.zero_add, Nat.zero_le, true_and, Array.length_toList, Array.getElem?_toList, Nat.sub_zero]
    split
    · rfl
    · rename_i hk
      rw [Array.getElem?_eq_none (by omega), Array.getElem?_eq_none (by omega)]
  simp only [Nat.zero_add] at e
  rw [show cs.zipIdx.foldl (fun cs (x : Value × Nat) => cs.setIfInBounds x.2 x.1) z = Array.foldl (fun cs (x : Value × Nat) => cs.setIfInBounds x.2 x.1) z cs.zipIdx 0 n by rw [← hc, ← Array.size_zipIdx (xs := cs) (k := 0)]] at e
  simp [Instr.fill, hp, Value.cells, hc, hz, e]
def zS : SeqD := ⟨0, 0, 0, 0, false, 0, 0, zeros, zeros⟩
theorem run_build_model {w : World} {o : Oper} {a : Act} (x : Operand) (ho : o.op = .build 63 #[(0, x)]) (cs : Array Value) (hx : a.eval x = .agg cs) (hc : cs.size = 135) : (execOp a.eval o).run Try.prog w = .ok (.value (.agg cs)) w := by
  have hz : ∃ z, (zeroValue 63).run Try.prog w = .ok z w ∧ z.cells.size = 135 := ⟨.agg (sqv zS), by kernel_rfl, by kernel_rfl⟩
  obtain ⟨z, hz, hzs⟩ := hz
  have hs : (sizeOf 26).run Try.prog w = .ok 135 w := by kernel_rfl
  unfold execOp
  simp [ho, hx, Instr.build, hz, run_underlying Try.underlying63, hs]
  rw [fill_whole (n := 135) _ rfl z.cells cs hzs hc]
  rfl

/-- a valid sequence header -/
def SV (s : SeqD) : Prop := 16 ≤ s.W ∧ s.W ≤ 64 ∧ s.W % 16 = 0 ∧ 16 ≤ s.H ∧ s.H ≤ 64 ∧ s.H % 16 = 0 ∧ (s.il = true → s.H % 32 = 0) ∧ rV s.num s.den = true ∧ 1 ≤ s.num ∧ s.num ≤ 1048576 ∧ s.den ≤ 65536 ∧
  1 ≤ s.br ∧ s.br ≤ 16777216 ∧ 1 ≤ s.bu ∧ s.bu ≤ 8388608 ∧ 3 * s.den * s.br + 32 * s.num ≤ 2 * s.num * s.bu ∧ vB s.a = true ∧ vB s.b = true
instance (s : SeqD) : Decidable (SV s) := by unfold SV; infer_instance
def sB (s : SeqD) : Bool := decide (SV s)
theorem sB_f {s : SeqD} (h : ¬ SV s) : sB s = false := decide_eq_false h
theorem sB_t {s : SeqD} (h : SV s) : sB s = true := decide_eq_true h
theorem rV_den {num den : Int} (h : rV num den = true) : 1 ≤ den := (of_decide_eq_true h).1
theorem mul_in {x y m n : Int} (hx : 0 ≤ x ∧ x ≤ m) (hy : 0 ≤ y ∧ y ≤ n) : 0 ≤ x * y ∧ x * y ≤ m * n :=
  ⟨Int.mul_nonneg hx.1 hy.1, Int.mul_le_mul hx.2 hy.2 hy.1 (by omega)⟩
end Go.Proofs.Ytolfkaljbgpkhaa
