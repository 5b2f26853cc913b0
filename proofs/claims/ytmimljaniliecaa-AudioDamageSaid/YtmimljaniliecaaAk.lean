/- Decoded blocks, plainly; slices of samples and of channels that are made and grow. -/
import Derived.Test.YtmimljaniliecaaAu
namespace Go.Proofs.Ytmimljaniliecaa
open Go.RowKit Bt

/-- a mantissa of nine bits with its sign -/
def sx (m : Nat) : Int := if m > 255 then (m : Int) - 512 else (m : Int)
theorem sx_rng {m : Nat} (h : m < 512) : -256 ≤ sx m ∧ sx m ≤ 255 := by unfold sx; split <;> omega
/-- a decoded sample -/
def dcS (e m : Nat) : Int := sx m * ((2 ^ e : Nat) : Int) + (half e : Nat)
theorem half_le {e : Nat} (h : e ≤ 7) : half e ≤ 64 := by
  unfold half
  split
  · omega
  · exact (Nat.pow_le_pow_right (show 0 < 2 by decide) (show e - 1 ≤ 6 by omega) : 2 ^ (e - 1) ≤ 2 ^ 6)
theorem half_lt {e : Nat} (h : e ≤ 7) : half e < 2 ^ e := by
  unfold half
  split
  · exact Nat.pow_pos (by decide)
  · exact Nat.pow_lt_pow_right (by decide) (by omega)
theorem sxp_rng {e m : Nat} (he : e ≤ 7) (hm : m < 512) : -32768 ≤ sx m * ((2 ^ e : Nat) : Int) ∧ sx m * ((2 ^ e : Nat) : Int) ≤ 32640 := by
  have h1 := sx_rng hm
  have h2 : 2 ^ e ≤ 2 ^ 7 := Nat.pow_le_pow_right (show 0 < 2 by decide) he
  have h3 : 0 < 2 ^ e := Nat.pow_pos (show 0 < 2 by decide)
  generalize sx m = s at *
  have h4 : ((2 ^ e : Nat) : Int) ≤ 128 := by omega
  have h5 : (0 : Int) < ((2 ^ e : Nat) : Int) := by omega
  generalize ((2 ^ e : Nat) : Int) = t at *
  constructor
  · have : (-256) * 128 ≤ s * t := by
      rcases Int.le_total 0 s with h | h
      · have := Int.mul_nonneg h (Int.le_of_lt h5); omega
      · have h6 : s * 128 ≤ s * t := Int.mul_le_mul_of_nonpos_left h h4
        omega
    omega
  · rcases Int.le_total 0 s with h | h
    · have h6 : s * t ≤ s * 128 := Int.mul_le_mul_of_nonneg_left h4 h
      omega
    · have := Int.mul_nonpos_of_nonpos_of_nonneg h (Int.le_of_lt h5); omega
theorem dcS_rng {e m : Nat} (he : e ≤ 7) (hm : m < 512) : -32768 ≤ dcS e m ∧ dcS e m ≤ 32767 := by
  have h1 := sxp_rng he hm; have h2 := half_le he
  unfold dcS; omega
theorem sx_shl {e m : Nat} {x : Int} (he : e ≤ 7) (hm : m < 512) (hx : x = sx m) : IntKind.i64.wrap (x * 2 ^ e) = sx m * ((2 ^ e : Nat) : Int) := by
  subst hx
  have h := sxp_rng he hm
  have e1 : sx m * (2 : Int) ^ e = sx m * ((2 ^ e : Nat) : Int) := by rw [Int.natCast_pow]; rfl
  rw [e1]
  exact i64_wrap (by omega)
theorem wrap_i16 {x : Int} (h : -32768 ≤ x ∧ x ≤ 32767) : IntKind.i16.wrap x = x := by
  simp only [IntKind.wrap, IntKind.bits, IntKind.signed]
  simp
  omega
/-- the exponent and the mantissas of a channel -/
def chE (D : List Nat) (a : Nat) : Nat := valueOf ((D.drop a).take 4)
def chM (D : List Nat) (a k : Nat) : Nat := valueOf ((D.drop (a + 4 + 9 * k)).take 9)
theorem part_lt {D : List Nat} (h : Bin D) (a n : Nat) : valueOf ((D.drop a).take n) < 2 ^ n := by
  have h1 : Bin ((D.drop a).take n) := fun x hx => h x (List.mem_of_mem_drop (List.mem_of_mem_take hx))
  exact Nat.lt_of_lt_of_le (valueOf_lt h1) (Nat.pow_le_pow_right (by decide) (by rw [List.length_take]; omega))
theorem chE_lt {D : List Nat} (h : Bin D) (a : Nat) : chE D a < 16 := part_lt h a 4
theorem chM_lt {D : List Nat} (h : Bin D) (a k : Nat) : chM D a k < 512 := part_lt h _ 9
/-- may the channel be decoded? -/
def chB' (D : List Nat) (a n : Nat) : Nat → Bool
  | 0 => decide (chE D a ≤ 7)
  | k + 1 => chB' D a n k && (decide (k < n) || decide (chM D a k = 0))
theorem chB_lt {D : List Nat} {a n k : Nat} (h : k < n) : chB' D a n (k + 1) = chB' D a n k := by
  show (chB' D a n k && (decide (k < n) || _)) = _
  rw [decide_eq_true h, Bool.true_or, Bool.and_true]
theorem chB_ge {D : List Nat} {a n k : Nat} (h : ¬ k < n) : chB' D a n (k + 1) = (chB' D a n k && decide (chM D a k = 0)) := by
  show (chB' D a n k && (decide (k < n) || _)) = _
  rw [decide_eq_false h, Bool.false_or]
/-- the decoded samples -/
def chL (D : List Nat) (a : Nat) : Nat → List Int
  | 0 => []
  | k + 1 => chL D a k ++ [dcS (min (chE D a) 7) (chM D a k)]
theorem chL_length (D : List Nat) (a k : Nat) : (chL D a k).length = k := by
  induction k with
  | zero => rfl
  | succ k ih => show (chL D a k ++ _).length = _; rw [List.length_append, ih]; rfl
theorem chL_S16 {D : List Nat} (h : Bin D) (a k : Nat) : S16 (chL D a k) := by
  induction k with
  | zero => intro x hx; simp [chL] at hx
  | succ k ih =>
    intro x hx
    rcases List.mem_append.1 hx with hx | hx
    · exact ih x hx
    · rw [List.mem_singleton.1 hx]; exact dcS_rng (by omega) (chM_lt h a k)
/-- all channels, i of them -/
def chLs (D : List Nat) (n : Nat) : Nat → List (List Int)
  | 0 => []
  | i + 1 => chLs D n i ++ [chL D (292 * i) n]
theorem chLs_length (D : List Nat) (n i : Nat) : (chLs D n i).length = i := by
  induction i with
  | zero => rfl
  | succ k ih => show (chLs D n k ++ _).length = _; rw [List.length_append, ih]; rfl
theorem chLs_get (D : List Nat) (n i j : Nat) (h : j < i) : (chLs D n i).getD j [] = chL D (292 * j) n := by
  induction i with
  | zero => omega
  | succ i ih =>
    show (chLs D n i ++ [chL D (292 * i) n]).getD j [] = _
    rcases Nat.lt_or_ge j i with h1 | h1
    · rw [← ih h1]
      simp [List.getD_eq_getElem?_getD, List.getElem?_append_left (show j < (chLs D n i).length by rw [chLs_length]; exact h1)]
    · obtain rfl : j = i := by omega
      simp [List.getD_eq_getElem?_getD, List.getElem?_append_right (show (chLs D n j).length ≤ j by rw [chLs_length]; omega), chLs_length]
/-- may bytes be a block, by their head? -/
def tbA (l : List Nat) : Prop := 2 ≤ l.length ∧ (1 ≤ l.getD 0 0 ∧ l.getD 0 0 ≤ 4) ∧ (1 ≤ l.getD 1 0 ∧ l.getD 1 0 ≤ 32) ∧ ((l.length : Nat) : Int) = bsz ((l.getD 0 0 : Nat) : Int)
def tbP (l : List Nat) : List Nat := sl l 2 (l.length - 2 - 2)
def tbF (l : List Nat) : Prop := ¬ (tbP l = [] ∨ (tbP l).getD ((tbP l).length - 1) 0 = 0) ∧ endOf (tbP l) = 292 * l.getD 0 0 ∧ ∀ i, i < l.getD 0 0 → chB' (unpack (tbP l)) (292 * i) (l.getD 1 0) 32 = true
instance (l : List Nat) : Decidable (tbA l) := by unfold tbA; infer_instance
instance (l : List Nat) : Decidable (tbF l) := by unfold tbF; infer_instance
def tbE (l : List Nat) : Int := if tbA l then if intB l = true then if tbF l then 0 else 3 else 10 else 3
def tbL (l : List Nat) : List (List Int) := if tbA l ∧ intB l = true ∧ tbF l then chLs (unpack (tbP l)) (l.getD 1 0) (l.getD 0 0) else []
theorem tb_a {l : List Nat} (h : ¬ tbA l) : tbE l = 3 ∧ tbL l = [] := ⟨if_neg h, if_neg (fun c => h c.1)⟩
theorem tb_i {l : List Nat} (h : tbA l) (h2 : intB l = false) : tbE l = 10 ∧ tbL l = [] := ⟨by unfold tbE; rw [if_pos h, h2]; rfl, if_neg (fun c => by rw [h2] at c; exact absurd c.2.1 (by decide))⟩
theorem tb_f {l : List Nat} (h : tbA l) (h2 : intB l = true) (h3 : ¬ tbF l) : tbE l = 3 ∧ tbL l = [] := ⟨by unfold tbE; rw [if_pos h, if_pos h2, if_neg h3], if_neg (fun c => h3 c.2.2)⟩
theorem tb_t {l : List Nat} (h : tbA l) (h2 : intB l = true) (h3 : tbF l) : tbE l = 0 ∧ tbL l = chLs (unpack (tbP l)) (l.getD 1 0) (l.getD 0 0) := ⟨by unfold tbE; rw [if_pos h, if_pos h2, if_pos h3], if_pos ⟨h, h2, h3⟩⟩

-- slices
theorem info_i16 : (Try.prog.info? 45).map (fun i => (i.zero, i.size, i.bytes)) = some (some (.int .i16 0), 1, 2) := by kernel_rfl
theorem info_s16 : (Try.prog.info? 39).map (fun i => (i.zero, i.size, i.bytes)) = some (some (.slice none 0 0), 1, 24) := by kernel_rfl
theorem append_i16 {S : Nat → Prop} {w0 w : World} {A B T : List (Nat × Obj)} (M : Mem S w0 w (A ++ (T ++ B))) (ty : TypeId) (v : Value) (n : Nat) (xs : List Value) (hO : Own 45 1 v n xs T) (u : Value) (m : Nat) (news : List Value) (hu : RdK w u m news) (hl : news.length = m * 1) (h1 : ∀ u ∈ news, u.oneCell' = true) (hn : n + m ≤ 1000000000000) :
    ∃ v' T' w', (Builtin.append_ #[39, 39] ty #[v, u]).run Try.prog w = .ok v' w' ∧ Own 45 1 v' (n + m) (xs ++ news) T' ∧ Mem S w0 w' (A ++ (T' ++ B)) := by
  obtain ⟨i0, hi, hz0, hz1, hz2⟩ := info_parts info_i16
  exact append_of M 39 ty 45 i0 (.int .i16 0) 1 2 Try.underlying39 hi hz0 hz1 hz2 rfl (by decide) v n xs hO u m news hu hl h1 (by simp only [maxLen]; omega) (by omega)
theorem append_s16 {S : Nat → Prop} {w0 w : World} {A B T : List (Nat × Obj)} (M : Mem S w0 w (A ++ (T ++ B))) (ty : TypeId) (v : Value) (n : Nat) (xs : List Value) (hO : Own 39 1 v n xs T) (u : Value) (m : Nat) (news : List Value) (hu : RdK w u m news) (hl : news.length = m * 1) (h1 : ∀ u ∈ news, u.oneCell' = true) (hn : n + m ≤ 1000000000000) :
    ∃ v' T' w', (Builtin.append_ #[28, 28] ty #[v, u]).run Try.prog w = .ok v' w' ∧ Own 39 1 v' (n + m) (xs ++ news) T' ∧ Mem S w0 w' (A ++ (T' ++ B)) := by
  obtain ⟨i0, hi, hz0, hz1, hz2⟩ := info_parts info_s16
  exact append_of M 28 ty 39 i0 (.slice none 0 0) 1 24 Try.underlying28 hi hz0 hz1 hz2 rfl (by decide) v n xs hO u m news hu hl h1 (by simp only [maxLen]; omega) (by omega)
theorem own_made0 (e : TypeId) (g : Nat) (z : Value) (n : Nat) (h : n ≤ maxLen) : Own e 1 (.slice (some ⟨g, 0, none⟩) 0 n) 0 [] [(g, .cells (madeCells #[z] n) e (0, 0))] := by
  refine ⟨by simp, .inr ⟨g, n, madeCells #[z] n, rfl, rfl, Nat.zero_le _, h, by simp [size_madeCells], by simp⟩⟩
section
variable {o : Oper} {a : Act} {w : World}
theorem run_make0_op {P : Program} (t e : TypeId) (l c : Operand) (ho : o.op = .makeSlice t l c) (i : TypeInfo) (z : Value) (ht : P.underlying t = some (.slice e)) (hi : P.info? e = some i) (hz : i.zero = some z) (hs : i.size = 1) (hzc : z.cells = #[z]) (kl kc : IntKind) (n : Nat) (hl : a.eval l = .int kl 0) (hc : a.eval c = .int kc (n : Int)) (hb : i.bytes * n ≤ 281474976710656) (h63 : n ≤ 9223372036854775807) :
    (execOp a.eval o).run P w = .ok (.value (.slice (some ⟨w.heap.size, 0, none⟩) 0 n)) (w.alloc (.cells (madeCells #[z] n) e (0, 0))) := by
  have hb' : (i.bytes : Int) * (n : Int) ≤ 281474976710656 := by
    have h : ((i.bytes * n : Nat) : Int) ≤ 281474976710656 := by omega
    rwa [Int.natCast_mul] at h
  have hr := run_make (P := P) w t e i z ht hi hz kl kc 0 n (by omega) (by omega) hb' (by omega)
  rw [hzc, hs] at hr
  simp only [Int.toNat_natCast, Nat.mul_one] at hr
  unfold execOp
  simp [ho, hl, hc, hr]
theorem run_make0_i16 (l c : Operand) (ho : o.op = .makeSlice 39 l c) (kl kc : IntKind) (n : Nat) (hl : a.eval l = .int kl 0) (hc : a.eval c = .int kc (n : Int)) (hb : n ≤ 140737488355328) :
    (execOp a.eval o).run Try.prog w = .ok (.value (.slice (some ⟨w.heap.size, 0, none⟩) 0 n)) (w.alloc (.cells (madeCells #[.int .i16 0] n) 45 (0, 0))) := by
  obtain ⟨i0, hi, hz0, hz1, hz2⟩ := info_parts info_i16
  exact run_make0_op (P := Try.prog) 39 45 l c ho i0 (.int .i16 0) Try.underlying39 hi hz0 hz1 rfl kl kc n hl hc (by rw [hz2]; omega) (by omega)
theorem run_make_i16 (l c : Operand) (ho : o.op = .makeSlice 39 l c) (kl kc : IntKind) (n : Nat) (hl : a.eval l = .int kl (n : Int)) (hc : a.eval c = .int kc (n : Int)) (hb : n ≤ 140737488355328) :
    (execOp a.eval o).run Try.prog w = .ok (.value (.slice (some ⟨w.heap.size, 0, none⟩) n n)) (w.alloc (.cells (madeCells #[.int .i16 0] n) 45 (0, 0))) := by
  obtain ⟨i0, hi, hz0, hz1, hz2⟩ := info_parts info_i16
  exact run_make_op (P := Try.prog) 39 45 l c ho i0 (.int .i16 0) Try.underlying39 hi hz0 hz1 rfl kl kc n hl hc (by rw [hz2]; omega) (by omega)
end
/-- the blocks of the channels, one behind the other -/
def flatT (Ts : Nat → List (Nat × Obj)) : Nat → List (Nat × Obj)
  | 0 => []
  | n + 1 => flatT Ts n ++ Ts n
def setF {α : Type} (f : Nat → α) (i : Nat) (x : α) : Nat → α := fun j => if j = i then x else f j
theorem setF_eq {α : Type} (f : Nat → α) (i : Nat) (x : α) : setF f i x i = x := if_pos rfl
theorem setF_ne {α : Type} (f : Nat → α) {i j : Nat} (x : α) (h : j ≠ i) : setF f i x j = f j := if_neg h
theorem flatT_set (Ts : Nat → List (Nat × Obj)) (x : List (Nat × Obj)) : ∀ n i, n ≤ i → flatT (setF Ts i x) n = flatT Ts n := by
  intro n
  induction n with
  | zero => intro i _; rfl
  | succ n ih => intro i h; show flatT _ n ++ setF Ts i x n = _; rw [ih i (by omega), setF_ne _ _ (by omega)]; rfl
theorem flatT_mem {Ts : Nat → List (Nat × Obj)} {n j : Nat} (h : j < n) {p : Nat × Obj} (hp : p ∈ Ts j) : p ∈ flatT Ts n := by
  induction n with
  | zero => omega
  | succ n ih =>
    rcases Nat.lt_or_ge j n with h1 | h1
    · exact List.mem_append_left _ (ih h1)
    · obtain rfl : j = n := by omega
      exact List.mem_append_right _ hp
/-- the channels own their blocks -/
def OwnI (ls : List (List Int)) (As : Nat → Option Addr) (cs : Nat → Nat) (Ts : Nat → List (Nat × Obj)) : Prop :=
  ∀ j, j < ls.length → Own 45 1 (.slice (As j) (ls.getD j []).length (cs j)) (ls.getD j []).length (i16s (ls.getD j [])) (Ts j)
theorem getD_app_lt {ls : List (List Int)} {x : List Int} {j : Nat} (h : j < ls.length) : (ls ++ [x]).getD j [] = ls.getD j [] := by
  simp [List.getD_eq_getElem?_getD, List.getElem?_append_left h]
theorem getD_app_eq {ls : List (List Int)} {x : List Int} : (ls ++ [x]).getD ls.length [] = x := by
  simp [List.getD_eq_getElem?_getD]
theorem OwnI.nil (As : Nat → Option Addr) (cs : Nat → Nat) (Ts : Nat → List (Nat × Obj)) : OwnI [] As cs Ts := fun j h => by simp at h
theorem OwnI.snoc {ls : List (List Int)} {As : Nat → Option Addr} {cs : Nat → Nat} {Ts : Nat → List (Nat × Obj)} (h : OwnI ls As cs Ts) {x : List Int} {A : Option Addr} {c n : Nat} {T : List (Nat × Obj)} (hO : Own 45 1 (.slice A n c) n (i16s x) T) (hn : x.length = n) :
    OwnI (ls ++ [x]) (setF As ls.length A) (setF cs ls.length c) (setF Ts ls.length T) := by
  subst hn
  intro j hj
  rw [List.length_append] at hj
  rcases Nat.lt_or_ge j ls.length with h1 | h1
  · rw [getD_app_lt h1, setF_ne _ _ (by omega), setF_ne _ _ (by omega), setF_ne _ _ (by omega)]; exact h j h1
  · obtain rfl : j = ls.length := by have : [x].length = 1 := rfl; omega
    rw [getD_app_eq, setF_eq, setF_eq, setF_eq]; exact hO
theorem pvs_snoc (ls : List (List Int)) (x : List Int) (As : Nat → Option Addr) (cs : Nat → Nat) (A : Option Addr) (c n : Nat) (hn : x.length = n) : pvs (ls ++ [x]) (setF As ls.length A) (setF cs ls.length c) = pvs ls As cs ++ [.slice A n c] := by
  subst hn
  unfold pvs
  rw [List.length_append]
  show (List.range (ls.length + 1)).map _ = _
  rw [List.range_succ, List.map_append]
  congr 1
  · apply List.map_congr_left
    intro j hj
    have hj := List.mem_range.1 hj
    rw [getD_app_lt hj, setF_ne _ _ (by omega), setF_ne _ _ (by omega)]
  · simp only [List.map_cons, List.map_nil]
    rw [getD_app_eq, setF_eq, setF_eq]
/-- v is an own slice of own channels -/
def OwnP (v : Value) (ls : List (List Int)) (T : List (Nat × Obj)) : Prop :=
  ∃ As cs To Ts, Own 39 1 v ls.length (pvs ls As cs) To ∧ OwnI ls As cs Ts ∧ T = To ++ flatT Ts ls.length
theorem OwnP.nil : OwnP (.slice none 0 0) [] [] := ⟨fun _ => none, fun _ => 0, [], fun _ => [], Own.nil _ _, OwnI.nil _ _ _, rfl⟩
theorem rdP_of {w : World} {v : Value} {ls : List (List Int)} {As : Nat → Option Addr} {cs : Nat → Nat} {To : List (Nat × Obj)} {Ts : Nat → List (Nat × Obj)} (hO : Own 39 1 v ls.length (pvs ls As cs) To) (hI : OwnI ls As cs Ts) (h1 : ∀ p ∈ To, w.heap[p.1]? = some p.2) (h2 : ∀ p ∈ flatT Ts ls.length, w.heap[p.1]? = some p.2) : RdP w v ls As cs :=
  ⟨hO.rd h1, fun j hj _ => (hI j hj).rd (fun p hp => h2 p (flatT_mem hj hp))⟩
end Go.Proofs.Ytmimljaniliecaa
