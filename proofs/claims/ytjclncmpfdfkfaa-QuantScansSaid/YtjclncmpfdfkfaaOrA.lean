/- A region that draws its order and makes variables: every operation but those yields the same value in every order. -/
import Derived.Test.YtjclncmpfdfkfaaGw
namespace Go.Proofs.Ytjclncmpfdfkfaa
open Go.RowKit

/-- as orderOk, but the operations of 'late' (pure ones) need not come ahead of the tail -/
def orderOkL (ops : Array Oper) (m : Nat) (late : List Nat) : Bool :=
  let ms := masks ops.toList []
  let n := ops.size
  let ds := (List.range n).map fun i => (i, dstOf ops i)
  (ds.all fun (i, d) => match d with | none => true | some d => ds.all fun (j, e) => i == j || e != some d) &&
  ((List.range n).all fun j => match ops[j]? with
    | none => true
    | some o => (o.looksAt ops).all (fun t => ds.all fun (i, d) => d != some t || ((i < j && (ms.getD j 0).testBit i) || (j < i && (ms.getD i 0).testBit j))) &&
        o.after.toList.all (fun e => !Region.binds .any e || decide (e.on < j)) &&
        (decide (j < m) || (List.range j).all fun i => (decide (i < m) && late.contains i) || (ms.getD j 0).testBit i)) &&
  (late.all fun i => decide (i < m) && match ops[i]? with
    | none => true
    | some oi => (List.range n).all fun j => decide (j ≤ i) || match ops[j]? with
      | none => true
      | some oj => oj.after.toList.any (fun e => Region.binds .any e && e.on == i) || oi.apart ops oj) &&
  Region.noSelect ops

structure OkL (ops : Array Oper) (m : Nat) (late : List Nat) : Prop where
  once : Once ops
  looks : ∀ j o, ops[j]? = some o → ∀ t ∈ o.looksAt ops, ∀ i, dstOf ops i = some t → (i < j ∧ ∀ L, Closed ops L → L j = true → L i = true) ∨ (j < i ∧ ∀ L, Closed ops L → L i = true → L j = true)
  back : ∀ j o, ops[j]? = some o → ∀ e ∈ o.after, Region.binds .any e = true → e.on < j
  tail : ∀ j o, ops[j]? = some o → m ≤ j → ∀ i, i < j → ¬ (i < m ∧ i ∈ late) → ∀ L, Closed ops L → L j = true → L i = true
  free : ∀ i ∈ late, i < m ∧ ∀ oi, ops[i]? = some oi → ∀ j oj, ops[j]? = some oj → i < j → (∃ e ∈ oj.after, Region.binds .any e = true ∧ e.on = i) ∨ oi.apart ops oj = true
  nosel : Region.noSelect ops = true

theorem okL_of {ops : Array Oper} {m : Nat} {late : List Nat} (h : orderOkL ops m late = true) : OkL ops m late := by
  unfold orderOkL at h
  simp only [Bool.and_eq_true, List.all_eq_true, List.mem_map, List.mem_range, forall_exists_index, and_imp] at h
  obtain ⟨⟨⟨h1, h2⟩, h4⟩, h3⟩ := h
  have hdn : ∀ i d, dstOf ops i = some d → i < ops.size := by
    intro i d hd
    rcases Nat.lt_or_ge i ops.size with h | h
    · exact h
    · unfold dstOf at hd; rw [Array.getElem?_eq_none h] at hd; cases hd
  have hg : Good ops (masks ops.toList []) := masks_good ops.toList [] [] (by simp) rfl (fun L _ j i hb _ => by simp at hb)
  refine ⟨?_, ?_, ?_, ?_, ?_, h3⟩
  · intro i j d hi hj
    have := h1 (i, dstOf ops i) i (hdn i d hi) rfl
    simp only [hi, List.all_eq_true, List.mem_map, List.mem_range, forall_exists_index, and_imp] at this
    have h4 := this (j, dstOf ops j) j (hdn j d hj) rfl
    simp only [hj, Bool.or_eq_true, beq_iff_eq] at h4
    rcases h4 with h4 | h4
    · exact h4
    · simp at h4
  · intro j o ho t ht i hi
    have hj : j < ops.size := (Array.getElem?_eq_some_iff.1 ho).1
    have := h2 j hj
    simp only [ho, Bool.and_eq_true, List.all_eq_true, List.mem_map, List.mem_range, forall_exists_index, and_imp] at this
    have h4 := this.1.1 t ht (i, dstOf ops i) i (hdn i t hi) rfl
    simp only [hi, Bool.or_eq_true, Bool.and_eq_true, decide_eq_true_eq] at h4
    rcases h4 with h4 | h4 | h4
    · simp at h4
    · exact .inl ⟨h4.1, fun L hL hLj => hg L hL j i h4.2 hLj⟩
    · exact .inr ⟨h4.1, fun L hL hLi => hg L hL i j h4.2 hLi⟩
  · intro j o ho e he hb
    have hj : j < ops.size := (Array.getElem?_eq_some_iff.1 ho).1
    have := h2 j hj
    simp only [ho, Bool.and_eq_true, List.all_eq_true] at this
    have h4 := this.1.2 e (by simpa using he)
    simp only [hb, Bool.not_true, Bool.false_or, decide_eq_true_eq] at h4
    exact h4
  · intro j o ho hm i hi hnl L hL hLj
    have hj : j < ops.size := (Array.getElem?_eq_some_iff.1 ho).1
    have := h2 j hj
    simp only [ho, Bool.and_eq_true, Bool.or_eq_true, decide_eq_true_eq, List.all_eq_true, List.mem_range, List.contains_iff_mem] at this
    rcases this.2 with h4 | h4
    · omega
    · rcases h4 i hi with h5 | h5
      · exact (hnl h5).elim
      · exact hg L hL j i h5 hLj
  · intro i hi
    have := h4 i hi
    simp only [Bool.and_eq_true, decide_eq_true_eq] at this
    refine ⟨this.1, fun oi hoi j oj hoj hji => ?_⟩
    have h5 := this.2
    simp only [hoi, List.all_eq_true, List.mem_range, Bool.or_eq_true, decide_eq_true_eq] at h5
    have h6 := h5 j (Array.getElem?_eq_some_iff.1 hoj).1
    simp only [hoj, Bool.or_eq_true, List.any_eq_true, Bool.and_eq_true, beq_iff_eq] at h6
    rcases h6 with h6 | h6 | h6
    · omega
    · obtain ⟨e, he, hb, hon⟩ := h6
      exact .inl ⟨e, by simpa using he, hb, hon⟩
    · exact .inr h6

def RunB (P : Program) (T : World → Prop) (s : Sem Next) (v : Value) : Prop := ∀ w, T w →
  match s.run P w with
  | .ok (.value u) w' => u = v ∧ Below w.heap.size w w'
  | .ok .skip w' => v = undef ∧ Below w.heap.size w w'
  | .ok (.enter f args) w' => Calls P f args w' fun e w'' => e = .returned v ∧ Below w.heap.size w w''
  | _ => False
def StepB (P : Program) (ops : Array Oper) (T : World → Prop) (o : Oper) (v : Value) (a : Act) : Prop :=
  (Region.wanted o (yielded ops a.tmps) = true ∧ RunB P T (execOp a.eval o) v) ∨ (Region.wanted o (yielded ops a.tmps) = false ∧ v = undef)
def AllocStep (P : Program) (o : Oper) (ob : Obj) (a : Act) : Prop := o.guard = none ∧ ∀ w, (execOp a.eval o).run P w = .ok (.value (.pointer (some ⟨w.heap.size, 0, none⟩))) (w.alloc ob)

def valsG (vs : List Value) (al : List (Nat × Obj)) (G : Nat → Nat) (i : Nat) : Value := match al.lookup i with
  | some _ => .pointer (some ⟨G i, 0, none⟩)
  | none => vs.getD i undef
/-- the variables that have been made -/
structure Alc (N0 : Nat) (al : List (Nat × Obj)) (L : Nat → Bool) (G : Nat → Nat) (w : World) : Prop where
  at_ : ∀ i ob, al.lookup i = some ob → L i = true → N0 ≤ G i ∧ w.heap[G i]? = some ob
  ne : ∀ i j ob ob', al.lookup i = some ob → al.lookup j = some ob' → L i = true → L j = true → i ≠ j → G i ≠ G j

theorem OkL.ok {ops : Array Oper} {m : Nat} {late : List Nat} (h : OkL ops m late) : Ok ops ops.size :=
  ⟨h.once, h.looks, h.back, fun j o ho hm => by have := (Array.getElem?_eq_some_iff.1 ho).1; omega, h.nosel⟩
theorem Yields.of_looks {P : Program} {ops : Array Oper} (hns : Region.noSelect ops = true) {j : Nat} {o : Oper} (ho : ops[j]? = some o) {v : Value} {a a' : Act} (h : Yields P ops o v a) (hs : ∀ t ∈ o.looksAt ops, a'.tmps[t]? = a.tmps[t]?) : Yields P ops o v a' := by
  have he : execOp a'.eval o = execOp a.eval o := by
    refine execOp_congr o (fun cs b => Region.noSelect_spec hns j o cs b ho) fun x hx => ?_
    cases x with
    | tmp t =>
      have : t ∈ o.looksAt ops := List.mem_append_left _ (List.mem_filterMap.2 ⟨.tmp t, by simpa using hx, rfl⟩)
      have h2 := hs t this
      simp only [Act.eval, Array.getD_eq_getD_getElem?, h2]
    | _ => rfl
  have hw : Region.wanted o (yielded ops a'.tmps) = Region.wanted o (yielded ops a.tmps) := by
    unfold Region.wanted
    cases hg : o.guard with
    | none => rfl
    | some gw =>
      obtain ⟨g, want⟩ := gw
      simp only []
      have : yielded ops a'.tmps g = yielded ops a.tmps g := by
        unfold yielded
        cases hd : (ops[g]?).bind (·.dst) with
        | none => rfl
        | some t =>
          have : t ∈ o.looksAt ops := List.mem_append_right _ (by simp [hg, hd])
          simp only [Option.bind_some, hs t this]
      rw [this]
  unfold Yields at *
  rw [he, hw]
  exact h
section
variable {P : Program} {ops : Array Oper} {Q : Exit → Act → World → Prop} {T : World → Prop} {vs : List Value} {al : List (Nat × Obj)} {late : List Nat}

def seqA (P : Program) (ops : Array Oper) (T : World → Prop) (m : Nat) (late : List Nat) (vs : List Value) (al : List (Nat × Obj)) (G : Nat → Nat) (F : List Oper → Act → Prop) : Nat → List Oper → Act → Prop
  | _, [], a => F [] a
  | i, o :: rest, a => if i < m then (match al.lookup i with
      | some ob => AllocStep P o ob a
      | none => StepB P ops T o (vs.getD i undef) a) ∧ (i ∈ late → Yields P ops o (valsG vs al G i) a) ∧ seqA P ops T m late vs al G F (i + 1) rest (a.put o.dst (valsG vs al G i)) else F (o :: rest) a
structure SA (P : Program) (ops : Array Oper) (T : World → Prop) (m : Nat) (late : List Nat) (vs : List Value) (al : List (Nat × Obj)) (G : Nat → Nat) (F : List Oper → Act → Prop) (i : Nat) (l : List Oper) (a : Act) : Prop where
  h : seqA P ops T m late vs al G F i l a

theorem StepB.of_looks (hns : Region.noSelect ops = true) {j : Nat} {o : Oper} (ho : ops[j]? = some o) {v : Value} {a a' : Act} (h : StepB P ops T o v a) (hs : ∀ t ∈ o.looksAt ops, a'.tmps[t]? = a.tmps[t]?) : StepB P ops T o v a' := by
  have he : execOp a'.eval o = execOp a.eval o := by
    refine execOp_congr o (fun cs b => Region.noSelect_spec hns j o cs b ho) fun x hx => ?_
    cases x with
    | tmp t =>
      have : t ∈ o.looksAt ops := List.mem_append_left _ (List.mem_filterMap.2 ⟨.tmp t, by simpa using hx, rfl⟩)
      have h2 := hs t this
      simp only [Act.eval, Array.getD_eq_getD_getElem?, h2]
    | _ => rfl
  have hw : Region.wanted o (yielded ops a'.tmps) = Region.wanted o (yielded ops a.tmps) := by
    unfold Region.wanted
    cases hg : o.guard with
    | none => rfl
    | some gw =>
      obtain ⟨g, want⟩ := gw
      simp only []
      have : yielded ops a'.tmps g = yielded ops a.tmps g := by
        unfold yielded
        cases hd : (ops[g]?).bind (·.dst) with
        | none => rfl
        | some t =>
          have : t ∈ o.looksAt ops := List.mem_append_right _ (by simp [hg, hd])
          simp only [Option.bind_some, hs t this]
      rw [this]
  unfold StepB at *
  rw [he, hw]
  exact h
theorem AllocStep.of_looks (hns : Region.noSelect ops = true) {j : Nat} {o : Oper} (ho : ops[j]? = some o) {ob : Obj} {a a' : Act} (h : AllocStep P o ob a) (hs : ∀ t ∈ o.looksAt ops, a'.tmps[t]? = a.tmps[t]?) : AllocStep P o ob a' := by
  have he : execOp a'.eval o = execOp a.eval o := by
    refine execOp_congr o (fun cs b => Region.noSelect_spec hns j o cs b ho) fun x hx => ?_
    cases x with
    | tmp t =>
      have : t ∈ o.looksAt ops := List.mem_append_left _ (List.mem_filterMap.2 ⟨.tmp t, by simpa using hx, rfl⟩)
      have h2 := hs t this
      simp only [Act.eval, Array.getD_eq_getD_getElem?, h2]
    | _ => rfl
  refine ⟨h.1, fun w => ?_⟩
  rw [he]; exact h.2 w

theorem RunB.wp {o : Oper} {v : Value} {a : Act} (h : RunB P T (execOp a.eval o) v) {w : World} (hw : T w) {K : Act → World → Prop} (hK : ∀ w', Below w.heap.size w w' → K (a.put o.dst v) w') : o.wp P a w K Q := by
  have h1 := h w hw
  unfold Oper.wp
  generalize (execOp a.eval o).run P w = r at *
  cases r with
  | halt x w' => exact h1.elim
  | ok n w' =>
    cases n <;> simp only [Oper.upon] at h1 ⊢ <;> first | exact h1.elim | skip
    case value u => obtain ⟨rfl, hs⟩ := h1; exact hK _ hs
    case skip => obtain ⟨rfl, hs⟩ := h1; exact hK _ hs
    case enter f args =>
      refine Calls.mono h1 fun e w'' ⟨he, hs⟩ => ?_
      subst he
      exact hK _ hs

theorem StepB.wpOp {i : Nat} {o : Oper} {v : Value} {a : Act} (hi : ops[i]? = some o) (h : StepB P ops T o v a) {w : World} (hw : T w) {K : Act → World → Prop} (hK : ∀ w', Below w.heap.size w w' → K (a.put o.dst v) w') : wpOp P ops Q i K a w := by
  unfold Go.wpOp
  simp only [hi]
  rcases h with ⟨h1, h2⟩ | ⟨h1, rfl⟩
  · simp only [h1, if_true]
    exact .inl (h2.wp hw hK)
  · simp only [h1, Bool.false_eq_true, if_false]
    exact hK _ (Below.refl _ _)
theorem AllocStep.wpOp {i : Nat} {o : Oper} {ob : Obj} {a : Act} (hi : ops[i]? = some o) (h : AllocStep P o ob a) {w : World} {K : Act → World → Prop} (hK : K (a.put o.dst (.pointer (some ⟨w.heap.size, 0, none⟩))) (w.alloc ob)) : wpOp P ops Q i K a w := by
  unfold Go.wpOp
  simp only [hi]
  have : Region.wanted o (yielded ops a.tmps) = true := by simp [Region.wanted, h.1]
  simp only [this, if_true]
  refine .inl ?_
  unfold Oper.wp
  rw [h.2 w]
  exact hK

theorem Alc.below {N0 : Nat} {L : Nat → Bool} {G : Nat → Nat} {w w' : World} (h : Alc N0 al L G w) (hb : Below w.heap.size w w') : Alc N0 al L G w' :=
  ⟨fun i ob hi hl => ⟨(h.at_ i ob hi hl).1, (hb.block _ (heap_lt (h.at_ i ob hi hl).2)).trans (h.at_ i ob hi hl).2⟩, h.ne⟩

theorem seqA_at {m : Nat} {F : List Oper → Act → Prop} {a : Act} {G : Nat → Nat} : ∀ (rest : List Oper) (i : Nat), ops.toList.drop i = rest → i ≤ ops.size → i ≤ m → m ≤ ops.size →
    seqA P ops T m late vs al G F i rest (fr ops (valsG vs al G) a (fun _ => true) i) →
    (∀ k o, i ≤ k → k < m → ops[k]? = some o → (match al.lookup k with
      | some ob => AllocStep P o ob (fr ops (valsG vs al G) a (fun _ => true) k)
      | none => StepB P ops T o (vs.getD k undef) (fr ops (valsG vs al G) a (fun _ => true) k)) ∧ (k ∈ late → Yields P ops o (valsG vs al G k) (fr ops (valsG vs al G) a (fun _ => true) k))) ∧
      F (ops.toList.drop m) (fr ops (valsG vs al G) a (fun _ => true) m) := by
  intro rest
  induction rest with
  | nil =>
    intro i hd hi him hm h
    have hn : i = ops.size := by
      have := congrArg List.length hd
      simp at this
      omega
    refine ⟨fun k o hk hkm ho => by omega, ?_⟩
    rw [show m = i by omega, hd]
    exact h
  | cons o rest ih =>
    intro i hd hi him hm h
    have hlt : i < ops.size := by
      have := congrArg List.length hd
      simp at this
      omega
    have ho : ops[i]? = some o := by
      have : (ops.toList.drop i)[0]? = some o := by rw [hd]; rfl
      rw [List.getElem?_drop] at this
      simpa using this
    unfold seqA at h
    by_cases hmi : i < m
    · rw [if_pos hmi] at h
      obtain ⟨hstep, hlate, hrest⟩ := h
      have hd' : ops.toList.drop (i + 1) = rest := by
        rw [← List.drop_drop, hd]; rfl
      have hfr1 : fr ops (valsG vs al G) a (fun _ => true) (i + 1) = (fr ops (valsG vs al G) a (fun _ => true) i).put o.dst (valsG vs al G i) := by
        simp only [fr, if_true]
        simp [dstOf, ho]
      obtain ⟨h2, h3⟩ := ih (i + 1) hd' (by omega) (by omega) hm (by rw [hfr1]; exact hrest)
      refine ⟨fun k o' hk hkm hok => ?_, h3⟩
      by_cases e : k = i
      · subst e
        rw [ho] at hok; cases hok
        exact ⟨hstep, hlate⟩
      · exact h2 k o' (by omega) hkm hok
    · rw [if_neg hmi] at h
      refine ⟨fun k o' hk hkm _ => by omega, ?_⟩
      rw [show m = i by omega, hd]
      exact h

/-- the tail, in its one order -/
theorem any_tailL {m : Nat} {late : List Nat} (hokL : OkL ops m late) : ∀ (fuel : Nat) (j : Nat) (listed : Array Bool) (a' : Act) (w : World), listed.size = ops.size → m ≤ j → j ≤ ops.size → left listed ops.size ≤ fuel →
    Closed ops (fun k => listed.getD k false) → (∀ k, k < ops.size → listed.getD k false = decide (k < j)) → wpList P ops Q (ops.toList.drop j) a' w → wpAny P .any ops Q fuel listed a' w := by
  have hok := hokL.ok
  intro fuel
  induction fuel with
  | zero =>
    intro j listed a' w hn hm hj hf hc hl h
    have hj2 : j = ops.size := by
      rcases Nat.lt_or_ge j ops.size with h1 | h1
      · have := left_zero hn (by omega) h1
        rw [hl j h1] at this
        simp at this
      · omega
    subst hj2
    refine ⟨?_, ?_⟩
    · unfold Region.ready
      rw [List.filter_eq_nil_iff]
      intro i hi
      have hi' := List.mem_range.1 hi
      have := hl i hi'
      rw [decide_eq_true hi'] at this
      rw [getD_bools hn hi', this]
      simp
    · rw [List.drop_of_length_le (by simp)] at h
      exact h
  | succ fuel ih =>
    intro j listed a' w hn hm hj hf hc hl h
    refine ⟨fun hr => ?_, fun i hi => ?_⟩
    · by_cases e : j = ops.size
      · subst e
        rw [List.drop_of_length_le (by simp)] at h
        exact h
      · exact (ready_least hok hn (k := j) (by omega) (by rw [hl j (by omega)]; simp) hr).elim
    · obtain ⟨h1, o, ho, h2⟩ := mem_ready.1 hi
      have hin : i < ops.size := (Array.getElem?_eq_some_iff.1 ho).1
      have hij : j ≤ i := by
        rw [getD_bools hn hin, hl i hin] at h1
        simpa using h1
      have hij' : i = j := by
        rcases Nat.lt_or_ge j i with hlt | hge
        · have := hokL.tail i o ho (by omega) j hlt (fun c => by omega) _ (closed_ready ho hc h2) (by simp)
          simp only [if_neg (show ¬ j = i by omega)] at this
          rw [hl j (by omega)] at this
          simp at this
        · omega
      subst hij'
      have hd : ops.toList.drop i = o :: ops.toList.drop (i + 1) := by
        rw [List.drop_eq_getElem_cons (by simpa using hin)]
        have := (Array.getElem?_eq_some_iff.1 ho).2
        simp [this]
      rw [hd] at h
      have hnext : ∀ a' w', wpList P ops Q (ops.toList.drop (i + 1)) a' w' → wpAny P .any ops Q fuel (listed.setIfInBounds i true) a' w' := by
        intro a' w' h'
        have hlt := left_set hin hn (by rw [getD_bools hn hin, hl i hin]; simp)
        have hgs : ∀ k, (listed.setIfInBounds i true).getD k false = if k = i then true else listed.getD k false := by
          intro k
          by_cases e : k = i
          · subst e; rw [if_pos rfl]; exact getD_set_self hn hin
          · rw [if_neg e]; exact getD_set_ne false (Ne.symm e)
        refine ih (i + 1) _ a' w' (by simpa using hn) (by omega) (by omega) (by omega) ?_ (fun k hk => ?_) h'
        · have := closed_ready ho hc h2
          intro k p hk hkl
          intro e he hb
          simp only [hgs] at hkl ⊢
          exact this k p hk hkl e he hb
        · rw [hgs]
          by_cases e : k = i
          · subst e; simp
          · rw [if_neg e, hl k hk]; simp; omega
      unfold wpList at h
      unfold wpOp
      simp only [ho]
      split at h
      · rename_i hw
        rw [if_pos hw]
        exact h.imp (Oper.wp_mono hnext) id
      · rename_i hw
        rw [if_neg hw]
        exact hnext _ _ h

theorem any_orderA {m N0 : Nat} (hokL : OkL ops m late) (hQ : ∀ d v c a w, Q (.panic c) (Act.put a d v) w → Q (.panic c) a w) (hm : m ≤ ops.size) {a : Act} (hT : ∀ w w', T w → Below w.heap.size w w' → T w')
    (hsteps : ∀ G k o, k < m → ops[k]? = some o → (match al.lookup k with
      | some ob => AllocStep P o ob (fr ops (valsG vs al G) a (fun _ => true) k)
      | none => StepB P ops T o (vs.getD k undef) (fr ops (valsG vs al G) a (fun _ => true) k)))
    (hlate : ∀ G k o, k < m → ops[k]? = some o → k ∈ late → Yields P ops o (valsG vs al G k) (fr ops (valsG vs al G) a (fun _ => true) k))
    (hal : ∀ k ob, al.lookup k = some ob → k < m) (hlal : ∀ k, k ∈ late → al.lookup k = none)
    (hend : ∀ G w, T w → Alc N0 al (fun _ => true) G w → wpList P ops Q (ops.toList.drop m) (fr ops (valsG vs al G) a (fun _ => true) m) w) :
    ∀ (fuel : Nat) (listed : Array Bool) (G : Nat → Nat) (w : World), listed.size = ops.size → Closed ops (fun k => listed.getD k false) → left listed ops.size ≤ fuel → T w → N0 ≤ w.heap.size → Alc N0 al (fun k => listed.getD k false) G w → (∀ k, m ≤ k → listed.getD k false = false) →
      wpAny P .any ops Q fuel listed (fr ops (valsG vs al G) a (fun k => listed.getD k false) ops.size) w := by
  have hok := hokL.ok
  have fin : ∀ (fuel : Nat) (listed : Array Bool) (G : Nat → Nat) (w : World), listed.size = ops.size → Closed ops (fun k => listed.getD k false) → left listed ops.size ≤ fuel → T w → Alc N0 al (fun k => listed.getD k false) G w → (∀ k, m ≤ k → listed.getD k false = false) →
      (∀ k, k < m → listed.getD k false = true) → wpAny P .any ops Q fuel listed (fr ops (valsG vs al G) a (fun k => listed.getD k false) ops.size) w := by
    intro fuel listed G w hn hc hleft hw hA htail hall
    have hl : ∀ k, k < ops.size → listed.getD k false = decide (k < m) := by
      intro k _
      by_cases e : k < m
      · rw [hall k e]; simpa using e
      · rw [htail k (by omega)]; simpa using e
    refine any_tailL hokL fuel m listed _ w hn (Nat.le_refl _) hm hleft hc hl ?_
    rw [fr_congr (vals' := valsG vs al G) ops.size (L' := fun k => decide (k < m)) hl (fun _ _ _ => rfl), fr_lt m _ hm]
    exact hend G w hw ⟨fun i ob hi _ => hA.at_ i ob hi (hall i (hal i ob hi)), fun i j ob ob' hi hj _ _ hij => hA.ne i j ob ob' hi hj (hall i (hal i ob hi)) (hall j (hal j ob' hj)) hij⟩
  -- all but late ones have come up: take the late ones, the least first
  have lateStage : ∀ (fuel : Nat) (listed : Array Bool) (G : Nat → Nat) (w : World), listed.size = ops.size → Closed ops (fun k => listed.getD k false) → left listed ops.size ≤ fuel → T w → N0 ≤ w.heap.size → Alc N0 al (fun k => listed.getD k false) G w → (∀ k, m ≤ k → listed.getD k false = false) →
      (∀ k, k < m → ¬ (k ∈ late ∧ al.lookup k = none) → listed.getD k false = true) → wpAny P .any ops Q fuel listed (fr ops (valsG vs al G) a (fun k => listed.getD k false) ops.size) w := by
    intro fuel
    induction fuel with
    | zero =>
      intro listed G w hn hc hleft hw _ hA htail _
      exact fin 0 listed G w hn hc hleft hw hA htail (fun k hk => left_zero hn (by omega) (by omega))
    | succ fuel ih =>
      intro listed G w hn hc hleft hw hN hA htail hall
      by_cases hdone : ∀ k, k < m → listed.getD k false = true
      · exact fin _ listed G w hn hc hleft hw hA htail hdone
      · have ⟨k, hk, hkl⟩ : ∃ k, k < m ∧ listed.getD k false = false := by
          refine Classical.byContradiction fun h => hdone fun k hk => ?_
          cases hc : listed.getD k false with
          | true => rfl
          | false => exact (h ⟨k, hk, hc⟩).elim
        obtain ⟨i, hik, hil, hmin⟩ := least (fun k => listed.getD k false) (k + 1) k (by omega) hkl
        have him : i < m := by omega
        have hin : i < ops.size := by omega
        have hio : ops[i]? = some ops[i] := by simp [hin]
        have hlt : i ∈ late ∧ al.lookup i = none := Classical.byContradiction fun h => by have := hall i him h; simp only [this] at hil; cases hil
        have hr : ∀ e ∈ (ops[i]).after, Region.binds .any e = true → listed.getD e.on false = true := fun e he hb => hmin _ (hok.back i _ hio e he hb)
        have hready : i ∈ Region.ready .any ops listed := mem_ready.2 ⟨by rw [getD_bools hn hin]; exact hil, ops[i], hio, hr⟩
        have hy : Yields P ops ops[i] (valsG vs al G i) (fr ops (valsG vs al G) a (fun k => listed.getD k false) ops.size) :=
          Yields.of_looks hok.nosel hio (hlate G i _ him hio hlt.1) (fun t ht => by rw [sees hok hc hio hil hr ht, fr_lt i _ (by omega)])
        have hgs : ∀ k, (listed.setIfInBounds i true).getD k false = if k = i then true else listed.getD k false := by
          intro k
          by_cases e : k = i
          · subst e; rw [if_pos rfl]; exact getD_set_self hn hin
          · rw [if_neg e]; exact getD_set_ne false (Ne.symm e)
        have hlt2 := left_set hin hn (by rw [getD_bools hn hin]; exact hil)
        have hC := closed_ready hio hc hr
        have key := ih (listed.setIfInBounds i true) G w (by simpa using hn) (by
            intro k p hk hkl e he hb
            simp only [hgs] at hkl ⊢
            exact hC k p hk hkl e he hb) (by omega) hw hN
          ⟨(fun j oj hj hl => by
            have hji : j ≠ i := by intro e; subst e; rw [hlt.2] at hj; cases hj
            simp only [hgs, if_neg hji] at hl
            exact hA.at_ j oj hj hl), (fun j k oj ok hj hk hl hl' hjk => by
            have hji : j ≠ i := by intro e; subst e; rw [hlt.2] at hj; cases hj
            have hki : k ≠ i := by intro e; subst e; rw [hlt.2] at hk; cases hk
            simp only [hgs, if_neg hji] at hl
            simp only [hgs, if_neg hki] at hl'
            exact hA.ne j k oj ok hj hk hl hl' hjk)⟩
          (fun k hk => by rw [hgs, if_neg (by omega)]; exact htail k hk)
          (fun k hk h => by rw [hgs]; by_cases e : k = i; rw [if_pos e]; rw [if_neg e]; exact hall k hk h)
        rw [fr_put hok.once hil hgs _ hin] at key
        refine wpAny_first (v := valsG vs al G i) hio (Region.noSelect_spec hok.nosel) (fun c a w h => hQ _ _ c a w h) fuel listed _ w ?_ hready hy ?_
        · intro j oj hj hji hjl hno
          have hjn : j < ops.size := (Array.getElem?_eq_some_iff.1 hj).1
          have hij : i < j := by
            rcases Nat.lt_or_ge j i with h | h
            · have := hmin j h
              rw [getD_bools hn hjn] at hjl
              simp only [hjl] at this; cases this
            · omega
          rcases (hokL.free i hlt.1).2 _ hio j oj hj hij with ⟨e, he, hb, hon⟩ | h
          · exact (hno e he hb hon).elim
          · exact h
        · rw [show (ops[i]).dst = dstOf ops i by simp [dstOf, hin]]
          exact key
  intro fuel
  induction fuel with
  | zero =>
    intro listed G w hn hc hleft hw _ hA htail
    exact fin 0 listed G w hn hc hleft hw hA htail (fun k hk => left_zero hn (by omega) (by omega))
  | succ fuel ih =>
    intro listed G w hn hc hleft hw hN hA htail
    by_cases hdone : ∀ k, k < m → ¬ (k ∈ late ∧ al.lookup k = none) → listed.getD k false = true
    · exact lateStage _ listed G w hn hc hleft hw hN hA htail hdone
    · have ⟨k, hk, hkn, hkl⟩ : ∃ k, k < m ∧ ¬ (k ∈ late ∧ al.lookup k = none) ∧ listed.getD k false = false := by
        refine Classical.byContradiction fun h => hdone fun k hk hkn => ?_
        cases hc : listed.getD k false with
        | true => rfl
        | false => exact (h ⟨k, hk, hkn, hc⟩).elim
      refine ⟨fun hr => (ready_least hok hn (k := k) (by omega) hkl hr).elim, fun i hi => ?_⟩
      obtain ⟨h1, o, ho, h2⟩ := mem_ready.1 hi
      have hin : i < ops.size := (Array.getElem?_eq_some_iff.1 ho).1
      have hC := closed_ready ho hc h2
      have him : i < m := by
        rcases Nat.lt_or_ge i m with h | h
        · exact h
        · have := hokL.tail i o ho h k (by omega) (fun c => hkn ⟨c.2, hlal k c.2⟩) _ hC (by simp)
          simp only [if_neg (show ¬ k = i by omega)] at this
          rw [hkl] at this; cases this
      have hil : listed.getD i false = false := by rw [← getD_bools hn hin]; exact h1
      have hgs : ∀ k, (listed.setIfInBounds i true).getD k false = if k = i then true else listed.getD k false := by
        intro k
        by_cases e : k = i
        · subst e; rw [if_pos rfl]; exact getD_set_self hn hin
        · rw [if_neg e]; exact getD_set_ne false (Ne.symm e)
      have hlt := left_set hin hn h1
      have hC' : Closed ops (fun k => (listed.setIfInBounds i true).getD k false) := by
        intro k p hk hkl
        intro e he hb
        simp only [hgs] at hkl ⊢
        exact hC k p hk hkl e he hb
      have htail' : ∀ k, m ≤ k → (listed.setIfInBounds i true).getD k false = false := fun k hk => by rw [hgs, if_neg (by omega)]; exact htail k hk
      have hst := hsteps G i o him ho
      cases hlk : al.lookup i with
      | none =>
        simp only [hlk] at hst
        have hst2 := hst.of_looks (a' := fr ops (valsG vs al G) a (fun k => listed.getD k false) ops.size) hok.nosel ho fun t ht => by
          rw [sees hok hc ho hil h2 ht, fr_lt i _ (by omega)]
        refine hst2.wpOp ho hw fun w' hb => ?_
        have hA' : Alc N0 al (fun k => (listed.setIfInBounds i true).getD k false) G w' := by
          have hA1 := hA.below hb
          refine ⟨fun j ob hj hl => ?_, fun j k ob ob' hj hk hl hl' hjk => ?_⟩
          · have hji : j ≠ i := by intro e; subst e; rw [hlk] at hj; cases hj
            simp only [hgs, if_neg hji] at hl
            exact hA1.at_ j ob hj hl
          · have hji : j ≠ i := by intro e; subst e; rw [hlk] at hj; cases hj
            have hki : k ≠ i := by intro e; subst e; rw [hlk] at hk; cases hk
            simp only [hgs, if_neg hji] at hl
            simp only [hgs, if_neg hki] at hl'
            exact hA1.ne j k ob ob' hj hk hl hl' hjk
        have := ih (listed.setIfInBounds i true) G w' (by simpa using hn) hC' (by omega) (hT w w' hw hb) (by have := hb.size; omega) hA' htail'
        rw [fr_put hok.once hil hgs _ hin] at this
        rw [show o.dst = dstOf ops i by simp [dstOf, ho], show vs.getD i undef = valsG vs al G i by simp [valsG, hlk]]
        exact this
      | some ob =>
        simp only [hlk] at hst
        have hst2 := hst.of_looks (a' := fr ops (valsG vs al G) a (fun k => listed.getD k false) ops.size) hok.nosel ho fun t ht => by
          rw [sees hok hc ho hil h2 ht, fr_lt i _ (by omega)]
        refine hst2.wpOp ho ?_
        let G' : Nat → Nat := fun k => if k = i then w.heap.size else G k
        have hG : ∀ k, k ≠ i → G' k = G k := fun k h => if_neg h
        have hGi : G' i = w.heap.size := if_pos rfl
        have hbl : Below w.heap.size w (w.alloc ob) := (Below.refl _ _).alloc (Nat.le_refl _) ob
        have hA' : Alc N0 al (fun k => (listed.setIfInBounds i true).getD k false) G' (w.alloc ob) := by
          have hA1 := hA.below hbl
          refine ⟨fun j oj hj hl => ?_, fun j k oj ok hj hk hl hl' hjk => ?_⟩
          · by_cases e : j = i
            · subst e
              rw [hlk] at hj; cases hj
              rw [hGi]
              exact ⟨hN, heap_alloc_new w ob⟩
            · simp only [hgs, if_neg e] at hl
              rw [hG j e]
              exact hA1.at_ j oj hj hl
          · by_cases e : j = i
            · subst e
              have hkj : k ≠ j := Ne.symm hjk
              simp only [hgs, if_neg hkj] at hl'
              rw [hGi, hG k hkj]
              have := heap_lt (hA.at_ k ok hk hl').2
              omega
            · by_cases e2 : k = i
              · subst e2
                simp only [hgs, if_neg e] at hl
                rw [hGi, hG j e]
                have := heap_lt (hA.at_ j oj hj hl).2
                omega
              · simp only [hgs, if_neg e] at hl
                simp only [hgs, if_neg e2] at hl'
                rw [hG j e, hG k e2]
                exact hA1.ne j k oj ok hj hk hl hl' hjk
        have := ih (listed.setIfInBounds i true) G' (w.alloc ob) (by simpa using hn) hC' (by omega) (hT w _ hw hbl) (by have := hbl.size; omega) hA' htail'
        rw [fr_put hok.once hil hgs _ hin] at this
        rw [fr_congr (vals' := valsG vs al G) ops.size (L' := fun k => listed.getD k false) (fun _ _ => rfl) (fun k _ hl => by
          have hki : k ≠ i := by intro e; subst e; rw [hil] at hl; cases hl
          unfold valsG
          cases al.lookup k with
          | none => rfl
          | some _ => simp only [hG k hki])] at this
        rw [show valsG vs al G' i = .pointer (some ⟨w.heap.size, 0, none⟩) by simp [valsG, hlk, G']] at this
        rw [show o.dst = dstOf ops i by simp [dstOf, ho]]
        exact this

theorem wl_seqA {S0 : Nat → Prop} {w0 : World} {L : List (Nat × Obj)} {l : List Oper} {id : Nat} {a : Act} {w : World} (M : Mem S0 w0 w L) (m : Nat) (late : List Nat) (vs : List Value) (al : List (Nat × Obj)) (hm : m ≤ l.toArray.size) (hmix : P.follows .mixedOrders = true) (hok : orderOkL l.toArray m late = true) (hQ : ∀ d v c a w, Q (.panic c) (Act.put a d v) w → Q (.panic c) a w)
    (hlal : late.all (fun k => (al.lookup k).isNone) = true) (hal : al.all (fun p => decide (p.1 < m)) = true) (hd : (al.map (·.1)).Pairwise (· ≠ ·))
    (h : ∀ G : Nat → Nat, SA P l.toArray (fun w' => Mem S0 w0 w' L) m late vs al G (fun rest a' => ∀ w', Mem S0 w0 w' (al.map (fun p => (G p.1, p.2)) ++ L) → WL P l.toArray Q rest a' w') 0 l a) : (Code.region id l.toArray true).wp P Q a w := by
  refine wp_region_any hmix ?_
  have hz : ∀ k, (Array.replicate l.toArray.size false).getD k false = false := by
    intro k
    by_cases hk : k < l.toArray.size
    · simp only [Array.getD_eq_getD_getElem?, Array.getElem?_replicate, hk, if_true, Option.getD_some]
    · simp only [Array.getD_eq_getD_getElem?, Array.getElem?_replicate, hk, if_false, Option.getD_none]
  have hall : ∀ k ob, al.lookup k = some ob → (k, ob) ∈ al := by
    intro k ob hk
    clear hal hd h hlal
    induction al with
    | nil => simp at hk
    | cons p al ih =>
      obtain ⟨i, x⟩ := p
      rw [List.lookup_cons] at hk
      split at hk
      · rename_i he
        have := eq_of_beq he
        subst this
        cases hk
        exact List.mem_cons_self
      · exact List.mem_cons_of_mem _ (ih hk)
  have hlt : ∀ k ob, al.lookup k = some ob → k < m := by
    intro k ob hk
    rw [List.all_eq_true] at hal
    exact of_decide_eq_true (hal _ (hall k ob hk))
  have hlook : ∀ p ∈ al, al.lookup p.1 = some p.2 := by
    intro p hp
    clear hal h hall hlt hlal
    induction al with
    | nil => cases hp
    | cons q al ih =>
      rw [List.map_cons, List.pairwise_cons] at hd
      rcases List.mem_cons.1 hp with rfl | hp
      · rw [List.lookup_cons]; simp
      · rw [List.lookup_cons]
        have := hd.1 p.1 (List.mem_map.2 ⟨p, hp, rfl⟩)
        rw [show (p.1 == q.1) = false by simpa using Ne.symm this]
        exact ih hd.2 hp
  have key := fun G => seqA_at (P := P) (late := late) (ops := l.toArray) (T := fun w' => Mem S0 w0 w' L) (vs := vs) (al := al) (a := a) (G := G) l 0 rfl (Nat.zero_le _) (Nat.zero_le _) hm (by
    show seqA _ _ _ _ _ _ _ _ _ 0 l a
    exact (h G).h)
  have := any_orderA (P := P) (Q := Q) (late := late) (T := fun w' => Mem S0 w0 w' L) (N0 := w.heap.size) (vs := vs) (al := al) (a := a) (okL_of hok) hQ hm (fun w1 w2 h1 h2 => h1.below h2) (fun G k o hk ho => ((key G).1 k o (Nat.zero_le _) hk ho).1) (fun G k o hk ho hl => ((key G).1 k o (Nat.zero_le _) hk ho).2 hl) hlt
    (fun k hk => by rw [List.all_eq_true] at hlal; exact Option.isNone_iff_eq_none.1 (hlal k hk))
    (fun G w1 h1 hA => by
      refine ((key G).2 w1 ?_).h
      have hlook' := hlook
      -- the memory with the variables that were made
      have gen : ∀ (al' : List (Nat × Obj)), (∀ p ∈ al', al.lookup p.1 = some p.2) → (al'.map (·.1)).Pairwise (· ≠ ·) → Mem S0 w0 w1 (al'.map (fun p => (G p.1, p.2)) ++ L) := by
        intro al'
        induction al' with
        | nil => intro _ _; exact h1
        | cons p al' ih =>
          intro hl hp
          rw [List.map_cons, List.pairwise_cons] at hp
          have M2 := ih (fun q hq => hl q (List.mem_cons_of_mem _ hq)) hp.2
          have ha := hA.at_ p.1 p.2 (hl p List.mem_cons_self) rfl
          refine ⟨M2.keep, ?_, ?_, ?_⟩
          · intro q hq
            rcases List.mem_cons.1 hq with rfl | hq
            · exact ha.2
            · exact M2.at_ q hq
          · intro q hq
            rcases List.mem_cons.1 hq with rfl | hq
            · exact .inr (Nat.le_trans M.keep.size ha.1)
            · exact M2.own q hq
          · refine List.Pairwise.cons ?_ M2.apart
            intro b hb
            obtain ⟨q, hq, rfl⟩ := List.mem_map.1 hb
            rcases List.mem_append.1 hq with hq | hq
            · obtain ⟨r, hr, rfl⟩ := List.mem_map.1 hq
              exact hA.ne p.1 r.1 p.2 r.2 (hl p List.mem_cons_self) (hl r (List.mem_cons_of_mem _ hr)) rfl rfl (hp.1 r.1 (List.mem_map.2 ⟨r, hr, rfl⟩))
            · have := M.lt hq
              have := ha.1
              show G p.1 ≠ q.1
              omega
      exact gen al hlook hd)
    l.toArray.size (Array.replicate l.toArray.size false) (fun _ => 0) { w with drawn := w.drawn + 1 } (by simp) (fun j o _ hj => by simp only [hz j] at hj; cases hj)
    (Nat.le_trans (List.length_filter_le _ _) (by simp)) M.drew (Nat.le_refl _) ⟨(fun i ob _ hl => by simp only [hz i] at hl; cases hl), (fun i j ob ob' _ _ hl => by simp only [hz i] at hl; cases hl)⟩ (fun k _ => hz k)
  rw [fr_congr (vals' := valsG vs al (fun _ => 0)) l.toArray.size (L' := fun _ => false) (fun k _ => hz k) (fun _ _ _ => rfl)] at this
  have hf : ∀ n, fr l.toArray (valsG vs al (fun _ => 0)) a (fun _ => false) n = a := by
    intro n
    induction n with
    | zero => rfl
    | succ n ih => simp only [fr]; rw [if_neg (by exact Bool.false_ne_true), ih]
  rw [hf] at this
  exact this

/-! the moves -/
variable {G : Nat → Nat} {F : List Oper → Act → Prop} {m i : Nat} {o : Oper} {rest : List Oper} {a : Act}
theorem not_late {p : Prop} {i : Nat} {late : List Nat} (h : late.contains i = false) : i ∈ late → p := fun hi => by rw [List.contains_iff_mem.2 hi] at h; cases h
/-- an operation that may come late: pure -/
theorem sqa_late (v : Value) (hi : i < m) (hl : al.lookup i = none) (hv : vs.getD i undef = v) (hw : Region.wanted o (yielded ops a.tmps) = true) (hr : ∀ w, (execOp a.eval o).run P w = .ok (.value v) w)
    (h : SA P ops T m late vs al G F (i + 1) rest (a.put o.dst v)) : SA P ops T m late vs al G F i (o :: rest) a := by
  subst hv
  have e : valsG vs al G i = vs.getD i undef := by simp [valsG, hl]
  refine ⟨?_⟩
  unfold seqA
  rw [if_pos hi]
  simp only [hl]
  refine ⟨.inl ⟨hw, fun w hS => by rw [hr w]; exact ⟨rfl, Below.refl _ _⟩⟩, fun _ => .inl ⟨hw, fun w => by rw [e]; exact hr w⟩, ?_⟩
  rw [e]
  exact h.h
theorem sqa_run (v : Value) (hi : i < m) (hla : late.contains i = false) (hl : al.lookup i = none) (hv : vs.getD i undef = v) (hw : Region.wanted o (yielded ops a.tmps) = true) (hr : ∀ w, T w → (execOp a.eval o).run P w = .ok (.value v) w)
    (h : SA P ops T m late vs al G F (i + 1) rest (a.put o.dst v)) : SA P ops T m late vs al G F i (o :: rest) a := by
  subst hv
  refine ⟨?_⟩
  unfold seqA
  rw [if_pos hi]
  simp only [hl]
  refine ⟨.inl ⟨hw, fun w hS => by rw [hr w hS]; exact ⟨rfl, Below.refl _ _⟩⟩, not_late hla, ?_⟩
  rw [show valsG vs al G i = vs.getD i undef by simp [valsG, hl]]
  exact h.h
theorem sqa_skip (hi : i < m) (hla : late.contains i = false) (hl : al.lookup i = none) (hv : vs.getD i undef = undef) (hw : Region.wanted o (yielded ops a.tmps) = false)
    (h : SA P ops T m late vs al G F (i + 1) rest (a.put o.dst undef)) : SA P ops T m late vs al G F i (o :: rest) a := by
  refine ⟨?_⟩
  unfold seqA
  rw [if_pos hi]
  simp only [hl]
  refine ⟨.inr ⟨hw, hv⟩, not_late hla, ?_⟩
  rw [show valsG vs al G i = undef by simp only [valsG, hl]; exact hv]
  exact h.h
theorem sqa_call (v : Value) {f : FuncId} {args : Array Value} (hi : i < m) (hla : late.contains i = false) (hl : al.lookup i = none) (hv : vs.getD i undef = v) (hw : Region.wanted o (yielded ops a.tmps) = true) (hr : ∀ w, T w → (execOp a.eval o).run P w = .ok (.enter f args) w)
    (hc : ∀ w, T w → Calls P f args w fun e w' => e = .returned v ∧ Below w.heap.size w w') (h : SA P ops T m late vs al G F (i + 1) rest (a.put o.dst v)) : SA P ops T m late vs al G F i (o :: rest) a := by
  subst hv
  refine ⟨?_⟩
  unfold seqA
  rw [if_pos hi]
  simp only [hl]
  refine ⟨.inl ⟨hw, fun w hS => by rw [hr w hS]; exact hc w hS⟩, not_late hla, ?_⟩
  rw [show valsG vs al G i = vs.getD i undef by simp [valsG, hl]]
  exact h.h
theorem sqa_alloc (ob : Obj) (hi : i < m) (hla : late.contains i = false) (hl : al.lookup i = some ob) (hg : o.guard = none) (hr : ∀ w, (execOp a.eval o).run P w = .ok (.value (.pointer (some ⟨w.heap.size, 0, none⟩))) (w.alloc ob))
    (h : SA P ops T m late vs al G F (i + 1) rest (a.put o.dst (.pointer (some ⟨G i, 0, none⟩)))) : SA P ops T m late vs al G F i (o :: rest) a := by
  refine ⟨?_⟩
  unfold seqA
  rw [if_pos hi]
  simp only [hl]
  refine ⟨⟨hg, hr⟩, not_late hla, ?_⟩
  rw [show valsG vs al G i = .pointer (some ⟨G i, 0, none⟩) by simp [valsG, hl]]
  exact h.h
theorem sqa_end (hi : m ≤ i) (h : F rest a) : SA P ops T m late vs al G F i rest a := by
  refine ⟨?_⟩
  cases rest with
  | nil => exact h
  | cons o rest => unfold seqA; rw [if_neg (by omega)]; exact h
end
end Go.Proofs.Ytjclncmpfdfkfaa
