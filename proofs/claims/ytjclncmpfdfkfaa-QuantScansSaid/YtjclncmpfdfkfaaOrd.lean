/- A region that draws its order, all of whose operations yield the same values in every world that meets one condition S: it is walked once, in the order of the text. -/
import Derived.Orders
import Derived.Tactics
import Derived.WalkKit
namespace Go.Proofs.Ytjclncmpfdfkfaa
open Go.RowKit

/-- In every world that meets S it yields v, and behind it S holds. -/
def RunS (P : Program) (S : World → Prop) (s : Sem Next) (v : Value) : Prop := ∀ w, S w →
  match s.run P w with
  | .ok (.value u) w' => u = v ∧ S w'
  | .ok .skip w' => v = undef ∧ S w'
  | .ok (.enter f args) w' => Calls P f args w' fun e w'' => e = .returned v ∧ S w''
  | _ => False

def StepS (P : Program) (ops : Array Oper) (S : World → Prop) (o : Oper) (v : Value) (a : Act) : Prop :=
  (Region.wanted o (yielded ops a.tmps) = true ∧ RunS P S (execOp a.eval o) v) ∨ (Region.wanted o (yielded ops a.tmps) = false ∧ v = undef)

section
variable {P : Program} {ops : Array Oper} {Q : Exit → Act → World → Prop} {S : World → Prop}

theorem RunS.wp {o : Oper} {v : Value} {a : Act} (h : RunS P S (execOp a.eval o) v) {w : World} (hw : S w) {K : Act → World → Prop} (hK : ∀ w', S w' → K (a.put o.dst v) w') : o.wp P a w K Q := by
  have h1 := h w hw
  unfold Oper.wp
  generalize (execOp a.eval o).run P w = r at *
  cases r with
  | halt x w' => exact h1.elim
  | ok n w' =>
    cases n <;> simp only [Oper.upon] at h1 ⊢ <;> first | exact h1.elim | skip
    case value u => obtain ⟨rfl, hs⟩ := h1; exact hK _ hs
    case skip => obtain ⟨rfl, hs⟩ := h1; exact hK _ hs
    case enter f args =>
      refine Calls.mono h1 fun e w'' ⟨he, hs⟩ => ?_
      subst he
      exact hK _ hs

theorem StepS.wpOp {i : Nat} {o : Oper} {v : Value} {a : Act} (hi : ops[i]? = some o) (h : StepS P ops S o v a) {w : World} (hw : S w) {K : Act → World → Prop} (hK : ∀ w', S w' → K (a.put o.dst v) w') : wpOp P ops Q i K a w := by
  unfold Go.wpOp
  simp only [hi]
  rcases h with ⟨h1, h2⟩ | ⟨h1, rfl⟩
  · simp only [h1, if_true]
    exact .inl (h2.wp hw hK)
  · simp only [h1, Bool.false_eq_true, if_false]
    exact hK _ hw

theorem wpList_stepS {rest : List Oper} {o : Oper} {v : Value} {a : Act} (h : StepS P ops S o v a) {w : World} (hw : S w) (hK : ∀ w', S w' → wpList P ops Q rest (a.put o.dst v) w') : wpList P ops Q (o :: rest) a w := by
  unfold wpList
  rcases h with ⟨h1, h2⟩ | ⟨h1, rfl⟩
  · rw [if_pos h1]
    exact .inl (h2.wp hw hK)
  · rw [if_neg (by rw [h1]; exact Bool.false_ne_true)]
    exact hK _ hw

/-- what the edges say: bit i of mask j is set: i comes ahead of j in every order -/
def addMask (ms : List Nat) (o : Oper) : Nat :=
  o.after.toList.foldl (fun m e => if Region.binds .any e then m ||| (1 <<< e.on) ||| ms.getD e.on 0 else m) 0
def masks : List Oper → List Nat → List Nat
  | [], ms => ms
  | o :: os, ms => masks os (ms ++ [addMask ms o])

/-- closed under what comes ahead -/
def Closed (ops : Array Oper) (L : Nat → Bool) : Prop := ∀ j o, ops[j]? = some o → L j = true → ∀ e ∈ o.after, Region.binds .any e = true → L e.on = true
def Good (ops : Array Oper) (ms : List Nat) : Prop := ∀ L, Closed ops L → ∀ j i, (ms.getD j 0).testBit i = true → L j = true → L i = true

theorem fold_bits (ms : List Nat) (i : Nat) : ∀ (es : List Edge) (m : Nat), (es.foldl (fun m e => if Region.binds .any e then m ||| (1 <<< e.on) ||| ms.getD e.on 0 else m) m).testBit i = true →
    m.testBit i = true ∨ ∃ e ∈ es, Region.binds .any e = true ∧ (i = e.on ∨ (ms.getD e.on 0).testBit i = true) := by
  intro es
  induction es with
  | nil => intro m h; exact .inl h
  | cons e es ih =>
    intro m h
    simp only [List.foldl_cons] at h
    rcases ih _ h with h1 | ⟨e', he', h2⟩
    · by_cases hb : Region.binds .any e = true
      · rw [if_pos hb] at h1
        simp only [Nat.testBit_or, Bool.or_eq_true] at h1
        rcases h1 with (h1 | h1) | h1
        · exact .inl h1
        · refine .inr ⟨e, List.mem_cons_self, hb, .inl ?_⟩
          rw [Nat.one_shiftLeft, Nat.testBit_two_pow] at h1
          exact (of_decide_eq_true h1).symm
        · exact .inr ⟨e, List.mem_cons_self, hb, .inr h1⟩
      · rw [if_neg hb] at h1; exact .inl h1
    · exact .inr ⟨e', List.mem_cons_of_mem _ he', h2⟩

theorem masks_good : ∀ (os pre : List Oper) (ms : List Nat), ops.toList = pre ++ os → ms.length = pre.length → Good ops ms → Good ops (masks os ms) := by
  intro os
  induction os with
  | nil => intro pre ms _ _ h; exact h
  | cons o os ih =>
    intro pre ms hp hl hg
    refine ih (pre ++ [o]) _ (by simp [hp]) (by simp [hl]) ?_
    intro L hL j i hb hj
    by_cases hlt : j < ms.length
    · rw [List.getD_eq_getElem?_getD, List.getElem?_append_left hlt, ← List.getD_eq_getElem?_getD] at hb
      exact hg L hL j i hb hj
    · by_cases he : j = ms.length
      · subst he
        rw [List.getD_eq_getElem?_getD, List.getElem?_append_right (Nat.le_refl _), Nat.sub_self] at hb
        simp only [List.getElem?_cons_zero, Option.getD_some] at hb
        have ho : ops[ms.length]? = some o := by
          rw [← Array.getElem?_toList, hp, List.getElem?_append_right (by omega), hl]; simp
        rcases fold_bits ms i _ _ hb with h1 | ⟨e, he, hbi, h2⟩
        · simp at h1
        · have h3 := hL _ _ ho hj e (by simpa using he) hbi
          rcases h2 with rfl | h2
          · exact h3
          · exact hg L hL _ i h2 h3
      · rw [List.getD_eq_getElem?_getD, List.getElem?_eq_none (by simp; omega)] at hb
        simp at hb

def dstOf (ops : Array Oper) (i : Nat) : Option Tmp := (ops[i]?).bind (·.dst)

/-- The check: every slot is written once; what an operation looks at was written by one that comes ahead in every order, or will be written by one that comes behind in every order; edges point back; from m on all waits for all. -/
def orderOk (ops : Array Oper) (m : Nat) : Bool :=
  let ms := masks ops.toList []
  let n := ops.size
  let ds := (List.range n).map fun i => (i, dstOf ops i)
  (ds.all fun (i, d) => match d with | none => true | some d => ds.all fun (j, e) => i == j || e != some d) &&
  ((List.range n).all fun j => match ops[j]? with
    | none => true
    | some o => (o.looksAt ops).all (fun t => ds.all fun (i, d) => d != some t || ((i < j && (ms.getD j 0).testBit i) || (j < i && (ms.getD i 0).testBit j))) &&
        o.after.toList.all (fun e => !Region.binds .any e || decide (e.on < j)) &&
        (decide (j < m) || decide ((ms.getD j 0) % 2 ^ j = 2 ^ j - 1))) &&
  Region.noSelect ops

/-- the frame when those of L have come up -/
def fr (ops : Array Oper) (vals : Nat → Value) (a : Act) (L : Nat → Bool) : Nat → Act
  | 0 => a
  | k + 1 => if L k then (fr ops vals a L k).put (dstOf ops k) (vals k) else fr ops vals a L k

theorem fr_congr {vals vals' : Nat → Value} {a : Act} {L L' : Nat → Bool} : ∀ n, (∀ k, k < n → L k = L' k) → (∀ k, k < n → L k = true → vals k = vals' k) → fr ops vals a L n = fr ops vals' a L' n := by
  intro n
  induction n with
  | zero => intros; rfl
  | succ n ih =>
    intro h1 h2
    simp only [fr]
    rw [ih (fun k hk => h1 k (by omega)) (fun k hk => h2 k (by omega)), h1 n (by omega)]
    by_cases hl : L' n = true
    · rw [if_pos hl, if_pos hl, h2 n (by omega) (by rw [h1 n (by omega)]; exact hl)]
    · rw [if_neg hl, if_neg hl]

def Once (ops : Array Oper) : Prop := ∀ i j d, dstOf ops i = some d → dstOf ops j = some d → i = j

theorem fr_defers {vals : Nat → Value} {a : Act} {L : Nat → Bool} (n : Nat) : (fr ops vals a L n).defers = a.defers ∧ (fr ops vals a L n).tmps.size = a.tmps.size := by
  induction n with
  | zero => exact ⟨rfl, rfl⟩
  | succ n ih =>
    simp only [fr]
    split
    · unfold Act.put
      cases dstOf ops n with
      | none => exact ih
      | some d => exact ⟨ih.1, by simpa using ih.2⟩
    · exact ih

theorem fr_at {vals : Nat → Value} {a : Act} {L : Nat → Bool} (ho : Once ops) {d : Tmp} : ∀ n, 
    (∀ i, i < n → L i = true → dstOf ops i = some d → (fr ops vals a L n).tmps[d]? = if d < a.tmps.size then some (vals i) else none) ∧
    ((∀ i, i < n → L i = true → dstOf ops i ≠ some d) → (fr ops vals a L n).tmps[d]? = a.tmps[d]?) := by
  intro n
  induction n with
  | zero => exact ⟨fun i hi => by omega, fun _ => rfl⟩
  | succ n ih =>
    refine ⟨fun i hi hl hd => ?_, fun h => ?_⟩
    · simp only [fr]
      by_cases hin : i = n
      · subst hin
        rw [if_pos hl, hd]
        simp only [Act.put]
        rw [Array.getElem?_setIfInBounds_self, fr_defers i |>.2]
      · have h1 := ih.1 i (by omega) hl hd
        split
        · have hne : ∀ e, dstOf ops n = some e → e ≠ d := fun e he hed => hin (ho i n d hd (hed ▸ he))
          unfold Act.put
          cases hn : dstOf ops n with
          | none => exact h1
          | some e => simp only []; rw [Array.getElem?_setIfInBounds_ne (hne e hn)]; exact h1
        · exact h1
    · have h1 := ih.2 (fun i hi => h i (by omega))
      simp only [fr]
      split
      · rename_i hl
        unfold Act.put
        cases hn : dstOf ops n with
        | none => exact h1
        | some e =>
          have : e ≠ d := fun he => h n (by omega) hl (he ▸ hn)
          simp only []; rw [Array.getElem?_setIfInBounds_ne this]; exact h1
      · exact h1

theorem fr_put {vals : Nat → Value} {a : Act} {L L' : Nat → Bool} (ho : Once ops) {j : Nat} (hj : L j = false) (hL : ∀ k, L' k = if k = j then true else L k) : ∀ n, j < n → fr ops vals a L' n = (fr ops vals a L n).put (dstOf ops j) (vals j) := by
  intro n
  induction n with
  | zero => intro h; omega
  | succ n ih =>
    intro hn
    simp only [fr]
    by_cases e : n = j
    · subst e
      rw [hL n, if_pos rfl, if_pos rfl, hj]
      rw [if_neg (by exact Bool.false_ne_true)]
      rw [fr_congr (L := L') (L' := L) (vals := vals) (vals' := vals) n (fun k hk => by rw [hL, if_neg (by omega)]) (fun _ _ _ => rfl)]
    · rw [ih (by omega), hL n, if_neg e]
      by_cases hl : L n = true
      · rw [if_pos hl, if_pos hl]
        refine Act.put_comm _ _ _ (fun d hd hd' => e (ho n j d hd' hd))
      · rw [if_neg hl, if_neg hl]

structure Ok (ops : Array Oper) (m : Nat) : Prop where
  once : Once ops
  looks : ∀ j o, ops[j]? = some o → ∀ t ∈ o.looksAt ops, ∀ i, dstOf ops i = some t → (i < j ∧ ∀ L, Closed ops L → L j = true → L i = true) ∨ (j < i ∧ ∀ L, Closed ops L → L i = true → L j = true)
  back : ∀ j o, ops[j]? = some o → ∀ e ∈ o.after, Region.binds .any e = true → e.on < j
  tail : ∀ j o, ops[j]? = some o → m ≤ j → ∀ i, i < j → ∀ L, Closed ops L → L j = true → L i = true
  nosel : Region.noSelect ops = true

theorem testBit_of_mod (x j i : Nat) (h : x % 2 ^ j = 2 ^ j - 1) (hi : i < j) : x.testBit i = true := by
  have h1 : (x % 2 ^ j).testBit i = true := by rw [h, Nat.testBit_two_pow_sub_one]; simpa using hi
  rw [Nat.testBit_mod_two_pow] at h1
  simp at h1
  exact h1.2

theorem ok_of {m : Nat} (h : orderOk ops m = true) : Ok ops m := by
  unfold orderOk at h
  simp only [Bool.and_eq_true, List.all_eq_true, List.mem_map, List.mem_range, forall_exists_index, and_imp] at h
  obtain ⟨⟨h1, h2⟩, h3⟩ := h
  have hdn : ∀ i d, dstOf ops i = some d → i < ops.size := by
    intro i d hd
    rcases Nat.lt_or_ge i ops.size with h | h
    · exact h
    · unfold dstOf at hd; rw [Array.getElem?_eq_none h] at hd; cases hd
  have hg : Good ops (masks ops.toList []) := masks_good ops.toList [] [] (by simp) rfl (fun L _ j i hb _ => by simp at hb)
  refine ⟨?_, ?_, ?_, ?_, h3⟩
  · intro i j d hi hj
    have := h1 (i, dstOf ops i) i (hdn i d hi) rfl
    simp only [hi, List.all_eq_true, List.mem_map, List.mem_range, forall_exists_index, and_imp] at this
    have h4 := this (j, dstOf ops j) j (hdn j d hj) rfl
    simp only [hj, Bool.or_eq_true, beq_iff_eq] at h4
    rcases h4 with h4 | h4
    · exact h4
    · simp at h4
  · intro j o ho t ht i hi
    have hj : j < ops.size := (Array.getElem?_eq_some_iff.1 ho).1
    have := h2 j hj
    simp only [ho, Bool.and_eq_true, List.all_eq_true, List.mem_map, List.mem_range, forall_exists_index, and_imp] at this
    have h4 := this.1.1 t ht (i, dstOf ops i) i (hdn i t hi) rfl
    simp only [hi, Bool.or_eq_true, Bool.and_eq_true, decide_eq_true_eq] at h4
    rcases h4 with h4 | h4 | h4
    · simp at h4
    · exact .inl ⟨h4.1, fun L hL hLj => hg L hL j i h4.2 hLj⟩
    · exact .inr ⟨h4.1, fun L hL hLi => hg L hL i j h4.2 hLi⟩
  · intro j o ho e he hb
    have hj : j < ops.size := (Array.getElem?_eq_some_iff.1 ho).1
    have := h2 j hj
    simp only [ho, Bool.and_eq_true, List.all_eq_true] at this
    have h4 := this.1.2 e (by simpa using he)
    simp only [hb, Bool.not_true, Bool.false_or, decide_eq_true_eq] at h4
    exact h4
  · intro j o ho hm i hi L hL hLj
    have hj : j < ops.size := (Array.getElem?_eq_some_iff.1 ho).1
    have := h2 j hj
    simp only [ho, Bool.and_eq_true, Bool.or_eq_true, decide_eq_true_eq] at this
    rcases this.2 with h4 | h4
    · omega
    · exact hg L hL j i (testBit_of_mod _ _ _ h4 hi) hLj

/-- an operation sees, in whatever order, what it sees in the order of the text -/
theorem sees {m : Nat} (hok : Ok ops m) {vals : Nat → Value} {a : Act} {L : Nat → Bool} (hL : Closed ops L) {j : Nat} {o : Oper} (ho : ops[j]? = some o) (hj : L j = false)
    (hr : ∀ e ∈ o.after, Region.binds .any e = true → L e.on = true) {t : Tmp} (ht : t ∈ o.looksAt ops) :
    (fr ops vals a L ops.size).tmps[t]? = (fr ops vals a (fun k => decide (k < j)) ops.size).tmps[t]? := by
  have hdn : ∀ i d, dstOf ops i = some d → i < ops.size := by
    intro i d hd
    rcases Nat.lt_or_ge i ops.size with h | h
    · exact h
    · unfold dstOf at hd; rw [Array.getElem?_eq_none h] at hd; cases hd
  have hL' : Closed ops (fun k => if k = j then true else L k) := by
    intro k p hk hkl e he hb
    have hk' : L k = true ∨ k = j := by
      by_cases e : k = j
      · exact .inr e
      · simp only [if_neg e] at hkl; exact .inl hkl
    have : L e.on = true := by
      rcases hk' with h | h
      · exact hL k p hk h e he hb
      · subst h; rw [ho] at hk; cases hk; exact hr e he hb
    simp only []
    split
    · rfl
    · exact this
  by_cases hex : ∃ i, dstOf ops i = some t
  · obtain ⟨i, hi⟩ := hex
    rcases hok.looks j o ho t ht i hi with ⟨h1, h2⟩ | ⟨h1, h2⟩
    · have hLi : L i = true := by
        have := h2 _ hL' (by simp)
        simp only [if_neg (show ¬ i = j by omega)] at this
        exact this
      rw [(fr_at hok.once ops.size).1 i (hdn i t hi) hLi hi, (fr_at hok.once ops.size).1 i (hdn i t hi) (by simpa using h1) hi]
    · have hLi : L i = false := by
        cases hc : L i with
        | false => rfl
        | true => rw [h2 L hL hc] at hj; cases hj
      have hn : ∀ (L' : Nat → Bool), L' i = false → ∀ k, k < ops.size → L' k = true → dstOf ops k ≠ some t := by
        intro L' hl k _ hk hd
        have := hok.once k i t hd hi
        subst this
        rw [hl] at hk; cases hk
      rw [(fr_at hok.once ops.size).2 (hn L hLi), (fr_at hok.once ops.size).2 (hn _ (by simp; omega))]
  · have hn : ∀ (L' : Nat → Bool), ∀ k, k < ops.size → L' k = true → dstOf ops k ≠ some t := fun L' k _ _ hd => hex ⟨k, hd⟩
    rw [(fr_at hok.once ops.size).2 (hn L), (fr_at hok.once ops.size).2 (hn _)]

theorem StepS.of_looks (hns : Region.noSelect ops = true) {j : Nat} {o : Oper} (ho : ops[j]? = some o) {v : Value} {a a' : Act} (h : StepS P ops S o v a) (hs : ∀ t ∈ o.looksAt ops, a'.tmps[t]? = a.tmps[t]?) : StepS P ops S o v a' := by
  have he : execOp a'.eval o = execOp a.eval o := by
    refine execOp_congr o (fun cs b => Region.noSelect_spec hns j o cs b ho) fun x hx => ?_
    cases x with
    | tmp t =>
      have : t ∈ o.looksAt ops := List.mem_append_left _ (List.mem_filterMap.2 ⟨.tmp t, by simpa using hx, rfl⟩)
      have h2 := hs t this
      simp only [Act.eval, Array.getD_eq_getD_getElem?, h2]
    | _ => rfl
  have hw : Region.wanted o (yielded ops a'.tmps) = Region.wanted o (yielded ops a.tmps) := by
    unfold Region.wanted
    cases hg : o.guard with
    | none => rfl
    | some gw =>
      obtain ⟨g, want⟩ := gw
      simp only []
      have : yielded ops a'.tmps g = yielded ops a.tmps g := by
        unfold yielded
        cases hd : (ops[g]?).bind (·.dst) with
        | none => rfl
        | some t =>
          have : t ∈ o.looksAt ops := List.mem_append_right _ (by simp [hg, hd])
          simp only [Option.bind_some, hs t this]
      rw [this]
  unfold StepS at *
  rw [he, hw]
  exact h

/-- the walk in the order of the text -/
def seqS (P : Program) (ops : Array Oper) (S : World → Prop) (m : Nat) (F : List Oper → Act → Prop) : Nat → List Oper → Act → Prop
  | _, [], a => F [] a
  | i, o :: rest, a => if i < m then ∃ v, StepS P ops S o v a ∧ seqS P ops S m F (i + 1) rest (a.put o.dst v) else F (o :: rest) a

theorem fr_lt {vals : Nat → Value} {a : Act} (j n : Nat) (h : j ≤ n) : fr ops vals a (fun k => decide (k < j)) n = fr ops vals a (fun _ => true) j := by
  induction n with
  | zero => obtain rfl : j = 0 := by omega
            rfl
  | succ n ih =>
    by_cases e : j = n + 1
    · subst e
      refine fr_congr _ (fun k hk => by simpa using hk) (fun _ _ _ => rfl)
    · simp only [fr]
      rw [ih (by omega), if_neg (by simp; omega)]

theorem seqS_vals {m : Nat} {F : List Oper → Act → Prop} {a : Act} : ∀ (rest : List Oper) (i : Nat) (vals : Nat → Value), ops.toList.drop i = rest → i ≤ ops.size → i ≤ m →
    seqS P ops S m F i rest (fr ops vals a (fun _ => true) i) →
    ∃ vals' : Nat → Value, (∀ k, k < i → vals' k = vals k) ∧ (∀ k o, i ≤ k → k < m → ops[k]? = some o → StepS P ops S o (vals' k) (fr ops vals' a (fun _ => true) k)) ∧
      F (ops.toList.drop (min m ops.size)) (fr ops vals' a (fun _ => true) (min m ops.size)) := by
  intro rest
  induction rest with
  | nil =>
    intro i vals hd hi him h
    have hn : i = ops.size := by
      have := congrArg List.length hd
      simp at this
      omega
    refine ⟨vals, fun _ _ => rfl, fun k o hk _ ho => ?_, ?_⟩
    · have := (Array.getElem?_eq_some_iff.1 ho).1; omega
    · rw [show min m ops.size = i by omega, hd]
      exact h
  | cons o rest ih =>
    intro i vals hd hi him h
    have hlt : i < ops.size := by
      have := congrArg List.length hd
      simp at this
      omega
    have ho : ops[i]? = some o := by
      have : (ops.toList.drop i)[0]? = some o := by rw [hd]; rfl
      rw [List.getElem?_drop] at this
      simpa using this
    unfold seqS at h
    by_cases hm : i < m
    · rw [if_pos hm] at h
      obtain ⟨v, hstep, hrest⟩ := h
      have hd' : ops.toList.drop (i + 1) = rest := by
        rw [← List.drop_drop, hd]; rfl
      let vals1 : Nat → Value := fun k => if k = i then v else vals k
      have hfr : fr ops vals1 a (fun _ => true) i = fr ops vals a (fun _ => true) i := fr_congr _ (fun _ _ => rfl) (fun k hk _ => if_neg (by omega))
      have hfr1 : fr ops vals1 a (fun _ => true) (i + 1) = (fr ops vals a (fun _ => true) i).put o.dst v := by
        simp only [fr, if_true]
        rw [hfr]
        simp [dstOf, ho, vals1]
      obtain ⟨vals', h1, h2, h3⟩ := ih (i + 1) vals1 hd' (by omega) (by omega) (by rw [hfr1]; exact hrest)
      have hfr' : fr ops vals' a (fun _ => true) i = fr ops vals a (fun _ => true) i := fr_congr _ (fun _ _ => rfl) (fun k hk _ => by rw [h1 k (by omega)]; exact if_neg (by omega))
      refine ⟨vals', fun k hk => by rw [h1 k (by omega)]; exact if_neg (by omega), fun k o' hk hkm hok => ?_, h3⟩
      by_cases e : k = i
      · subst e
        rw [ho] at hok; cases hok
        rw [hfr', h1 k (by omega)]
        simpa [vals1] using hstep
      · exact h2 k o' (by omega) hkm hok
    · rw [if_neg hm] at h
      refine ⟨vals, fun _ _ => rfl, fun k o' hk hkm _ => by omega, ?_⟩
      rw [show min m ops.size = i by omega, hd]
      exact h

theorem count_lt {p q : Nat → Bool} : ∀ (l : List Nat), (∀ x ∈ l, q x = true → p x = true) → (∃ x ∈ l, p x = true ∧ q x = false) → (l.filter q).length < (l.filter p).length := by
  intro l
  induction l with
  | nil => intro _ ⟨x, hx, _⟩; cases hx
  | cons y l ih =>
    intro h1 ⟨x, hx, hp, hq⟩
    have hle : (l.filter q).length ≤ (l.filter p).length := by
      clear ih hx
      induction l with
      | nil => simp
      | cons z l ih =>
        have h2 := ih (fun x hx => h1 x (by simp at hx ⊢; rcases hx with h | h <;> simp [h]))
        have h3 := h1 z (by simp)
        simp only [List.filter_cons]
        cases hqz : q z with
        | true => rw [h3 hqz]; simp; exact h2
        | false => simp; split <;> (try simp) <;> omega
    rcases List.mem_cons.1 hx with rfl | hx
    · simp only [List.filter_cons, hp, hq]
      simp; omega
    · have h2 := ih (fun x hx => h1 x (List.mem_cons_of_mem _ hx)) ⟨x, hx, hp, hq⟩
      have h3 := h1 y (List.mem_cons_self)
      simp only [List.filter_cons]
      cases hqy : q y with
      | true => rw [h3 hqy]; simp; exact h2
      | false => simp; split <;> (try simp) <;> omega

def left (listed : Array Bool) (n : Nat) : Nat := ((List.range n).filter fun i => !listed.getD i true).length

theorem left_set {listed : Array Bool} {n j : Nat} (hj : j < n) (hn : listed.size = n) (h : listed.getD j true = false) : left (listed.setIfInBounds j true) n < left listed n := by
  refine count_lt _ (fun x _ hx => ?_) ⟨j, List.mem_range.2 hj, by rw [h]; rfl, ?_⟩
  · by_cases e : x = j
    · subst e
      simp [Array.getElem?_setIfInBounds_self, hn, hj] at hx
    · simpa [Array.getElem?_setIfInBounds_ne (Ne.symm e)] using hx
  · simp [Array.getElem?_setIfInBounds_self, hn, hj]

theorem getD_bools {listed : Array Bool} {n k : Nat} (hn : listed.size = n) (hk : k < n) : listed.getD k true = listed.getD k false := by
  simp [hn, hk]

theorem left_zero {listed : Array Bool} {n : Nat} (hn : listed.size = n) (h : left listed n = 0) {k : Nat} (hk : k < n) : listed.getD k false = true := by
  cases hc : listed.getD k false with
  | true => rfl
  | false =>
    have : 0 < left listed n := by
      unfold left
      refine List.length_pos_of_mem (a := k) (List.mem_filter.2 ⟨List.mem_range.2 hk, by rw [getD_bools hn hk, hc]; rfl⟩)
    omega

theorem getD_set_self {listed : Array Bool} {n k : Nat} (hn : listed.size = n) (hk : k < n) : (listed.setIfInBounds k true).getD k false = true := by
  simp [hn, hk]

theorem least (p : Nat → Bool) : ∀ n k, k < n → p k = false → ∃ i, i ≤ k ∧ p i = false ∧ ∀ j, j < i → p j = true := by
  intro n
  induction n with
  | zero => intro k hk; omega
  | succ n ih =>
    intro k hk hp
    by_cases h : ∃ j, j < k ∧ p j = false
    · obtain ⟨j, hj, hpj⟩ := h
      obtain ⟨i, h1, h2, h3⟩ := ih j (by omega) hpj
      exact ⟨i, by omega, h2, h3⟩
    · refine ⟨k, Nat.le_refl _, hp, fun j hj => ?_⟩
      cases hc : p j with
      | true => rfl
      | false => exact (h ⟨j, hj, hc⟩).elim

theorem ready_least {m : Nat} (hok : Ok ops m) {listed : Array Bool} (hn : listed.size = ops.size) {k : Nat} (hk : k < ops.size) (hl : listed.getD k false = false) : Region.ready .any ops listed ≠ [] := by
  obtain ⟨i, h1, h2, h3⟩ := least (fun k => listed.getD k false) (k + 1) k (by omega) hl
  have hi : i < ops.size := by omega
  have : i ∈ Region.ready .any ops listed := mem_ready.2 ⟨by rw [getD_bools hn hi]; exact h2, ops[i], by simp [hi], fun e he hb => h3 _ (hok.back i ops[i] (by simp [hi]) e he hb)⟩
  intro h
  rw [h] at this
  cases this

theorem closed_ready {listed : Array Bool} {i : Nat} {o : Oper} (ho : ops[i]? = some o) (hc : Closed ops (fun k => listed.getD k false)) (h2 : ∀ e ∈ o.after, Region.binds .any e = true → listed.getD e.on false = true) :
    Closed ops (fun k => if k = i then true else listed.getD k false) := by
  intro k p hk hkl e he hb
  simp only []
  split
  · rfl
  · by_cases e' : k = i
    · subst e'; rw [ho] at hk; cases hk; exact h2 e he hb
    · simp only [if_neg e'] at hkl
      exact hc k p hk hkl e he hb

/-- the tail, in its one order -/
theorem any_tail {m : Nat} (hok : Ok ops m) : ∀ (fuel : Nat) (j : Nat) (listed : Array Bool) (a' : Act) (w : World), listed.size = ops.size → m ≤ j → j ≤ ops.size → left listed ops.size ≤ fuel →
    Closed ops (fun k => listed.getD k false) → (∀ k, k < ops.size → listed.getD k false = decide (k < j)) → wpList P ops Q (ops.toList.drop j) a' w → wpAny P .any ops Q fuel listed a' w := by
  intro fuel
  induction fuel with
  | zero =>
    intro j listed a' w hn hm hj hf hc hl h
    have hj2 : j = ops.size := by
      rcases Nat.lt_or_ge j ops.size with h1 | h1
      · have := left_zero hn (by omega) h1
        rw [hl j h1] at this
        simp at this
      · omega
    subst hj2
    refine ⟨?_, ?_⟩
    · unfold Region.ready
      rw [List.filter_eq_nil_iff]
      intro i hi
      have hi' := List.mem_range.1 hi
      have := hl i hi'
      rw [decide_eq_true hi'] at this
      rw [getD_bools hn hi', this]
      simp
    · rw [List.drop_of_length_le (by simp)] at h
      exact h
  | succ fuel ih =>
    intro j listed a' w hn hm hj hf hc hl h
    refine ⟨fun hr => ?_, fun i hi => ?_⟩
    · by_cases e : j = ops.size
      · subst e
        rw [List.drop_of_length_le (by simp)] at h
        exact h
      · exact (ready_least hok hn (k := j) (by omega) (by rw [hl j (by omega)]; simp) hr).elim
    · obtain ⟨h1, o, ho, h2⟩ := mem_ready.1 hi
      have hin : i < ops.size := (Array.getElem?_eq_some_iff.1 ho).1
      have hij : j ≤ i := by
        rw [getD_bools hn hin, hl i hin] at h1
        simpa using h1
      have hij' : i = j := by
        rcases Nat.lt_or_ge j i with hlt | hge
        · have := hok.tail i o ho (by omega) j hlt _ (closed_ready ho hc h2) (by simp)
          simp only [if_neg (show ¬ j = i by omega)] at this
          rw [hl j (by omega)] at this
          simp at this
        · omega
      subst hij'
      have hd : ops.toList.drop i = o :: ops.toList.drop (i + 1) := by
        rw [List.drop_eq_getElem_cons (by simpa using hin)]
        have := (Array.getElem?_eq_some_iff.1 ho).2
        simp [this]
      rw [hd] at h
      have hnext : ∀ a' w', wpList P ops Q (ops.toList.drop (i + 1)) a' w' → wpAny P .any ops Q fuel (listed.setIfInBounds i true) a' w' := by
        intro a' w' h'
        have hlt := left_set hin hn (by rw [getD_bools hn hin, hl i hin]; simp)
        have hgs : ∀ k, (listed.setIfInBounds i true).getD k false = if k = i then true else listed.getD k false := by
          intro k
          by_cases e : k = i
          · subst e; rw [if_pos rfl]; exact getD_set_self hn hin
          · rw [if_neg e]; exact getD_set_ne false (Ne.symm e)
        refine ih (i + 1) _ a' w' (by simpa using hn) (by omega) (by omega) (by omega) ?_ (fun k hk => ?_) h'
        · have := closed_ready ho hc h2
          intro k p hk hkl
          intro e he hb
          simp only [hgs] at hkl ⊢
          exact this k p hk hkl e he hb
        · rw [hgs]
          by_cases e : k = i
          · subst e; simp
          · rw [if_neg e, hl k hk]; simp; omega
      unfold wpList at h
      unfold wpOp
      simp only [ho]
      split at h
      · rename_i hw
        rw [if_pos hw]
        exact h.imp (Oper.wp_mono hnext) id
      · rename_i hw
        rw [if_neg hw]
        exact hnext _ _ h

theorem any_order {m : Nat} (hok : Ok ops m) (hm : m ≤ ops.size) {a : Act} {vals : Nat → Value} (hsteps : ∀ k o, k < m → ops[k]? = some o → StepS P ops S o (vals k) (fr ops vals a (fun _ => true) k))
    (hend : ∀ w, S w → wpList P ops Q (ops.toList.drop m) (fr ops vals a (fun _ => true) m) w) :
    ∀ (fuel : Nat) (listed : Array Bool) (w : World), listed.size = ops.size → Closed ops (fun k => listed.getD k false) → left listed ops.size ≤ fuel → S w → (∀ k, m ≤ k → listed.getD k false = false) →
      wpAny P .any ops Q fuel listed (fr ops vals a (fun k => listed.getD k false) ops.size) w := by
  have fin : ∀ (fuel : Nat) (listed : Array Bool) (w : World), listed.size = ops.size → Closed ops (fun k => listed.getD k false) → left listed ops.size ≤ fuel → S w → (∀ k, m ≤ k → listed.getD k false = false) →
      (∀ k, k < m → listed.getD k false = true) → wpAny P .any ops Q fuel listed (fr ops vals a (fun k => listed.getD k false) ops.size) w := by
    intro fuel listed w hn hc hleft hw htail hall
    have hl : ∀ k, k < ops.size → listed.getD k false = decide (k < m) := by
      intro k _
      by_cases e : k < m
      · rw [hall k e]; simpa using e
      · rw [htail k (by omega)]; simpa using e
    refine any_tail hok fuel m listed _ w hn (Nat.le_refl _) hm hleft hc hl ?_
    rw [fr_congr (vals' := vals) ops.size (L' := fun k => decide (k < m)) hl (fun _ _ _ => rfl), fr_lt m _ hm]
    exact hend w hw
  intro fuel
  induction fuel with
  | zero =>
    intro listed w hn hc hleft hw htail
    exact fin 0 listed w hn hc hleft hw htail (fun k hk => left_zero hn (by omega) (by omega))
  | succ fuel ih =>
    intro listed w hn hc hleft hw htail
    by_cases hdone : ∀ k, k < m → listed.getD k false = true
    · exact fin _ listed w hn hc hleft hw htail hdone
    · have ⟨k, hk, hkl⟩ : ∃ k, k < m ∧ listed.getD k false = false := by
        refine Classical.byContradiction fun h => hdone fun k hk => ?_
        cases hc : listed.getD k false with
        | true => rfl
        | false => exact (h ⟨k, hk, hc⟩).elim
      refine ⟨fun hr => (ready_least hok hn (k := k) (by omega) hkl hr).elim, fun i hi => ?_⟩
      obtain ⟨h1, o, ho, h2⟩ := mem_ready.1 hi
      have hin : i < ops.size := (Array.getElem?_eq_some_iff.1 ho).1
      have hC := closed_ready ho hc h2
      have him : i < m := by
        rcases Nat.lt_or_ge i m with h | h
        · exact h
        · have := hok.tail i o ho h k (by omega) _ hC (by simp)
          simp only [if_neg (show ¬ k = i by omega)] at this
          rw [hkl] at this; cases this
      have hil : listed.getD i false = false := by rw [← getD_bools hn hin]; exact h1
      have hst : StepS P ops S o (vals i) (fr ops vals a (fun k => listed.getD k false) ops.size) := by
        refine (hsteps i o him ho).of_looks hok.nosel ho fun t ht => ?_
        rw [sees hok hc ho hil h2 ht, fr_lt i _ (by omega)]
      have hgs : ∀ k, (listed.setIfInBounds i true).getD k false = if k = i then true else listed.getD k false := by
        intro k
        by_cases e : k = i
        · subst e; rw [if_pos rfl]; exact getD_set_self hn hin
        · rw [if_neg e]; exact getD_set_ne false (Ne.symm e)
      refine hst.wpOp ho hw fun w' hw' => ?_
      have hlt := left_set hin hn h1
      have := ih (listed.setIfInBounds i true) w' (by simpa using hn) (by
        intro k p hk hkl
        intro e he hb
        simp only [hgs] at hkl ⊢
        exact hC k p hk hkl e he hb) (by omega) hw' (fun k hk => by rw [hgs, if_neg (by omega)]; exact htail k hk)
      rw [fr_put hok.once hil hgs _ hin] at this
      rw [show o.dst = dstOf ops i by simp [dstOf, ho]]
      exact this

/-- THE LAW: a region that draws its order, walked in the order of the text; from operation m on only one order is left. -/
theorem wp_region_seqAt {id : Nat} {a : Act} {w : World} (m : Nat) (hm : m ≤ ops.size) (hmix : P.follows .mixedOrders = true) (hok : orderOk ops m = true) (S : World → Prop) (hS : S w.drew)
    (h : seqS P ops S m (fun rest a' => ∀ w', S w' → wpList P ops Q rest a' w') 0 ops.toList a) : (Code.region id ops true).wp P Q a w := by
  refine wp_region_any hmix ?_
  obtain ⟨vals, _, h2, h3⟩ := seqS_vals (P := P) (S := S) (a := a) ops.toList 0 (fun _ => undef) rfl (Nat.zero_le _) (Nat.zero_le _) h
  rw [Nat.min_eq_left hm] at h3
  have hz : ∀ k, (Array.replicate ops.size false).getD k false = false := by
    intro k
    by_cases hk : k < ops.size <;> simp [hk]
  have := any_order (Q := Q) (ok_of hok) hm (fun k o hk ho => h2 k o (Nat.zero_le _) hk ho) h3 ops.size (Array.replicate ops.size false) _ (by simp) (fun j o _ hj => by simp only [hz j] at hj; cases hj)
    (Nat.le_trans (List.length_filter_le _ _) (by simp)) hS (fun k _ => hz k)
  rw [fr_congr (vals' := vals) ops.size (L' := fun _ => false) (fun k _ => hz k) (fun _ _ _ => rfl)] at this
  have hf : ∀ n, fr ops vals a (fun _ => false) n = a := by
    intro n
    induction n with
    | zero => rfl
    | succ n ih => simp only [fr]; rw [if_neg (by exact Bool.false_ne_true), ih]
  rw [hf] at this
  exact this

theorem wp_region_seq {l : List Oper} {id : Nat} {a : Act} {w : World} (m : Nat) (S : World → Prop) (hm : m ≤ l.toArray.size) (hmix : P.follows .mixedOrders = true) (hok : orderOk l.toArray m = true) (hS : S w.drew)
    (h : seqS P l.toArray S m (fun rest a' => ∀ w', S w' → wpList P l.toArray Q rest a' w') 0 l a) : (Code.region id l.toArray true).wp P Q a w :=
  wp_region_seqAt m hm hmix hok S hS (by simpa using h)

theorem below_drew {B : Nat} {a w : World} (h : Below B a w) : Below B a w.drew := ⟨h.os, h.tape, h.output, h.size, h.block⟩

/-! What operations yield -/
theorem run_load_row {P : Program} {w : World} {o : Oper} {a : Act} (ty : TypeId) (x : Operand) (ho : o.op = .load ty x) (g : Nat) (hx : a.eval x = .pointer (some ⟨g, 0, none⟩)) (t : TypeId) (cs : Array Value) (fr : Nat × Nat) (d : TypeDesc)
    (hg : w.heap[g]? = some (.cells cs t fr)) (hu : P.underlying ty = some d) (hd : (match d with | .struct _ | .array _ _ => true | _ => false) = true) (hi : (P.info? ty).map (·.size) = some cs.size) :
    (execOp a.eval o).run P w = .ok (.value (.agg cs)) w := by
  unfold execOp
  simp [ho, hx, Instr.loadAt, Instr.sureAddr, asAddr, run_loadVar_row w g t ty cs fr d hg hu hd hi]
theorem run_load_cell {P : Program} {w : World} {o : Oper} {a : Act} (ty : TypeId) (x : Operand) (ho : o.op = .load ty x) (p : Addr) (hx : a.eval x = .pointer (some p)) (v : Value)
    (hc : w.cell? p = some v) (hty : (isAgg ty).run P w = .ok false w) : (execOp a.eval o).run P w = .ok (.value v) w := by
  unfold execOp
  simp [ho, hx, Instr.loadAt, Instr.sureAddr, loadVar, hty, asAddr, hc]
theorem run_value_bin {P : Program} {w : World} {o : Oper} {a : Act} (op : BinOp) (t t' : TypeId) (x y : Operand) (ho : o.op = .binOp op t x y t') (u v r : Value) (hx : a.eval x = u) (hy : a.eval y = v)
    (hg : (eqGuard op t x y u v).run P w = .ok () w) (h : (binOp op t u v).run P w = .ok r w) : (execOp a.eval o).run P w = .ok (.value r) w := by
  unfold execOp
  simp [ho, hx, hy, hg, h]
theorem run_callFunc {P : Program} {w : World} {f : FuncId} {fn : Func} (hf : P.funcs[f]? = some fn) (hn : (fn.name == "runtime.NumGoroutine") = false) (hb : fn.body.isNone = false) (vs : Array Value) : (callFunc f vs).run P w = .ok (.enter f vs) w := by
  have h1 : ¬ fn.name = "runtime.NumGoroutine" := by simpa using hn
  have h2 : ¬ fn.body = none := by intro h; rw [h] at hb; cases hb
  simp [callFunc, hf, h1, h2, Sem.run]
theorem run_value_call {P : Program} {w : World} {o : Oper} {a : Act} (f : FuncId) (args : Array Operand) (tys : Array TypeId) (ho : o.op = .call { callee := .value (.func f), args := args, argTypes := tys }) {fn : Func} (hf : P.funcs[f]? = some fn) (hn : (fn.name == "runtime.NumGoroutine") = false) (hb : fn.body.isNone = false)
    (vs : Array Value) (hv : args.map a.eval = vs) : (execOp a.eval o).run P w = .ok (.enter f vs) w := by
  subst hv
  unfold execOp
  simp [ho, resolve, invoke, Act.eval, Deferred.ofValue, run_callFunc hf hn hb]

theorem done1 {P : Program} {fn : Func} {R : Ending → World → Prop} {a : Act} {w : World} (t : Tmp) (v : Value) (hr : fn.results = #[.tmp t]) (hv : a.tmps.getD t undef = v) (hd : a.defers = []) (hR : R (.returned v) w) : bodyPost P fn R .ret a w :=
  bodyPost_ret (v := v) (by subst hv; exact results_tmp hr _ _ _) hd hR

theorem seqS_mono {F F' : List Oper → Act → Prop} (hF : ∀ r a, F r a → F' r a) {m : Nat} : ∀ (rest : List Oper) (i : Nat) (a : Act), seqS P ops S m F i rest a → seqS P ops S m F' i rest a := by
  intro rest
  induction rest with
  | nil => intro i a h; exact hF _ _ h
  | cons o rest ih =>
    intro i a h
    unfold seqS at h ⊢
    split at h
    · rename_i hi
      rw [if_pos hi]
      obtain ⟨v, h1, h2⟩ := h
      exact ⟨v, h1, ih _ _ h2⟩
    · rename_i hi
      rw [if_neg hi]
      exact hF _ _ h

/-- closed to unfolding -/
structure SQ (P : Program) (ops : Array Oper) (S : World → Prop) (m : Nat) (F : List Oper → Act → Prop) (i : Nat) (l : List Oper) (a : Act) : Prop where
  h : seqS P ops S m F i l a
theorem wp_region_seqQ {l : List Oper} {id : Nat} {a : Act} {w : World} (m : Nat) (S : World → Prop) (hm : m ≤ l.toArray.size) (hmix : P.follows .mixedOrders = true) (hok : orderOk l.toArray m = true) (hS : S w.drew)
    (h : SQ P l.toArray S m (fun rest a' => ∀ w', S w' → wpList P l.toArray Q rest a' w') 0 l a) : (Code.region id l.toArray true).wp P Q a w := wp_region_seq m S hm hmix hok hS h.h
/-! The moves -/
theorem seq_run {F : List Oper → Act → Prop} {m i : Nat} {o : Oper} {rest : List Oper} {a : Act} {v : Value} (hi : i < m) (hw : Region.wanted o (yielded ops a.tmps) = true) (hr : ∀ w, S w → (execOp a.eval o).run P w = .ok (.value v) w)
    (h : SQ P ops S m F (i + 1) rest (a.put o.dst v)) : SQ P ops S m F i (o :: rest) a := by
  refine ⟨?_⟩
  unfold seqS
  rw [if_pos hi]
  exact ⟨v, .inl ⟨hw, fun w hS => by rw [hr w hS]; exact ⟨rfl, hS⟩⟩, h.h⟩
theorem seq_skip {F : List Oper → Act → Prop} {m i : Nat} {o : Oper} {rest : List Oper} {a : Act} (hi : i < m) (hw : Region.wanted o (yielded ops a.tmps) = false)
    (h : SQ P ops S m F (i + 1) rest (a.put o.dst undef)) : SQ P ops S m F i (o :: rest) a := by
  refine ⟨?_⟩
  unfold seqS
  rw [if_pos hi]
  exact ⟨undef, .inr ⟨hw, rfl⟩, h.h⟩
theorem seq_call {F : List Oper → Act → Prop} {m i : Nat} {o : Oper} {rest : List Oper} {a : Act} {v : Value} {f : FuncId} {args : Array Value} (hi : i < m) (hw : Region.wanted o (yielded ops a.tmps) = true)
    (hr : ∀ w, S w → (execOp a.eval o).run P w = .ok (.enter f args) w) (hc : ∀ w, S w → Calls P f args w fun e w' => e = .returned v ∧ S w')
    (h : SQ P ops S m F (i + 1) rest (a.put o.dst v)) : SQ P ops S m F i (o :: rest) a := by
  refine ⟨?_⟩
  unfold seqS
  rw [if_pos hi]
  exact ⟨v, .inl ⟨hw, fun w hS => by rw [hr w hS]; exact hc w hS⟩, h.h⟩
theorem seq_end {F : List Oper → Act → Prop} {m i : Nat} {rest : List Oper} {a : Act} (hi : m ≤ i) (h : F rest a) : SQ P ops S m F i rest a := by
  refine ⟨?_⟩
  cases rest with
  | nil => exact h
  | cons o rest => unfold seqS; rw [if_neg (by omega)]; exact h
end
end Go.Proofs.Ytjclncmpfdfkfaa
