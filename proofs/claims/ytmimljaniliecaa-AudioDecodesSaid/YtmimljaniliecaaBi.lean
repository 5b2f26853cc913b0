/- The reference decodes: lemmas. -/
import Derived.Test.YtmimljaniliecaaZr
namespace Go.Proofs.Ytmimljaniliecaa
open Go.RowKit Bt

theorem u8_inj {x y : Nat} (hx : x < 256) (hy : y < 256) (h : UInt8.ofNat x = UInt8.ofNat y) : x = y := by
  have h1 := congrArg UInt8.toNat h
  simp only [UInt8.toNat_ofNat'] at h1
  omega
/-- the string of bytes -/
def strL (l : List Nat) : ByteArray := strOfNums (l.map fun (x : Nat) => (x : Int))
theorem strL_toList (l : List Nat) : (strL l).toList = l.map UInt8.ofNat := by
  rw [ByteArray.toList_eq]
  unfold strL
  rw [strOfNums_data, List.map_map]
  apply List.map_congr_left
  intro x _
  simp
theorem map_u8_inj : ∀ {l m : List Nat}, (∀ x ∈ l, x < 256) → (∀ x ∈ m, x < 256) → l.map UInt8.ofNat = m.map UInt8.ofNat → l = m := by
  intro l
  induction l with
  | nil => intro m _ _ h; exact (List.map_eq_nil_iff.1 h.symm).symm
  | cons x l ih =>
    intro m hl hm h
    cases m with
    | nil => simp at h
    | cons y m =>
      simp only [List.map_cons, List.cons.injEq] at h
      rw [u8_inj (hl x (List.mem_cons_self ..)) (hm y (List.mem_cons_self ..)) h.1, ih (fun z hz => hl z (List.mem_cons_of_mem _ hz)) (fun z hz => hm z (List.mem_cons_of_mem _ hz)) h.2]
theorem str_eq {l m : List Nat} (hl : ∀ x ∈ l, x < 256) (hm : ∀ x ∈ m, x < 256) : ((strL l).toList == (strL m).toList) = decide (l = m) := by
  rw [strL_toList, strL_toList]
  by_cases h : l = m
  · subst h; simp
  · rw [decide_eq_false h]
    exact beq_eq_false_iff_ne.2 (fun h2 => h (map_u8_inj hl hm h2))
theorem bin_neq_str {w : World} {t : TypeId} {l m : List Nat} (hl : ∀ x ∈ l, x < 256) (hm : ∀ x ∈ m, x < 256) {b : Bool} (h : decide (l = m) = !b) : (binOp .neq t (.string (strL l)) (.string (strL m))).run Try.prog w = .ok (.bool b) w := by
  rw [binOp_string_neq, str_eq hl hm, h, Bool.not_not]
  rfl
theorem conv_str {w : World} {o : Oper} {a : Act} (x : Operand) (ho : o.op = .convert 22 9 x) (v : Value) (l : List Nat) (h0 : 0 < l.length) (hx : a.eval x = v) (hr : RdK w v l.length (u8s l)) : (execOp a.eval o).run Try.prog w = .ok (.value (.string (strL l))) w := by
  obtain ⟨A, c, rfl, _⟩ := hr.shape
  obtain ⟨b, off, rfl⟩ := RdK.addr hr (j := 0) (by rw [u8s_length]; exact h0)
  have hc := run_convert_bytes_arg (P := Try.prog) w 22 5 Try.underlying22 (by kernel_rfl) b off l.length c (l.map fun (x : Nat) => (x : Int)) (by simp) (fun i hi => by
    have h1 := hr.cellA rfl (j := i) (u := .int .u8 (l.getD i 0 : Nat)) (by have := u8s_get l i hi; rwa [Nat.mul_one, Nat.add_zero] at this)
    rw [h1]
    simp [List.getD_eq_getElem?_getD, List.getElem?_map, List.getElem?_eq_getElem hi]) 9 (by kernel_rfl)
  unfold execOp
  simp only [ho, hx]
  simp [hc, strL]
/-- what comes behind a channel -/
theorem append_chan {S : Nat → Prop} {w0 w : World} {A B : List (Nat × Obj)} {Ts : Nat → List (Nat × Obj)} {ls : List (List Int)} {As : Nat → Option Addr} {cs : Nat → Nat} {j n nj : Nat} (hn : ls.length = n) (M : Mem S w0 w (A ++ (flatT Ts n ++ B))) (hI : OwnI ls As cs Ts) (hj : j < n) (hnj : (ls.getD j []).length = nj) (x : List Int) (u : Value) (m : Nat) (hu : RdK w u m (i16s x)) (hm : x.length = m) (hb : nj + m ≤ 1000000000000) (ty : TypeId) :
    ∃ A' c' T' w', (Builtin.append_ #[39, 39] ty #[.slice (As j) nj (cs j), u]).run Try.prog w = .ok (.slice A' (nj + m) c') w' ∧ Mem S w0 w' (A ++ (flatT (setF Ts j T') n ++ B)) ∧
      OwnI (ls.set j (ls.getD j [] ++ x)) (setF As j A') (setF cs j c') (setF Ts j T') := by
  subst hn
  obtain ⟨X, Y, e1, e2⟩ := flatT_split Ts j ls.length hj
  rw [e1] at M
  have hO := hI j hj
  rw [hnj] at hO
  obtain ⟨v', T', w', hr, hO', M'⟩ := append_i16 M.chan ty _ _ _ hO u m (i16s x) hu (by rw [i16s_length]; omega) (i16s_one x) hb
  obtain ⟨A', c', rfl, _⟩ := hO'.shape
  refine ⟨A', c', T', w', hr, ?_, hI.setA hj (by rw [i16s_append]; exact hO') (by rw [List.length_append]; omega)⟩
  rw [e2]; exact M'.unchan
/-- zeros come behind a channel -/
theorem append_chan0 {S : Nat → Prop} {w0 w : World} {A B : List (Nat × Obj)} {Ts : Nat → List (Nat × Obj)} {ls : List (List Int)} {As : Nat → Option Addr} {cs : Nat → Nat} {j n nj : Nat} (hn : ls.length = n) (M : Mem S w0 w (A ++ (flatT Ts n ++ B))) (hI : OwnI ls As cs Ts) (hj : j < n) (hnj : (ls.getD j []).length = nj) (m : Nat) (hm : 0 < m) (hb : nj + m ≤ 1000000000000) (ty : TypeId) :
    ∃ A' c' T' w', (Builtin.append_ #[39, 3] ty #[.slice (As j) nj (cs j), .int .i64 (m : Int)]).run Try.prog w = .ok (.slice A' (nj + m) c') w' ∧ Mem S w0 w' (A ++ (flatT (setF Ts j T') n ++ B)) ∧
      OwnI (ls.set j (ls.getD j [] ++ List.replicate m 0)) (setF As j A') (setF cs j c') (setF Ts j T') := by
  subst hn
  obtain ⟨X, Y, e1, e2⟩ := flatT_split Ts j ls.length hj
  rw [e1] at M
  have hO := hI j hj
  rw [hnj] at hO
  obtain ⟨i0, hi, hz0, hz1, hz2⟩ := info_parts info_i16
  obtain ⟨v', T', w', hr, hO', M'⟩ := append_zeros (P := Try.prog) M.chan 39 3 ty 45 i0 (.int .i16 0) 2 .i64 .i64 Try.underlying39 (by kernel_rfl) hi hz0 hz1 hz2 rfl rfl _ _ _ hO m hm (by simp only [maxLen]; omega) (by omega)
  obtain ⟨A', c', rfl, _⟩ := hO'.shape
  refine ⟨A', c', T', w', hr, ?_, hI.setA hj (by rw [i16s_append, ← i16s_rep]; exact hO') (by rw [List.length_append, List.length_replicate]; omega)⟩
  rw [e2]; exact M'.unchan
theorem run_append_op2 {P : Program} {w w' : World} {o : Oper} {a : Act} (s x : Operand) (t t2 : TypeId) (ho : o.op = .call { callee := .builtin .append, args := #[s, x], argTypes := #[t, t2] }) (v u v' : Value) (hs : a.eval s = v) (hx : a.eval x = u)
    (hr : (Builtin.append_ #[t, t2] o.type #[v, u]).run P w = .ok v' w') : (execOp a.eval o).run P w = .ok (.value v') w' := by
  unfold execOp
  simp only [ho, resolve, invoke, builtin, Sem.run_bind, Sem.run_pure, Result.andThen_ok, List.map_toArray, List.map_cons, List.map_nil, hs, hx, hr]
section
variable {P : Program} {l : List Oper} {Q : Exit → Act → World → Prop} {D : World → Prop} {a : Act} {w : World} {fuel : Nat} {listed : Array Bool} {o : Oper} {S : Nat → Prop} {w0 : World} {A B T : List (Nat × Obj)}
theorem wh_storeOwn {e : TypeId} {k n c b off : Nat} {xs : List Value} {Ao : Option Addr} (M : Mem S w0 w (A ++ (T ++ B))) (hO : Own e k (.slice Ao n c) n xs T) (hA : Ao = some ⟨b, off, none⟩) (ty : TypeId) (p x : Operand) (ho : o.op = .store ty p x) (i f : Nat) (v : Value)
    (hp : a.eval p = .pointer (some ⟨b, off + i + f, none⟩)) (hx : a.eval x = v) (hj : i + f < xs.length) (hi : (sizeOf ty).run P w = .ok 1 w) (h1 : v.oneCell' = true) (hv : v.cells = #[v]) (id : Nat) (hl : l[id]? = some o) (hrd : Region.ready .any l.toArray listed = [id]) (hw : Region.wanted o (yielded l.toArray a.tmps) = true) (listed' : Array Bool) (hls : listed.setIfInBounds id true = listed')
    (h : ∀ T' w', Own e k (.slice Ao n c) n (xs.set (i + f) v) T' → Mem S w0 w' (A ++ (T' ++ B)) → D w' ∧ WH P l Q D fuel listed' (a.put o.dst undef) w') : WH P l Q D (fuel + 1) listed a w := by
  subst hA
  obtain ⟨T', hO', M', hf, _⟩ := M.setOwn hO (i + f) v
  have hc := (hO.rd M.tailA).cellF rfl (i := i) (f := f) (List.getElem?_eq_getElem hj)
  rw [← Nat.add_assoc] at M' hf
  exact wh_do id _ hl hrd hw (run_store_cell ty p x ho ⟨b, off + i + f, none⟩ v hp hx _ hc hf hi h1 hv) listed' hls (h T' _ hO' M').1 (h T' _ hO' M').2
end

theorem sl_sl {l : List Nat} {a b n m : Nat} (h : b + m ≤ n) : sl (sl l a n) b m = sl l (a + b) m := by
  unfold sl
  rw [List.drop_take, List.take_take, List.drop_drop, Nat.min_eq_left (by omega)]
theorem int_same {l : List Nat} (h : 10 ≤ l.length) : decide (sl l 0 (10 - 0) = summedB (sl l 0 (8 - 0))) = intB (sl l 0 (10 - 0)) := by
  unfold intB
  rw [sl_len (l := l) (lo := 0) (n := 10 - 0) (by omega), sl_sl (by omega)]
theorem de_bnd {l : List Nat} (hG : deG l) : bsz ((deC l : Nat) : Int) = ((deS l : Nat) : Int) ∧ 41 ≤ deS l ∧ deS l ≤ 151 := by
  have hbz := bsz_v hG.2.1
  have hC := hG.2.1
  have hdS : bsz ((deC l : Nat) : Int) = ((deS l : Nat) : Int) := (by unfold deS; omega)
  exact ⟨hdS, by omega, by omega⟩
/-- the bytes of block k -/
abbrev deX (l : List Nat) (k : Nat) : List Nat := sl l (10 + k * deS l) (10 + k * deS l + deS l - (10 + k * deS l))
theorem de_part {l : List Nat} (hG : deG l) (k : Nat) (h : 10 + k * deS l + deS l ≤ l.length) : sl (deB l k) 0 ((bsz ((deC l : Nat) : Int)).toNat - 0) = deX l k ∧ (deB l k).length = l.length - 10 - k * deS l := by
  obtain ⟨hb, h1, h2⟩ := de_bnd hG
  rw [hb, Int.toNat_natCast]
  unfold deB
  have hat : deAt l k = k * deS l := Nat.min_eq_left (by omega)
  refine ⟨?_, ?_⟩
  · rw [hat, sl_sl (by omega), sl_sl (by omega), Nat.add_zero, Nat.sub_zero]
    unfold deX
    rw [show 10 + k * deS l + deS l - (10 + k * deS l) = deS l by omega]
  · rw [hat, sl_len (by rw [sl_len (by omega)]; omega)]
theorem de_block {l : List Nat} (hG : deG l) (h10 : 10 ≤ l.length) {k : Nat} : deOk l k ↔ (10 + k * deS l + deS l ≤ l.length ∧ tbE (deX l k) = 0 ∧ (tbL (deX l k)).length = deC l ∧ ((tbL (deX l k)).getD 0 []).length = deW l k) := by
  obtain ⟨hb, h1, h2⟩ := de_bnd hG
  rcases Nat.lt_or_ge l.length (10 + k * deS l + deS l) with h | h
  · constructor
    · intro hk
      have h3 := hk.1
      rw [hb] at h3
      have h4 : (deB l k).length = l.length - 10 - deAt l k := by
        unfold deB
        have : deAt l k ≤ l.length - 10 := Nat.min_le_right _ _
        rw [sl_len (by rw [sl_len (by omega)]; omega)]
      have h5 : deAt l k = min (k * deS l) (l.length - 10) := rfl
      omega
    · intro hk; omega
  · obtain ⟨e1, e2⟩ := de_part hG k h
    show whB _ _ _ ↔ _
    unfold whB
    rw [e1, e2, hb]
    constructor
    · intro hk; exact ⟨h, hk.2⟩
    · intro hk; exact ⟨by omega, hk.2⟩
theorem de_blockL {l : List Nat} (hG : deG l) (h10 : 10 ≤ l.length) {k : Nat} (h : deOk l k) : whL (deB l k) (deC l) (deW l k) = tbL (deX l k) := by
  have h1 := ((de_block hG h10).1 h).1
  rw [wh_t h, (de_part hG k h1).1]
theorem lsr_set {l : List Nat} {c k : Nat} (h : c < deC l) {x : List Int} (hx : deL l c (k + 1) = deL l c k ++ x) : (mk (fun j => if j < c then deL l j (k + 1) else deL l j k) (deC l)).set c ((mk (fun j => if j < c then deL l j (k + 1) else deL l j k) (deC l)).getD c [] ++ x) = mk (fun j => if j < c + 1 then deL l j (k + 1) else deL l j k) (deC l) := by
  rw [mk_set h, mk_get h, if_neg (by omega), ← hx]
  apply mk_congr
  intro j _
  by_cases e : j = c
  · subst e; rw [setF_eq, if_pos (by omega)]
  · rw [setF_ne _ _ e]
    by_cases e2 : j < c
    · rw [if_pos e2, if_pos (by omega)]
    · rw [if_neg e2, if_neg (by omega)]
theorem pvs_none2 {l : List Nat} : pvs (mk (fun j => deL l j 0) (deC l)) (fun _ => none) (fun _ => 0) = List.replicate (deC l) (.slice none 0 0) := by
  have h := pvs_none (l := l)
  rw [pvs_lens (ms := mk (fun j => deL l j 0) (deC l)) (by rw [mk_length, mk_length]) (fun j hj => by
    rw [mk_length] at hj
    rw [mk_get hj, mk_get hj, if_neg (by omega)]; rfl)] at h
  exact h
theorem ownI_none2 {l : List Nat} : OwnI (mk (fun j => deL l j 0) (deC l)) (fun _ => none) (fun _ => 0) (fun _ => []) := by
  intro j hj
  rw [mk_length] at hj
  rw [mk_get hj]
  exact Own.nil _ _
theorem pvr_get {l : List Nat} (As : Nat → Option Addr) (cs : Nat → Nat) {c k : Nat} (h : c < deC l) (hk : 32 * k < deN l) : (pvs (mk (fun j => if j < c then deL l j (k + 1) else deL l j k) (deC l)) As cs)[c * 1 + 0]? = some (.slice (As c) (32 * k) (cs c)) := by
  rw [pvs_get _ _ _ _ (by rw [mk_length]; exact h), mk_get h, if_neg (by omega), deL_len h, Nat.min_eq_left (by omega)]
theorem dec_good2 {l : List Nat} (hE : deE l = 0) {v : Value} {As : Nat → Option Addr} {cs : Nat → Nat} {T : List (Nat × Obj)} {Ts : Nat → List (Nat × Obj)} (hO : Own 39 1 v (deC l) (pvs (mk (fun j => deL l j (deK l)) (deC l)) As cs) T) (hI : OwnI (mk (fun j => deL l j (deK l)) (deC l)) As cs Ts) : OwnP v (deR l) (T ++ flatT Ts (deC l)) := by
  rw [(de_ok hE).1]
  exact ⟨As, cs, T, Ts, by rw [mk_length]; exact hO, hI, by rw [mk_length]⟩
end Go.Proofs.Ytmimljaniliecaa
