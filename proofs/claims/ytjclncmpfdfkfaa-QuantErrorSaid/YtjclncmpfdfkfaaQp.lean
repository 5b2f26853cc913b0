/- Plain laws of quantisation: no program. -/
import Derived.Test.YtjclncmpfdfkfaaQb
import Derived.Test.YtjclncmpfdfkfaaQm
import Derived.Test.YtjclncmpfdfkfaaAlg
namespace Go.Proofs.Ytjclncmpfdfkfaa
open Go.RowKit

/-- the step, for all numbers -/
noncomputable def stpI (a q k : Int) : Int := open Classical in if 8 ≤ a ∧ a ≤ 255 ∧ 1 ≤ q ∧ q ≤ 31 ∧ 0 ≤ k ∧ k < 64 then stp a q k.toNat else 0
theorem step_walk (w : World) (a q k : Int) : Calls Try.prog 15 #[.int .i64 a, .int .i64 q, .int .i64 k] w fun e w' => e = .returned (.int .i64 (stpI a q k)) ∧ Below w.heap.size w w' := by
  unfold stpI
  rcases Classical.em (8 ≤ a ∧ a ≤ 255 ∧ 1 ≤ q ∧ q ≤ 31 ∧ 0 ≤ k ∧ k < 64) with h | h
  · rw [if_pos h]
    obtain ⟨n, rfl⟩ := Int.eq_ofNat_of_zero_le h.2.2.2.2.1
    exact step_in w a q n (by omega) (by omega) (by omega) (by omega) (by omega)
  · rw [if_neg h]; exact step_out w a q k h
theorem refStep_walk (w : World) (a q k : Int) : Calls Try.prog 16 #[.int .i64 a, .int .i64 q, .int .i64 k] w fun e w' => e = .returned (.int .i64 (stpI a q k)) ∧ Below w.heap.size w w' := by
  unfold stpI
  rcases Classical.em (8 ≤ a ∧ a ≤ 255 ∧ 1 ≤ q ∧ q ≤ 31 ∧ 0 ≤ k ∧ k < 64) with h | h
  · rw [if_pos h]
    obtain ⟨n, rfl⟩ := Int.eq_ofNat_of_zero_le h.2.2.2.2.1
    exact refStep_in w a q n (by omega) (by omega) (by omega) (by omega) (by omega)
  · rw [if_neg h]; exact refStep_out w a q k h

theorem qE_zero {y m : List Int} {q : Int} (h : qE y m q = 0) : Fit m q ∧ (∀ k, k < 64 → LOk (qlev y m q k)) ∧ qL y m q = tab 64 (qlev y m q) := by
  unfold qE at h
  by_cases hF : Fit m q
  · rw [if_pos hF] at h
    by_cases ho : ∀ k, k < 64 → LOk (qlev y m q k)
    · exact ⟨hF, ho, (q_good hF ho).1⟩
    · rw [if_neg ho] at h; cases h
  · rw [if_neg hF] at h; cases h
theorem dE_zero {l m : List Int} {q : Int} (h : dE l m q = 0) : Fit m q ∧ (∀ k, k < 64 → LOk (l.getD k 0)) ∧ dL l m q = tab 64 (dval l m q) := by
  unfold dE at h
  by_cases hF : Fit m q
  · rw [if_pos hF] at h
    by_cases ho : ∀ k, k < 64 → LOk (l.getD k 0)
    · exact ⟨hF, ho, (d_good hF ho).1⟩
    · rw [if_neg ho] at h; cases h
  · rw [if_neg hF] at h; cases h
theorem E_cases (y m : List Int) (q : Int) : qE y m q = 0 ∨ qE y m q = 1 ∨ qE y m q = 2 := by
  unfold qE
  split
  · split <;> omega
  · omega
/-- the levels may be dequantised -/
theorem deq_of {y m : List Int} {q : Int} (h : qE y m q = 0) : dE (qL y m q) m q = 0 ∧ ∀ n, n < 64 → (dL (qL y m q) m q).getD n 0 = qlev y m q n * stp (m.getD n 0) q n := by
  obtain ⟨hF, ho, hl⟩ := qE_zero h
  rw [hl]
  have hg := d_good (l := tab 64 (qlev y m q)) hF (fun k hk => by rw [tab_getD _ _ _ hk]; exact ho k hk)
  refine ⟨hg.2, fun n hn => ?_⟩
  rw [hg.1, tab_getD _ _ _ hn]
  unfold dval
  rw [tab_getD _ _ _ hn]
theorem la_half {v s : Int} (hs : 0 < s) : 2 * (la v s * s - max v (-v)) ≤ s ∧ 2 * (max v (-v) - la v s * s) ≤ s := by
  unfold la
  have h1 := Int.mul_ediv_add_emod (2 * max v (-v) + s) (2 * s)
  have h2 := Int.emod_nonneg (2 * max v (-v) + s) (show 2 * s ≠ 0 by omega)
  have h3 := Int.emod_lt_of_pos (2 * max v (-v) + s) (show 0 < 2 * s by omega)
  have e : (2 * max v (-v) + s) / (2 * s) * s = s * ((2 * max v (-v) + s) / (2 * s)) := Int.mul_comm _ _
  rw [Int.mul_assoc] at h1
  rw [e]
  omega
theorem lv_half {v s : Int} (hs : 0 < s) : 2 * (lv v s * s - v) ≤ s ∧ 2 * (v - lv v s * s) ≤ s := by
  have h := @la_half v s hs
  unfold lv
  split
  · rw [Int.neg_mul]; omega
  · omega
theorem nearest_at {y m : List Int} {q : Int} (hb : BL m) (h : qE y m q = 0) (n : Nat) (hn : n < 64) :
    1 ≤ stp (m.getD n 0) q n ∧ 2 * ((dL (qL y m q) m q).getD n 0 - y.getD n 0) ≤ stp (m.getD n 0) q n ∧ 2 * (y.getD n 0 - (dL (qL y m q) m q).getD n 0) ≤ stp (m.getD n 0) q n := by
  have hs := stp_le (qE_zero h).1 hb n hn
  rw [(deq_of h).2 n hn]
  have := @lv_half (y.getD n 0) (stp (m.getD n 0) q n) (by omega)
  unfold qlev
  omega
theorem la_mul {x s : Int} (hs : 2 ≤ s) (hx : 0 ≤ x) : la (x * s) s = x := by
  unfold la
  have h0 : 0 ≤ x * s := Int.mul_nonneg hx (by omega)
  rw [show max (x * s) (-(x * s)) = x * s by omega]
  have e : 2 * (x * s) + s = s + (2 * s) * x := by rw [Int.mul_comm x s, Int.mul_assoc]; omega
  rw [e, Int.add_mul_ediv_left _ _ (by omega), Int.ediv_eq_zero_of_lt (by omega) (by omega)]
  omega
theorem la_neg (v s : Int) : la (-v) s = la v s := by unfold la; rw [show max (-v) (- -v) = max v (-v) by omega]
theorem lv_mul {x s : Int} (hs : 2 ≤ s) : lv (x * s) s = x := by
  unfold lv
  rcases Int.lt_or_le x 0 with h | h
  · have h1 : x * s < 0 := Int.mul_neg_of_neg_of_pos h (by omega)
    rw [if_pos h1]
    have h2 := @la_mul (-x) s hs (by omega)
    rw [Int.neg_mul, la_neg] at h2
    omega
  · have h1 : 0 ≤ x * s := Int.mul_nonneg h (by omega)
    rw [if_neg (by omega)]
    exact la_mul hs h
/-- dequantised levels are quantised to the same levels again -/
theorem back_of {l m : List Int} {q : Int} (hl : l.length = 64) (hb : BL m) (h : dE l m q = 0) : qE (dL l m q) m q = 0 ∧ qL (dL l m q) m q = l := by
  obtain ⟨hF, ho, hd⟩ := dE_zero h
  have hq : ∀ k, k < 64 → qlev (dL l m q) m q k = l.getD k 0 := by
    intro k hk
    unfold qlev
    rw [hd, tab_getD _ _ _ hk]
    exact lv_mul (by have := stp_le hF hb k hk; omega)
  have hg := q_good (y := dL l m q) hF (fun k hk => by rw [hq k hk]; exact ho k hk)
  refine ⟨hg.2, ?_⟩
  rw [hg.1]
  exact (tab_congr hq).trans (tab_self l 64 hl)
theorem dL_in {l m : List Int} {q : Int} (hb : BL m) (h : dE l m q = 0) (n : Nat) (hn : n < 64) : -1165355100 ≤ (dL l m q).getD n 0 ∧ (dL l m q).getD n 0 ≤ 1165355100 := by
  obtain ⟨hF, ho, hd⟩ := dE_zero h
  rw [hd, tab_getD _ _ _ hn]
  have hs := stp_le hF hb n hn
  have := ho n hn
  unfold LOk at this
  unfold dval
  have := mul_bound (A := 4095) (B := 284580) (a := l.getD n 0) (b := stp (m.getD n 0) q n) ⟨by omega, by omega⟩ ⟨by omega, by omega⟩
  omega

/-- the levels of a block of samples -/
theorem samples {xs m : List Int} {q : Int} (hx : Lim 255 xs) (hF : Fit m q) (hb : BL m) : qE (fwd xs) m q = 0 := by
  refine (q_good (y := fwd xs) hF fun k hk => ?_).2
  have h1 : -(rs (k / 8) * (rs (k % 8) * 255)) ≤ (fwd xs).getD k 0 ∧ (fwd xs).getD k 0 ≤ rs (k / 8) * (rs (k % 8) * 255) := by
    rw [fwd_at _ _ hk, show k = 8 * (k / 8) + k % 8 by omega, Y1_mx _ _ _ (by omega)]
    rw [show (8 * (k / 8) + k % 8) / 8 = k / 8 by omega, show (8 * (k / 8) + k % 8) % 8 = k % 8 by omega]
    exact LR_abs (mx xs) 255 (by omega) (fun a b ha hb => hx (8 * a + b) (by omega)) (k / 8) (k % 8) (by omega)
  have h2 : 2 * (rs (k / 8) * (rs (k % 8) * 255)) < 8191 * (8 * gq (k / 8) (k % 8)) := by
    have h : all8 (fun i j => decide (2 * (rs i * (rs j * 255)) < 8191 * (8 * gq i j))) = true := by decide +kernel
    exact of_decide_eq_true (of_all8 h (k / 8) (k % 8) (by omega) (by omega))
  have h3 : 8 * gq (k / 8) (k % 8) ≤ stp (m.getD k 0) q k := by
    have h4 := vB_iff.1 hF.1 k hk
    have h5 : 8 * 1 ≤ m.getD k 0 * q := Int.mul_le_mul h4 hF.2.1 (by omega) (by omega)
    have h6 := gq_le (k / 8) (k % 8)
    exact Int.mul_le_mul_of_nonneg_right (by omega) (by omega)
  have hs := stp_le hF hb k hk
  have h4 : la ((fwd xs).getD k 0) (stp (m.getD k 0) q k) ≤ 4095 := by
    unfold la
    generalize stp (m.getD k 0) q k = s at *
    have : (2 * max ((fwd xs).getD k 0) (-((fwd xs).getD k 0)) + s) / (2 * s) < 4096 := Int.ediv_lt_of_lt_mul (by omega) (by omega)
    omega
  have h5 := @la_nonneg ((fwd xs).getD k 0) (stp (m.getD k 0) q k) (by omega)
  unfold LOk qlev lv
  split <;> omega

/-! the bound -/
theorem mxT_ge (m : List Int) (q : Int) (k : Nat) : ∀ p, p < k → ws m q p ≤ mxT m q k := by
  induction k with
  | zero => intro p hp; omega
  | succ k ih =>
    intro p hp
    show _ ≤ max (mxT m q k) (ws m q k)
    by_cases e : p = k
    · subst e; omega
    · have := ih p (by omega); omega
theorem dot_mono {f g : Nat → Int} (n : Nat) (h : ∀ i, i < n → f i ≤ g i) : dot f n ≤ dot g n := by
  induction n with
  | zero => simp [dot]
  | succ n ih =>
    have h1 := ih (fun i hi => h i (by omega))
    have h2 := h n (by omega)
    simp only [dot]
    omega
theorem stp_mono {m c : List Int} {q p : Int} (hF : Fit m q) (hG : Fit c p) (hqp : q ≤ p) (n : Nat) (hn : n < 64) (h : m.getD n 0 ≤ c.getD n 0) : stp (m.getD n 0) q n ≤ stp (c.getD n 0) p n := by
  have h1 := vB_iff.1 hF.1 n hn
  have h2 : m.getD n 0 * q ≤ c.getD n 0 * p := Int.mul_le_mul h hqp (by have := hF.2; omega) (by omega)
  exact Int.mul_le_mul_of_nonneg_right h2 (by have := gq_le (n / 8) (n % 8); omega)
theorem bnd_mono {m c : List Int} {q p : Int} (hF : Fit m q) (hG : Fit c p) (hb : BL m) (hc : BL c) (hqp : q ≤ p) (h : ∀ n, n < 64 → m.getD n 0 ≤ c.getD n 0) : bnd m q ≤ bnd c p := by
  rw [bnd_fit hF, bnd_fit hG]
  have hw : ∀ k, ws m q k ≤ ws c p k := fun k => dot_mono 64 (fun n hn => Int.mul_le_mul_of_nonneg_left (stp_mono hF hG hqp n hn (h n hn)) (by have := (wt_le hF hb k n hn).1; omega))
  have hm : ∀ k, mxT m q k ≤ mxT c p k := by
    intro k
    induction k with
    | zero => exact Int.le_refl _
    | succ k ih =>
      have := hw k
      show max _ _ ≤ max _ _
      omega
  have := hm 64
  exact Int.ediv_le_ediv (by omega) (by omega)
def w0 : Nat → Int := fun n => sh (n / 8) 0 * sh (n % 8) 0 * 160
theorem bnd_pos {m : List Int} {q : Int} (hF : Fit m q) (hb : BL m) : 1 ≤ bnd m q := by
  rw [bnd_fit hF]
  have h1 : dot w0 64 ≤ ws m q 0 := dot_mono 64 (fun n hn => Int.mul_le_mul_of_nonneg_left (stp_le hF hb n hn).2.1 (by have := (wt_le hF hb 0 n hn).1; exact this.1))
  have h2 : 547363225600 ≤ dot w0 64 := by decide +kernel
  have h3 := mxT_ge m q 64 0 (by omega)
  omega
/-- the matrix with entries that are at least as great -/
def mxTo (m b : List Int) (k n : Nat) : Int := if n < k then max (m.getD n 0) (b.getD n 0) else m.getD n 0
def mxOf (m b : List Int) : List Int := tab 64 (mxTo m b b.length)
theorem mxOf_length (m b : List Int) : (mxOf m b).length = 64 := tab_length _ _
theorem mxTo_zero (m b : List Int) (h : m.length = 64) : tab 64 (mxTo m b 0) = m := Eq.trans (tab_congr fun n hn => by unfold mxTo; rw [if_neg (by omega)]) (tab_self m 64 h)
theorem mxTo_end (m b : List Int) (k : Nat) (hk : 64 ≤ k ∨ k = b.length) (hl : k ≤ b.length) : tab 64 (mxTo m b k) = mxOf m b := tab_congr fun n hn => by
  unfold mxTo
  rcases hk with h | h
  · rw [if_pos (by omega), if_pos (by omega)]
  · rw [h]
theorem mxTo_next (m b : List Int) (k : Nat) : (tab 64 (mxTo m b k)).set k (max (m.getD k 0) (b.getD k 0)) = tab 64 (mxTo m b (k + 1)) := by
  rw [tab_set]
  refine tab_congr fun n hn => ?_
  unfold mxTo
  by_cases e : n = k
  · subst e; rw [if_pos rfl, if_pos (by omega)]
  · rw [if_neg e]
    by_cases e2 : n < k
    · rw [if_pos e2, if_pos (by omega)]
    · rw [if_neg e2, if_neg (by omega)]
theorem mxOf_ge (m b : List Int) (n : Nat) (hn : n < 64) : m.getD n 0 ≤ (mxOf m b).getD n 0 := by
  unfold mxOf
  rw [tab_getD _ _ _ hn]
  unfold mxTo
  split <;> omega
theorem mxOf_BL {m b : List Int} (hm : BL m) (h : ∀ x ∈ b, 0 ≤ x ∧ x < 256) : BL (mxOf m b) := by
  intro n hn
  unfold mxOf
  rw [tab_getD _ _ _ hn]
  unfold mxTo
  have := hm n hn
  split
  · rename_i hlt
    have h2 : 0 ≤ b.getD n 0 ∧ b.getD n 0 < 256 := by
      rw [List.getD_eq_getElem?_getD, List.getElem?_eq_getElem hlt]
      exact h _ (List.getElem_mem hlt)
    omega
  · omega

/-! the error -/
theorem tm_abs (i k : Nat) (hi : i < 8) : max (tm i k) (-(tm i k)) = sh i k := by
  have h2 : 0 ≤ sc i := by rcases sc_in i hi with h | h | h <;> rw [h] <;> decide
  unfold tm sh
  rcases Int.le_total 0 (mt i k) with h | h
  · have h3 := Int.mul_nonneg h h2
    rw [show max (mt i k) (-(mt i k)) = mt i k by omega]
    omega
  · have h3 := Int.mul_nonneg (show 0 ≤ -(mt i k) by omega) h2
    rw [show max (mt i k) (-(mt i k)) = -(mt i k) by omega]
    rw [Int.neg_mul] at *
    omega
theorem dot_absb (a v b : Nat → Int) (n : Nat) (hv : ∀ i, i < n → -(b i) ≤ v i ∧ v i ≤ b i) : -(dot (fun k => max (a k) (-(a k)) * b k) n) ≤ dot (fun i => a i * v i) n ∧ dot (fun i => a i * v i) n ≤ dot (fun k => max (a k) (-(a k)) * b k) n := by
  induction n with
  | zero => simp [dot]
  | succ n ih =>
    have h1 := ih (fun i hi => hv i (by omega))
    have h2 := mul_abs (a n) (v n) (b n) (hv n (by omega))
    simp only [dot]
    omega
/-- what the steps can do to a sample -/
theorem err_sum (m : List Int) (q : Int) (d : Nat → Nat → Int) (hd : ∀ a b, a < 8 → b < 8 → -(stp (m.getD (8 * a + b) 0) q (8 * a + b)) ≤ 2 * d a b ∧ 2 * d a b ≤ stp (m.getD (8 * a + b) 0) q (8 * a + b)) (p c : Nat) (hc : c < 8) :
    -(ws m q (8 * p + c)) ≤ 2 * Lf tmT (Rg tmT d) p c ∧ 2 * Lf tmT (Rg tmT d) p c ≤ ws m q (8 * p + c) := by
  have e : ws m q (8 * p + c) = dot (fun a => max (tmT p a) (-(tmT p a)) * dot (fun b => max (tmT c b) (-(tmT c b)) * stp (m.getD (8 * a + b) 0) q (8 * a + b)) 8) 8 := by
    unfold ws
    rw [show (64 : Nat) = 8 * 8 from rfl, dot_dd]
    refine dot_congr 8 (fun a ha => ?_)
    rw [← dot_mul]
    refine dot_congr 8 (fun b hb => ?_)
    show wt m q (8 * p + c) (8 * a + b) = max (tm a p) (-(tm a p)) * (max (tm b c) (-(tm b c)) * stp (m.getD (8 * a + b) 0) q (8 * a + b))
    rw [tm_abs a p ha, tm_abs b c hb]
    unfold wt
    rw [show (8 * a + b) / 8 = a by omega, show (8 * a + b) % 8 = b by omega, show (8 * p + c) / 8 = p by omega, show (8 * p + c) % 8 = c by omega, Int.mul_assoc]
  rw [e]
  have h := dot_absb (tmT p) (fun a => 2 * Rg tmT d a c) (fun a => dot (fun b => max (tmT c b) (-(tmT c b)) * stp (m.getD (8 * a + b) 0) q (8 * a + b)) 8) 8 (fun a ha => by
    have h := dot_absb (tmT c) (fun b => 2 * d a b) (fun b => stp (m.getD (8 * a + b) 0) q (8 * a + b)) 8 (fun b hb => hd a b ha hb)
    have e2 : dot (fun b => tmT c b * (2 * d a b)) 8 = 2 * Rg tmT d a c := by
      unfold Rg
      rw [← dot_mul]
      exact dot_congr 8 (fun b _ => by rw [Int.mul_left_comm])
    rw [e2] at h
    exact h)
  have e2 : dot (fun a => tmT p a * (2 * Rg tmT d a c)) 8 = 2 * Lf tmT (Rg tmT d) p c := by
    unfold Lf
    rw [← dot_mul]
    exact dot_congr 8 (fun b _ => by rw [Int.mul_left_comm])
  rw [e2] at h
  exact h
theorem LR_sub (u v : Nat → Nat → Int) (p c : Nat) : Lf tmT (Rg tmT (fun a b => u a b + v a b)) p c = Lf tmT (Rg tmT u) p c + Lf tmT (Rg tmT v) p c := by
  unfold Lf
  rw [← dot_add]
  refine dot_congr 8 (fun a _ => ?_)
  rw [← Int.mul_add]
  congr 1
  unfold Rg
  rw [← dot_add]
  exact dot_congr 8 (fun b _ => by rw [← Int.mul_add])
/-- transform, quantisation and their inverses together -/
theorem error_of {xs m : List Int} {q : Int} (hx : Lim 255 xs) (hF : Fit m q) (hb : BL m) (n : Nat) (hn : n < 64) :
    (inv (dL (qL (fwd xs) m q) m q)).getD n 0 - xs.getD n 0 ≤ bnd m q ∧ xs.getD n 0 - (inv (dL (qL (fwd xs) m q) m q)).getD n 0 ≤ bnd m q := by
  have hq := samples hx hF hb
  have hfb := fwd_bound hx
  have hz := fun k hk => nearest_at (y := fwd xs) hb hq k hk
  generalize dL (qL (fwd xs) m q) m q = z at *
  have hzb : ∀ k, k < 64 → -2097152 ≤ z.getD k 0 ∧ z.getD k 0 ≤ 2097152 := by
    intro k hk
    have h1 := hz k hk
    have h2 := hfb k hk
    have h3 := stp_le hF hb k hk
    omega
  rw [inv_at _ _ hn]
  have hn8 : n = 8 * (n / 8) + n % 8 := by omega
  rw [hn8]
  generalize hp : n / 8 = p
  generalize hc : n % 8 = c
  have hp8 : p < 8 := by omega
  have hc8 : c < 8 := by omega
  let d : Nat → Nat → Int := fun a b => z.getD (8 * a + b) 0 - (fwd xs).getD (8 * a + b) 0
  have hd := err_sum m q d (fun a b ha hb' => by
    have := hz (8 * a + b) (by omega)
    show _ ≤ 2 * (z.getD (8 * a + b) 0 - (fwd xs).getD (8 * a + b) 0) ∧ 2 * (z.getD (8 * a + b) 0 - (fwd xs).getD (8 * a + b) 0) ≤ _
    omega) p c hc8
  have e1 : S2 z (8 * p + c) = 547363225600 * xs.getD (8 * p + c) 0 + Lf tmT (Rg tmT d) p c := by
    rw [S2_mc _ _ _ hc8]
    have e2 : ∀ a b, a < 8 → b < 8 → mc z a b = Lf mt (Rg mt (mx xs)) a b + d a b := by
      intro a b ha hb'
      unfold mc
      have := hzb (8 * a + b) (by omega)
      rw [show cl (z.getD (8 * a + b) 0) = z.getD (8 * a + b) 0 by unfold cl; omega, ← Y1_mx _ _ _ hb', ← fwd_at _ _ (by omega)]
      show _ = (fwd xs).getD (8 * a + b) 0 + (z.getD (8 * a + b) 0 - (fwd xs).getD (8 * a + b) 0)
      omega
    rw [L_congr (v := Rg tmT (mc z)) (v' := Rg tmT (fun a b => Lf mt (Rg mt (mx xs)) a b + d a b)) (fun a b ha hb' => R_congr (fun a b ha hb => e2 a b ha hb) a b ha) p c hc8]
    rw [LR_sub]
    have e3 : Lf tmT (Rg tmT (fun a b => Lf mt (Rg mt (mx xs)) a b)) p c = 547363225600 * xs.getD (8 * p + c) 0 := by
      show Lf tmT (Rg tmT (Lf mt (Rg mt (mx xs)))) p c = _
      rw [R_L, L_L, R_R, L_delta ortho1 _ p c hp8, R_delta ortho1 _ p c hc8]
      unfold mx
      omega
    rw [e3]
  have hw := mxT_ge m q 64 (8 * p + c) (by omega)
  rw [bnd_fit hF]
  unfold X2
  rw [e1]
  omega
theorem blockOf_in {l : List Int} (h : ∀ x ∈ l, -9223372036854775808 ≤ x ∧ x ≤ 9223372036854775807) : ∀ n, n < 64 → -9223372036854775808 ≤ (blockOf l).getD n 0 ∧ (blockOf l).getD n 0 ≤ 9223372036854775807 := by
  intro n hn
  unfold blockOf
  rw [tab_getD _ _ _ hn]
  by_cases e : n < l.length
  · rw [List.getD_eq_getElem?_getD, List.getElem?_eq_getElem e]
    exact h _ (List.getElem_mem e)
  · rw [List.getD_eq_getElem?_getD, List.getElem?_eq_none (by omega)]
    exact ⟨by decide, by decide⟩
theorem bnd_le {m : List Int} {q : Int} (hF : Fit m q) (hb : BL m) : 0 ≤ bnd m q ∧ bnd m q ≤ 20000 := by
  rw [bnd_fit hF]
  have := mxT_le hF hb 64
  omega
end Go.Proofs.Ytjclncmpfdfkfaa
