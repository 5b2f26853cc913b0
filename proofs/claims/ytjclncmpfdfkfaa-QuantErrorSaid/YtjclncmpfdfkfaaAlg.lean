/- The transform's algebra: plain sums, no program. -/
import Derived.Test.YtjclncmpfdfkfaaIst
namespace Go.Proofs.Ytjclncmpfdfkfaa
open Go.RowKit

theorem dot_add (f g : Nat → Int) (n : Nat) : dot (fun i => f i + g i) n = dot f n + dot g n := by
  induction n with
  | zero => rfl
  | succ n ih => simp only [dot]; rw [ih]; omega
theorem dot_mul (c : Int) (f : Nat → Int) (n : Nat) : dot (fun i => c * f i) n = c * dot f n := by
  induction n with
  | zero => simp [dot]
  | succ n ih => simp only [dot]; rw [ih, Int.mul_add]
theorem dot_mulr (c : Int) (f : Nat → Int) (n : Nat) : dot (fun i => f i * c) n = dot f n * c := by
  induction n with
  | zero => simp [dot]
  | succ n ih => simp only [dot]; rw [ih, Int.add_mul]
theorem dot_zero (n : Nat) : dot (fun _ => 0) n = 0 := by
  induction n with
  | zero => rfl
  | succ n ih => simp only [dot]; rw [ih]; rfl
theorem dot_swap (f : Nat → Nat → Int) (m n : Nat) : dot (fun i => dot (fun j => f i j) n) m = dot (fun j => dot (fun i => f i j) m) n := by
  induction m with
  | zero => simp only [dot]; rw [dot_zero]
  | succ m ih => simp only [dot]; rw [ih, ← dot_add]
theorem dot_delta (S : Int) (v : Nat → Int) (p n : Nat) : dot (fun c => (if p = c then S else 0) * v c) n = if p < n then S * v p else 0 := by
  induction n with
  | zero => simp [dot]
  | succ n ih =>
    simp only [dot]
    rw [ih]
    by_cases h1 : p < n
    · rw [if_pos h1, if_neg (by omega), if_pos (by omega)]; simp
    · rw [if_neg h1]
      by_cases h2 : p = n
      · rw [if_pos h2, if_pos (by omega), h2]; simp
      · rw [if_neg h2, if_neg (by omega)]; simp

def Lf (f : Nat → Nat → Int) (v : Nat → Nat → Int) : Nat → Nat → Int := fun p q => dot (fun a => f p a * v a q) 8
def Rg (g : Nat → Nat → Int) (v : Nat → Nat → Int) : Nat → Nat → Int := fun p q => dot (fun b => g q b * v p b) 8
def Cp (f f' : Nat → Nat → Int) : Nat → Nat → Int := fun p c => dot (fun a => f p a * f' a c) 8
theorem L_L (f f' v : Nat → Nat → Int) : Lf f (Lf f' v) = Lf (Cp f f') v := by
  funext p q
  show dot (fun a => f p a * dot (fun c => f' a c * v c q) 8) 8 = dot (fun c => dot (fun a => f p a * f' a c) 8 * v c q) 8
  have e1 : (fun a => f p a * dot (fun c => f' a c * v c q) 8) = fun a => dot (fun c => f p a * f' a c * v c q) 8 := by
    funext a; rw [← dot_mul]; exact dot_congr 8 (fun c _ => (Int.mul_assoc _ _ _).symm)
  rw [e1, dot_swap]
  exact dot_congr 8 (fun c _ => dot_mulr _ _ _)
theorem R_R (g g' v : Nat → Nat → Int) : Rg g (Rg g' v) = Rg (Cp g g') v := by
  funext p q
  show dot (fun b => g q b * dot (fun c => g' b c * v p c) 8) 8 = dot (fun c => dot (fun b => g q b * g' b c) 8 * v p c) 8
  have e1 : (fun b => g q b * dot (fun c => g' b c * v p c) 8) = fun b => dot (fun c => g q b * g' b c * v p c) 8 := by
    funext b; rw [← dot_mul]; exact dot_congr 8 (fun c _ => (Int.mul_assoc _ _ _).symm)
  rw [e1, dot_swap]
  exact dot_congr 8 (fun c _ => dot_mulr _ _ _)
theorem R_L (f g v : Nat → Nat → Int) : Rg g (Lf f v) = Lf f (Rg g v) := by
  funext p q
  show dot (fun b => g q b * dot (fun a => f p a * v a b) 8) 8 = dot (fun a => f p a * dot (fun b => g q b * v a b) 8) 8
  have e1 : (fun b => g q b * dot (fun a => f p a * v a b) 8) = fun b => dot (fun a => g q b * (f p a * v a b)) 8 := by funext b; rw [dot_mul]
  have e2 : (fun a => f p a * dot (fun b => g q b * v a b) 8) = fun a => dot (fun b => f p a * (g q b * v a b)) 8 := by funext b; rw [dot_mul]
  rw [e1, e2, dot_swap]
  refine dot_congr 8 (fun a _ => dot_congr 8 (fun b _ => ?_))
  rw [← Int.mul_assoc, ← Int.mul_assoc, Int.mul_comm (g q b)]
theorem L_delta {f : Nat → Nat → Int} {S : Int} (hf : ∀ p c, p < 8 → c < 8 → f p c = if p = c then S else 0) (v : Nat → Nat → Int) (p q : Nat) (hp : p < 8) : Lf f v p q = S * v p q := by
  unfold Lf
  rw [dot_congr 8 (g := fun c => (if p = c then S else 0) * v c q) (fun c hc => by rw [hf p c hp hc])]
  rw [dot_delta S (fun c => v c q), if_pos hp]
theorem R_delta {f : Nat → Nat → Int} {S : Int} (hf : ∀ p c, p < 8 → c < 8 → f p c = if p = c then S else 0) (v : Nat → Nat → Int) (p q : Nat) (hq : q < 8) : Rg f v p q = S * v p q := by
  unfold Rg
  rw [dot_congr 8 (g := fun c => (if q = c then S else 0) * v p c) (fun c hc => by rw [hf q c hq hc])]
  rw [dot_delta S (fun c => v p c), if_pos hq]
theorem L_congr {f v v' : Nat → Nat → Int} (h : ∀ a b, a < 8 → b < 8 → v a b = v' a b) (p q : Nat) (hq : q < 8) : Lf f v p q = Lf f v' p q := dot_congr 8 (fun a ha => by rw [h a q ha hq])
theorem R_congr {f v v' : Nat → Nat → Int} (h : ∀ a b, a < 8 → b < 8 → v a b = v' a b) (p q : Nat) (hp : p < 8) : Rg f v p q = Rg f v' p q := dot_congr 8 (fun b hb => by rw [h p b hp hb])

def tmT (p a : Nat) : Int := tm a p
def all8 (P : Nat → Nat → Bool) : Bool := (List.range 8).all fun p => (List.range 8).all fun c => P p c
theorem of_all8 {P : Nat → Nat → Bool} (h : all8 P = true) (p c : Nat) (hp : p < 8) (hc : c < 8) : P p c = true := by
  unfold all8 at h
  rw [List.all_eq_true] at h
  have := h p (List.mem_range.2 hp)
  rw [List.all_eq_true] at this
  exact this c (List.mem_range.2 hc)
theorem ortho1 : ∀ p c, p < 8 → c < 8 → Cp tmT mt p c = if p = c then 739840 else 0 := by
  intro p c hp hc
  have h : all8 (fun p c => decide (Cp tmT mt p c = if p = c then 739840 else 0)) = true := by decide +kernel
  exact of_decide_eq_true (of_all8 h p c hp hc)
theorem ortho2 : ∀ p c, p < 8 → c < 8 → Cp mt tmT p c = if p = c then 739840 else 0 := by
  intro p c hp hc
  have h : all8 (fun p c => decide (Cp mt tmT p c = if p = c then 739840 else 0)) = true := by decide +kernel
  exact of_decide_eq_true (of_all8 h p c hp hc)

/-- the numbers of a list as a matrix -/
def mx (xs : List Int) : Nat → Nat → Int := fun a b => xs.getD (8 * a + b) 0
def mc (ys : List Int) : Nat → Nat → Int := fun a b => cl (ys.getD (8 * a + b) 0)
theorem Y1_mx (xs : List Int) (i j : Nat) (hj : j < 8) : Y1 xs (8 * i + j) = Lf mt (Rg mt (mx xs)) i j := by
  unfold Y1
  refine dot_congr 8 (fun k _ => ?_)
  show mt ((8 * i + j) / 8) k * R1 xs (8 * k + (8 * i + j) % 8) = mt i k * dot (fun b => mt j b * xs.getD (8 * k + b) 0) 8
  rw [show (8 * i + j) / 8 = i by omega, show (8 * i + j) % 8 = j by omega]
  congr 1
  unfold R1
  refine dot_congr 8 (fun l _ => ?_)
  unfold t1
  rw [show (8 * k + j) % 8 = j by omega, show (8 * k + j) / 8 = k by omega]
theorem S2_mc (ys : List Int) (k l : Nat) (hl : l < 8) : S2 ys (8 * k + l) = Lf tmT (Rg tmT (mc ys)) k l := by
  unfold S2
  refine dot_congr 8 (fun i _ => ?_)
  show tm i ((8 * k + l) / 8) * R2 ys (8 * i + (8 * k + l) % 8) = tm i k * dot (fun b => tm b l * cl (ys.getD (8 * i + b) 0)) 8
  rw [show (8 * k + l) / 8 = k by omega, show (8 * k + l) % 8 = l by omega]
  congr 1
  unfold R2
  refine dot_congr 8 (fun j _ => ?_)
  unfold s1
  rw [show (8 * i + l) % 8 = l by omega, show (8 * i + l) / 8 = i by omega]
theorem fwd_at (xs : List Int) (n : Nat) (hn : n < 64) : (fwd xs).getD n 0 = Y1 xs n := tab_getD _ _ _ hn
theorem inv_at (xs : List Int) (n : Nat) (hn : n < 64) : (inv xs).getD n 0 = X2 xs n := tab_getD _ _ _ hn
theorem fwd_length (xs : List Int) : (fwd xs).length = 64 := tab_length _ _
theorem inv_length (xs : List Int) : (inv xs).length = 64 := tab_length _ _

/-- the sum of the absolute values of a row -/
def rs (i : Nat) : Int := dot (fun k => max (mt i k) (-(mt i k))) 8
theorem rs_le : ∀ i, i < 8 → 0 ≤ rs i ∧ rs i ≤ 64 := by
  intro i hi
  have h : all8 (fun p _ => decide (0 ≤ rs p ∧ rs p ≤ 64)) = true := by decide +kernel
  exact of_decide_eq_true (of_all8 h i 0 hi (by omega))
theorem mul_abs (a v m : Int) (hv : -m ≤ v ∧ v ≤ m) : -(max a (-a) * m) ≤ a * v ∧ a * v ≤ max a (-a) * m := by
  have h1 : (a * v).natAbs ≤ (max a (-a) * m).natAbs := by
    rw [Int.natAbs_mul, Int.natAbs_mul]
    exact Nat.mul_le_mul (by omega) (by omega)
  have h2 : 0 ≤ max a (-a) * m := Int.mul_nonneg (by omega) (by omega)
  omega
theorem dot_abs (a v : Nat → Int) (m : Int) (n : Nat) (hv : ∀ i, i < n → -m ≤ v i ∧ v i ≤ m) : -(dot (fun k => max (a k) (-(a k))) n * m) ≤ dot (fun i => a i * v i) n ∧ dot (fun i => a i * v i) n ≤ dot (fun k => max (a k) (-(a k))) n * m := by
  induction n with
  | zero => simp [dot]
  | succ n ih =>
    have h1 := ih (fun i hi => hv i (by omega))
    have h2 := mul_abs (a n) (v n) m (hv n (by omega))
    simp only [dot]
    rw [Int.add_mul]
    omega
theorem LR_abs (v : Nat → Nat → Int) (m : Int) (hm : 0 ≤ m) (hv : ∀ a b, a < 8 → b < 8 → -m ≤ v a b ∧ v a b ≤ m) (i j : Nat) (hj : j < 8) : -(rs i * (rs j * m)) ≤ Lf mt (Rg mt v) i j ∧ Lf mt (Rg mt v) i j ≤ rs i * (rs j * m) :=
  dot_abs (mt i) (fun a => Rg mt v a j) (rs j * m) 8 (fun a ha => dot_abs (mt j) (fun b => v a b) m 8 (fun b hb => hv a b ha hb))
theorem fwd_bound {xs : List Int} (h : Lim 255 xs) : Lim 1044480 (fwd xs) := by
  intro n hn
  rw [fwd_at _ _ hn, show n = 8 * (n / 8) + n % 8 by omega, Y1_mx _ _ _ (by omega)]
  have h1 := LR_abs (mx xs) 255 (by omega) (fun a b ha hb => h (8 * a + b) (by omega)) (n / 8) (n % 8) (by omega)
  have h2 := rs_le (n / 8) (by omega)
  have h3 := rs_le (n % 8) (by omega)
  have h4 : rs (n / 8) * (rs (n % 8) * 255) ≤ 64 * (64 * 255) := Int.mul_le_mul h2.2 (by omega) (by omega) (by omega)
  omega

theorem list_ext64 {xs ys : List Int} (hx : xs.length = 64) (hy : ys.length = 64) (h : ∀ n, n < 64 → xs.getD n 0 = ys.getD n 0) : xs = ys := by
  rw [← tab_self xs 64 hx, ← tab_self ys 64 hy]
  exact tab_congr h

/-- Inverse undoes Forward -/
theorem inv_fwd {xs : List Int} (hl : xs.length = 64) (h : Lim 255 xs) : inv (fwd xs) = xs := by
  refine list_ext64 (inv_length _) hl fun n hn => ?_
  rw [inv_at _ _ hn]
  have hb := fwd_bound h
  have e : S2 (fwd xs) n = 547363225600 * xs.getD n 0 := by
    have hn8 : n = 8 * (n / 8) + n % 8 := by omega
    rw [hn8, S2_mc _ _ _ (by omega)]
    generalize hp : n / 8 = p
    generalize hq : n % 8 = q
    have hp8 : p < 8 := by omega
    have hq8 : q < 8 := by omega
    have e1 : ∀ a b, a < 8 → b < 8 → mc (fwd xs) a b = Lf mt (Rg mt (mx xs)) a b := by
      intro a b ha hb'
      unfold mc
      have := hb (8 * a + b) (by omega)
      rw [show cl ((fwd xs).getD (8 * a + b) 0) = (fwd xs).getD (8 * a + b) 0 by unfold cl; omega, fwd_at _ _ (by omega), Y1_mx _ _ _ hb']
    have e2 : Lf tmT (Rg tmT (mc (fwd xs))) p q = Lf tmT (Rg tmT (Lf mt (Rg mt (mx xs)))) p q := L_congr (fun a b ha hb' => R_congr e1 a b ha) p q hq8
    rw [e2, R_L, L_L, R_R, L_delta ortho1 _ p q hp8, R_delta ortho1 _ p q hq8]
    unfold mx
    omega
  unfold X2
  rw [e]
  omega

/-- Forward is linear -/
theorem Y1_add (xs ys zs : List Int) (h : ∀ n, n < 64 → zs.getD n 0 = xs.getD n 0 + ys.getD n 0) (n : Nat) (hn : n < 64) : Y1 zs n = Y1 xs n + Y1 ys n := by
  unfold Y1
  rw [← dot_add]
  refine dot_congr 8 (fun k hk => ?_)
  unfold t2
  rw [← Int.mul_add]
  congr 1
  unfold R1
  rw [← dot_add]
  refine dot_congr 8 (fun l hl => ?_)
  unfold t1
  rw [← Int.mul_add, h _ (by omega)]

/-- rows and columns exchanged -/
def tr (xs : List Int) : List Int := tab 64 (fun n => xs.getD (8 * (n % 8) + n / 8) 0)
theorem tr_length (xs : List Int) : (tr xs).length = 64 := tab_length _ _
theorem tr_at (xs : List Int) (a b : Nat) (ha : a < 8) (hb : b < 8) : (tr xs).getD (8 * a + b) 0 = xs.getD (8 * b + a) 0 := by
  unfold tr
  rw [tab_getD _ _ _ (by omega), show (8 * a + b) % 8 = b by omega, show (8 * a + b) / 8 = a by omega]
theorem LR_tr (f : Nat → Nat → Int) (v v' : Nat → Nat → Int) (h : ∀ a b, a < 8 → b < 8 → v' a b = v b a) (p q : Nat) (hp : p < 8) (hq : q < 8) : Lf f (Rg f v') p q = Lf f (Rg f v) q p := by
  have h1 : Lf f (Rg f v') p q = dot (fun a => f p a * dot (fun b => f q b * v b a) 8) 8 := dot_congr 8 (fun a ha => by
    congr 1
    exact dot_congr 8 (fun b hb => by rw [h a b ha hb]))
  rw [h1]
  show Rg f (Lf f v) q p = _
  rw [R_L]
theorem Y1_tr (xs : List Int) (a b : Nat) (ha : a < 8) (hb : b < 8) : Y1 (tr xs) (8 * a + b) = Y1 xs (8 * b + a) := by
  rw [Y1_mx _ _ _ hb, Y1_mx _ _ _ ha]
  exact LR_tr mt (mx xs) (mx (tr xs)) (fun a b ha hb => tr_at xs a b ha hb) a b ha hb
theorem X2_tr (xs : List Int) (a b : Nat) (ha : a < 8) (hb : b < 8) : X2 (tr xs) (8 * a + b) = X2 xs (8 * b + a) := by
  unfold X2
  rw [S2_mc _ _ _ hb, S2_mc _ _ _ ha, LR_tr tmT (mc xs) (mc (tr xs)) (fun a b ha hb => by unfold mc; rw [tr_at xs a b ha hb]) a b ha hb]
theorem lim_tr {m : Int} {xs : List Int} : Lim m (tr xs) ↔ Lim m xs := by
  constructor
  · intro h n hn
    have := h (8 * (n % 8) + n / 8) (by omega)
    rw [tr_at _ _ _ (by omega) (by omega), show 8 * (n / 8) + n % 8 = n by omega] at this
    exact this
  · intro h n hn
    rw [show n = 8 * (n / 8) + n % 8 by omega, tr_at _ _ _ (by omega) (by omega)]
    exact h _ (by omega)

/-- Inverse sees clamped numbers alone -/
theorem inv_cl {xs ys : List Int} (h : ∀ n, n < 64 → cl (ys.getD n 0) = cl (xs.getD n 0)) : inv ys = inv xs := by
  refine tab_congr fun n hn => ?_
  unfold X2 S2
  congr 2
  congr 1
  refine dot_congr 8 (fun i hi => ?_)
  unfold s2
  congr 1
  unfold R2
  refine dot_congr 8 (fun j hj => ?_)
  unfold s1
  rw [h _ (by omega)]

/-- Inverse returns the nearest block -/
theorem near {ys : List Int} (hy : Lim 2097152 ys) (n : Nat) (hn : n < 64) :
    2 * ((fwd (inv ys)).getD n 0 - ys.getD n 0) ≤ rs (n / 8) * rs (n % 8) ∧ 2 * (ys.getD n 0 - (fwd (inv ys)).getD n 0) ≤ rs (n / 8) * rs (n % 8) := by
  rw [fwd_at _ _ hn]
  have hn8 : n = 8 * (n / 8) + n % 8 := by omega
  have hy1 : Y1 (inv ys) n = Lf mt (Rg mt (mx (inv ys))) (n / 8) (n % 8) := by
    conv => lhs; rw [hn8]
    exact Y1_mx _ _ _ (by omega)
  have hyn : ys.getD n 0 = mx ys (n / 8) (n % 8) := by unfold mx; rw [← hn8]
  rw [hy1, hyn]
  generalize hp : n / 8 = p
  generalize hq : n % 8 = q
  have hp8 : p < 8 := by omega
  have hq8 : q < 8 := by omega
  -- the sum of which Inverse takes the nearest number
  let s : Nat → Nat → Int := Lf tmT (Rg tmT (mc ys))
  have hs : Lf mt (Rg mt s) p q = 547363225600 * mx ys p q := by
    show Lf mt (Rg mt (Lf tmT (Rg tmT (mc ys)))) p q = _
    rw [R_L, L_L, R_R, L_delta ortho2 _ p q hp8, R_delta ortho2 _ p q hq8]
    have := hy (8 * p + q) (by omega)
    unfold mc mx
    rw [show cl (ys.getD (8 * p + q) 0) = ys.getD (8 * p + q) 0 by unfold cl; omega]
    omega
  have hd : ∀ a b, a < 8 → b < 8 → -547363225600 ≤ 1094726451200 * mx (inv ys) a b + -2 * s a b ∧ 1094726451200 * mx (inv ys) a b + -2 * s a b ≤ 547363225600 := by
    intro a b ha hb
    unfold mx
    rw [inv_at _ _ (by omega)]
    have : S2 ys (8 * a + b) = s a b := S2_mc _ _ _ hb
    unfold X2
    rw [this]
    omega
  have h1 := LR_abs (fun a b => 1094726451200 * mx (inv ys) a b + -2 * s a b) 547363225600 (by omega) hd p q hq8
  have e : Lf mt (Rg mt (fun a b => 1094726451200 * mx (inv ys) a b + -2 * s a b)) p q = 1094726451200 * Lf mt (Rg mt (mx (inv ys))) p q + -2 * Lf mt (Rg mt s) p q := by
    have e1 : ∀ a b, Rg mt (fun a b => 1094726451200 * mx (inv ys) a b + -2 * s a b) a b = 1094726451200 * Rg mt (mx (inv ys)) a b + -2 * Rg mt s a b := by
      intro a b
      unfold Rg
      rw [← dot_mul, ← dot_mul, ← dot_add]
      refine dot_congr 8 (fun c _ => ?_)
      rw [Int.mul_add, ← Int.mul_assoc, ← Int.mul_assoc, Int.mul_comm (mt b c), Int.mul_comm (mt b c) (-2), Int.mul_assoc, Int.mul_assoc]
    unfold Lf
    rw [← dot_mul, ← dot_mul, ← dot_add]
    refine dot_congr 8 (fun c _ => ?_)
    rw [e1, Int.mul_add, ← Int.mul_assoc, ← Int.mul_assoc, Int.mul_comm (mt p c), Int.mul_comm (mt p c) (-2), Int.mul_assoc, Int.mul_assoc]
  rw [e, hs] at h1
  have h3 : rs p * (rs q * 547363225600) = 547363225600 * (rs p * rs q) := by rw [← Int.mul_assoc, Int.mul_comm]
  rw [h3] at h1
  generalize rs p * rs q = R at *
  generalize Lf mt (Rg mt (mx (inv ys))) p q = Z at *
  generalize mx ys p q = Y at *
  omega

/-! the energy -/
theorem dot_8 (f : Nat → Int) (n : Nat) : dot f (n + 8) = dot f n + dot (fun j => f (n + j)) 8 := by
  simp only [dot, Nat.add_zero]
  omega
theorem dot_dd (f : Nat → Int) (m : Nat) : dot f (8 * m) = dot (fun i => dot (fun j => f (8 * i + j)) 8) m := by
  induction m with
  | zero => rfl
  | succ m ih => rw [show 8 * (m + 1) = 8 * m + 8 by omega, dot_8, ih]; rfl
def dd (f : Nat → Nat → Int) : Int := dot (fun a => dot (fun b => f a b) 8) 8
theorem dd_congr {f g : Nat → Nat → Int} (h : ∀ a b, a < 8 → b < 8 → f a b = g a b) : dd f = dd g := dot_congr 8 (fun a ha => dot_congr 8 (fun b hb => h a b ha hb))
def fT (f : Nat → Nat → Int) : Nat → Nat → Int := fun a p => f p a
theorem dd_L (f x y : Nat → Nat → Int) : dd (fun i j => Lf f x i j * y i j) = dd (fun a j => x a j * Lf (fT f) y a j) := by
  unfold dd
  rw [dot_swap, dot_swap (fun a j => x a j * Lf (fT f) y a j)]
  refine dot_congr 8 (fun j _ => ?_)
  have e1 : (fun i => Lf f x i j * y i j) = fun i => dot (fun a => x a j * (f i a * y i j)) 8 := by
    funext i
    unfold Lf
    rw [← dot_mulr]
    exact dot_congr 8 (fun a _ => by rw [Int.mul_comm (f i a), Int.mul_assoc])
  have e2 : (fun a => x a j * Lf (fT f) y a j) = fun a => dot (fun i => x a j * (f i a * y i j)) 8 := by
    funext a
    unfold Lf
    rw [← dot_mul]; rfl
  rw [e1, e2, dot_swap]
theorem dd_R (g x y : Nat → Nat → Int) : dd (fun i j => Rg g x i j * y i j) = dd (fun i b => x i b * Rg (fT g) y i b) := by
  unfold dd
  refine dot_congr 8 (fun i _ => ?_)
  have e1 : (fun j => Rg g x i j * y i j) = fun j => dot (fun b => x i b * (g j b * y i j)) 8 := by
    funext j
    unfold Rg
    rw [← dot_mulr]
    exact dot_congr 8 (fun a _ => by rw [Int.mul_comm (g j a), Int.mul_assoc])
  have e2 : (fun b => x i b * Rg (fT g) y i b) = fun b => dot (fun j => x i b * (g j b * y i j)) 8 := by
    funext b
    unfold Rg
    rw [← dot_mul]; rfl
  rw [e1, e2, dot_swap]
theorem nrm_quo (i : Nat) (h : i < 8) : Int.tdiv 739840 (nrm i) = sc i := by
  have h2 : all8 (fun p _ => decide (Int.tdiv 739840 (nrm p) = sc p)) = true := by decide +kernel
  exact of_decide_eq_true (of_all8 h2 i 0 h (by omega))
theorem energy (xs : List Int) : dot (fun n => Y1 xs n * Y1 xs n * sc (n / 8) * sc (n % 8)) 64 = dot (fun n => xs.getD n 0 * xs.getD n 0) 64 * 739840 * 739840 := by
  rw [show (64 : Nat) = 8 * 8 from rfl, dot_dd, dot_dd]
  show dd (fun i j => Y1 xs (8 * i + j) * Y1 xs (8 * i + j) * sc ((8 * i + j) / 8) * sc ((8 * i + j) % 8)) = dd (fun i j => xs.getD (8 * i + j) 0 * xs.getD (8 * i + j) 0) * 739840 * 739840
  let y : Nat → Nat → Int := Lf mt (Rg mt (mx xs))
  have e1 : dd (fun i j => Y1 xs (8 * i + j) * Y1 xs (8 * i + j) * sc ((8 * i + j) / 8) * sc ((8 * i + j) % 8)) = dd (fun i j => Lf mt (Rg mt (mx xs)) i j * (y i j * sc i * sc j)) := by
    refine dd_congr fun i j hi hj => ?_
    rw [Y1_mx _ _ _ hj, show (8 * i + j) / 8 = i by omega, show (8 * i + j) % 8 = j by omega]
    show _ * y i j * sc i * sc j = _
    rw [Int.mul_assoc, Int.mul_assoc, Int.mul_assoc]
  rw [e1, dd_L, dd_R]
  have e2 : ∀ a b, a < 8 → b < 8 → Rg (fT mt) (Lf (fT mt) (fun i j => y i j * sc i * sc j)) a b = 547363225600 * mx xs a b := by
    intro a b ha hb
    have e3 : Rg (fT mt) (Lf (fT mt) (fun i j => y i j * sc i * sc j)) a b = Rg tmT (Lf tmT y) a b := by
      rw [R_L, R_L]
      refine dot_congr 8 (fun i hi => ?_)
      show mt i a * dot (fun j => mt j b * (y i j * sc i * sc j)) 8 = mt i a * sc i * dot (fun j => mt j b * sc j * y i j) 8
      rw [Int.mul_assoc]
      congr 1
      rw [← dot_mul]
      refine dot_congr 8 (fun j hj => ?_)
      generalize y i j = Y
      generalize sc i = A
      generalize sc j = B
      generalize mt j b = C
      simp only [Int.mul_assoc, Int.mul_comm, Int.mul_left_comm]
    rw [e3]
    show Rg tmT (Lf tmT (Lf mt (Rg mt (mx xs)))) a b = _
    rw [L_L, R_L, R_R, L_delta ortho1 _ a b ha, R_delta ortho1 _ a b hb]
    omega
  rw [dd_congr (g := fun a b => 547363225600 * (xs.getD (8 * a + b) 0 * xs.getD (8 * a + b) 0)) (fun a b ha hb => by
    show mx xs a b * _ = _
    rw [e2 a b ha hb]
    unfold mx
    rw [← Int.mul_assoc, Int.mul_comm _ 547363225600, Int.mul_assoc])]
  unfold dd
  have e4 : (fun a => dot (fun b => 547363225600 * (xs.getD (8 * a + b) 0 * xs.getD (8 * a + b) 0)) 8) = fun a => 547363225600 * dot (fun b => xs.getD (8 * a + b) 0 * xs.getD (8 * a + b) 0) 8 := by
    funext a; rw [dot_mul]
  rw [e4, dot_mul]
  show _ = dot (fun a => dot (fun b => xs.getD (8 * a + b) 0 * xs.getD (8 * a + b) 0) 8) 8 * 739840 * 739840
  omega
theorem Lim.up {m m' : Int} {xs : List Int} (h : Lim m xs) (hm : m ≤ m') : Lim m' xs := fun n hn => by have := h n hn; omega
end Go.Proofs.Ytjclncmpfdfkfaa
