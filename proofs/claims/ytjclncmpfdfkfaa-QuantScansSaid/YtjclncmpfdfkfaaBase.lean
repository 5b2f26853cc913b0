/-
  The words that the walks of this seat share: what a call keeps of the memory that was there, rows of bytes and numbers that are owned, and an append that tells where its row lies.
-/
import Derived.WalkKit
import Derived.WalkSpells
import Derived.WalkLawsBesides
import Derived.Handy
import Derived.Deep.LoopGhost
import Derived.Deep.QuietTactic
import Derived.BigQuiet
import Derived.BigRegion
import Derived.Lib.Hide
import Derived.Deep.RegionWith
import Derived.Deep.RegionHeld3
import Derived.Deep.RegionLaw
import Derived.Deep.AppendLies
namespace Go.Proofs.Ytjclncmpfdfkfaa
open Go.RowKit

/-- w' is w but for the blocks of S and for what is new. -/
structure Keep (S : Nat → Prop) (w w' : World) : Prop where
  os : w'.os = w.os
  tape : w'.tape = w.tape
  output : w'.output = w.output
  size : w.heap.size ≤ w'.heap.size
  block : ∀ k, k < w.heap.size → ¬ S k → w'.heap[k]? = w.heap[k]?

namespace Keep
variable {S T : Nat → Prop} {a b c w w' : World}
theorem refl (S : Nat → Prop) (w : World) : Keep S w w := ⟨rfl, rfl, rfl, Nat.le_refl _, fun _ _ _ => rfl⟩
/-- one behind the other: what the second one turns is among S, or new -/
theorem trans (h : Keep S a b) (k : Keep T b c) (hs : ∀ i, T i → S i ∨ a.heap.size ≤ i) : Keep S a c :=
  ⟨k.os.trans h.os, k.tape.trans h.tape, k.output.trans h.output, Nat.le_trans h.size k.size, fun i hi hn =>
    (k.block i (Nat.lt_of_lt_of_le hi h.size) (fun ht => (hs i ht).elim hn (fun h1 => by omega))).trans (h.block i hi hn)⟩
theorem mono (h : Keep S a b) (hs : ∀ i, i < a.heap.size → S i → T i) : Keep T a b := ⟨h.os, h.tape, h.output, h.size, fun i hi hn => h.block i hi (fun hk => hn (hs i hi hk))⟩
theorem of_below (h : Below a.heap.size a b) : Keep (fun _ => False) a b := ⟨h.os, h.tape, h.output, h.size, fun i hi _ => h.block i hi⟩
theorem of_belowS (h : Below a.heap.size a b) (S : Nat → Prop) : Keep S a b := ⟨h.os, h.tape, h.output, h.size, fun i hi _ => h.block i hi⟩
theorem below {B : Nat} (h : Keep S a b) (hB : B ≤ a.heap.size) (hs : ∀ i, i < B → ¬ S i) : Below B a b := ⟨h.os, h.tape, h.output, h.size, fun i hi => h.block i (by omega) (hs i hi)⟩
theorem grown {row : Option Nat} (h : Keep S a b) (hg : b.grownBy c row) (hr : ∀ i, row = some i → S i ∨ a.heap.size ≤ i) : Keep S a c :=
  h.trans (T := fun i => row = some i) ⟨hg.os, hg.tape, hg.output, hg.size, fun i hi hn => hg.block i hi (fun e => hn e.symm)⟩ hr
theorem then_below (h : Keep S a b) (k : Below b.heap.size b c) : Keep S a c := h.trans (of_below k) (fun _ hf => hf.elim)
theorem alloc (h : Keep S a b) (o : Obj) : Keep S a (b.alloc o) := h.then_below ((Below.refl _ _).alloc (Nat.le_refl _) o)
theorem drew (h : Keep S a b) : Keep S a b.drew := ⟨h.os, h.tape, h.output, h.size, h.block⟩
theorem drewN (h : Keep S a b) (n : Nat) : Keep S a (b.drewN n) := ⟨h.os, h.tape, h.output, h.size, h.block⟩
theorem of_drew (h : Keep S a.drew b) : Keep S a b := ⟨h.os, h.tape, h.output, h.size, h.block⟩
theorem of_drewN {n : Nat} (h : Keep S (a.drewN n) b) : Keep S a b := ⟨h.os, h.tape, h.output, h.size, h.block⟩
theorem setCell (h : Keep S a b) {p : Addr} (hp : S p.block ∨ a.heap.size ≤ p.block) (u : Value) : Keep S a (b.setCell p u) :=
  h.trans (T := fun i => i = p.block) ⟨rfl, rfl, rfl, by simp [World.setCell], fun i _ hn => Below.heap_setCell _ _ _ _ hn⟩ (fun i hi => by subst hi; exact hp)
theorem heap {k : Nat} {o : Obj} (h : Keep S a b) (hk : a.heap[k]? = some o) (hn : ¬ S k) : b.heap[k]? = some o :=
  (h.block k (Array.getElem?_eq_some_iff.1 hk).1 hn).trans hk
theorem cell {p : Addr} {v : Value} (h : Keep S a b) (hk : a.cell? p = some v) (hn : ¬ S p.block) : b.cell? p = some v :=
  (World.cell?_of_block (h.block p.block (World.block_lt_of_cell? _ _ hk) hn)).trans hk
theorem frozen {p : Addr} (h : Keep S a b) (hl : p.block < a.heap.size) (hn : ¬ S p.block) : b.frozen? p = a.frozen? p :=
  World.frozen?_of_block (h.block p.block hl hn)
end Keep

theorem quiet_same {P : Program} {f : FuncId} {args : Array Value} {w : World} {n : Nat} {v : Value}
    (h : Calls P f args (w.drewN n) fun e w' => e = .returned v ∧ w.drewN n = w') : Calls P f args (w.drewN n) fun e w'' => e = .returned v ∧ ∃ m, w'' = w.drewN m :=
  h.mono fun _ _ ⟨he, hm⟩ => ⟨he, n, hm.symm⟩

theorem heap_lt {w : World} {k : Nat} {o : Obj} (h : w.heap[k]? = some o) : k < w.heap.size := (Array.getElem?_eq_some_iff.1 h).1

/-- an owned row is still owned where its block was kept -/
theorem own_keep {S : Nat → Prop} {w w' : World} {base e size n : Nat} {v : Value} {xs : List Value} (h : w.ownsRow base e size v n xs) (hk : Keep S w w') (hn : ∀ k, v.ownBlock = some k → ¬ S k) : w'.ownsRow base e size v n xs := by
  refine ⟨h.1, ?_⟩
  rcases h.2 with h2 | ⟨g, cap, cur, hv, hg, hh, r⟩
  · exact .inl h2
  · exact .inr ⟨g, cap, cur, hv, hg, hk.heap hh (hn g (by rw [hv]; rfl)), r⟩

theorem own_lt {w : World} {base e size n : Nat} {v : Value} {xs : List Value} (h : w.ownsRow base e size v n xs) {k : Nat} (hk : v.ownBlock = some k) : k < w.heap.size := (h.lt k hk).2

theorem own_base {w : World} {base base' e size n : Nat} {v : Value} {xs : List Value} (h : w.ownsRow base e size v n xs) (hb : ∀ k, v.ownBlock = some k → base' ≤ k) : w.ownsRow base' e size v n xs := by
  refine ⟨h.1, ?_⟩
  rcases h.2 with h2 | ⟨g, cap, cur, hv, hg, r⟩
  · exact .inl h2
  · exact .inr ⟨g, cap, cur, hv, hb g (by rw [hv]; rfl), r⟩

theorem own_len {w : World} {base e n : Nat} {v : Value} {xs : List Value} (h : w.ownsRow base e 1 v n xs) : xs.length = n := by have := h.1; omega

/-- the shape of an owned value -/
theorem own_shape {w : World} {base e size n : Nat} {v : Value} {xs : List Value} (h : w.ownsRow base e size v n xs) : ∃ A cap, v = .slice A n cap ∧ n ≤ cap ∧ (∀ a, A = some a → a.off = 0 ∧ a.spot = none) := by
  rcases h.2 with ⟨rfl, rfl⟩ | ⟨g, cap, cur, rfl, _, _, hc, _⟩
  · exact ⟨none, 0, rfl, Nat.le_refl _, fun a h => by cases h⟩
  · exact ⟨some ⟨g, 0, none⟩, cap, rfl, hc, fun a h => by cases h; exact ⟨rfl, rfl⟩⟩

/-- an append of m elements: where the new value lies, what it looks like -/
def AppBlk (w : World) (v v' : Value) : Prop := v'.ownBlock = v.ownBlock ∨ v'.ownBlock = some w.heap.size
def AppShape (m k : Nat) (v' : Value) : Prop := 0 < m → ∃ g cap, v' = .slice (some ⟨g, 0, none⟩) k cap

section
variable {P : Program} (w : World)
/-- append onto an owned row: it is owned, and lies where it lay or in a new block -/
theorem run_append_mine (t ty e : TypeId) (i : TypeInfo) (z : Value) (size bytes : Nat) (ht : P.underlying t = some (.slice e)) (hi : P.info? e = some i) (hz : i.zero = some z)
    (hsize : i.size = size) (hby : i.bytes = bytes) (hzs : z.cells.size = size) (hsz : 0 < size)
    (v : Value) (n : Nat) (xs : List Value) (hown : w.ownsRow 0 e size v n xs)
    (a : Addr) (m c : Nat) (news : List Value) (hl : news.length = m * size) (hnews : ∀ j u, news[j]? = some u → w.cell? (a.add j) = some u) (h1 : ∀ u ∈ news, u.oneCell' = true)
    (h63 : n + m ≤ maxLen) (hbytes : (n + m) * bytes ≤ 140737488355328) :
    ∃ v' w', (Builtin.append_ #[t, t] ty #[v, .slice (some a) m c]).run P w = .ok v' w' ∧ w'.ownsRow 0 e size v' (n + m) (xs ++ news) ∧ w.grownBy w' v.ownBlock ∧
      AppBlk w v v' ∧ AppShape m (n + m) v' := by
  obtain ⟨v', w', hr, h2, h3, h4⟩ := run_append_own (P := P) w 0 t ty e i z size bytes ht hi hz hsize hby hzs hsz v n xs hown a m c news hl hnews h1 h63 hbytes (Nat.zero_le _)
  refine ⟨v', w', hr, h2, h3, ?_, ?_⟩
  · unfold AppBlk
    subst hsize; subst hby
    have hsmall : n + m ≤ 9223372036854775807 := by simp only [maxLen] at h63; omega
    rcases hown.2 with ⟨rfl, rfl⟩ | ⟨g, cap, cur, rfl, hbg, hg, hnc, hcm, hcs, htake⟩
    · by_cases hm : m = 0
      · left; rw [h4.2 ⟨rfl, hm⟩]
      · right
        have hr2 := run_append_nil (P := P) w t ty e i z ht hi hz a m c news hl hnews (by omega) (by omega) (by have hb := hbytes; simp only [Nat.zero_add] at hb; omega)
        rw [hr2] at hr
        injection hr with hr _
        rw [← hr]; rfl
    · by_cases hroom : n + m ≤ cap
      · left
        have hfit : n * i.size + news.length ≤ cur.size := by rw [hl, hcs, ← Nat.add_mul]; exact Nat.mul_le_mul_right _ hroom
        have hr2 := run_append_room (P := P) w t ty e i ht hi g n cap cur hg a m c news hl hnews h1 hroom hfit
        rw [hr2] at hr
        injection hr with hr _
        rw [← hr]; rfl
      · right
        have holds : ∀ j u, xs[j]? = some u → w.cell? ((⟨g, 0, none⟩ : Addr).add j) = some u := hown.cells (g := g) rfl
        have hr2 := run_append_grow (P := P) w t ty e i z ht hi hz ⟨g, 0, none⟩ n cap xs hown.1 holds a m c news hl hnews (by omega) (by omega) (growslice_fits (by omega) hbytes)
        rw [hr2] at hr
        injection hr with hr _
        rw [← hr]; rfl
  · intro hm
    rcases h2.2 with ⟨_, h⟩ | ⟨g, cap, _, h, _⟩
    · omega
    · exact ⟨g, cap, h⟩

theorem wpList_append_mine {ops : Array Oper} {rest : List Oper} {o : Oper} {a : Act} {Q : Exit → Act → World → Prop} (hgd : o.guard = none) (s x : Operand) (t : TypeId)
    (ho : o.op = .call { callee := .builtin .append, args := #[s, x], argTypes := #[t, t] })
    (e : TypeId) (i : TypeInfo) (z : Value) (size bytes : Nat) (ht : P.underlying t = some (.slice e)) (hi : P.info? e = some i) (hz : i.zero = some z)
    (hsize : i.size = size) (hby : i.bytes = bytes) (hzs : z.cells.size = size) (hsz : 0 < size)
    (v : Value) (n : Nat) (xs : List Value) (hs : a.eval s = v) (hown : w.ownsRow 0 e size v n xs)
    (ad : Addr) (m c : Nat) (news : List Value) (hx : a.eval x = .slice (some ad) m c) (hl : news.length = m * size) (hnews : ∀ j u, news[j]? = some u → w.cell? (ad.add j) = some u) (h1 : ∀ u ∈ news, u.oneCell' = true)
    (h63 : n + m ≤ maxLen) (hbytes : (n + m) * bytes ≤ 140737488355328)
    (h : ∀ v' w', w'.ownsRow 0 e size v' (n + m) (xs ++ news) → w.grownBy w' v.ownBlock → AppBlk w v v' → AppShape m (n + m) v' → wpList P ops Q rest (a.put o.dst v') w') : wpList P ops Q (o :: rest) a w :=
  wpList_plain hgd fun _ hK => by
    obtain ⟨v', w', hr, h2, h3, h4, h5⟩ := run_append_mine (P := P) w t o.type e i z size bytes ht hi hz hsize hby hzs hsz v n xs hown ad m c news hl hnews h1 h63 hbytes
    unfold Oper.wp execOp
    simp only [ho, resolve, invoke, builtin, Sem.run_bind, Sem.run_pure, Result.andThen_ok, List.map_toArray, List.map_cons, List.map_nil, hs, hx, hr]
    exact hK _ _ (h v' w' h2 h3 h4 h5)
end

theorem one_new {w : World} {u : Value} {e : Nat} : ∀ (j : Nat) (x : Value), [u][j]? = some x → (w.alloc (.cells #[u] e)).cell? ((⟨w.heap.size, 0, none⟩ : Addr).add j) = some x := by
  intro j x hj
  match j, hj with
  | 0, hj =>
    simp at hj; subst hj
    show (w.alloc (.cells #[u] e)).cell? ⟨w.heap.size, 0, none⟩ = _
    exact cell_of_row _ _ _ _ _ _ (heap_alloc_new w _)

theorem setCell_heap_at {w : World} {g : Nat} {cur : Array Value} {e : TypeId} {u : Value} (hg : w.heap[g]? = some (.cells cur e (0, 0))) (i : Nat) : (w.setCell ⟨g, i, none⟩ u).heap[g]? = some (.cells (cur.setIfInBounds i u) e (0, 0)) := by
  simp [World.setCell, Array.getElem?_modify, hg]

theorem frozen_of_row {w : World} {g : Nat} {cur : Array Value} {e : TypeId} (hg : w.heap[g]? = some (.cells cur e (0, 0))) (i : Nat) : w.frozen? ⟨g, i, none⟩ = false := by
  simp [World.frozen?, hg]

/-- one bit more is put into a byte -/
theorem or_bit (x b r : Nat) (hx : x < 256) (hr : r < 8) (hlow : x % 2 ^ (8 - r) = 0) (hb : b ≤ 1) : bits .or .u8 (x : Int) ((b : Int) * 2 ^ (7 - r) % 256) = ((x + b * 2 ^ (7 - r) : Nat) : Int) := by
  have h2 : b * 2 ^ (7 - r) < 2 ^ (8 - r) := by
    have : 2 ^ (8 - r) = 2 * 2 ^ (7 - r) := by rw [show 8 - r = (7 - r) + 1 by omega, Nat.pow_succ, Nat.mul_comm]
    have h3 : 0 < 2 ^ (7 - r) := Nat.pow_pos (by decide)
    have h4 : b * 2 ^ (7 - r) ≤ 1 * 2 ^ (7 - r) := Nat.mul_le_mul_right _ hb
    omega
  have h5 : 2 ^ (8 - r) ≤ 256 := Nat.pow_le_pow_right (n := 2) (by decide) (show 8 - r ≤ 8 by omega)
  have e : (b : Int) * 2 ^ (7 - r) % 256 = ((b * 2 ^ (7 - r) : Nat) : Int) := by
    rw [show ((b : Int) * 2 ^ (7 - r)) = ((b * 2 ^ (7 - r) : Nat) : Int) by rw [Int.natCast_mul, Int.natCast_pow]; rfl]
    generalize b * 2 ^ (7 - r) = q at *
    omega
  rw [e, u8_or_nat _ _ hx (by omega), nat_join (8 - r) _ _ hlow h2]

theorem or_one (x r : Nat) (hx : x < 256) (hr : r < 8) (hlow : x % 2 ^ (8 - r) = 0) : bits .or .u8 (x : Int) (2 ^ (7 - r) % 256) = ((x + 2 ^ (7 - r) : Nat) : Int) := by
  have := or_bit x 1 r hx hr hlow (Nat.le_refl _)
  rwa [Int.natCast_one, Int.one_mul, Nat.one_mul] at this

theorem and1_u8 (v : Int) (h0 : 0 ≤ v) (h1 : v < 256) : bits .and .u8 v 1 = v % 2 := by
  have h := u8_and v 1 h0 h1 (by decide) (by decide)
  rw [h]
  rw [show (1 : Int).toNat = 1 from rfl, Nat.and_one_is_mod]
  omega

/-- a bit is taken onto a number -/
theorem take_num (V x r : Nat) (hV : V < 2147483648) (hx : x < 256) : bits .or .u32 ((V : Int) * 2) (bits .and .u8 ((x : Int) / 2 ^ r) 1 % 4294967296) = ((2 * V + x / 2 ^ r % 2 : Nat) : Int) := by
  have e : ((x : Int) / 2 ^ r) = ((x / 2 ^ r : Nat) : Int) := by rw [Int.natCast_ediv, Int.natCast_pow]; rfl
  have hlt : x / 2 ^ r ≤ x := Nat.div_le_self _ _
  rw [e]
  generalize x / 2 ^ r = q at *
  rw [and1_u8 _ (by omega) (by omega)]
  rw [show ((q : Int) % 2 % 4294967296) = ((q % 2 : Nat) : Int) by omega, show ((V : Int) * 2) = ((2 * V : Nat) : Int) by omega]
  rw [u32_or_nat _ _ (by omega) (by omega), nat_join 1 _ _ (by omega) (by omega)]

theorem byte_bit (q : Nat) (h : q < 4294967296) : bits .and .u32 (q : Int) 1 % 256 = ((q % 2 : Nat) : Int) := by
  have h2 := u32_and q 1 (by omega) (by omega) (by decide) (by decide)
  rw [h2, show (1 : Int).toNat = 1 from rfl, Nat.and_one_is_mod]
  omega

theorem or_shr (x r : Nat) (hx : x < 256) (hr : r < 8) (hlow : x % 2 ^ (8 - r) = 0) : bits .or .u8 (x : Int) (128 / 2 ^ r) = ((x + 2 ^ (7 - r) : Nat) : Int) := by
  have h := or_one x r hx hr hlow
  have e : (128 : Int) / 2 ^ r = 2 ^ (7 - r) % 256 := by
    match r, hr with
    | 0, _ => rfl
    | 1, _ => rfl
    | 2, _ => rfl
    | 3, _ => rfl
    | 4, _ => rfl
    | 5, _ => rfl
    | 6, _ => rfl
    | 7, _ => rfl
  rw [e, h]

theorem made1 (z : Value) (n : Nat) : (madeCells #[z] n).toList = List.replicate n z := by
  refine List.eq_replicate_iff.2 ⟨by simp [madeCells], ?_⟩
  intro b hb
  simp only [madeCells, Array.toList_map, List.mem_map] at hb
  obtain ⟨x, _, rfl⟩ := hb
  simp [Nat.mod_one]

theorem take_num' (V b : Nat) (hV : V < 2147483648) (hb : b ≤ 1) : bits .or .u32 ((V : Int) * 2) (b : Int) = ((2 * V + b : Nat) : Int) := by
  rw [show ((V : Int) * 2) = ((2 * V : Nat) : Int) by omega]
  rw [u32_or_nat _ _ (by omega) (by omega), nat_join 1 _ _ (by omega) (by omega)]

theorem addr_add (b off j : Nat) : (⟨b, off, none⟩ : Addr).add j = ⟨b, off + j, none⟩ := by
  unfold Addr.add
  split
  · rename_i h; subst h; rfl
  · rfl

theorem and1_u32 (v : Int) (h0 : 0 ≤ v) (h1 : v < 4294967296) : bits .and .u32 v 1 = v % 2 := by
  have h := u32_and v 1 h0 h1 (by decide) (by decide)
  rw [h]
  rw [show (1 : Int).toNat = 1 from rfl, Nat.and_one_is_mod]
  omega

end Go.Proofs.Ytjclncmpfdfkfaa
