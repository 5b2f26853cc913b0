/- The walks of the reader of bits: NewReader, Take, Left, At. -/
import Derived.Test.YtmimljaniliecaaPay
import Derived.Test.YtmimljaniliecaaRow
namespace Go.Proofs.Ytmimljaniliecaa
open Go.RowKit Bt

/-- A reader at block g: its slice v of the payload p, the end mark at bit en, at: the bits taken. -/
def IsRv (w : World) (S : Nat → Prop) (g : Nat) (v : Value) (p : List Nat) (en at_ : Nat) : Prop :=
  w.heap[g]? = some (.cells #[v, .int .i64 (at_ : Nat), .int .i64 (en : Nat)] 72 (0, 0)) ∧ w.ownsRow 0 5 1 v p.length (u8s p) ∧ (∀ x ∈ p, x < 256) ∧ p.length ≤ 1000000000 ∧ en ≤ 8 * p.length ∧ at_ ≤ en ∧
    S g ∧ (∀ k, v.ownBlock = some k → S k ∧ k ≠ g) ∧ ∀ k, S k → k < w.heap.size
/-- A reader at block g: the payload p, the end mark at bit en, at: the bits taken. -/
def IsR (w : World) (S : Nat → Prop) (g : Nat) (p : List Nat) (en at_ : Nat) : Prop := ∃ v, IsRv w S g v p en at_

theorem IsRv.keep {w w' : World} {S T : Nat → Prop} {g : Nat} {v : Value} {p : List Nat} {en at_ : Nat} (h : IsRv w S g v p en at_) (hk : Keep T w w') (hd : ∀ k, S k → ¬ T k) : IsRv w' S g v p en at_ := by
  obtain ⟨h1, h2, h3, h3a, h3b, h3c, h4, h5, h6⟩ := h
  exact ⟨hk.heap h1 (hd _ h4), own_keep h2 hk (fun k hk => hd _ (h5 k hk).1), h3, h3a, h3b, h3c, h4, h5, fun k hs => Nat.lt_of_lt_of_le (h6 k hs) hk.size⟩
theorem IsR.keep {w w' : World} {S T : Nat → Prop} {g : Nat} {p : List Nat} {en at_ : Nat} (h : IsR w S g p en at_) (hk : Keep T w w') (hd : ∀ k, S k → ¬ T k) : IsR w' S g p en at_ := h.imp fun _ h => h.keep hk hd

theorem row_get {cur : Array Value} {p : List Nat} {i : Nat} (h : cur.toList.take (p.length * 1) = u8s p) (hi : i < p.length) : cur[i]? = some (.int .u8 (p.getD i 0 : Nat)) := by
  have h1 : (cur.toList.take (p.length * 1))[i]? = (u8s p)[i]? := by rw [h]
  rw [List.getElem?_take, if_pos (by omega)] at h1
  rw [← Array.getElem?_toList, h1]
  simp [u8s, List.getElem?_eq_getElem hi]

theorem getD_lt {p : List Nat} (h : ∀ x ∈ p, x < 256) (i : Nat) : p.getD i 0 < 256 := by
  rw [List.getD_eq_getElem?_getD]
  cases e : p[i]? with
  | none => simp
  | some x => simpa using h x (List.mem_of_getElem? e)

theorem rLeft (w : World) (S : Nat → Prop) (g : Nat) (p : List Nat) (en at_ : Nat) (h : IsR w S g p en at_) : Calls Try.prog 35 #[.pointer (some ⟨g, 0, none⟩)] w fun e w' => e = .returned (.int .i64 ((en - at_ : Nat) : Int)) ∧ ∃ m, w' = w.drewN m := by
  obtain ⟨v, h1, _, _, h4, h5, h6, _⟩ := h
  have c1 : w.cell? ⟨g, 1, none⟩ = some (.int .i64 at_) := cell_of_row _ _ _ _ _ _ h1
  have c2 : w.cell? ⟨g, 2, none⟩ = some (.int .i64 en) := cell_of_row _ _ _ _ _ _ h1
  clear h1
  have he : (((en - at_ : Nat)) : Int) = (en : Int) - at_ := by omega
  have HE := Lib.hid he; clear he
  go_enter Try.func35, Try.ntmps35
  go_wp2
  go_quiet (fail)
  go_wp2
  go_ret
  exact ⟨congrArg (fun z => Ending.returned (.int .i64 z)) HE.out.symm, _, rfl⟩

set_option maxHeartbeats 1000000 in
theorem rTakeV (w : World) (S : Nat → Prop) (g : Nat) (v : Value) (p : List Nat) (en at_ : Nat) (n : Int) (h : IsRv w S g v p en at_) (hn : 0 ≤ n ∧ n ≤ 32) (hl : n ≤ (en : Int) - at_) :
    Calls Try.prog 58 #[.pointer (some ⟨g, 0, none⟩), .int .i64 n] w fun e w' =>
      e = .returned (.tuple #[.int .u32 (valueOf (((unpack p).drop at_).take n.toNat) : Nat), .int .i64 0]) ∧ IsRv w' S g v p en (at_ + n.toNat) ∧ Keep (fun k => k = g) w w' := by
  obtain ⟨h1, h2, h3, h4, h5, h6, h7, h8, h9⟩ := h
  have c1 : w.cell? ⟨g, 1, none⟩ = some (.int .i64 at_) := cell_of_row _ _ _ _ _ _ h1
  have c2 : w.cell? ⟨g, 2, none⟩ = some (.int .i64 en) := cell_of_row _ _ _ _ _ _ h1
  go_enter Try.func58, Try.ntmps58
  go_wp2
  go_quiet (fail)
  go_wp2
  have hK0 : Keep (fun k => k = g) w (w.drewN nq) := (Keep.refl _ _).drewN _
  have hR0 : IsRv (w.drewN nq) S g v p en at_ := ⟨h1, h2, h3, h4, h5, h6, h7, h8, h9⟩
  generalize w.drewN nq = w0 at *
  clear c1 c2 h1 h2 h6 h7 h8 h9
  go_loopw [6, 32] (fun s t wr => ∃ k : Nat, k ≤ n.toNat ∧ t = .int .i64 k ∧ s = .int .u32 (valueOf (((unpack p).drop at_).take k) : Nat) ∧ IsRv wr S g v p en (at_ + k) ∧ Keep (fun k => k = g) w wr) (fun _ t _ => n.toNat - (intOf t).toNat)
  case atStart => exact ⟨0, Nat.zero_le _, rfl, rfl, hR0, hK0⟩
  case round =>
    obtain ⟨k, hk, rfl, rfl, hR, hK⟩ := hrel
    by_cases hlt : (k : Int) < n
    · obtain ⟨h1, h2, _, _, _, h6, h7, h8, h9⟩ := hR
      have hi8 : at_ + k < 8 * p.length := by omega
      have hval := take_value p at_ k hi8
      obtain ⟨N, hN⟩ : ∃ N, N = at_ + k := ⟨_, rfl⟩
      rw [← hN] at h1 h6 hval hi8
      have c1 : wr.cell? ⟨g, 1, none⟩ = some (.int .i64 N) := cell_of_row _ _ _ _ _ _ h1
      have c0 : wr.cell? ⟨g, 0, none⟩ = some v := cell_of_row _ _ _ _ _ _ h1
      have f1 : wr.frozen? ⟨g, 1, none⟩ = false := frozen_of_row h1 _
      obtain ⟨gb, cap, cur, rfl, hgb, hcap, htake⟩ : ∃ gb cap cur, v = .slice (some ⟨gb, 0, none⟩) p.length cap ∧ wr.heap[gb]? = some (.cells cur 5 (0, 0)) ∧ p.length ≤ cap ∧ cur.toList.take (p.length * 1) = u8s p := by
        rcases h2.2 with ⟨_, h0⟩ | ⟨gb, cap, cur, q1, _, q2, q3, q4, q5, q6⟩
        · omega
        · exact ⟨gb, cap, cur, q1, q2, q3, q6⟩
      have cx : wr.cell? ⟨gb, N / 8, none⟩ = some (.int .u8 (p.getD (N / 8) 0 : Nat)) := by
        rw [cell_of_row _ _ _ _ _ _ hgb]
        exact row_get htake (by omega)
      have hVb : valueOf (((unpack p).drop at_).take k) < 2 ^ k := by
        have hb : Bin (((unpack p).drop at_).take k) := fun x hx => unpack_bin p x (List.mem_of_mem_drop (List.mem_of_mem_take hx))
        refine Nat.lt_of_lt_of_le (valueOf_lt hb) (Nat.pow_le_pow_right (by decide) (by simp; omega))
      have hVb : valueOf (((unpack p).drop at_).take k) < 2147483648 := Nat.lt_of_lt_of_le hVb (show 2 ^ k ≤ 2 ^ 31 from Nat.pow_le_pow_right (by decide) (by omega))
      have hxb : p.getD (N / 8) 0 < 256 := getD_lt h3 _
      have HV := Lib.hid hval; clear hval
      have hnx : bitOf p N = p.getD (N / 8) 0 / 2 ^ (7 - N % 8) % 2 := rfl
      have HNX := Lib.hid hnx; clear hnx
      generalize p.getD (N / 8) 0 = x at *
      generalize valueOf (((unpack p).drop at_).take k) = V at *
      have hpl : N / 8 < p.length := by omega
      have hpl2 : (N : Int) / 8 < p.length := by omega
      have hNb : N ≤ 8000000000 := by omega
      have HN := Lib.hid hN; clear hN
      clear hR0 hK0
      have H1 := Lib.hid h1; clear h1
      have H2 := Lib.hid h2; clear h2
      go_wp2_with fail
      go_quiet (fail)
      go_wp2
      go_roundw
      case rel =>
        have hNk : N + 1 = at_ + (k + 1) := by have := HN.out; omega
        refine ⟨k + 1, by omega, by go_num, ?_, ⟨?_, own_keep H2.out (((Keep.refl (fun k => k = g) _).drewN _).setCell (.inl rfl) _) (fun k hk => (h8 k hk).2), h3, h4, h5, by omega, h7, h8, ?_⟩, (hK.drewN _).setCell (.inl rfl) _⟩
        · rw [HV.out, HNX.out, take_num _ _ _ hVb hxb]
        · rw [← hNk]
          exact setCell_heap_at (w := wr.drewN nq) H1.out 1
        · intro k hk
          simpa [World.setCell] using h9 k hk
      case measure => simp [intOf]; omega
    · obtain rfl : k = n.toNat := by omega
      go_wp2
      go_ret2
      exact ⟨rfl, hR, hK⟩

theorem rTake (w : World) (S : Nat → Prop) (g : Nat) (p : List Nat) (en at_ : Nat) (n : Int) (h : IsR w S g p en at_) (hn : 0 ≤ n ∧ n ≤ 32) (hl : n ≤ (en : Int) - at_) :
    Calls Try.prog 58 #[.pointer (some ⟨g, 0, none⟩), .int .i64 n] w fun e w' =>
      e = .returned (.tuple #[.int .u32 (valueOf (((unpack p).drop at_).take n.toNat) : Nat), .int .i64 0]) ∧ IsR w' S g p en (at_ + n.toNat) ∧ Keep (fun k => k = g) w w' :=
  (rTakeV w S g h.choose p en at_ n h.choose_spec hn hl).mono fun _ _ ⟨h1, h2, h3⟩ => ⟨h1, ⟨_, h2⟩, h3⟩

theorem newReader_bad (w : World) (v : Value) (p : List Nat) (h : Rd w v (u8s p)) (hl : p.length ≤ 1000000000) (hb : p = [] ∨ p.getD (p.length - 1) 0 = 0) :
    Calls Try.prog 34 #[v] w fun e w' => e = .returned (.tuple #[.pointer none, .int .i64 3]) ∧ Below w.heap.size w w' := by
  rcases h with ⟨rfl, h0⟩ | ⟨b, off, c, rfl, hc, hx⟩
  · clear hb
    go_enter Try.func34, Try.ntmps34
    go_wp2
    go_ret2
    exact ⟨rfl, Below.refl _ _⟩
  rw [u8s_length] at hc ⊢
  obtain ⟨m, hm⟩ : ∃ m, m = p.length := ⟨_, rfl⟩
  rw [← hm] at hc hl hb ⊢
  by_cases hm0 : m = 0
  · subst hm0
    clear hb hm hx
    go_enter Try.func34, Try.ntmps34
    go_wp2
    go_ret2
    exact ⟨rfl, Below.refl _ _⟩
  · have hb0 : p.getD (m - 1) 0 = 0 := by
      rcases hb with h | h
      · subst h; simp at hm; omega
      · exact h
    have hm1 : 1 ≤ m := by omega
    have hm0 : ((m : Int) == 0) = false := by simp; omega
    have cx : w.cell? ⟨b, off + (m - 1), none⟩ = some (.int .u8 0) := by
      refine hx (m - 1) _ ?_
      have hlt : m - 1 < p.length := by omega
      rw [List.getD_eq_getElem?_getD, List.getElem?_eq_getElem hlt] at hb0
      simp only [Option.getD_some] at hb0
      simp [u8s, List.getElem?_eq_getElem hlt, hb0]
    clear hm hb0 hx hb
    go_enter Try.func34, Try.ntmps34
    go_wp2
    go_ret2
    exact ⟨rfl, Below.refl _ _⟩

/-- what NewReader gives back where the payload is accepted -/
def Opened (w : World) (p : List Nat) (e : Ending) (w' : World) : Prop :=
  ∃ g S', e = .returned (.tuple #[.pointer (some ⟨g, 0, none⟩), .int .i64 0]) ∧ IsR w' S' g p (endOf p) 0 ∧ (∀ k, S' k → w.heap.size ≤ k) ∧ Below w.heap.size w w'

set_option maxHeartbeats 1000000 in
theorem newReader (w : World) (v : Value) (p : List Nat) (h : Rd w v (u8s p)) (hp : ∀ x ∈ p, x < 256) (hl : p.length ≤ 1000000000) (hne : p ≠ []) (hlast : p.getD (p.length - 1) 0 ≠ 0) :
    Calls Try.prog 34 #[v] w (Opened w p) := by
  rcases h with ⟨_, h0⟩ | ⟨b, off, c, rfl, hc, hx⟩
  · exact absurd (List.map_eq_nil_iff.1 h0) hne
  rw [u8s_length] at hc ⊢
  obtain ⟨m, hm⟩ : ∃ m, m = p.length := ⟨_, rfl⟩
  rw [← hm] at hc hlast hl ⊢
  have hm1 : 1 ≤ m := by have := List.length_pos_iff.2 hne; omega
  have hm0 : ((m : Int) == 0) = false := by simp; omega
  have cx : w.cell? ⟨b, off + (m - 1), none⟩ = some (.int .u8 (p.getD (m - 1) 0 : Nat)) := by
    refine hx (m - 1) _ ?_
    simp [u8s, List.getElem?_eq_getElem (show m - 1 < p.length by omega)]
  have HM := Lib.hid hm; clear hm
  obtain ⟨x, hxx⟩ : ∃ x, x = p.getD (m - 1) 0 := ⟨_, rfl⟩
  rw [← hxx] at cx hlast
  have HX := Lib.hid hxx; clear hxx
  have hx0 : ((x : Int) == 0) = false := by simp; omega
  have HC := Lib.hid hx; clear hx
  go_enter Try.func34, Try.ntmps34
  go_wp2
  have hxb : x < 256 := by rw [HX.out]; exact getD_lt hp _
  go_loop [5, 6] (fun s t => ∃ k : Nat, k ≤ 7 ∧ x / 2 ^ k ≠ 0 ∧ s = .int .i64 (8 * (m : Int) - 1 - k) ∧ t = .int .u8 (x / 2 ^ k : Nat) ∧ Hid (tz 8 x = k + tz (8 - k) (x / 2 ^ k))) (fun _ t => (intOf t).toNat)
  case atStart => exact ⟨0, by omega, by simpa using hlast, by simp, by simp, Lib.hid (by simp)⟩
  case round =>
    obtain ⟨k, hk, hq0, rfl, rfl, HT⟩ := hrel
    by_cases hq : x / 2 ^ k % 2 = 0
    · have hk7 := tz_step k x hq hq0 hxb
      have hts := tz_succ k x (by omega) hq
      have hqq : x / 2 ^ (k + 1) = x / 2 ^ k / 2 := by rw [Nat.pow_succ, Nat.div_div_eq_div_mul]
      have hqlt : x / 2 ^ k ≤ x := Nat.div_le_self _ _
      have hnx : Hid (tz 8 x = (k + 1) + tz (8 - (k + 1)) (x / 2 ^ (k + 1))) := Lib.hid (by rw [HT.out, hts]; omega)
      rw [hqq] at hnx
      clear hts hqq
      have HQQ : Hid (x / 2 ^ (k + 1) = x / 2 ^ k / 2) := Lib.hid (by rw [Nat.pow_succ, Nat.div_div_eq_div_mul])
      obtain ⟨q, hqd⟩ : ∃ q, q = x / 2 ^ k := ⟨_, rfl⟩
      rw [← hqd] at hq0 hq hqlt hnx HQQ ⊢
      have HQD := Lib.hid hqd; clear hqd
      have hand : (bits BinOp.and IntKind.u8 (q : Int) 1 == 0) = true := by rw [and1_u8 _ (by omega) (by omega)]; simp; omega
      go_wp2
      go_round
      case rel => exact ⟨k + 1, by omega, by rw [HQQ.out]; omega, by go_num, by rw [HQQ.out]; go_num, by rw [HQQ.out]; exact hnx⟩
      case measure => simp [intOf]; omega
    · have hts := tz_odd k x (by omega) (by omega)
      have hqlt : x / 2 ^ k ≤ x := Nat.div_le_self _ _
      obtain ⟨q, hqd⟩ : ∃ q, q = x / 2 ^ k := ⟨_, rfl⟩
      rw [← hqd] at hq0 hq hqlt ⊢
      have HQD := Lib.hid hqd; clear hqd
      have HTS := Lib.hid hts; clear hts
      have hand : (bits BinOp.and IntKind.u8 (q : Int) 1 == 0) = false := by rw [and1_u8 _ (by omega) (by omega)]; simp; omega
      go_wp2_with fail
      have HCC := HC.out
      refine (clone w ⟨b, off, none⟩ m c (u8s p) (by rw [u8s_length, HM.out]; simp) (fun j u hj => by rw [addr_add]; exact HCC j u hj) (u8s_one p) (by omega)).mono ?_
      rintro e w' ⟨v1, rfl, ho, hb⟩
      clear HCC
      obtain ⟨A, cap, rfl, _⟩ := own_shape ho
      go_wp2
      go_ret2
      have hen : (8 * (m : Int) - 1 - k) = ((endOf p : Nat) : Int) := by
        unfold endOf
        have h1 := HT.out
        have h2 := HTS.out
        rw [h2] at h1
        rw [← HM.out, ← HX.out, h1]
        omega
      rw [hen]
      refine ⟨w'.heap.size, fun i => i = w'.heap.size ∨ (Value.slice A m cap).ownBlock = some i, rfl, ⟨.slice A m cap, by rw [heap_alloc_new]; rfl, ?_, hp, by rw [← HM.out]; exact hl, ?_, Nat.zero_le _, .inl rfl, ?_, ?_⟩, ?_, hb.alloc hb.size _⟩
      · rw [← HM.out]
        exact own_keep (own_base ho (fun _ _ => Nat.zero_le _)) ((Keep.refl (fun _ => False) _).alloc _) (fun _ _ h => h)
      · unfold endOf; omega
      · intro i hi
        exact ⟨.inr hi, by have := (ho.lt i hi).2; omega⟩
      · intro i hi
        rcases hi with rfl | hi
        · simp
        · have := (ho.lt i hi).2; simp; omega
      · intro i hi
        rcases hi with rfl | hi
        · exact hb.size
        · exact (ho.lt i hi).1
end Go.Proofs.Ytmimljaniliecaa
