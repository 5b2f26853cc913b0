/- The walks of the reference's reader: Open, Left, Take. -/
import Derived.Test.YtmimljaniliecaaRef
namespace Go.Proofs.Ytmimljaniliecaa
open Go.RowKit Bt

/-- The reference's reader at block g: the bits l, at: how many are taken. -/
def IsQ (w : World) (S : Nat → Prop) (g : Nat) (l : List Nat) (at_ : Nat) : Prop :=
  ∃ v, w.heap[g]? = some (.cells #[v, .int .i64 (at_ : Nat)] 74 (0, 0)) ∧ w.ownsRow 0 5 1 v l.length (u8s l) ∧ Bin l ∧ l.length ≤ 10000000000 ∧ at_ ≤ l.length ∧
    S g ∧ (∀ k, v.ownBlock = some k → S k ∧ k ≠ g) ∧ ∀ k, S k → k < w.heap.size

theorem IsQ.keep {w w' : World} {S T : Nat → Prop} {g : Nat} {l : List Nat} {at_ : Nat} (h : IsQ w S g l at_) (hk : Keep T w w') (hd : ∀ k, S k → ¬ T k) : IsQ w' S g l at_ := by
  obtain ⟨v, h1, h2, h3, h3a, h3b, h4, h5, h6⟩ := h
  exact ⟨v, hk.heap h1 (hd _ h4), own_keep h2 hk (fun k hk => hd _ (h5 k hk).1), h3, h3a, h3b, h4, h5, fun k hs => Nat.lt_of_lt_of_le (h6 k hs) hk.size⟩

theorem qLeft (w : World) (S : Nat → Prop) (g : Nat) (l : List Nat) (at_ : Nat) (h : IsQ w S g l at_) : Calls Try.prog 39 #[.pointer (some ⟨g, 0, none⟩)] w fun e w' => e = .returned (.int .i64 ((l.length - at_ : Nat) : Int)) ∧ ∃ m, w' = w.drewN m := by
  obtain ⟨v, h1, h2, _, h4, h6, _⟩ := h
  obtain ⟨A, cap, rfl, _⟩ := own_shape h2
  have c1 : w.cell? ⟨g, 1, none⟩ = some (.int .i64 at_) := cell_of_row _ _ _ _ _ _ h1
  have c0 : w.cell? ⟨g, 0, none⟩ = some (.slice A l.length cap) := cell_of_row _ _ _ _ _ _ h1
  clear h1 h2
  have he : (((l.length - at_ : Nat)) : Int) = (l.length : Int) - at_ := by omega
  have HE := Lib.hid he; clear he
  go_enter Try.func39, Try.ntmps39
  go_wp2
  go_quiet (fail)
  go_wp2
  go_ret
  exact ⟨congrArg (fun z => Ending.returned (.int .i64 z)) HE.out.symm, _, rfl⟩

theorem qTake_arg (w : World) (g : Nat) (n : Int) (hn : n < 0 ∨ 32 < n) : Calls Try.prog 40 #[.pointer (some ⟨g, 0, none⟩), .int .i64 n] w fun e w' => e = .returned (.tuple #[.int .u32 0, .int .i64 1]) ∧ w = w' := by
  rcases hn with hn | hn
  · go_enter Try.func40, Try.ntmps40
    go_wp2
    go_ret2
    exact ⟨rfl, rfl⟩
  · have hn0 : ¬ n < 0 := by omega
    go_enter Try.func40, Try.ntmps40
    go_wp2
    go_ret2
    exact ⟨rfl, rfl⟩

theorem qTake_short (w : World) (S : Nat → Prop) (g : Nat) (l : List Nat) (at_ : Nat) (n : Int) (h : IsQ w S g l at_) (hn : 0 ≤ n ∧ n ≤ 32) (hl : (l.length : Int) - at_ < n) :
    Calls Try.prog 40 #[.pointer (some ⟨g, 0, none⟩), .int .i64 n] w fun e w' => e = .returned (.tuple #[.int .u32 0, .int .i64 4]) ∧ ∃ m, w' = w.drewN m := by
  have hq := qLeft w S g l at_ h
  have hlt : ((l.length - at_ : Nat) : Int) < n := by have := h.choose_spec.2.2.2.2.1; omega
  generalize l.length - at_ = q at *
  have HQ := Lib.hid hq; clear hq
  clear h
  go_enter Try.func40, Try.ntmps40
  go_wp2_with fail
  refine HQ.out.mono ?_
  rintro e w' ⟨rfl, m, rfl⟩
  go_wp2
  go_ret2
  exact ⟨rfl, _, rfl⟩

set_option maxHeartbeats 1000000 in
theorem qTake (w : World) (S : Nat → Prop) (g : Nat) (l : List Nat) (at_ : Nat) (n : Int) (h : IsQ w S g l at_) (hn : 0 ≤ n ∧ n ≤ 32) (hl : n ≤ (l.length : Int) - at_) :
    Calls Try.prog 40 #[.pointer (some ⟨g, 0, none⟩), .int .i64 n] w fun e w' =>
      e = .returned (.tuple #[.int .u32 (valueOf ((l.drop at_).take n.toNat) : Nat), .int .i64 0]) ∧ IsQ w' S g l (at_ + n.toNat) ∧ Keep (fun k => k = g) w w' := by
  have hq := qLeft w S g l at_ h
  have hat := h.choose_spec.2.2.2.2.1
  have hlt : n ≤ ((l.length - at_ : Nat) : Int) := by omega
  obtain ⟨q, hqq⟩ : ∃ q, q = l.length - at_ := ⟨_, rfl⟩
  rw [← hqq] at hlt hq
  clear hqq
  have HQ := Lib.hid hq; clear hq
  go_enter Try.func40, Try.ntmps40
  go_wp2_with fail
  refine HQ.out.mono ?_
  rintro e w' ⟨rfl, m, rfl⟩
  have hK0 : Keep (fun k => k = g) w (w.drewN m) := (Keep.refl _ _).drewN _
  have hR0 : IsQ (w.drewN m) S g l at_ := h
  generalize w.drewN m = w0 at *
  clear h
  obtain ⟨v, h1, h2, h3, h4, h6, h7, h8, h9⟩ := hR0
  obtain ⟨A, cap, rfl, _⟩ := own_shape h2
  have c1 : w0.cell? ⟨g, 1, none⟩ = some (.int .i64 at_) := cell_of_row _ _ _ _ _ _ h1
  have c0 : w0.cell? ⟨g, 0, none⟩ = some (.slice A l.length cap) := cell_of_row _ _ _ _ _ _ h1
  have f1 : w0.frozen? ⟨g, 1, none⟩ = false := frozen_of_row h1 _
  have H1 := Lib.hid h1; clear h1
  have H2 := Lib.hid h2; clear h2
  go_wp2
  go_loopw [6, 7] (fun s t wr => ∃ k : Nat, k ≤ n.toNat ∧ t = .int .i64 k ∧ s = .int .u32 (valueOf ((l.drop at_).take k) : Nat) ∧ ∃ m, wr = w0.drewN m) (fun _ t _ => n.toNat - (intOf t).toNat)
  case atStart => exact ⟨0, Nat.zero_le _, rfl, rfl, 0, rfl⟩
  case round =>
    obtain ⟨k, hk, rfl, rfl, m', rfl⟩ := hrel
    by_cases hlt' : (k : Int) < n
    · have hi8 : at_ + k < l.length := by omega
      have hval := take_value' l at_ k hi8
      obtain ⟨gb, cur, rfl, hgb, htake⟩ : ∃ gb cur, A = some ⟨gb, 0, none⟩ ∧ w0.heap[gb]? = some (.cells cur 5 (0, 0)) ∧ cur.toList.take (l.length * 1) = u8s l := by
        rcases H2.out.2 with ⟨_, h0⟩ | ⟨gb, cap', cur, q1, _, q2, q3, q4, q5, q6⟩
        · omega
        · cases q1; exact ⟨gb, cur, rfl, q2, q6⟩
      have cx : w0.cell? ⟨gb, at_ + k, none⟩ = some (.int .u8 (l.getD (at_ + k) 0 : Nat)) := by
        rw [cell_of_row _ _ _ _ _ _ hgb]
        exact row_get htake hi8
      have hVb : valueOf ((l.drop at_).take k) < 2 ^ k := by
        have hb : Bin ((l.drop at_).take k) := fun x hx => h3 x (List.mem_of_mem_drop (List.mem_of_mem_take hx))
        refine Nat.lt_of_lt_of_le (valueOf_lt hb) (Nat.pow_le_pow_right (by decide) (by simp; omega))
      have hVb : valueOf ((l.drop at_).take k) < 2147483648 := Nat.lt_of_lt_of_le hVb (show 2 ^ k ≤ 2 ^ 31 from Nat.pow_le_pow_right (by decide) (by omega))
      have hxb : l.getD (at_ + k) 0 ≤ 1 := bin_getD h3 _
      have HV := Lib.hid hval; clear hval
      generalize l.getD (at_ + k) 0 = x at *
      generalize valueOf ((l.drop at_).take k) = V at *
      have hidx : (at_ : Int) + k < l.length := by omega
      have hatb : at_ ≤ 10000000000 := by omega
      go_wp2_with fail
      go_quiet (fail)
      go_wp2
      go_roundw
      case rel => exact ⟨k + 1, by omega, by go_num, by rw [HV.out, ← take_num' _ _ hVb hxb], _, rfl⟩
      case measure => simp [intOf] <;> omega
    · obtain rfl : k = n.toNat := by omega
      have hnn : (at_ : Int) + n = ((at_ + n.toNat : Nat) : Int) := by omega
      have HNN := Lib.hid hnn; clear hnn
      have hnb : (at_ : Int) ≤ 10000000000 := by omega
      go_wp2
      go_ret2
      refine ⟨rfl, ⟨_, ?_, own_keep H2.out (((Keep.refl (fun k => k = g) _).drewN _).setCell (.inl rfl) _) (fun k hk => (h8 k hk).2), h3, h4, by omega, h7, h8, ?_⟩, (hK0.drewN _).setCell (.inl rfl) _⟩
      · rw [HNN.out]
        exact setCell_heap_at (w := w0.drewN m') H1.out 1
      · intro k hk
        simpa [World.setCell] using h9 k hk

theorem open_bad (w : World) (v : Value) (p : List Nat) (h : Rd w v (u8s p)) (hl : p.length ≤ 1000000000) (hb : p = [] ∨ p.getD (p.length - 1) 0 = 0) :
    Calls Try.prog 38 #[v] w fun e w' => e = .returned (.tuple #[.pointer none, .int .i64 3]) ∧ w = w' := by
  obtain ⟨A, c, rfl, hc, hx⟩ := h.shape
  clear h
  rw [u8s_length] at hc ⊢
  obtain ⟨m, hm⟩ : ∃ m, m = p.length := ⟨_, rfl⟩
  rw [← hm] at hc hl hb ⊢
  by_cases hm0 : m = 0
  · subst hm0
    clear hb hm hx
    go_enter Try.func38, Try.ntmps38
    go_wp2
    go_ret2
    exact ⟨rfl, rfl⟩
  · have hb0 : p.getD (m - 1) 0 = 0 := by
      rcases hb with h | h
      · subst h; simp at hm; omega
      · exact h
    have hm1 : 1 ≤ m := by omega
    have hm0 : ((m : Int) == 0) = false := by simp; omega
    have hlt : m - 1 < p.length := by omega
    obtain ⟨b, off, rfl, cx⟩ := hx (m - 1) (.int .u8 0) (by
      rw [List.getD_eq_getElem?_getD, List.getElem?_eq_getElem hlt] at hb0
      simp only [Option.getD_some] at hb0
      simp [u8s, List.getElem?_eq_getElem hlt, hb0])
    clear hm hb0 hx hb hlt
    go_enter Try.func38, Try.ntmps38
    go_wp2
    go_ret2
    exact ⟨rfl, rfl⟩

/-- what Open gives back where the payload is accepted -/
def OpenedQ (w : World) (p : List Nat) (e : Ending) (w' : World) : Prop :=
  ∃ g S', e = .returned (.tuple #[.pointer (some ⟨g, 0, none⟩), .int .i64 0]) ∧ IsQ w' S' g ((unpack p).take (endOf p)) 0 ∧ (∀ k, S' k → w.heap.size ≤ k) ∧ Below w.heap.size w w'

set_option maxHeartbeats 1000000 in
theorem open_walk (w : World) (v : Value) (p : List Nat) (h : Rd w v (u8s p)) (hp : ∀ x ∈ p, x < 256) (hl : p.length ≤ 1000000000) (hne : p ≠ []) (hlast : p.getD (p.length - 1) 0 ≠ 0) :
    Calls Try.prog 38 #[v] w (OpenedQ w p) := by
  obtain ⟨i0, hi, hz0, hz1, hz2⟩ := info_parts info_u8
  rcases h with ⟨_, h0⟩ | ⟨b, off, c, rfl, hc, hx⟩
  · exact absurd (List.map_eq_nil_iff.1 h0) hne
  rw [u8s_length] at hc ⊢
  obtain ⟨m, hm⟩ : ∃ m, m = p.length := ⟨_, rfl⟩
  rw [← hm] at hc hlast hl ⊢
  have hm1 : 1 ≤ m := by have := List.length_pos_iff.2 hne; omega
  have hm0 : ((m : Int) == 0) = false := by simp; omega
  have hcs : ∀ i, i < m → w.cell? ⟨b, off + i, none⟩ = some (.int .u8 (p.getD i 0 : Nat)) := by
    intro i hi
    refine hx i _ ?_
    simp [u8s, List.getElem?_eq_getElem (show i < p.length by omega)]
  have hbl : b < w.heap.size := World.block_lt_of_cell? _ _ (hcs 0 hm1)
  have cx := hcs (m - 1) (by omega)
  have HM := Lib.hid hm; clear hm
  obtain ⟨x, hxx⟩ : ∃ x, x = p.getD (m - 1) 0 := ⟨_, rfl⟩
  rw [← hxx] at cx hlast
  have HX := Lib.hid hxx; clear hxx
  have hx0 : ((x : Int) == 0) = false := by simp; omega
  clear hx
  have HC := Lib.hid hcs; clear hcs
  go_enter Try.func38, Try.ntmps38
  go_wp2
  go_loopw [4, 5] (fun s t wr => ∃ i : Nat, i ≤ m ∧ t = .int .i64 i ∧ wr.ownsRow w.heap.size 5 1 s (8 * i) (u8s ((unpack p).take (8 * i))) ∧ Below w.heap.size w wr) (fun _ t _ => m - (intOf t).toNat)
  case atStart => exact ⟨0, Nat.zero_le _, rfl, World.ownsRow_nil _ _ _ _, Below.refl _ _⟩
  case round =>
    obtain ⟨i, him, rfl, ho, hb⟩ := hrel
    by_cases hlt : i < m
    · have cxi := HC.out i hlt
      have cyi : wr.cell? ⟨b, off + i, none⟩ = some (.int .u8 (p.getD i 0 : Nat)) := (hb.cell (p := ⟨b, off + i, none⟩) hbl).trans cxi
      have hstep := unpack_step p i (by rw [← HM.out]; exact hlt)
      have HS := Lib.hid hstep; clear hstep
      have hyb : p.getD i 0 < 256 := getD_lt hp i
      generalize p.getD i 0 = y at *
      clear cxi
      have ho0 := own_base ho (fun _ _ => Nat.zero_le _)
      go_wp2_with fail
      refine (bits_walk wr y 8 (by omega) (by omega)).mono ?_
      rintro e w1 ⟨v1, rfl, ho1, hb1⟩
      rw [show ((8 : Int).toNat) = 8 from rfl, Int.toNat_natCast] at ho1
      obtain ⟨gb, cap, cur, rfl, hgbB, hgb, hcap, htake⟩ : ∃ gb cap cur, v1 = .slice (some ⟨gb, 0, none⟩) 8 cap ∧ wr.heap.size ≤ gb ∧ w1.heap[gb]? = some (.cells cur 5 (0, 0)) ∧ 8 ≤ cap ∧ cur.toList.take (8 * 1) = u8s (bitsOf y 8) := by
        rcases ho1.2 with ⟨_, h0⟩ | ⟨gb, cap, cur, q1, q0, q2, q3, q4, q5, q6⟩
        · omega
        · exact ⟨gb, cap, cur, q1, q0, q2, q3, q6⟩
      have hcells := ho1.cells (g := gb) rfl
      have ho2 : w1.ownsRow 0 5 1 u4 (8 * i) (u8s ((unpack p).take (8 * i))) := own_keep ho0 (Keep.of_below hb1) (fun _ _ h => h)
      clear ho1 htake hgb
      go_wp2_with (at_builtin; refine wpList_append_mine _ rfl _ _ 22 rfl 5 i0 (.int .u8 0) 1 1 Try.underlying22 hi hz0 hz1 hz2 rfl (by decide) u4 (8 * i) (u8s ((unpack p).take (8 * i))) rfl ho2 ⟨gb, 0, none⟩ 8 cap (u8s (bitsOf y 8)) rfl ?h1 ?h2 ?h3 ?h4 ?h5 ?h6)
      case h1 => rw [u8s_length, bitsOf_length]
      case h2 => exact hcells
      case h3 => exact u8s_one _
      case h4 => unfold maxLen; omega
      case h5 => omega
      case h6 =>
        intro v' w2 hown hgr hblk hsh
        have hblk' : ∀ k, v'.ownBlock = some k → w.heap.size ≤ k := by
          intro k hk
          rcases hblk with h | h
          · rw [h] at hk; exact (ho.lt k hk).1
          · rw [h] at hk; simp at hk; have := hb.size; have := hb1.size; omega
        have hb2 : Below w.heap.size w w2 := (hb.trans (hb1.mono hb.size)).grown hgr (by have := hb.size; have := hb1.size; omega) (fun k hk => (ho.lt k hk).1)
        have hown2 : w2.ownsRow w.heap.size 5 1 v' (8 * (i + 1)) (u8s ((unpack p).take (8 * (i + 1)))) := by
          refine own_base (base := 0) ?_ hblk'
          rw [HS.out]
          simpa [u8s, Nat.mul_add] using hown
        have HO := Lib.hid hown2; clear hown2
        clear hown hgr hblk hsh hblk' ho ho0 hb hb1 ho2 hcells
        have HB := Lib.hid hb2; clear hb2
        go_wp2
        go_roundw
        case rel => exact ⟨i + 1, by omega, by go_num, HO.out, HB.out⟩
        case measure => simp [intOf] <;> omega
    · obtain rfl : i = m := by omega
      obtain ⟨gb, cap, cur, rfl, hgbB, hgb, hcap, hcm, hcs, htake⟩ : ∃ gb cap cur, u4 = .slice (some ⟨gb, 0, none⟩) (8 * i) cap ∧ w.heap.size ≤ gb ∧ wr.heap[gb]? = some (.cells cur 5 (0, 0)) ∧ 8 * i ≤ cap ∧ cap ≤ maxLen ∧ cur.size = cap * 1 ∧ cur.toList.take (8 * i * 1) = u8s ((unpack p).take (8 * i)) := by
        rcases ho.2 with ⟨_, h0⟩ | ⟨gb, cap, cur, q1, q0, q2, q3, q4, q5, q6⟩
        · omega
        · exact ⟨gb, cap, cur, q1, q0, q2, q3, q4, q5, q6⟩
      clear ho
      have hxb : x < 256 := by rw [HX.out]; exact getD_lt hp _
      have hun : (unpack p).take (8 * i) = unpack p := List.take_of_length_le (by rw [unpack_length, HM.out]; exact Nat.le_refl _)
      rw [hun] at htake
      have HUN := Lib.hid hun; clear hun
      go_wp2
      go_loop [6] (fun t => ∃ k N : Nat, k ≤ 7 ∧ x / 2 ^ k ≠ 0 ∧ N + k + 1 = 8 * i ∧ t = .int .i64 N ∧ Hid (tz 8 x = k + tz (8 - k) (x / 2 ^ k))) (fun t => (intOf t).toNat)
      case atStart => exact ⟨0, 8 * i - 1, by omega, by simpa using hlast, by omega, by rw [show ((8 * i - 1 : Nat) : Int) = 8 * (i : Int) - 1 by omega], Lib.hid (by simp)⟩
      case round =>
        obtain ⟨k, N, hk, hq0, hNk, rfl, HT⟩ := hrel
        have cN : wr.cell? ⟨gb, N, none⟩ = some (.int .u8 (x / 2 ^ k % 2 : Nat)) := by
          rw [cell_of_row _ _ _ _ _ _ hgb]
          have h1 : (cur.toList.take (8 * i * 1))[N]? = (u8s (unpack p))[N]? := by rw [htake]
          rw [List.getElem?_take, if_pos (by omega)] at h1
          rw [← Array.getElem?_toList, h1]
          have h2 := unpack_get? p N
          have h3 := last_bit p k (by omega) hne
          rw [← HM.out, ← HX.out, show 8 * i - 1 - k = N by omega] at h3
          rw [if_pos (by rw [← HM.out]; omega), h3] at h2
          simp [u8s, h2]
        have hN8 : N < 8 * i := by omega
        by_cases hq : x / 2 ^ k % 2 = 0
        · have hk7 := tz_step k x hq hq0 hxb
          have hts := tz_succ k x (by omega) hq
          have hnx : Hid (tz 8 x = (k + 1) + tz (8 - (k + 1)) (x / 2 ^ (k + 1))) := Lib.hid (by rw [HT.out, hts]; omega)
          have hq1 : x / 2 ^ (k + 1) ≠ 0 := by
            rw [Nat.pow_succ, ← Nat.div_div_eq_div_mul]
            generalize x / 2 ^ k = q at *
            omega
          rw [hq] at cN
          clear hts hq hq0 HT
          obtain ⟨N', rfl⟩ : ∃ N', N = N' + 1 := ⟨N - 1, by omega⟩
          have HNK := Lib.hid hNk; clear hNk
          go_wp2
          go_round
          case rel => exact ⟨k + 1, N', by omega, hq1, by have := HNK.out; omega, by go_num, hnx⟩
          case measure => simp [intOf] <;> omega
        · have hts := tz_odd k x (by omega) (by omega)
          have hq1 : x / 2 ^ k % 2 = 1 := by omega
          rw [hq1] at cN
          have HTS := Lib.hid hts; clear hts
          have HNK := Lib.hid hNk; clear hNk hq hq0 hq1
          have hNcap : N ≤ cap := by omega
          go_wp2
          go_ret2
          have hen : N = endOf p := by
            have h1 := HT.out
            rw [HTS.out] at h1
            have := HNK.out
            unfold endOf
            rw [← HM.out, ← HX.out, h1]
            omega
          have hlen : ((unpack p).take (endOf p)).length = N := by
            rw [List.length_take, unpack_length, ← hen, ← HM.out]; omega
          refine ⟨wr.heap.size, fun j => j = wr.heap.size ∨ j = gb, rfl, ⟨.slice (some ⟨gb, 0, none⟩) N cap, by rw [heap_alloc_new]; rfl, ⟨by rw [u8s_length]; omega, .inr ⟨gb, cap, cur, by rw [hlen], Nat.zero_le _, (Below.heap_alloc _ _ _ (heap_lt hgb)).trans hgb, by rw [hlen]; exact hNcap, hcm, hcs, ?_⟩⟩, ?_, by rw [hlen]; omega, Nat.zero_le _, .inl rfl, ?_, ?_⟩, ?_, hb.alloc hb.size _⟩
          · rw [hlen, ← hen]
            have h1 : cur.toList.take (N * 1) = (cur.toList.take (8 * i * 1)).take N := by rw [List.take_take]; congr 1; omega
            rw [h1, htake]
            simp [u8s, List.map_take]
          · exact fun z hz => unpack_bin p z (List.mem_of_mem_take hz)
          · intro j hj
            simp [Value.ownBlock] at hj
            subst hj
            exact ⟨.inr rfl, by have := heap_lt hgb; omega⟩
          · intro j hj
            rcases hj with rfl | rfl
            · simp
            · have := heap_lt hgb; simp; omega
          · intro j hj
            rcases hj with rfl | rfl
            · exact hb.size
            · exact hgbB
end Go.Proofs.Ytmimljaniliecaa
