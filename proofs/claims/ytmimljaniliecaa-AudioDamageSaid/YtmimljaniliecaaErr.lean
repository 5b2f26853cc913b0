/- What the writer's and the reader's methods refuse; methods of nil. -/
import Derived.Test.YtmimljaniliecaaRd
namespace Go.Proofs.Ytmimljaniliecaa
open Go.RowKit Bt

theorem wPut_nil (w : World) (v n : Int) : Calls Try.prog 45 #[.pointer none, .int .u32 v, .int .i64 n] w fun e w' => e = .returned (.int .i64 1) ∧ w = w' := by
  go_enter Try.func45, Try.ntmps45
  go_wp2
  all_goals (go_ret; exact ⟨rfl, rfl⟩)

theorem wPut_arg (w : World) (g : Nat) (v n : Int) (hn : n < 0 ∨ 32 < n) : Calls Try.prog 45 #[.pointer (some ⟨g, 0, none⟩), .int .u32 v, .int .i64 n] w fun e w' => e = .returned (.int .i64 1) ∧ w = w' := by
  rcases hn with hn | hn
  · go_enter Try.func45, Try.ntmps45
    go_wp2
    go_ret
    exact ⟨rfl, rfl⟩
  · have hn0 : ¬ n < 0 := by omega
    go_enter Try.func45, Try.ntmps45
    go_wp2
    go_ret
    exact ⟨rfl, rfl⟩

theorem wPut_range (w : World) (g : Nat) (v n : Int) (hv : 0 ≤ v ∧ v < 4294967296) (hn : 0 ≤ n ∧ n ≤ 32) (hr : 0 < v / 2 ^ n.toNat) : Calls Try.prog 45 #[.pointer (some ⟨g, 0, none⟩), .int .u32 v, .int .i64 n] w fun e w' => e = .returned (.int .i64 2) ∧ w = w' := by
  go_enter Try.func45, Try.ntmps45
  go_wp2
  go_ret
  exact ⟨rfl, rfl⟩

theorem wPay_nil (w : World) : Calls Try.prog 47 #[.pointer none] w fun e w' => e = .returned (.slice none 0 0) ∧ w = w' := by
  go_enter Try.func47, Try.ntmps47
  go_wp2
  go_ret
  exact ⟨rfl, rfl⟩

theorem rLeft_nil (w : World) : Calls Try.prog 35 #[.pointer none] w fun e w' => e = .returned (.int .i64 0) ∧ w = w' := by
  go_enter Try.func35, Try.ntmps35
  go_wp2
  go_ret
  exact ⟨rfl, rfl⟩

theorem rTake_nil (w : World) (n : Int) : Calls Try.prog 58 #[.pointer none, .int .i64 n] w fun e w' => e = .returned (.tuple #[.int .u32 0, .int .i64 1]) ∧ w = w' := by
  go_enter Try.func58, Try.ntmps58
  go_wp2
  all_goals (go_ret2; exact ⟨rfl, rfl⟩)

theorem rTake_arg (w : World) (g : Nat) (n : Int) (hn : n < 0 ∨ 32 < n) : Calls Try.prog 58 #[.pointer (some ⟨g, 0, none⟩), .int .i64 n] w fun e w' => e = .returned (.tuple #[.int .u32 0, .int .i64 1]) ∧ w = w' := by
  rcases hn with hn | hn
  · go_enter Try.func58, Try.ntmps58
    go_wp2
    go_ret2
    exact ⟨rfl, rfl⟩
  · have hn0 : ¬ n < 0 := by omega
    go_enter Try.func58, Try.ntmps58
    go_wp2
    go_ret2
    exact ⟨rfl, rfl⟩

theorem rTake_short (w : World) (S : Nat → Prop) (g : Nat) (p : List Nat) (en at_ : Nat) (n : Int) (h : IsR w S g p en at_) (hn : 0 ≤ n ∧ n ≤ 32) (hl : (en : Int) - at_ < n) :
    Calls Try.prog 58 #[.pointer (some ⟨g, 0, none⟩), .int .i64 n] w fun e w' => e = .returned (.tuple #[.int .u32 0, .int .i64 4]) ∧ ∃ m, w' = w.drewN m := by
  obtain ⟨v, h1, h2, h3, h4, h5, h6, h7, h8, h9⟩ := h
  have c1 : w.cell? ⟨g, 1, none⟩ = some (.int .i64 at_) := cell_of_row _ _ _ _ _ _ h1
  have c2 : w.cell? ⟨g, 2, none⟩ = some (.int .i64 en) := cell_of_row _ _ _ _ _ _ h1
  clear h1
  go_enter Try.func58, Try.ntmps58
  go_wp2
  go_quiet (fail)
  go_wp2
  go_ret2
  exact ⟨rfl, _, rfl⟩

/-! ### the reference: Bits -/
set_option maxHeartbeats 400000 in
theorem bits_walk (w : World) (v n : Int) (hv : 0 ≤ v ∧ v < 4294967296) (hn : 0 ≤ n ∧ n ≤ 32) : Calls Try.prog 50 #[.int .u32 v, .int .i64 n] w (Fresh w n.toNat (u8s (bitsOf v.toNat n.toNat))) := by
  obtain ⟨i0, hi, hz0, hz1, hz2⟩ := info_parts info_u8
  go_enter Try.func50, Try.ntmps50
  go_wp2
  go_loopw [5, 6] (fun s t wr => ∃ k : Nat, k ≤ n.toNat ∧ t = .int .i64 (n - 1 - k) ∧ wr.ownsRow w.heap.size 5 1 s k (u8s ((bitsOf v.toNat n.toNat).take k)) ∧ Below w.heap.size w wr) (fun _ t _ => (intOf t + 1).toNat)
  case atStart => exact ⟨0, Nat.zero_le _, by simp, World.ownsRow_nil _ _ _ _, Below.refl _ _⟩
  case round =>
    obtain ⟨k, hk, rfl, ho, hb⟩ := hrel
    by_cases hlt : (k : Int) < n
    · have hge : (0 : Int) ≤ n - 1 - k := by omega
      have hk32 : k < 32 := by omega
      have hts := take_bits v.toNat n.toNat k (by omega)
      have HTS := Lib.hid hts; clear hts
      obtain ⟨i, hi'⟩ : ∃ i : Nat, (i : Int) = n - 1 - k := ⟨(n - 1 - k).toNat, by omega⟩
      rw [← hi'] at hge ⊢
      have hi32 : i < 32 := by omega
      have HI := Lib.hid hi'; clear hi'
      have ho0 := own_base ho (fun _ _ => Nat.zero_le _)
      go_wp2_with (at_builtin; refine wpList_append_mine _ rfl _ _ 22 rfl 5 i0 (.int .u8 0) 1 1 Try.underlying22 hi hz0 hz1 hz2 rfl (by decide) u5 k (u8s ((bitsOf v.toNat n.toNat).take k)) rfl ?h1 ⟨wr.heap.size, 0, none⟩ 1 1 [.int .u8 (bits .and .u32 (v / 2 ^ i) 1 % 256)] rfl rfl ?h2 ?h3 ?h4 ?h5 ?h6)
      case h1 => exact own_keep ho0 ((Keep.refl (fun _ => False) _).alloc _) (fun _ _ h => h)
      case h2 => exact one_new
      case h3 => intro u hu; simp at hu; subst hu; rfl
      case h4 => unfold maxLen; omega
      case h5 => omega
      case h6 =>
        intro v' w1 hown hgr hblk hsh
        have hblk' : ∀ k, v'.ownBlock = some k → w.heap.size ≤ k := by
          intro k hk
          rcases hblk with h | h
          · rw [h] at hk; exact (ho.lt k hk).1
          · rw [h] at hk; simp at hk; have := hb.size; omega
        have hb1 : Below w.heap.size w w1 := (hb.alloc hb.size _).grown hgr (by have := hb.size; simp; omega) (fun k hk => (ho.lt k hk).1)
        have e : (v / 2 ^ i) = ((v.toNat / 2 ^ i : Nat) : Int) := by
          have : v = (v.toNat : Int) := by omega
          rw [Int.natCast_ediv, Int.natCast_pow, ← this]; rfl
        have hq : v.toNat / 2 ^ i ≤ v.toNat := Nat.div_le_self _ _
        rw [e, byte_bit _ (by omega)] at hown
        have hown2 : w1.ownsRow w.heap.size 5 1 v' (k + 1) (u8s ((bitsOf v.toNat n.toNat).take (k + 1))) := by
          refine own_base (base := 0) ?_ hblk'
          rw [HTS.out, show n.toNat - 1 - k = i by have := HI.out; omega]
          simpa [u8s] using hown
        have HO := Lib.hid hown2; clear hown2
        clear hown hgr hblk hsh hblk' e hq ho ho0 hb
        have HB := Lib.hid hb1; clear hb1
        go_wp2
        go_roundw
        case rel => exact ⟨k + 1, by omega, by have := HI.out; go_num, HO.out, HB.out⟩
        case measure => have := HI.out; simp [intOf]
    · obtain rfl : k = n.toNat := by omega
      have hneg : n - 1 - (n.toNat : Int) = -1 := by omega
      rw [hneg]
      have HN := Lib.hid hneg; clear hneg
      go_wp2
      go_ret
      rw [List.take_of_length_le (by rw [bitsOf_length]; exact Nat.le_refl _)] at ho
      exact ⟨_, rfl, ho, hb⟩
end Go.Proofs.Ytmimljaniliecaa
