/- Forward: the walk. -/
import Derived.Test.YtjclncmpfdfkfaaFst
namespace Go.Proofs.Ytjclncmpfdfkfaa
open Go.RowKit Go.Great

set_option maxHeartbeats 2000000 in
set_option maxRecDepth 100000 in
theorem forward_good (w : World) (xs : List Int) (hl : xs.length = 64) (hr : Lim 255 xs) : Calls Try.prog 28 #[.agg (iv xs)] w fun e w' => e = .returned (.tuple #[.agg (iv (fwd xs)), .int .i64 0]) ∧ Below w.heap.size w w' := by
  have LL := Lib.hid hl
  have RR := Lib.hid hr
  have H1 : Has ((w.alloc (.cells (iv xs) 30 (0, 0))).alloc (.cells (iv zeros) 30 (0, 0))) w.heap.size 30 xs := (Has.new w _ xs).alloc _
  have H2 : Has ((w.alloc (.cells (iv xs) 30 (0, 0))).alloc (.cells (iv zeros) 30 (0, 0))) (w.heap.size + 1) 30 zeros := Has.newAt _ _ _ _ (by simp)
  have H3 : Below w.heap.size w ((w.alloc (.cells (iv xs) 30 (0, 0))).alloc (.cells (iv zeros) 30 (0, 0))) := ((Below.refl _ _).alloc (Nat.le_refl _) _).alloc (by simp) _
  have G1 := Lib.hid H1
  have G2 := Lib.hid H2
  have G3 := Lib.hid H3
  clear H1 H2 H3 hr hl
  go_enter Try.func28, Try.ntmps28
  go_wp2_with (refine wpList_load_row rfl 30 _ rfl w.heap.size rfl 30 (iv xs) (0, 0) _ G1.out Try.underlying30 rfl (info64 _ LL.out) ?_)
  go_loopw [16] (fun t wr => ∃ n : Nat, n ≤ 64 ∧ t = .int .i64 n ∧ wr = (w.alloc (.cells (iv xs) 30 (0, 0))).alloc (.cells (iv zeros) 30 (0, 0))) (fun t _ => 64 - (intOf t).toNat)
  case atStart => exact ⟨0, by omega, rfl, rfl⟩
  case round =>
    obtain ⟨n, hn, rfl, rfl⟩ := hrel
    by_cases h64 : n < 64
    · have hix := fun w' => index_iv (P := Try.prog) (w := w') (t := 30) (e := 3) (len := 64) xs rfl rfl rfl n h64 (by rw [LL.out]; exact h64)
      have hb := RR.out n h64
      generalize xs.getD n 0 = x at *
      go_wp2
      go_roundw
      case rel => exact ⟨n + 1, by omega, by go_num, by trivial⟩
      case measure => simp [intOf] <;> omega
    · obtain rfl : n = 64 := by omega
      have K1 : w.heap.size + 1 < ((w.alloc (.cells (iv xs) 30 (0, 0))).alloc (.cells (iv zeros) 30 (0, 0))).heap.size := by simp
      have KN := Lib.hid K1; clear K1
      generalize (w.alloc (.cells (iv xs) 30 (0, 0))).alloc (.cells (iv zeros) 30 (0, 0)) = w0 at *
      go_wp2_with (first | (go_at_call 49; refine (matrix_walk _).mono ?_; rintro e1 w1 ⟨rfl, B1⟩; have BB := Lib.hid B1; clear B1) | (refine wpList_store_row rfl 50 _ _ rfl w1.heap.size (iv matL) rfl rfl 50 _ (Has.new w1 50 (tab 64 (fun _ => 0))) (by kernel_rfl) (by kernel_rfl) (iv_one _) ?_))
      have S0 : FSt w.heap.size w1.heap.size w ((((w1.alloc (.cells (iv (tab 64 (fun _ => 0))) 50 (0, 0))).setRow w1.heap.size (iv matL)).alloc (.cells (iv zeros) 30 (0, 0))).alloc (.cells (iv zeros) 30 (0, 0))) xs zeros zeros := by
        have hb := BB.out.size
        have hn := KN.out
        refine ⟨((((G1.out.belowS BB.out).alloc _).rowOther (by omega) _).alloc _).alloc _, ((((G2.out.belowS BB.out).alloc _).rowOther (by omega) _).alloc _).alloc _, (((Has.new w1 _ _).setRow _).alloc _).alloc _, (Has.newAt _ _ _ _ (by simp [World.setRow])).alloc _, Has.newAt _ _ _ _ (by simp [World.setRow]), ?_⟩
        refine ((Below_setRow (((G3.out.trans (BB.out.mono (by omega)))).alloc (by omega) _) (by omega) _).alloc (by simp [World.setRow]; omega) _).alloc (by simp [World.setRow]; omega) _
      have S1 := Lib.hid S0; clear S0
      have hM : w.heap.size + 1 < w1.heap.size := by have := BB.out.size; have := KN.out; omega
      have HM := Lib.hid hM; clear hM
      go_loopw [28] (fun t wr => ∃ k : Nat, k ≤ 8 ∧ t = .int .i64 k ∧ FSt w.heap.size w1.heap.size w wr xs (tab 64 (part2 (R1 xs) (8 * k) 0)) zeros) (fun t _ => 8 - (intOf t).toNat)
      case atStart => exact ⟨0, by omega, rfl, by rw [Nat.mul_zero, part2_zero]; exact S1.out⟩
      case round =>
        clear S1
        obtain ⟨k, hk, rfl, hS⟩ := hrel
        have S1 := Lib.hid hS; clear hS
        by_cases h8 : k < 8
        · go_wp2
          go_loopw [31] (fun t wr => ∃ j : Nat, j ≤ 8 ∧ t = .int .i64 j ∧ FSt w.heap.size w1.heap.size w wr xs (tab 64 (part2 (R1 xs) (8 * k + j) 0)) zeros) (fun t _ => 8 - (intOf t).toNat)
          case atStart => exact ⟨0, by omega, rfl, S1.out⟩
          case round =>
            clear S1
            obtain ⟨j, hj, rfl, hS⟩ := hrel
            have S1 := Lib.hid hS; clear hS
            by_cases h8' : j < 8
            · go_wp2
              go_loopw [34] (fun t wr => ∃ l : Nat, l ≤ 8 ∧ t = .int .i64 l ∧ FSt w.heap.size w1.heap.size w wr xs (tab 64 (part2 (R1 xs) (8 * k + j) (dot (t1 xs (8 * k + j)) l))) zeros) (fun t _ => 8 - (intOf t).toNat)
              case atStart => exact ⟨0, by omega, rfl, S1.out⟩
              case round =>
                clear S1
                obtain ⟨l, hlt, rfl, hS⟩ := hrel
                have S1 := Lib.hid hS; clear hS
                by_cases h8'' : l < 8
                · have hn : 8 * k + j < 64 := by omega
                  have hn2 : 8 * k + l < 64 := by omega
                  have c1 : wr.cell? ⟨w1.heap.size + 1, 8 * k + j, none⟩ = some (.int .i64 (dot (t1 xs (8 * k + j)) l)) := by
                    rw [S1.out.2.2.2.1.cell _ (by rw [tab_length]; exact hn), part2_at _ _ _ hn]
                  have c2 := mat_at _ _ _ S1.out.2.2.1 j l h8' h8''
                  have c3 := S1.out.1.cell (8 * k + l) (by rw [LL.out]; exact hn2)
                  have f1 := S1.out.2.2.2.1.frozen (8 * k + j)
                  have ht : t1 xs (8 * k + j) l = mt j l * xs.getD (8 * k + l) 0 := by
                    unfold t1
                    rw [show (8 * k + j) % 8 = j by omega, show (8 * k + j) / 8 = k by omega]
                  have b1 := t1_le RR.out (8 * k + j) l hn h8''
                  have b2 := R1_le RR.out (8 * k + j) hn l (by omega)
                  have F1 := Lib.hid (S1.out.setF HM.out (8 * k + j) (dot (t1 xs (8 * k + j)) l + mt j l * xs.getD (8 * k + l) 0))
                  have E1 : dot (t1 xs (8 * k + j)) (l + 1) = dot (t1 xs (8 * k + j)) l + mt j l * xs.getD (8 * k + l) 0 := by rw [← ht]; rfl
                  have EE := Lib.hid E1; clear E1
                  rw [ht] at b1
                  have w1' : IntKind.i64.wrap (mt j l * xs.getD (8 * k + l) 0) = mt j l * xs.getD (8 * k + l) 0 := wrap_id _ (by omega)
                  have w2' : IntKind.i64.wrap (dot (t1 xs (8 * k + j)) l + mt j l * xs.getD (8 * k + l) 0) = dot (t1 xs (8 * k + j)) l + mt j l * xs.getD (8 * k + l) 0 := wrap_id _ (by omega)
                  have e1 : IntKind.i64.wrap (8 * (k : Int)) = ((8 * k : Nat) : Int) := wrap_to _ _ (by omega) (by omega)
                  have e2 : IntKind.i64.wrap (((8 * k : Nat) : Int) + (j : Int)) = ((8 * k + j : Nat) : Int) := wrap_to _ _ (by omega) (by omega)
                  have e3 : IntKind.i64.wrap (((8 * k : Nat) : Int) + (l : Int)) = ((8 * k + l : Nat) : Int) := wrap_to _ _ (by omega) (by omega)
                  clear ht
                  generalize dot (t1 xs (8 * k + j)) l = s at *
                  generalize mt j l = m at *
                  generalize xs.getD (8 * k + l) 0 = x at *
                  go_wp2_with fail
                  go_region
                  go_wp2
                  go_roundw
                  case rel => exact ⟨l + 1, by omega, by go_num, by rw [EE.out, ← part2_set]; exact F1.out.drewN 1⟩
                  case measure => simp [intOf] <;> omega
                · obtain rfl : l = 8 := by omega
                  have E8 : FSt w.heap.size w1.heap.size w wr xs (tab 64 (part2 (R1 xs) (8 * k + (j + 1)) 0)) zeros := by
                    rw [← Nat.add_assoc, ← part2_next (R1 xs) (8 * k + j) _ rfl]; exact S1.out
                  have S2 := Lib.hid E8; clear E8 S1
                  go_wp2
                  go_roundw
                  case rel => exact ⟨j + 1, by omega, by go_num, S2.out⟩
                  case measure => simp [intOf] <;> omega
            · obtain rfl : j = 8 := by omega
              go_wp2
              go_roundw
              case rel => exact ⟨k + 1, by omega, by go_num, S1.out⟩
              case measure => simp [intOf] <;> omega
        · obtain rfl : k = 8 := by omega
          have S2 : FSt w.heap.size w1.heap.size w wr xs (tab 64 (R1 xs)) zeros := by rw [← part2_end _ 0]; exact S1.out
          clear S1
          have S1 := Lib.hid S2; clear S2
          go_wp2
          go_loopw [60] (fun t wr => ∃ i : Nat, i ≤ 8 ∧ t = .int .i64 i ∧ FSt w.heap.size w1.heap.size w wr xs (tab 64 (R1 xs)) (tab 64 (part2 (Y1 xs) (8 * i) 0))) (fun t _ => 8 - (intOf t).toNat)
          case atStart => exact ⟨0, by omega, rfl, by rw [Nat.mul_zero, part2_zero]; exact S1.out⟩
          case round =>
            clear S1
            obtain ⟨i, hi, rfl, hS⟩ := hrel
            have S1 := Lib.hid hS; clear hS
            by_cases h8 : i < 8
            · go_wp2
              go_loopw [63] (fun t wr => ∃ j : Nat, j ≤ 8 ∧ t = .int .i64 j ∧ FSt w.heap.size w1.heap.size w wr xs (tab 64 (R1 xs)) (tab 64 (part2 (Y1 xs) (8 * i + j) 0))) (fun t _ => 8 - (intOf t).toNat)
              case atStart => exact ⟨0, by omega, rfl, S1.out⟩
              case round =>
                clear S1
                obtain ⟨j, hj, rfl, hS⟩ := hrel
                have S1 := Lib.hid hS; clear hS
                by_cases h8' : j < 8
                · go_wp2
                  go_loopw [66] (fun t wr => ∃ k : Nat, k ≤ 8 ∧ t = .int .i64 k ∧ FSt w.heap.size w1.heap.size w wr xs (tab 64 (R1 xs)) (tab 64 (part2 (Y1 xs) (8 * i + j) (dot (t2 xs (8 * i + j)) k)))) (fun t _ => 8 - (intOf t).toNat)
                  case atStart => exact ⟨0, by omega, rfl, S1.out⟩
                  case round =>
                    clear S1
                    obtain ⟨k, hk, rfl, hS⟩ := hrel
                    have S1 := Lib.hid hS; clear hS
                    by_cases h8'' : k < 8
                    · have hn : 8 * i + j < 64 := by omega
                      have hn2 : 8 * k + j < 64 := by omega
                      have c1 : wr.cell? ⟨w1.heap.size + 1 + 1, 8 * i + j, none⟩ = some (.int .i64 (dot (t2 xs (8 * i + j)) k)) := by
                        rw [S1.out.2.2.2.2.1.cell _ (by rw [tab_length]; exact hn), part2_at _ _ _ hn]
                      have c2 := mat_at _ _ _ S1.out.2.2.1 i k h8 h8''
                      have c3 : wr.cell? ⟨w1.heap.size + 1, 8 * k + j, none⟩ = some (.int .i64 (R1 xs (8 * k + j))) := by
                        rw [S1.out.2.2.2.1.cell _ (by rw [tab_length]; exact hn2), tab_getD _ _ _ hn2]
                      have f1 : wr.frozen? ⟨w1.heap.size + 1 + 1, 8 * i + j, none⟩ = false := S1.out.2.2.2.2.1.frozen (8 * i + j)
                      have ht : t2 xs (8 * i + j) k = mt i k * R1 xs (8 * k + j) := by
                        unfold t2
                        rw [show (8 * i + j) % 8 = j by omega, show (8 * i + j) / 8 = i by omega]
                      have b1 := t2_le RR.out (8 * i + j) k hn h8''
                      have b2 := Y1_le RR.out (8 * i + j) hn k (by omega)
                      have F1 := Lib.hid (S1.out.setG HM.out (8 * i + j) (dot (t2 xs (8 * i + j)) k + mt i k * R1 xs (8 * k + j)))
                      have E1 : dot (t2 xs (8 * i + j)) (k + 1) = dot (t2 xs (8 * i + j)) k + mt i k * R1 xs (8 * k + j) := by rw [← ht]; rfl
                      have EE := Lib.hid E1; clear E1
                      rw [ht] at b1
                      have w1' : IntKind.i64.wrap (mt i k * R1 xs (8 * k + j)) = mt i k * R1 xs (8 * k + j) := wrap_id _ (by omega)
                      have w2' : IntKind.i64.wrap (dot (t2 xs (8 * i + j)) k + mt i k * R1 xs (8 * k + j)) = dot (t2 xs (8 * i + j)) k + mt i k * R1 xs (8 * k + j) := wrap_id _ (by omega)
                      have e1 : IntKind.i64.wrap (8 * (i : Int)) = ((8 * i : Nat) : Int) := wrap_to _ _ (by omega) (by omega)
                      have e2 : IntKind.i64.wrap (((8 * i : Nat) : Int) + (j : Int)) = ((8 * i + j : Nat) : Int) := wrap_to _ _ (by omega) (by omega)
                      have e3 : IntKind.i64.wrap (8 * (k : Int)) = ((8 * k : Nat) : Int) := wrap_to _ _ (by omega) (by omega)
                      have e4 : IntKind.i64.wrap (((8 * k : Nat) : Int) + (j : Int)) = ((8 * k + j : Nat) : Int) := wrap_to _ _ (by omega) (by omega)
                      clear ht
                      generalize dot (t2 xs (8 * i + j)) k = s at *
                      generalize mt i k = m at *
                      generalize R1 xs (8 * k + j) = x at *
                      go_wp2_with fail
                      go_region
                      go_wp2
                      go_roundw
                      case rel => exact ⟨k + 1, by omega, by go_num, by rw [EE.out, ← part2_set]; exact F1.out.drewN 1⟩
                      case measure => simp [intOf] <;> omega
                    · obtain rfl : k = 8 := by omega
                      have E8 : FSt w.heap.size w1.heap.size w wr xs (tab 64 (R1 xs)) (tab 64 (part2 (Y1 xs) (8 * i + (j + 1)) 0)) := by
                        rw [← Nat.add_assoc, ← part2_next (Y1 xs) (8 * i + j) _ rfl]; exact S1.out
                      have S2 := Lib.hid E8; clear E8 S1
                      go_wp2
                      go_roundw
                      case rel => exact ⟨j + 1, by omega, by go_num, S2.out⟩
                      case measure => simp [intOf] <;> omega
                · obtain rfl : j = 8 := by omega
                  go_wp2
                  go_roundw
                  case rel => exact ⟨i + 1, by omega, by go_num, S1.out⟩
                  case measure => simp [intOf] <;> omega
            · obtain rfl : i = 8 := by omega
              have S2 : FSt w.heap.size w1.heap.size w wr xs (tab 64 (R1 xs)) (fwd xs) := by unfold fwd; rw [← part2_end _ 0]; exact S1.out
              clear S1
              have S1 := Lib.hid S2; clear S2
              go_wp2_with (first | (refine wpList_load_row rfl 30 _ rfl (w1.heap.size + 1 + 1) rfl 30 (iv (fwd xs)) (0, 0) _ S1.out.2.2.2.2.1 Try.underlying30 rfl (info64 _ (tab_length _ _)) ?_) | (refine wpList_store_row rfl 30 _ _ rfl (w.heap.size + 1) (iv (fwd xs)) rfl rfl 30 _ S1.out.2.1 (info64 _ (tab_length _ _)) (by rw [iv_size, iv_size, zeros, fwd, tab_length, tab_length]) (iv_one _) ?_))
              exact bodyPost_ret (v := .tuple #[.agg (iv (fwd xs)), .int .i64 0]) (results_two rfl _ _ (w.heap.size + 1) 30 (iv (fwd xs)) (0, 0) _ rfl (S1.out.2.1.setRow _) Try.underlying30 rfl (info64 _ (tab_length _ _)) _ rfl) rfl ⟨rfl, Below_setRow S1.out.2.2.2.2.2 (by omega) _⟩
end Go.Proofs.Ytjclncmpfdfkfaa
