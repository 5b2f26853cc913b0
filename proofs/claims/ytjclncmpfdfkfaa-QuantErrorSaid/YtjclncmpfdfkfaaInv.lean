/- Inverse: the walk. -/
import Derived.Test.YtjclncmpfdfkfaaIst
namespace Go.Proofs.Ytjclncmpfdfkfaa
open Go.RowKit Go.Great

theorem bnrm_in (i : Nat) (h : i < 8) : bnrm (i : Int) = nrm i := by unfold bnrm; rw [if_pos (by omega)]; rfl
set_option maxHeartbeats 4000000 in
set_option maxRecDepth 100000 in
theorem inverse_walk (w : World) (xs : List Int) (hl : xs.length = 64) : Calls Try.prog 29 #[.agg (iv xs)] w fun e w' => e = .returned (.agg (iv (inv xs))) ∧ Below w.heap.size w w' := by
  have LL := Lib.hid hl
  have H1 : Has ((w.alloc (.cells (iv xs) 30 (0, 0))).alloc (.cells (iv zeros) 30 (0, 0))) w.heap.size 30 xs := (Has.new w _ xs).alloc _
  have H2 : Has ((w.alloc (.cells (iv xs) 30 (0, 0))).alloc (.cells (iv zeros) 30 (0, 0))) (w.heap.size + 1) 30 zeros := Has.newAt _ _ _ _ (by simp)
  have H3 : Below w.heap.size w ((w.alloc (.cells (iv xs) 30 (0, 0))).alloc (.cells (iv zeros) 30 (0, 0))) := ((Below.refl _ _).alloc (Nat.le_refl _) _).alloc (by simp) _
  have K1 : w.heap.size + 1 < ((w.alloc (.cells (iv xs) 30 (0, 0))).alloc (.cells (iv zeros) 30 (0, 0))).heap.size := by simp
  have KN := Lib.hid K1
  have G1 := Lib.hid H1
  have G2 := Lib.hid H2
  have G3 := Lib.hid H3
  clear H1 H2 H3 hl K1
  go_enter Try.func29, Try.ntmps29
  go_wp2_with (first | (go_at_call 49; refine (matrix_walk _).mono ?_; rintro e1 w1 ⟨rfl, B1⟩; have B2 : Below ((w.alloc (.cells (iv xs) 30 (0, 0))).alloc (.cells (iv zeros) 30 (0, 0))).heap.size ((w.alloc (.cells (iv xs) 30 (0, 0))).alloc (.cells (iv zeros) 30 (0, 0))) w1 := B1; have BB := Lib.hid B2; clear B1 B2) | (refine wpList_store_row rfl 50 _ _ rfl w1.heap.size (iv matL) rfl rfl 50 _ (Has.new w1 50 (tab 64 (fun _ => 0))) (by kernel_rfl) (by kernel_rfl) (iv_one _) ?_))
  have S0 : FSc w.heap.size w1.heap.size w ((w1.alloc (.cells (iv (tab 64 (fun _ => 0))) 50 (0, 0))).setRow w1.heap.size (iv matL)) xs matL := by
    have hb := BB.out.size
    have hn := KN.out
    refine ⟨((G1.out.belowS BB.out).alloc _).rowOther (by omega) _, ((G2.out.belowS BB.out).alloc _).rowOther (by omega) _, (Has.new w1 _ _).setRow _, ?_⟩
    exact Below_setRow (((G3.out.trans (BB.out.mono (by omega)))).alloc (by omega) _) (by omega) _
  have S1 := Lib.hid S0; clear S0
  have hM : w.heap.size + 1 < w1.heap.size := by have := BB.out.size; have := KN.out; omega
  have HM := Lib.hid hM; clear hM
  go_loopw [16] (fun t wr => ∃ i : Nat, i ≤ 8 ∧ t = .int .i64 i ∧ FSc w.heap.size w1.heap.size w wr xs (tab 64 (mid (8 * i)))) (fun t _ => 8 - (intOf t).toNat)
  case atStart => exact ⟨0, by omega, rfl, by rw [Nat.mul_zero, mid_zero]; exact S1.out⟩
  case round =>
    clear S1
    obtain ⟨i, hi, rfl, hS⟩ := hrel
    have S1 := Lib.hid hS; clear hS
    by_cases h8 : i < 8
    · have di : decide ((i : Int) < 8) = true := by simp; omega
      go_wp2
      clear di
      go_loopw [19] (fun t wr => ∃ k : Nat, k ≤ 8 ∧ t = .int .i64 k ∧ FSc w.heap.size w1.heap.size w wr xs (tab 64 (mid (8 * i + k)))) (fun t _ => 8 - (intOf t).toNat)
      case atStart => exact ⟨0, by omega, rfl, S1.out⟩
      case round =>
        clear S1
        obtain ⟨k, hk, rfl, hS⟩ := hrel
        have S1 := Lib.hid hS; clear hS
        by_cases h8' : k < 8
        · have c1 : wr.cell? ⟨w1.heap.size, i * 8 + k, none⟩ = some (.int .i64 (mt i k)) := by
            rw [S1.out.2.2.1.cell _ (by rw [tab_length]; omega), show i * 8 + k = 8 * i + k by omega, mid_at _ (by omega)]
            rw [show (8 * i + k) / 8 = i by omega, show (8 * i + k) % 8 = k by omega]
          have f1 := S1.out.2.2.1.frozen (i * 8 + k)
          have F0 := S1.out.setM HM.out (8 * i + k) (tm ((8 * i + k) / 8) ((8 * i + k) % 8))
          rw [mid_set, show (8 * i + k) / 8 = i by omega, show (8 * i + k) % 8 = k by omega, show 8 * i + k = i * 8 + k by omega] at F0
          have F1 := Lib.hid F0; clear F0
          have hs := nrm_in i h8
          have q1 : (739840 : Int).tdiv (nrm i) = sc i := by
            unfold sc
            rcases hs with h | h | h <;> rw [h] <;> decide
          have q0 : nrm i ≠ 0 := by omega
          have b1 := tm_le i k h8
          have ht : tm i k = mt i k * sc i := rfl
          have b2 := sc_in i h8
          have w1' : IntKind.i64.wrap (mt i k * sc i) = mt i k * sc i := wrap_id _ (by rw [← ht]; omega)
          have w2' : IntKind.i64.wrap (sc i) = sc i := wrap_id _ (by omega)
          rw [ht] at F1
          have CN := Lib.hid (fun w' => norm_walk w' (i : Int))
          rw [bnrm_in i h8] at CN
          clear ht b1 hs
          generalize nrm i = ni at *
          generalize sc i = si at *
          generalize mt i k = m at *
          go_wp2_with fail
          go_region_with (go_at_call 41; refine (CN.out _).mono ?_; rintro e2 w2 ⟨rfl, rfl⟩)
          all_goals (
            go_wp2
            go_roundw
            case rel => exact ⟨k + 1, by omega, by go_num, by rw [show 8 * i + (k + 1) = i * 8 + k + 1 by omega]; exact F1.out.drewN 1⟩
            case measure => simp [intOf] <;> omega)
        · obtain rfl : k = 8 := by omega
          go_wp2
          go_roundw
          case rel => exact ⟨i + 1, by omega, by go_num, S1.out⟩
          case measure => simp [intOf] <;> omega
    · obtain rfl : i = 8 := by omega
      have S2 : FSc w.heap.size w1.heap.size w wr xs tmL := by rw [← mid_end]; exact S1.out
      have hR : w1.heap.size < wr.heap.size := S2.2.2.1.lt
      have hN := HM.out
      have S3 : FSm w.heap.size w1.heap.size wr.heap.size w ((wr.alloc (.cells (iv zeros) 30 (0, 0))).alloc (.cells (iv zeros) 30 (0, 0))) xs zeros zeros :=
        ⟨(S2.1.alloc _).alloc _, (S2.2.1.alloc _).alloc _, (S2.2.2.1.alloc _).alloc _, (Has.new wr _ _).alloc _, Has.newAt _ _ _ _ (by simp), (S2.2.2.2.alloc (by omega) _).alloc (by simp; omega) _⟩
      have HR : w.heap.size + 1 < w1.heap.size ∧ w1.heap.size < wr.heap.size := ⟨hN, hR⟩
      have HM2 := Lib.hid HR
      clear S1 HM hN hR HR S2
      have S1 := Lib.hid S3
      clear S3
      rw [show ((8 : Nat) : Int) = 8 from rfl]
      go_wp2_with fail
      generalize wr.heap.size = R at *
      go_loopw [35] (fun t wr => ∃ k : Nat, k ≤ 8 ∧ t = .int .i64 k ∧ FSm w.heap.size w1.heap.size R w wr xs (tab 64 (part2 (R2 xs) (8 * k) 0)) zeros) (fun t _ => 8 - (intOf t).toNat)
      case atStart => exact ⟨0, by omega, rfl, by rw [Nat.mul_zero, part2_zero]; exact S1.out⟩
      case round =>
        clear S1
        obtain ⟨k, hk, rfl, hS⟩ := hrel
        have S1 := Lib.hid hS; clear hS
        by_cases h8 : k < 8
        · have dk : decide ((k : Int) < 8) = true := by simp; omega
          go_wp2
          clear dk
          go_loopw [38] (fun t wr => ∃ j : Nat, j ≤ 8 ∧ t = .int .i64 j ∧ FSm w.heap.size w1.heap.size R w wr xs (tab 64 (part2 (R2 xs) (8 * k + j) 0)) zeros) (fun t _ => 8 - (intOf t).toNat)
          case atStart => exact ⟨0, by omega, rfl, S1.out⟩
          case round =>
            clear S1
            obtain ⟨j, hj, rfl, hS⟩ := hrel
            have S1 := Lib.hid hS; clear hS
            by_cases h8' : j < 8
            · have dj : decide ((j : Int) < 8) = true := by simp; omega
              go_wp2
              clear dj
              go_loopw [41] (fun t wr => ∃ l : Nat, l ≤ 8 ∧ t = .int .i64 l ∧ FSm w.heap.size w1.heap.size R w wr xs (tab 64 (part2 (R2 xs) (8 * k + j) (dot (s1 xs (8 * k + j)) l))) zeros) (fun t _ => 8 - (intOf t).toNat)
              case atStart => exact ⟨0, by omega, rfl, S1.out⟩
              case round =>
                clear S1
                obtain ⟨l, hlt, rfl, hS⟩ := hrel
                have S1 := Lib.hid hS; clear hS
                by_cases h8'' : l < 8
                · have hn : 8 * k + j < 64 := by omega
                  have hn2 : 8 * k + l < 64 := by omega
                  have c1 : wr.cell? ⟨R, 8 * k + j, none⟩ = some (.int .i64 (dot (s1 xs (8 * k + j)) l)) := by
                    rw [S1.out.2.2.2.1.cell _ (by rw [tab_length]; exact hn), part2_at _ _ _ hn]
                  have c2 := tm_at _ _ _ S1.out.2.2.1 l j h8'' h8'
                  have c3 := S1.out.1.cell (8 * k + l) (by rw [LL.out]; exact hn2)
                  have f1 := S1.out.2.2.2.1.frozen (8 * k + j)
                  have ht : s1 xs (8 * k + j) l = tm l j * min (max (xs.getD (8 * k + l) 0) (-2097152)) 2097152 := by
                    unfold s1 cl
                    rw [show (8 * k + j) % 8 = j by omega, show (8 * k + j) / 8 = k by omega]
                  have b1 := s1_le xs (8 * k + j) l h8''
                  have b2 := R2_le xs (8 * k + j) l (by omega)
                  have F1 := Lib.hid (S1.out.setF HM2.out (8 * k + j) (dot (s1 xs (8 * k + j)) l + tm l j * min (max (xs.getD (8 * k + l) 0) (-2097152)) 2097152))
                  have E1 : dot (s1 xs (8 * k + j)) (l + 1) = dot (s1 xs (8 * k + j)) l + tm l j * min (max (xs.getD (8 * k + l) 0) (-2097152)) 2097152 := by rw [← ht]; rfl
                  have EE := Lib.hid E1; clear E1
                  rw [ht] at b1
                  have w1' : IntKind.i64.wrap (tm l j * min (max (xs.getD (8 * k + l) 0) (-2097152)) 2097152) = tm l j * min (max (xs.getD (8 * k + l) 0) (-2097152)) 2097152 := wrap_id _ (by omega)
                  have w2' : IntKind.i64.wrap (dot (s1 xs (8 * k + j)) l + tm l j * min (max (xs.getD (8 * k + l) 0) (-2097152)) 2097152) = dot (s1 xs (8 * k + j)) l + tm l j * min (max (xs.getD (8 * k + l) 0) (-2097152)) 2097152 := wrap_id _ (by omega)
                  have e1 : IntKind.i64.wrap (8 * (k : Int)) = 8 * (k : Int) := wrap_id _ (by omega)
                  have e2 : IntKind.i64.wrap (8 * (k : Int) + (j : Int)) = 8 * (k : Int) + (j : Int) := wrap_id _ (by omega)
                  have e3 : IntKind.i64.wrap (8 * (k : Int) + (l : Int)) = 8 * (k : Int) + (l : Int) := wrap_id _ (by omega)
                  have i1 : (0 : Int) ≤ 8 * (k : Int) + (j : Int) := by omega
                  have i2 : 8 * (k : Int) + (j : Int) < 64 := by omega
                  have n1 : (8 * (k : Int) + (j : Int)).toNat = 8 * k + j := by omega
                  have n2 : (8 * (k : Int) + (l : Int)).toNat = 8 * k + l := by omega
                  have i3 : (0 : Int) ≤ 8 * (k : Int) + (l : Int) := by omega
                  have i4 : 8 * (k : Int) + (l : Int) < 64 := by omega
                  clear ht
                  generalize dot (s1 xs (8 * k + j)) l = s at *
                  generalize tm l j = m at *
                  generalize xs.getD (8 * k + l) 0 = x at *
                  go_wp2_with fail
                  go_region
                  go_wp2
                  go_roundw
                  case rel => exact ⟨l + 1, by omega, by go_num, by rw [EE.out, ← part2_set]; exact F1.out.drewN 1⟩
                  case measure => simp [intOf] <;> omega
                · obtain rfl : l = 8 := by omega
                  have E8 : FSm w.heap.size w1.heap.size R w wr xs (tab 64 (part2 (R2 xs) (8 * k + (j + 1)) 0)) zeros := by
                    rw [← Nat.add_assoc, ← part2_next (R2 xs) (8 * k + j) _ rfl]; exact S1.out
                  have S2 := Lib.hid E8; clear E8 S1
                  go_wp2
                  go_roundw
                  case rel => exact ⟨j + 1, by omega, by go_num, S2.out⟩
                  case measure => simp [intOf] <;> omega
            · obtain rfl : j = 8 := by omega
              go_wp2
              go_roundw
              case rel => exact ⟨k + 1, by omega, by go_num, S1.out⟩
              case measure => simp [intOf] <;> omega
        · obtain rfl : k = 8 := by omega
          have S2 : FSm w.heap.size w1.heap.size R w wr xs (tab 64 (R2 xs)) zeros := by rw [← part2_end _ 0]; exact S1.out
          clear S1
          have S1 := Lib.hid S2; clear S2
          rw [show ((8 : Nat) : Int) = 8 from rfl]
          go_wp2
          go_loopw [69] (fun t wr => ∃ k : Nat, k ≤ 8 ∧ t = .int .i64 k ∧ FSm w.heap.size w1.heap.size R w wr xs (tab 64 (R2 xs)) (tab 64 (part2 (X2 xs) (8 * k) 0))) (fun t _ => 8 - (intOf t).toNat)
          case atStart => exact ⟨0, by omega, rfl, by rw [Nat.mul_zero, part2_zero]; exact S1.out⟩
          case round =>
            clear S1
            obtain ⟨k, hk, rfl, hS⟩ := hrel
            have S1 := Lib.hid hS; clear hS
            by_cases h8 : k < 8
            · have dk : decide ((k : Int) < 8) = true := by simp; omega
              go_wp2
              clear dk
              go_loopw [72] (fun t wr => ∃ j : Nat, j ≤ 8 ∧ t = .int .i64 j ∧ FSm w.heap.size w1.heap.size R w wr xs (tab 64 (R2 xs)) (tab 64 (part2 (X2 xs) (8 * k + j) 0))) (fun t _ => 8 - (intOf t).toNat)
              case atStart => exact ⟨0, by omega, rfl, S1.out⟩
              case round =>
                clear S1
                obtain ⟨j, hj, rfl, hS⟩ := hrel
                have S1 := Lib.hid hS; clear hS
                by_cases h8' : j < 8
                · have dj : decide ((j : Int) < 8) = true := by simp; omega
                  go_wp2
                  clear dj
                  go_loopw [13, 75] (fun s t wr => ∃ l : Nat, l ≤ 8 ∧ s = .int .i64 (dot (s2 xs (8 * k + j)) l) ∧ t = .int .i64 l ∧ FSm w.heap.size w1.heap.size R w wr xs (tab 64 (R2 xs)) (tab 64 (part2 (X2 xs) (8 * k + j) 0))) (fun _ t _ => 8 - (intOf t).toNat)
                  case atStart => exact ⟨0, by omega, rfl, rfl, S1.out⟩
                  case round =>
                    clear S1
                    obtain ⟨l, hlt, rfl, rfl, hS⟩ := hrel
                    have S1 := Lib.hid hS; clear hS
                    have hn : 8 * k + j < 64 := by omega
                    by_cases h8'' : l < 8
                    · have hn2 : 8 * l + j < 64 := by omega
                      have c2 := tm_at _ _ _ S1.out.2.2.1 l k h8'' h8
                      have c3 : wr.cell? ⟨R, 8 * l + j, none⟩ = some (.int .i64 (R2 xs (8 * l + j))) := by
                        rw [S1.out.2.2.2.1.cell _ (by rw [tab_length]; exact hn2), tab_getD _ _ _ hn2]
                      have ht : s2 xs (8 * k + j) l = tm l k * R2 xs (8 * l + j) := by
                        unfold s2
                        rw [show (8 * k + j) % 8 = j by omega, show (8 * k + j) / 8 = k by omega]
                      have b1 := s2_le xs (8 * k + j) l h8''
                      have b2 := S2_le xs (8 * k + j) l (by omega)
                      have F1 := Lib.hid S1.out
                      have E1 : dot (s2 xs (8 * k + j)) (l + 1) = dot (s2 xs (8 * k + j)) l + tm l k * R2 xs (8 * l + j) := by rw [← ht]; rfl
                      have EE := Lib.hid E1; clear E1
                      rw [ht] at b1
                      have w1' : IntKind.i64.wrap (tm l k * R2 xs (8 * l + j)) = tm l k * R2 xs (8 * l + j) := wrap_id _ (by omega)
                      have w2' : IntKind.i64.wrap (dot (s2 xs (8 * k + j)) l + tm l k * R2 xs (8 * l + j)) = dot (s2 xs (8 * k + j)) l + tm l k * R2 xs (8 * l + j) := wrap_id _ (by omega)
                      have e1 : IntKind.i64.wrap (8 * (l : Int)) = 8 * (l : Int) := wrap_id _ (by omega)
                      have e3 : IntKind.i64.wrap (8 * (l : Int) + (j : Int)) = 8 * (l : Int) + (j : Int) := wrap_id _ (by omega)
                      have n2 : (8 * (l : Int) + (j : Int)).toNat = 8 * l + j := by omega
                      have i3 : (0 : Int) ≤ 8 * (l : Int) + (j : Int) := by omega
                      have i4 : 8 * (l : Int) + (j : Int) < 64 := by omega
                      clear ht
                      generalize dot (s2 xs (8 * k + j)) l = s at *
                      generalize tm l k = m at *
                      generalize R2 xs (8 * l + j) = x at *
                      go_wp2_with fail
                      go_region
                      go_wp2
                      go_roundw
                      case rel => exact ⟨l + 1, by omega, by rw [EE.out], by go_num, F1.out.drewN 1⟩
                      case measure => simp [intOf] <;> omega
                    · obtain rfl : l = 8 := by omega
                      have b2 := S2_le xs (8 * k + j) 8 (by omega)
                      have EX : X2 xs (8 * k + j) = (2 * dot (s2 xs (8 * k + j)) 8 + 547363225600) / 1094726451200 := rfl
                      have F1 := Lib.hid (S1.out.setG HM2.out (8 * k + j) ((2 * dot (s2 xs (8 * k + j)) 8 + 547363225600) / 1094726451200))
                      have c1 : wr.cell? ⟨R + 1, 8 * k + j, none⟩ = some (.int .i64 0) := by
                        rw [S1.out.2.2.2.2.1.cell _ (by rw [tab_length]; exact hn), part2_at _ _ _ hn]
                      have f1 := S1.out.2.2.2.2.1.frozen (8 * k + j)
                      have EE := Lib.hid EX; clear EX S1
                      generalize dot (s2 xs (8 * k + j)) 8 = s at *
                      have e1 : IntKind.i64.wrap (8 * (k : Int)) = 8 * (k : Int) := wrap_id _ (by omega)
                      have e2 : IntKind.i64.wrap (8 * (k : Int) + (j : Int)) = 8 * (k : Int) + (j : Int) := wrap_id _ (by omega)
                      have e3 : IntKind.i64.wrap (2 * s) = 2 * s := wrap_id _ (by omega)
                      have e4 : IntKind.i64.wrap (2 * s + 547363225600) = 2 * s + 547363225600 := wrap_id _ (by omega)
                      have i1 : (0 : Int) ≤ 8 * (k : Int) + (j : Int) := by omega
                      have i2 : 8 * (k : Int) + (j : Int) < 64 := by omega
                      have n1 : (8 * (k : Int) + (j : Int)).toNat = 8 * k + j := by omega
                      have CF := Lib.hid (fun w' => floor_walk w' (2 * s + 547363225600) 1094726451200 (by decide) (by decide) (by omega))
                      go_wp2_with (go_at_call 50; refine (CF.out _).mono ?_; rintro e2 w2 ⟨rfl, rfl⟩)
                      go_roundw
                      case rel => exact ⟨j + 1, by omega, by go_num, by rw [← Nat.add_assoc, ← part2_next (X2 xs) (8 * k + j) _ EE.out.symm, ← part2_set _ _ 0]; exact F1.out⟩
                      case measure => simp [intOf] <;> omega
                · obtain rfl : j = 8 := by omega
                  go_wp2
                  go_roundw
                  case rel => exact ⟨k + 1, by omega, by go_num, S1.out⟩
                  case measure => simp [intOf] <;> omega
            · obtain rfl : k = 8 := by omega
              have S2 : FSm w.heap.size w1.heap.size R w wr xs (tab 64 (R2 xs)) (inv xs) := by unfold inv; rw [← part2_end _ 0]; exact S1.out
              clear S1
              have S1 := Lib.hid S2; clear S2
              go_wp2_with (first | (refine wpList_load_row rfl 30 _ rfl (R + 1) rfl 30 (iv (inv xs)) (0, 0) _ S1.out.2.2.2.2.1 Try.underlying30 rfl (info64 _ (tab_length _ _)) ?_) | (refine wpList_store_row rfl 30 _ _ rfl (w.heap.size + 1) (iv (inv xs)) rfl rfl 30 _ S1.out.2.1 (info64 _ (tab_length _ _)) (by rw [iv_size, iv_size, zeros, inv, tab_length, tab_length]) (iv_one _) ?_))
              exact bodyPost_ret (v := .agg (iv (inv xs))) (results_cell_row rfl _ _ (w.heap.size + 1) 30 (iv (inv xs)) (0, 0) _ rfl (S1.out.2.1.setRow _) Try.underlying30 rfl (info64 _ (tab_length _ _))) rfl ⟨rfl, Below_setRow S1.out.2.2.2.2.2 (by omega) _⟩
end Go.Proofs.Ytjclncmpfdfkfaa
