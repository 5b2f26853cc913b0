/- The sanity check of the laws of the transform. -/
import Derived.Test.YtpjhehpgpfomjaaFwd
import Derived.Test.YtpjhehpgpfomjaaFwdBad
import Derived.Test.YtpjhehpgpfomjaaRfw
import Derived.Test.YtpjhehpgpfomjaaRfwBad
import Derived.Test.YtpjhehpgpfomjaaRiv
import Derived.Test.YtpjhehpgpfomjaaInv
import Derived.Test.YtpjhehpgpfomjaaEq
import Derived.Deep.MidRow
import Derived.Test.YtpjhehpgpfomjaaOrd
namespace Go.Proofs.Ytpjhehpgpfomjaa
open Go.RowKit Go.Great

theorem wp_world {P : Program} {c : Code} {a : Act} {w w' : World} {Q : Exit → Act → World → Prop} (e : w = w') (h : c.wp P Q a w') : c.wp P Q a w := e ▸ h
def ones : List Int := tab 64 (fun _ => 1)
def fones : List Int := fwd ones
theorem fones_zero : fones.getD 0 0 = 4096 := by decide +kernel
theorem fones_one : fones.getD 1 0 = 0 := by decide +kernel
theorem inv_fones : inv fones = ones := by decide +kernel
theorem lim_ones : Lim 255 ones := by
  intro n hn
  unfold ones
  rw [tab_getD _ _ _ hn]
  decide
theorem run_part (n : Nat) : part2 (fun _ => 1) n 1 = part2 (fun _ => 1) (n + 1) 0 := part2_next (fun _ => 1) n 1 rfl

set_option maxHeartbeats 2000000 in
set_option maxRecDepth 100000 in
theorem awake_walk (w : World) : Calls Try.prog 15 #[] w fun e w' => e = .returned (.bool true) ∧ Below w.heap.size w w' := by
  have H1 : Has (w.alloc (.cells (iv zeros) 23 (0, 0))) w.heap.size 23 zeros := Has.new w _ _
  have H2 : Below w.heap.size w (w.alloc (.cells (iv zeros) 23 (0, 0))) := (Below.refl _ _).alloc (Nat.le_refl _) _
  have G1 := Lib.hid H1
  have G2 := Lib.hid H2
  clear H1 H2
  go_enter Try.func15, Try.ntmps15
  go_wp2_with fail
  go_loopw [2] (fun t wr => ∃ n : Nat, n ≤ 64 ∧ t = .int .i64 n ∧ Has wr w.heap.size 23 (tab 64 (part2 (fun _ => 1) n 0)) ∧ Below w.heap.size w wr) (fun t _ => 64 - (intOf t).toNat)
  case atStart => exact ⟨0, by omega, rfl, by rw [part2_zero]; exact G1.out, G2.out⟩
  case round =>
    clear G1 G2
    obtain ⟨n, hn, rfl, hG, hB⟩ := hrel
    by_cases h64 : n < 64
    · have c1 : ∃ u, wr.cell? ⟨w.heap.size, n, none⟩ = some u := ⟨_, hG.cell n (by rw [tab_length]; exact h64)⟩
      obtain ⟨u, c1⟩ := c1
      have f1 := hG.frozen n
      have F0 := hG.set n 1
      rw [part2_set, run_part] at F0
      have F1 := Lib.hid F0
      have F2 := Lib.hid (hB.setCell (p := ⟨w.heap.size, n, none⟩) (Nat.le_refl _) (.int .i64 1))
      clear F0 hG hB
      go_wp2
      go_roundw
      case rel => exact ⟨n + 1, by omega, by go_num, F1.out, F2.out⟩
      case measure => simp [intOf] <;> omega
    · obtain rfl : n = 64 := by omega
      rw [part2_end] at hG
      have hG2 : Has wr w.heap.size 23 ones := hG
      have G1 := Lib.hid hG2
      have G2 := Lib.hid hB
      clear hG hB hG2
      have CF := Lib.hid (fun w' => forward_good w' ones (tab_length _ _) lim_ones)
      rw [show fwd ones = fones from rfl] at CF
      go_wp2_with (first | (refine wpList_load_row rfl 23 _ rfl w.heap.size rfl 23 (iv ones) (0, 0) _ G1.out Try.underlying23 rfl (info64 _ (tab_length _ _)) ?_) | (go_at_call 12; refine (CF.out _).mono ?_; rintro e1 w1 ⟨rfl, B1⟩; have BB := Lib.hid B1; clear B1) | (refine wpList_store_row rfl 23 _ _ rfl w1.heap.size (iv fones) rfl rfl 23 _ (Has.new w1 23 zeros) (info64 _ (tab_length _ _)) (by rw [iv_size, iv_size, zeros, fones, fwd, tab_length, tab_length]) (iv_one _) ?_))
      refine wp_world (w' := (w1.alloc (.cells (iv zeros) 23 (0, 0))).setRow w1.heap.size (iv fones)) (by kernel_rfl) ?_
      have hz := G1.out.lt
      have hz1 := BB.out.size
      have S0 : Has ((w1.alloc (.cells (iv zeros) 23 (0, 0))).setRow w1.heap.size (iv fones)) w1.heap.size 23 fones ∧ Has ((w1.alloc (.cells (iv zeros) 23 (0, 0))).setRow w1.heap.size (iv fones)) w.heap.size 23 ones ∧ Below w.heap.size w ((w1.alloc (.cells (iv zeros) 23 (0, 0))).setRow w1.heap.size (iv fones)) :=
        ⟨(Has.new w1 _ _).setRow _, ((G1.out.belowS BB.out).alloc _).rowOther (by omega) _, Below_setRow ((G2.out.trans (BB.out.mono (by omega))).alloc (by omega) _) (by omega) _⟩
      have hne : w1.heap.size ≠ w.heap.size := by omega
      generalize (w1.alloc (.cells (iv zeros) 23 (0, 0))).setRow w1.heap.size (iv fones) = W at *
      have hBz : w.heap.size ≤ W.heap.size := S0.2.2.size
      generalize w1.heap.size = M at *
      clear G1 G2 BB hz hz1
      obtain ⟨N, hN⟩ : ∃ N, N = w.heap.size := ⟨_, rfl⟩
      rw [← hN]
      rw [← hN] at S0 hne hBz
      have HN := Lib.hid hN; clear hN
      have CI := Lib.hid (fun w' => inverse_walk w' fones (tab_length _ _))
      rw [inv_fones] at CI
      have C0 : ∀ W', (Has W' M 23 fones ∧ Has W' N 23 ones ∧ Below N w W') → W'.cell? ⟨M, 0, none⟩ = some (.int .i64 4096) ∧ W'.cell? ⟨M, 1, none⟩ = some (.int .i64 0) := by
        intro W' h
        refine ⟨?_, ?_⟩
        · rw [h.1.cell 0 (by show 0 < (tab 64 _).length; rw [tab_length]; omega), fones_zero]
        · rw [h.1.cell 1 (by show 1 < (tab 64 _).length; rw [tab_length]; omega), fones_one]
      have CC := Lib.hid C0; clear C0
      have hi1 : (Try.prog.info? 23).map (·.size) = some (iv fones).size := info64 _ (tab_length _ _)
      have hi2 : (Try.prog.info? 23).map (·.size) = some (iv ones).size := info64 _ (tab_length _ _)
      have EQ2 : ∀ w', (binOp .eql 23 (.agg (iv ones)) (.agg (iv ones))).run Try.prog w' = .ok (.bool true) w' := fun w' => eql_same w' ones (tab_length _ _)
      have SS := Lib.hid S0; clear S0
      have I1 := Lib.hid hi1; clear hi1
      have I2 := Lib.hid hi2; clear hi2
      have CI2 : ∀ w', (Has w' M 23 fones ∧ Has w' N 23 ones ∧ Below N w w') → Calls Try.prog 16 #[.agg (iv fones)] w' fun e w'' => e = .returned (.agg (iv ones)) ∧ (Has w'' M 23 fones ∧ Has w'' N 23 ones ∧ Below N w w'') := by
        intro w' h
        refine (CI.out w').mono fun e w'' ⟨he, hb⟩ => ⟨he, h.1.belowS hb, h.2.1.belowS hb, h.2.2.trans (hb.mono (by have := h.2.2.size; have := HN.out; omega))⟩
      have C2 := Lib.hid CI2; clear CI2
      have E2 := Lib.hid EQ2; clear EQ2
      refine wp_region_seqQ 19 (fun w' => Has w' M 23 fones ∧ Has w' N 23 ones ∧ Below N w w') (by decide) (by kernel_rfl) (by kernel_rfl) ⟨SS.out.1, SS.out.2.1, below_drew SS.out.2.2⟩ ?_
      refine seq_run (v := .int .i64 0) (by decide) (by kernel_rfl) (fun w' hS => by kernel_rfl) ?_
      refine seq_run (v := .bool true) (by decide) (by kernel_rfl) (fun w' hS => by kernel_rfl) ?_
      refine seq_run (v := .bool true) (by decide) (by kernel_rfl) (fun w' hS => by kernel_rfl) ?_
      refine seq_run (v := .pointer (some ⟨M, 0, none⟩)) (by decide) (by kernel_rfl) (fun w' hS => by kernel_rfl) ?_
      refine seq_run (v := .int .i64 4096) (by decide) (by kernel_rfl) (fun w' hS => run_load_cell 3 (.tmp 19) rfl ⟨M, 0, none⟩ (by kernel_rfl) _ (CC.out w' hS).1 (by kernel_rfl)) ?_
      refine seq_run (v := .bool true) (by decide) (by kernel_rfl) (fun w' hS => by kernel_rfl) ?_
      refine seq_run (v := .bool true) (by decide) (by kernel_rfl) (fun w' hS => by kernel_rfl) ?_
      refine seq_run (v := .bool true) (by decide) (by kernel_rfl) (fun w' hS => by kernel_rfl) ?_
      refine seq_run (v := .pointer (some ⟨M, 1, none⟩)) (by decide) (by kernel_rfl) (fun w' hS => by kernel_rfl) ?_
      refine seq_run (v := .int .i64 0) (by decide) (by kernel_rfl) (fun w' hS => run_load_cell 3 (.tmp 24) rfl ⟨M, 1, none⟩ (by kernel_rfl) _ (CC.out w' hS).2 (by kernel_rfl)) ?_
      refine seq_run (v := .bool true) (by decide) (by kernel_rfl) (fun w' hS => by kernel_rfl) ?_
      refine seq_run (v := .bool true) (by decide) (by kernel_rfl) (fun w' hS => by kernel_rfl) ?_
      refine seq_run (v := .bool true) (by decide) (by kernel_rfl) (fun w' hS => by kernel_rfl) ?_
      refine seq_run (v := .agg (iv fones)) (by decide) (by kernel_rfl) (fun w' hS => run_load_row 23 (.tmp 3) rfl M (by kernel_rfl) 23 (iv fones) (0, 0) _ hS.1 Try.underlying23 rfl I1.out) ?_
      refine seq_call (v := .agg (iv ones)) (f := 16) (args := #[.agg (iv fones)]) (by decide) (by kernel_rfl) (fun w' hS => run_value_call _ #[.tmp 29] _ rfl Try.func16 (by kernel_rfl) (by kernel_rfl) _ (by kernel_rfl)) C2.out ?_
      refine seq_run (v := .agg (iv ones)) (by decide) (by kernel_rfl) (fun w' hS => run_load_row 23 (.tmp 1) rfl N (by kernel_rfl) 23 (iv ones) (0, 0) _ hS.2.1 Try.underlying23 rfl I2.out) ?_
      refine seq_run (v := .bool true) (by decide) (by kernel_rfl) (fun w' hS => run_value_bin .eql 23 _ (.tmp 30) (.tmp 31) rfl (.agg (iv ones)) (.agg (iv ones)) _ (by kernel_rfl) (by kernel_rfl) (by kernel_rfl) (E2.out w')) ?_
      refine seq_run (v := .bool true) (by decide) (by kernel_rfl) (fun w' hS => by kernel_rfl) ?_
      refine seq_run (v := .bool true) (by decide) (by kernel_rfl) (fun w' hS => by kernel_rfl) ?_
      refine seq_end (by decide) ?_
      intro w' hS
      refine wpList_nil ?_
      go_step
      go_step
      exact wp_ret (done1 0 (.bool true) (by kernel_rfl) (by kernel_rfl) (by kernel_rfl) ⟨rfl, by have := hS.2.2; rw [HN.out] at this; exact this⟩)
end Go.Proofs.Ytpjhehpgpfomjaa
