/- AudioSums. -/
import Derived.Test.YtmimljaniliecaaAv
namespace Go.Proofs.Ytmimljaniliecaa
open Go.RowKit Bt
set_option maxHeartbeats 4000000 in
set_option maxRecDepth 100000 in
theorem AudioSums_walk (w : World) (v : Value) (l : List Nat) (hr : RdK w v l.length (u8s l)) (hb : ∀ x ∈ l, x < 256) (ch : Int) : Calls Try.prog 3 #[v, .int .i64 ch] w fun e w' => e = .returned (.bool true) ∧ Below w.heap.size w w' := by
  obtain ⟨A, c, rfl, hc⟩ := hr.shape
  refine calls_of_wp Try.func3 rfl ?_
  refine wp_frame (a' := ⟨#[.slice A l.length c, .int .i64 ch, undef, undef, undef, undef, undef, undef, undef, undef, undef, undef, undef, undef, undef, undef, undef, undef, undef, undef, undef, undef, undef], []⟩) (by kernel_rfl) ?_
  have M0 : Mem NoS w w [] := Mem.start _ _
  refine wp_seq_k (fun K1 hK1 => ?_)
  refine wl_region ?_
  refine st_val (.bool false) (by kernel_rfl) (by kernel_rfl) ?_
  refine wl_nil ?_
  refine hK1 _ _ ?_
  try clear hK1 K1
  refine wp_seq_k (fun K2 hK2 => ?_)
  refine wp_seq_k (fun K3 hK3 => ?_)
  refine wl_region ?_
  refine st_val (.slice A l.length c) (by kernel_rfl) (by kernel_rfl) ?_
  refine st_val (.int .i64 ((l.length : Nat) : Int)) (by kernel_rfl) (by kernel_rfl) ?_
  rcases Decidable.em ((((l.length : Nat) : Int) : Int) > 500) with c7 | c7
  ·
    refine st_val (.bool true) (by kernel_rfl) (bool_of (dec_t c7) (by kernel_rfl)) ?_
    refine wl_nil ?_
    refine hK3 _ _ ?_
    try clear hK3 K3
    refine wp_cond_true (by kernel_rfl) ?_
    refine wp_seq_k (fun K4 hK4 => ?_)
    refine wl_region ?_
    refine st_val (.bool true) (by kernel_rfl) (by kernel_rfl) ?_
    refine wl_nil ?_
    refine hK4 _ _ ?_
    try clear hK4 K4
    refine wp_ret ?_
    refine th_ret ?_
    exact done1 4 (.bool true) (by kernel_rfl) (by kernel_rfl) (by kernel_rfl) ⟨rfl, M0.toBelow⟩
  ·
    refine st_val (.bool false) (by kernel_rfl) (bool_of (dec_f c7) (by kernel_rfl)) ?_
    refine wl_nil ?_
    refine hK3 _ _ ?_
    try clear hK3 K3
    refine wp_cond_false (by kernel_rfl) ?_
    refine wp_skip ?_
    refine hK2 _ _ ?_
    try clear hK2 K2
    refine wp_seq_k (fun K5 hK5 => ?_)
    refine wl_region ?_
    refine st_callB M0 (.bool true) (by kernel_rfl) (args := #[]) (run_value_call 12 #[] _ rfl Try.func12 (by kernel_rfl) (by kernel_rfl) _ (by kernel_rfl)) (awake_walk w) ?_
    intro W6 M7
    refine st_val (.bool true) (by kernel_rfl) (by kernel_rfl) ?_
    refine st_val (.slice A l.length c) (by kernel_rfl) (by kernel_rfl) ?_
    refine st_callB M7 (.int .u16 ((crc l : Nat) : Int)) (by kernel_rfl) (args := #[.slice A l.length c]) (run_value_call 13 #[(Operand.tmp 10)] _ rfl Try.func13 (by kernel_rfl) (by kernel_rfl) _ (by kernel_rfl)) (sum_walk W6 (.slice A l.length c) l (hr.keep M7.keep (fun _ _ h => h)) hb (by omega)) ?_
    intro W8 M9
    refine st_val (.slice A l.length c) (by kernel_rfl) (by kernel_rfl) ?_
    refine st_callB M9 (.int .u16 ((crc l : Nat) : Int)) (by kernel_rfl) (args := #[.slice A l.length c]) (run_value_call 14 #[(Operand.tmp 12)] _ rfl Try.func14 (by kernel_rfl) (by kernel_rfl) _ (by kernel_rfl)) (refSum_walk W8 (.slice A l.length c) l (hr.keep M9.keep (fun _ _ h => h)) hb (by omega)) ?_
    intro W10 M11
    refine st_val (.bool true) (by kernel_rfl) (bool_of (dec_t (show (((crc l : Nat) : Int) : Int) = ((crc l : Nat) : Int) from rfl)) (by kernel_rfl)) ?_
    refine st_val (.bool true) (by kernel_rfl) (by kernel_rfl) ?_
    refine st_val (.bool true) (by kernel_rfl) (by kernel_rfl) ?_
    refine st_val (.int .i64 ch) (by kernel_rfl) (by kernel_rfl) ?_
    refine st_callB M11 (.int .i64 (bsz ch)) (by kernel_rfl) (args := #[.int .i64 ch]) (run_value_call 15 #[(Operand.tmp 17)] _ rfl Try.func15 (by kernel_rfl) (by kernel_rfl) _ (by kernel_rfl)) (bsz_walk W10 ch) ?_
    intro W12 M13
    refine st_val (.int .i64 ch) (by kernel_rfl) (by kernel_rfl) ?_
    refine st_callB M13 (.int .i64 (bsz ch)) (by kernel_rfl) (args := #[.int .i64 ch]) (run_value_call 16 #[(Operand.tmp 19)] _ rfl Try.func16 (by kernel_rfl) (by kernel_rfl) _ (by kernel_rfl)) (refBsz_walk W12 ch) ?_
    intro W14 M15
    refine st_val (.bool true) (by kernel_rfl) (bool_of (dec_t (show (bsz ch : Int) = bsz ch from rfl)) (by kernel_rfl)) ?_
    refine st_val (.bool true) (by kernel_rfl) (by kernel_rfl) ?_
    refine st_val (.bool true) (by kernel_rfl) (by kernel_rfl) ?_
    refine wl_nil ?_
    refine hK5 _ _ ?_
    try clear hK5 K5
    refine wp_frame (a' := ⟨#[.slice A l.length c, .int .i64 ch, undef, undef, .bool true, .slice A l.length c, .int .i64 ((l.length : Nat) : Int), .bool false, .bool true, .bool true, .slice A l.length c, .int .u16 ((crc l : Nat) : Int), .slice A l.length c, .int .u16 ((crc l : Nat) : Int), .bool true, .bool true, .bool true, .int .i64 ch, .int .i64 (bsz ch), .int .i64 ch, .int .i64 (bsz ch), .bool true, .bool true], []⟩) (by kernel_rfl) ?_
    refine wp_ret ?_
    exact done1 4 (.bool true) (by kernel_rfl) (by kernel_rfl) (by kernel_rfl) ⟨rfl, M15.toBelow⟩
end Go.Proofs.Ytmimljaniliecaa
