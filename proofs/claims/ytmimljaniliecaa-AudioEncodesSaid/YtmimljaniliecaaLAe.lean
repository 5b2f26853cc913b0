/- AudioEncodes. -/
import Derived.Test.YtmimljaniliecaaBc
namespace Go.Proofs.Ytmimljaniliecaa
open Go.RowKit Bt
set_option maxHeartbeats 4000000 in
set_option maxRecDepth 100000 in
theorem AudioEncodes_walk (w : World) (v : Value) (ls : List (List Int)) (As : Nat → Option Addr) (cs : Nat → Nat) (hP : RdP w v ls As cs) (hsp : SP ls) : Calls Try.prog 6 #[v] w fun e w' => e = .returned (.bool true) ∧ Below w.heap.size w w' := by
  obtain ⟨A, c, rfl, hc⟩ := hP.rd.shape
  refine calls_of_wp Try.func6 rfl ?_
  refine wp_frame (a' := ⟨#[.slice A ls.length c, undef, undef, undef, undef, undef, undef, undef, undef, undef, undef, undef, undef, undef, undef, undef, undef, undef, undef, undef, undef, undef, undef, undef, undef, undef, undef, undef, undef, undef, undef], []⟩) (by kernel_rfl) ?_
  have M0 : Mem NoS w w [] := Mem.start _ _
  refine wp_seq_k (fun K1 hK1 => ?_)
  refine wl_region ?_
  refine st_val (.bool false) (by kernel_rfl) (by kernel_rfl) ?_
  refine wl_nil ?_
  refine hK1 _ _ ?_
  try clear hK1 K1
  refine wp_seq_k (fun K2 hK2 => ?_)
  refine wp_seq_k (fun K3 hK3 => ?_)
  refine wl_region ?_
  refine st_val (.slice A ls.length c) (by kernel_rfl) (by kernel_rfl) ?_
  rcases Bool.eq_false_or_eq_true (litB ls 400) with hlt | hlt
  ·
    obtain ⟨hl6, hlm⟩ := of_decide_eq_true hlt
    refine st_callB M0 (.bool true) (by kernel_rfl) (args := #[.slice A ls.length c, .int .i64 400]) (run_value_call 20 #[(Operand.tmp 7), (Operand.const (Value.int IntKind.i64 400))] _ rfl Try.func20 (by kernel_rfl) (by kernel_rfl) _ (by kernel_rfl)) ((by have := light_walk w (.slice A ls.length c) ls As cs (hP.keep M0.keep (fun _ h => h)) 400; rw [hlt] at this; exact this)) ?_
    intro W4 M5
    refine st_val (.bool false) (by kernel_rfl) (by kernel_rfl) ?_
    refine wl_nil ?_
    refine hK3 _ _ ?_
    try clear hK3 K3
    refine wp_cond_false (by kernel_rfl) ?_
    refine wp_skip ?_
    refine hK2 _ _ ?_
    try clear hK2 K2
    refine wp_seq_k (fun K6 hK6 => ?_)
    refine wl_region ?_
    refine st_val (.slice A ls.length c) (by kernel_rfl) (by kernel_rfl) ?_
    refine st_callR (A := []) (B := []) M5 (by kernel_rfl) (run_value_call 26 #[(Operand.tmp 11)] _ rfl Try.func26 (by kernel_rfl) (by kernel_rfl) _ (by kernel_rfl)) (enc_walk W4 (.slice A ls.length c) ls As cs (hP.keep M5.keep (fun _ h => h)) hsp (by omega)) ?_
    intro v7 T8 W9 O10 M11
    have M11 : Mem NoS w W9 ((T8 ++ [])) := M11
    obtain ⟨v12, m13, rfl, hm14, O15⟩ := O10
    obtain ⟨A16, cq17, rfl, hc18⟩ := O15.shape
    refine st_val (.tuple #[.slice A16 m13 cq17, .int .i64 (enE ls)]) (by kernel_rfl) (by kernel_rfl) ?_
    refine st_val (.slice A16 m13 cq17) (by kernel_rfl) (by kernel_rfl) ?_
    refine st_val (.int .i64 (enE ls)) (by kernel_rfl) (by kernel_rfl) ?_
    refine st_val (.slice A16 m13 cq17) (by kernel_rfl) (by kernel_rfl) ?_
    refine st_val (.int .i64 (enE ls)) (by kernel_rfl) (by kernel_rfl) ?_
    refine wl_nil ?_
    refine hK6 _ _ ?_
    try clear hK6 K6
    refine wp_seq_k (fun K19 hK19 => ?_)
    refine wl_region ?_
    refine st_val (.slice A ls.length c) (by kernel_rfl) (by kernel_rfl) ?_
    refine st_callR (A := []) (B := (T8 ++ [])) M11 (by kernel_rfl) (run_value_call 27 #[(Operand.tmp 16)] _ rfl Try.func27 (by kernel_rfl) (by kernel_rfl) _ (by kernel_rfl)) (refEnc_walk W9 (.slice A ls.length c) ls As cs (hP.keep M11.keep (fun _ h => h)) hsp (by omega)) ?_
    intro v20 T21 W22 O23 M24
    have M24 : Mem NoS w W22 ((T21 ++ (T8 ++ []))) := M24
    obtain ⟨v25, m26, rfl, hm27, O28⟩ := O23
    obtain ⟨A29, cq30, rfl, hc31⟩ := O28.shape
    refine st_val (.tuple #[.slice A29 m26 cq30, .int .i64 (enE ls)]) (by kernel_rfl) (by kernel_rfl) ?_
    refine st_val (.slice A29 m26 cq30) (by kernel_rfl) (by kernel_rfl) ?_
    refine st_val (.int .i64 (enE ls)) (by kernel_rfl) (by kernel_rfl) ?_
    refine st_val (.slice A29 m26 cq30) (by kernel_rfl) (by kernel_rfl) ?_
    refine st_val (.int .i64 (enE ls)) (by kernel_rfl) (by kernel_rfl) ?_
    refine wl_nil ?_
    refine hK19 _ _ ?_
    try clear hK19 K19
    refine wp_frame (a' := ⟨#[.slice A ls.length c, undef, .bool false, .slice A16 m13 cq17, .int .i64 (enE ls), .slice A29 m26 cq30, .int .i64 (enE ls), .slice A ls.length c, .bool true, .bool false, .tuple #[.slice A16 m13 cq17, .int .i64 (enE ls)], .slice A ls.length c, .tuple #[.slice A16 m13 cq17, .int .i64 (enE ls)], .slice A16 m13 cq17, .int .i64 (enE ls), .tuple #[.slice A29 m26 cq30, .int .i64 (enE ls)], .slice A ls.length c, .tuple #[.slice A29 m26 cq30, .int .i64 (enE ls)], .slice A29 m26 cq30, .int .i64 (enE ls), undef, undef, undef, undef, undef, undef, undef, undef, undef, undef, undef], []⟩) (by kernel_rfl) ?_
    refine wp_seq_k (fun K32 hK32 => ?_)
    refine wl_region ?_
    refine st_callB M24 (.bool true) (by kernel_rfl) (args := #[]) (run_value_call 12 #[] _ rfl Try.func12 (by kernel_rfl) (by kernel_rfl) _ (by kernel_rfl)) (awake_walk W22) ?_
    intro W33 M34
    refine st_val (.bool true) (by kernel_rfl) (by kernel_rfl) ?_
    refine st_val (.int .i64 (enE ls)) (by kernel_rfl) (by kernel_rfl) ?_
    refine st_val (.int .i64 (enE ls)) (by kernel_rfl) (by kernel_rfl) ?_
    refine st_val (.bool true) (by kernel_rfl) (bool_of (dec_t (show (enE ls : Int) = enE ls from rfl)) (by kernel_rfl)) ?_
    refine st_val (.bool true) (by kernel_rfl) (by kernel_rfl) ?_
    refine st_val (.bool true) (by kernel_rfl) (by kernel_rfl) ?_
    refine st_val (.slice A16 m13 cq17) (by kernel_rfl) (by kernel_rfl) ?_
    refine st_val (.slice A29 m26 cq30) (by kernel_rfl) (by kernel_rfl) ?_
    refine st_callE (.bool true) (by kernel_rfl) (args := #[.slice A16 m13 cq17, .slice A29 m26 cq30]) (run_value_call 23 #[(Operand.tmp 27), (Operand.tmp 28)] _ rfl Try.func23 (by kernel_rfl) (by kernel_rfl) _ (by kernel_rfl)) ((by have := sameM W33 (.slice A16 m13 cq17) (.slice A29 m26 cq30) (enL ls) (enL ls) ((by rw [← hm14]; exact O15.rd (fun p hp => M34.at_ p (List.mem_append_right _ (List.mem_append_left _ hp))))) ((by rw [← hm27]; exact O28.rd (fun p hp => M34.at_ p (List.mem_append_left _ hp)))) (enL_lt _) (enL_lt _); rw [decide_eq_true rfl] at this; exact this)) ?_
    refine st_val (.bool true) (by kernel_rfl) (by kernel_rfl) ?_
    refine st_val (.bool true) (by kernel_rfl) (by kernel_rfl) ?_
    refine wl_nil ?_
    refine hK32 _ _ ?_
    try clear hK32 K32
    refine wp_ret ?_
    exact done1 2 (.bool true) (by kernel_rfl) (by kernel_rfl) (by kernel_rfl) ⟨rfl, M34.toBelow⟩
  ·
    refine st_callB M0 (.bool false) (by kernel_rfl) (args := #[.slice A ls.length c, .int .i64 400]) (run_value_call 20 #[(Operand.tmp 7), (Operand.const (Value.int IntKind.i64 400))] _ rfl Try.func20 (by kernel_rfl) (by kernel_rfl) _ (by kernel_rfl)) ((by have := light_walk w (.slice A ls.length c) ls As cs (hP.keep M0.keep (fun _ h => h)) 400; rw [hlt] at this; exact this)) ?_
    intro W35 M36
    refine st_val (.bool true) (by kernel_rfl) (by kernel_rfl) ?_
    refine wl_nil ?_
    refine hK3 _ _ ?_
    try clear hK3 K3
    refine wp_cond_true (by kernel_rfl) ?_
    refine wp_seq_k (fun K37 hK37 => ?_)
    refine wl_region ?_
    refine st_val (.bool true) (by kernel_rfl) (by kernel_rfl) ?_
    refine wl_nil ?_
    refine hK37 _ _ ?_
    try clear hK37 K37
    refine wp_ret ?_
    refine th_ret ?_
    exact done1 2 (.bool true) (by kernel_rfl) (by kernel_rfl) (by kernel_rfl) ⟨rfl, M36.toBelow⟩
end Go.Proofs.Ytmimljaniliecaa
