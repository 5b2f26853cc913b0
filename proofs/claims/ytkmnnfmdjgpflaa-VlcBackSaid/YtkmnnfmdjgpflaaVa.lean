/- The sanity check; the walks of VlcUnsigned, VlcSigned, VlcShorter. -/
import Derived.Test.YtkmnnfmdjgpflaaVs
import Derived.Test.YtkmnnfmdjgpflaaVq2
namespace Go.Proofs.Ytkmnnfmdjgpflaa
open Go.RowKit Bt

theorem pay7 : payload ([] ++ codeU 7) = [17] := by decide +kernel
theorem errU_t {v : Int} (h : mayU v) : errU v = 0 := if_pos h
theorem errU_f {v : Int} (h : ¬ mayU v) : errU v = 2 := if_neg h
theorem errS_t {v : Int} (h : mayS v) : errS v = 0 := if_pos h
theorem errS_f {v : Int} (h : ¬ mayS v) : errS v = 2 := if_neg h
theorem codeU_t {v : Int} (h : mayU v) : codeU v = codeN v.toNat := if_pos h
theorem codeU_f {v : Int} (h : ¬ mayU v) : codeU v = [] := if_neg h
theorem codeS_t {v : Int} (h : mayS v) : codeS v = codeN (unsg v).toNat := if_pos h
theorem codeS_f {v : Int} (h : ¬ mayS v) : codeS v = [] := if_neg h
set_option maxHeartbeats 4000000 in
set_option maxRecDepth 100000 in
theorem awake_walk (w : World) : Calls Try.prog 10 #[] w fun e w' => e = .returned (.bool true) ∧ Below w.heap.size w w' := by
  refine calls_of_wp Try.func10 rfl ?_
  refine wp_frame (a' := ⟨#[undef, undef, undef, undef, undef, undef, undef, undef, undef, undef, undef, undef, undef, undef, undef, undef, undef, undef, undef, undef, undef, undef, undef, undef, undef, undef], []⟩) (by kernel_rfl) ?_
  have M0 : Mem NoS w w [] := Mem.start _ _
  refine wp_seq_k (fun K1 hK1 => ?_)
  refine wl_region ?_
  refine st_val (.bool false) (by kernel_rfl) (by kernel_rfl) ?_
  refine wl_nil ?_
  refine hK1 _ _ ?_
  try clear hK1 K1
  refine wp_seq_k (fun K2 hK2 => ?_)
  refine wl_region ?_
  refine st_callR (A := []) (B := []) M0 (by kernel_rfl) (run_value_call 12 #[] _ rfl Try.func12 (by kernel_rfl) (by kernel_rfl) _ (by kernel_rfl)) (newWriterM w) ?_
  intro v3 T4 W5 O6 M7
  have M7 : Mem NoS w W5 ((T4 ++ [])) := M7
  obtain ⟨g8, rfl, O9⟩ := O6
  refine st_val (.pointer (some ⟨g8, 0, none⟩)) (by kernel_rfl) (by kernel_rfl) ?_
  refine wl_nil ?_
  refine hK2 _ _ ?_
  try clear hK2 K2
  refine wp_seq_k (fun K10 hK10 => ?_)
  refine wl_region ?_
  refine st_val (.pointer (some ⟨g8, 0, none⟩)) (by kernel_rfl) (by kernel_rfl) ?_
  refine st_callU (A := []) (T := T4) (B := []) M7 (by kernel_rfl) (run_value_call 13 #[(Operand.tmp 5), (Operand.const (Value.int IntKind.i64 7))] _ rfl Try.func13 (by kernel_rfl) (by kernel_rfl) _ (by kernel_rfl)) (putU_walk W5 O9 (Mem.part (A := []) (T := T4) (B := []) M7) (by first | omega | (simp only [List.length_append, List.length_nil, bitsOf_length]; omega)) 7 (by omega)) ?_
  intro v11 T12 W13 O14 M15
  obtain ⟨rfl, O16⟩ := O14
  have M17 : Mem NoS w W13 ((T12 ++ [])) := M15
  refine st_val (.int .i64 (errU 7)) (by kernel_rfl) (by kernel_rfl) ?_
  refine wl_nil ?_
  refine hK10 _ _ ?_
  try clear hK10 K10
  refine wp_seq_k (fun K18 hK18 => ?_)
  refine wl_region ?_
  refine st_val (.pointer (some ⟨g8, 0, none⟩)) (by kernel_rfl) (by kernel_rfl) ?_
  refine st_callR (A := []) (B := (T12 ++ [])) M17 (by kernel_rfl) (run_value_call 17 #[(Operand.tmp 7)] _ rfl Try.func17 (by kernel_rfl) (by kernel_rfl) _ (by kernel_rfl)) (wPayM W13 O16 (Mem.part (A := []) (T := T12) (B := []) M17) (by have := codeU_le 7; rw [List.nil_append]; omega)) ?_
  intro v19 T20 W21 O22 M23
  have M23 : Mem NoS w W21 ((T20 ++ (T12 ++ []))) := M23
  obtain ⟨A24, cq25, rfl, hc26⟩ := O22.shape
  refine st_val (.slice A24 ((payload ([] ++ codeU 7)).length) cq25) (by kernel_rfl) (by kernel_rfl) ?_
  refine wl_nil ?_
  refine hK18 _ _ ?_
  try clear hK18 K18
  refine wp_seq_k (fun K27 hK27 => ?_)
  have hpl : (payload ([] ++ codeU 7)).length = 1 := by rw [pay7]; rfl
  refine wl_region ?_
  refine st_val (.int .i64 (errU 7)) (by kernel_rfl) (by kernel_rfl) ?_
  refine st_val (.bool true) (by kernel_rfl) (bool_of (dec_t (show (errU 7 : Int) = 0 from (show errU 7 = 0 by decide))) (by kernel_rfl)) ?_
  refine st_val (.bool true) (by kernel_rfl) (by kernel_rfl) ?_
  refine st_val (.slice A24 ((payload ([] ++ codeU 7)).length) cq25) (by kernel_rfl) (by kernel_rfl) ?_
  refine st_val (.int .i64 (((payload ([] ++ codeU 7)).length : Nat) : Int)) (by kernel_rfl) (by kernel_rfl) ?_
  refine st_val (.bool true) (by kernel_rfl) (bool_of (dec_t (show ((((payload ([] ++ codeU 7)).length : Nat) : Int) : Int) = 1 from (by rw [pay7]; rfl))) (by kernel_rfl)) ?_
  refine st_val (.bool true) (by kernel_rfl) (by kernel_rfl) ?_
  refine st_val (.bool true) (by kernel_rfl) (by kernel_rfl) ?_
  refine st_val (.slice A24 ((payload ([] ++ codeU 7)).length) cq25) (by kernel_rfl) (by kernel_rfl) ?_
  obtain ⟨b28, o29, eA30⟩ := RdK.addr (O22.rd (fun p hp => M23.at_ p (List.mem_append_left _ hp))) (j := 0 * 1) (by rw [u8s_length]; omega)
  refine st_val (.pointer (some ⟨b28, o29 + 0 * 1, none⟩)) (by kernel_rfl) (run_indexSliceA 32 (.tmp 17) _ rfl A24 ⟨b28, o29, none⟩ eA30 ((payload ([] ++ codeU 7)).length) cq25 .i64 0 (by kernel_rfl) (by kernel_rfl) Try.underlying32 1 (by kernel_rfl) (by rw [pay7]; decide) ⟨b28, o29 + 0 * 1, none⟩ (addr_atK _ _ _ _)) ?_
  refine st_val (.int .u8 (((payload ([] ++ codeU 7)).getD 0 0 : Nat) : Int)) (by kernel_rfl) (run_load_cell 5 (.tmp 18) rfl ⟨b28, o29 + 0 * 1, none⟩ (by kernel_rfl) _ ((O22.rd (fun p hp => M23.at_ p (List.mem_append_left _ hp))).cellF eA30 (f := 0) (u8s_get (payload ([] ++ codeU 7)) 0 (by omega))) (by kernel_rfl)) ?_
  refine st_val (.bool true) (by kernel_rfl) (bool_of (dec_t (show ((((payload ([] ++ codeU 7)).getD 0 0 : Nat) : Int) : Int) = 17 from (by rw [pay7]; rfl))) (by kernel_rfl)) ?_
  refine st_val (.bool true) (by kernel_rfl) (by kernel_rfl) ?_
  refine st_val (.bool true) (by kernel_rfl) (by kernel_rfl) ?_
  refine st_callB M23 (.int .i64 (bitsU 7)) (by kernel_rfl) (args := #[.int .i64 7]) (run_value_call 11 #[(Operand.const (Value.int IntKind.i64 7))] _ rfl Try.func11 (by kernel_rfl) (by kernel_rfl) _ (by kernel_rfl)) (bits_vlc W21 7 (by omega)) ?_
  intro W31 M32
  refine st_val (.bool true) (by kernel_rfl) (bool_of (dec_t (show (bitsU 7 : Int) = 7 from (show bitsU 7 = 7 by decide +kernel))) (by kernel_rfl)) ?_
  refine st_val (.bool true) (by kernel_rfl) (by kernel_rfl) ?_
  refine st_val (.bool true) (by kernel_rfl) (by kernel_rfl) ?_
  refine wl_nil ?_
  refine hK27 _ _ ?_
  try clear hK27 K27
  refine wp_frame (a' := ⟨#[.bool true, .pointer (some ⟨g8, 0, none⟩), .int .i64 (errU 7), .slice A24 ((payload ([] ++ codeU 7)).length) cq25, .pointer (some ⟨g8, 0, none⟩), .pointer (some ⟨g8, 0, none⟩), .int .i64 (errU 7), .pointer (some ⟨g8, 0, none⟩), .slice A24 ((payload ([] ++ codeU 7)).length) cq25, .int .i64 (errU 7), .bool true, .bool true, .slice A24 ((payload ([] ++ codeU 7)).length) cq25, .int .i64 (((payload ([] ++ codeU 7)).length : Nat) : Int), .bool true, .bool true, .bool true, .slice A24 ((payload ([] ++ codeU 7)).length) cq25, .pointer (some ⟨b28, o29 + 0 * 1, none⟩), .int .u8 (((payload ([] ++ codeU 7)).getD 0 0 : Nat) : Int), .bool true, .bool true, .bool true, .int .i64 (bitsU 7), .bool true, .bool true], []⟩) (by kernel_rfl) ?_
  refine wp_ret ?_
  exact done1 0 (.bool true) (by kernel_rfl) (by kernel_rfl) (by kernel_rfl) ⟨rfl, M32.toBelow⟩
set_option maxHeartbeats 4000000 in
set_option maxRecDepth 100000 in
theorem VlcUnsigned_walk (w : World) (v : Int) (hv : -9223372036854775808 ≤ v ∧ v ≤ 9223372036854775807) : Calls Try.prog 4 #[.int .i64 v] w fun e w' => e = .returned (.bool true) ∧ Below w.heap.size w w' := by
  refine calls_of_wp Try.func4 rfl ?_
  refine wp_frame (a' := ⟨#[.int .i64 v, undef, undef, undef, undef, undef, undef, undef, undef, undef, undef, undef, undef, undef, undef, undef, undef, undef, undef, undef, undef, undef, undef, undef, undef, undef, undef, undef, undef, undef, undef, undef, undef, undef, undef, undef, undef, undef, undef, undef, undef, undef, undef, undef, undef], []⟩) (by kernel_rfl) ?_
  have M0 : Mem NoS w w [] := Mem.start _ _
  refine wp_seq_k (fun K1 hK1 => ?_)
  refine wl_region ?_
  refine st_val (.bool false) (by kernel_rfl) (by kernel_rfl) ?_
  refine wl_nil ?_
  refine hK1 _ _ ?_
  try clear hK1 K1
  refine wp_seq_k (fun K2 hK2 => ?_)
  refine wl_region ?_
  refine st_callR (A := []) (B := []) M0 (by kernel_rfl) (run_value_call 12 #[] _ rfl Try.func12 (by kernel_rfl) (by kernel_rfl) _ (by kernel_rfl)) (newWriterM w) ?_
  intro v3 T4 W5 O6 M7
  have M7 : Mem NoS w W5 ((T4 ++ [])) := M7
  obtain ⟨g8, rfl, O9⟩ := O6
  refine st_val (.pointer (some ⟨g8, 0, none⟩)) (by kernel_rfl) (by kernel_rfl) ?_
  refine wl_nil ?_
  refine hK2 _ _ ?_
  try clear hK2 K2
  refine wp_seq_k (fun K10 hK10 => ?_)
  refine wl_region ?_
  refine st_val (.pointer (some ⟨g8, 0, none⟩)) (by kernel_rfl) (by kernel_rfl) ?_
  refine st_val (.int .i64 v) (by kernel_rfl) (by kernel_rfl) ?_
  refine st_callU (A := []) (T := T4) (B := []) M7 (by kernel_rfl) (run_value_call 13 #[(Operand.tmp 6), (Operand.tmp 7)] _ rfl Try.func13 (by kernel_rfl) (by kernel_rfl) _ (by kernel_rfl)) (putU_walk W5 O9 (Mem.part (A := []) (T := T4) (B := []) M7) (by first | omega | (simp only [List.length_append, List.length_nil, bitsOf_length]; omega)) v (by omega)) ?_
  intro v11 T12 W13 O14 M15
  obtain ⟨rfl, O16⟩ := O14
  have M17 : Mem NoS w W13 ((T12 ++ [])) := M15
  refine st_val (.int .i64 (errU v)) (by kernel_rfl) (by kernel_rfl) ?_
  refine wl_nil ?_
  refine hK10 _ _ ?_
  try clear hK10 K10
  refine wp_seq_k (fun K18 hK18 => ?_)
  refine wp_seq_k (fun K19 hK19 => ?_)
  refine wl_region ?_
  refine st_val (.int .i64 v) (by kernel_rfl) (by kernel_rfl) ?_
  refine st_callB M17 (.int .i64 (bitsU v)) (by kernel_rfl) (args := #[.int .i64 v]) (run_value_call 11 #[(Operand.tmp 9)] _ rfl Try.func11 (by kernel_rfl) (by kernel_rfl) _ (by kernel_rfl)) (bits_vlc W13 v (by omega)) ?_
  intro W20 M21
  refine st_val (.int .i64 v) (by kernel_rfl) (by kernel_rfl) ?_
  refine st_callB M21 (.int .i64 (bitsU v)) (by kernel_rfl) (args := #[.int .i64 v]) (run_value_call 14 #[(Operand.tmp 11)] _ rfl Try.func14 (by kernel_rfl) (by kernel_rfl) _ (by kernel_rfl)) (bits_ref W20 v) ?_
  intro W22 M23
  refine st_val (.bool false) (by kernel_rfl) (bool_of (neq_f (show (bitsU v : Int) = bitsU v from rfl)) (by kernel_rfl)) ?_
  refine st_val (.bool false) (by kernel_rfl) (by kernel_rfl) ?_
  refine st_val (.int .i64 v) (by kernel_rfl) (by kernel_rfl) ?_
  refine st_callB M23 (.int .i64 1) (by kernel_rfl) (args := #[(Go.Value.pointer none), .int .i64 v]) (run_value_call 13 #[(Operand.const (Value.pointer none)), (Operand.tmp 15)] _ rfl Try.func13 (by kernel_rfl) (by kernel_rfl) _ (by kernel_rfl)) (putU_nil W22 v) ?_
  intro W24 M25
  refine st_val (.bool false) (by kernel_rfl) (by kernel_rfl) ?_
  refine st_val (.bool false) (by kernel_rfl) (by kernel_rfl) ?_
  refine wl_nil ?_
  refine hK19 _ _ ?_
  try clear hK19 K19
  refine wp_frame (a' := ⟨#[.int .i64 v, undef, .bool false, .pointer (some ⟨g8, 0, none⟩), .int .i64 (errU v), .pointer (some ⟨g8, 0, none⟩), .pointer (some ⟨g8, 0, none⟩), .int .i64 v, .int .i64 (errU v), .int .i64 v, .int .i64 (bitsU v), .int .i64 v, .int .i64 (bitsU v), .bool false, .bool false, .int .i64 v, .int .i64 1, .bool false, .bool false, undef, undef, undef, undef, undef, undef, undef, undef, undef, undef, undef, undef, undef, undef, undef, undef, undef, undef, undef, undef, undef, undef, undef, undef, undef, undef], []⟩) (by kernel_rfl) ?_
  refine wp_cond_false (by kernel_rfl) ?_
  refine wp_skip ?_
  refine hK18 _ _ ?_
  try clear hK18 K18
  refine wp_seq_k (fun K26 hK26 => ?_)
  refine wp_seq_k (fun K27 hK27 => ?_)
  refine wl_region ?_
  refine st_val (.int .i64 v) (by kernel_rfl) (by kernel_rfl) ?_
  rcases Classical.em (mayU v) with hm | hm
  ·
    refine st_callB M25 (.bool true) (by kernel_rfl) (args := #[.int .i64 v]) (run_value_call 9 #[(Operand.tmp 19)] _ rfl Try.func9 (by kernel_rfl) (by kernel_rfl) _ (by kernel_rfl)) ((by have := may_ref W24 v; rw [decide_eq_true hm] at this; exact this)) ?_
    intro W28 M29
    refine st_val (.bool false) (by kernel_rfl) (by kernel_rfl) ?_
    refine wl_nil ?_
    refine hK27 _ _ ?_
    try clear hK27 K27
    refine wp_cond_false (by kernel_rfl) ?_
    refine wp_skip ?_
    refine hK26 _ _ ?_
    try clear hK26 K26
    refine wp_seq_k (fun K30 hK30 => ?_)
    have hm1 := hm.1
    have hm2 := hm.2
    refine wl_region ?_
    refine st_callB M29 (.bool true) (by kernel_rfl) (args := #[]) (run_value_call 10 #[] _ rfl Try.func10 (by kernel_rfl) (by kernel_rfl) _ (by kernel_rfl)) (awake_walk W28) ?_
    intro W31 M32
    refine st_val (.bool true) (by kernel_rfl) (by kernel_rfl) ?_
    refine st_val (.int .i64 (errU v)) (by kernel_rfl) (by kernel_rfl) ?_
    refine st_val (.bool true) (by kernel_rfl) (bool_of (dec_t (show (errU v : Int) = 0 from (errU_t hm))) (by kernel_rfl)) ?_
    refine st_val (.bool true) (by kernel_rfl) (by kernel_rfl) ?_
    refine st_val (.bool true) (by kernel_rfl) (by kernel_rfl) ?_
    refine st_val (.pointer (some ⟨g8, 0, none⟩)) (by kernel_rfl) (by kernel_rfl) ?_
    refine st_callR (A := []) (B := (T12 ++ [])) M32 (by kernel_rfl) (run_value_call 17 #[(Operand.tmp 38)] _ rfl Try.func17 (by kernel_rfl) (by kernel_rfl) _ (by kernel_rfl)) (wPayM W31 O16 (Mem.part (A := []) (T := T12) (B := []) M32) (by have := codeU_le v; rw [List.nil_append]; omega)) ?_
    intro v33 T34 W35 O36 M37
    have M37 : Mem NoS w W35 ((T34 ++ (T12 ++ []))) := M37
    obtain ⟨A38, cq39, rfl, hc40⟩ := O36.shape
    refine st_val (.int .i64 v) (by kernel_rfl) (by kernel_rfl) ?_
    refine st_callR (A := []) (B := (T34 ++ (T12 ++ []))) M37 (by kernel_rfl) (run_value_call 19 #[(Operand.tmp 40)] _ rfl Try.func19 (by kernel_rfl) (by kernel_rfl) _ (by kernel_rfl)) ((by have := code_walk W35 v.toNat (by omega); rw [show ((v.toNat : Nat) : Int) = v by omega] at this; exact this)) ?_
    intro v41 T42 W43 O44 M45
    have M45 : Mem NoS w W43 ((T42 ++ (T34 ++ (T12 ++ [])))) := M45
    obtain ⟨A46, cq47, rfl, hc48⟩ := O44.shape
    refine st_callR (A := []) (B := (T42 ++ (T34 ++ (T12 ++ [])))) M45 (by kernel_rfl) (run_value_call 18 #[(Operand.tmp 41)] _ rfl Try.func18 (by kernel_rfl) (by kernel_rfl) _ (by kernel_rfl)) (payloadM W43 (.slice A46 (kOf v.toNat + (kOf v.toNat + 1)) cq47) (codeN v.toNat) ((by rw [codeN_length, show 2 * kOf v.toNat + 1 = kOf v.toNat + (kOf v.toNat + 1) by omega]; exact O44.rd (fun p hp => M45.at_ p (List.mem_append_left _ hp)))) (codeN_bin _) (by rw [codeN_length]; have := kOf_lt (v := v.toNat) (by omega); omega)) ?_
    intro v49 T50 W51 O52 M53
    have M53 : Mem NoS w W51 ((T50 ++ (T42 ++ (T34 ++ (T12 ++ []))))) := M53
    obtain ⟨A54, cq55, rfl, hc56⟩ := O52.shape
    refine st_callE (.bool true) (by kernel_rfl) (args := #[.slice A38 ((payload ([] ++ codeU v)).length) cq39, .slice A54 ((payload (codeN v.toNat)).length) cq55]) (run_value_call 16 #[(Operand.tmp 39), (Operand.tmp 42)] _ rfl Try.func16 (by kernel_rfl) (by kernel_rfl) _ (by kernel_rfl)) ((by have := sameM W51 (.slice A38 ((payload ([] ++ codeU v)).length) cq39) (.slice A54 ((payload (codeN v.toNat)).length) cq55) (payload ([] ++ codeU v)) (payload (codeN v.toNat)) (O36.rd (fun p hp => M53.at_ p (List.mem_append_right _ (List.mem_append_right _ (List.mem_append_left _ hp))))) (O52.rd (fun p hp => M53.at_ p (List.mem_append_left _ hp))) (payload_lt _ O16.bin) (payload_lt _ (codeN_bin _)); rw [decide_eq_true (show payload ([] ++ codeU v) = payload (codeN v.toNat) by rw [List.nil_append, codeU_t hm])] at this; exact this)) ?_
    refine st_val (.bool true) (by kernel_rfl) (by kernel_rfl) ?_
    refine st_val (.bool true) (by kernel_rfl) (by kernel_rfl) ?_
    refine wl_nil ?_
    refine hK30 _ _ ?_
    try clear hK30 K30
    refine wp_frame (a' := ⟨#[.int .i64 v, undef, .bool true, .pointer (some ⟨g8, 0, none⟩), .int .i64 (errU v), .pointer (some ⟨g8, 0, none⟩), .pointer (some ⟨g8, 0, none⟩), .int .i64 v, .int .i64 (errU v), .int .i64 v, .int .i64 (bitsU v), .int .i64 v, .int .i64 (bitsU v), .bool false, .bool false, .int .i64 v, .int .i64 1, .bool false, .bool false, .int .i64 v, .bool true, .bool false, undef, undef, undef, undef, undef, undef, undef, undef, undef, undef, .bool true, .bool true, .int .i64 (errU v), .bool true, .bool true, .bool true, .pointer (some ⟨g8, 0, none⟩), .slice A38 ((payload ([] ++ codeU v)).length) cq39, .int .i64 v, .slice A46 (kOf v.toNat + (kOf v.toNat + 1)) cq47, .slice A54 ((payload (codeN v.toNat)).length) cq55, .bool true, .bool true], []⟩) (by kernel_rfl) ?_
    refine wp_ret ?_
    exact done1 2 (.bool true) (by kernel_rfl) (by kernel_rfl) (by kernel_rfl) ⟨rfl, M53.toBelow⟩
  ·
    refine st_callB M25 (.bool false) (by kernel_rfl) (args := #[.int .i64 v]) (run_value_call 9 #[(Operand.tmp 19)] _ rfl Try.func9 (by kernel_rfl) (by kernel_rfl) _ (by kernel_rfl)) ((by have := may_ref W24 v; rw [decide_eq_false hm] at this; exact this)) ?_
    intro W57 M58
    refine st_val (.bool true) (by kernel_rfl) (by kernel_rfl) ?_
    refine wl_nil ?_
    refine hK27 _ _ ?_
    try clear hK27 K27
    refine wp_cond_true (by kernel_rfl) ?_
    refine wp_seq_k (fun K59 hK59 => ?_)
    refine wl_region ?_
    refine st_callB M58 (.bool true) (by kernel_rfl) (args := #[]) (run_value_call 10 #[] _ rfl Try.func10 (by kernel_rfl) (by kernel_rfl) _ (by kernel_rfl)) (awake_walk W57) ?_
    intro W60 M61
    refine st_val (.bool true) (by kernel_rfl) (by kernel_rfl) ?_
    refine st_val (.int .i64 (errU v)) (by kernel_rfl) (by kernel_rfl) ?_
    refine st_val (.bool true) (by kernel_rfl) (bool_of (dec_t (show (errU v : Int) = 2 from (errU_f hm))) (by kernel_rfl)) ?_
    refine st_val (.bool true) (by kernel_rfl) (by kernel_rfl) ?_
    refine st_val (.bool true) (by kernel_rfl) (by kernel_rfl) ?_
    refine st_val (.pointer (some ⟨g8, 0, none⟩)) (by kernel_rfl) (by kernel_rfl) ?_
    refine st_callE (.int .i64 ((([] ++ codeU v).length : Nat) : Int)) (by kernel_rfl) (args := #[.pointer (some ⟨g8, 0, none⟩)]) (run_value_call 15 #[(Operand.tmp 28)] _ rfl Try.func15 (by kernel_rfl) (by kernel_rfl) _ (by kernel_rfl)) (wLenM W60 O16 (Mem.part (A := []) (T := T12) (B := []) M61)) ?_
    refine st_val (.bool true) (by kernel_rfl) (bool_of (dec_t (show (((([] ++ codeU v).length : Nat) : Int) : Int) = 0 from (by rw [List.nil_append, codeU_f hm]; rfl))) (by kernel_rfl)) ?_
    refine st_val (.bool true) (by kernel_rfl) (by kernel_rfl) ?_
    refine st_val (.bool true) (by kernel_rfl) (by kernel_rfl) ?_
    refine wl_nil ?_
    refine hK59 _ _ ?_
    try clear hK59 K59
    refine wp_frame (a' := ⟨#[.int .i64 v, undef, .bool true, .pointer (some ⟨g8, 0, none⟩), .int .i64 (errU v), .pointer (some ⟨g8, 0, none⟩), .pointer (some ⟨g8, 0, none⟩), .int .i64 v, .int .i64 (errU v), .int .i64 v, .int .i64 (bitsU v), .int .i64 v, .int .i64 (bitsU v), .bool false, .bool false, .int .i64 v, .int .i64 1, .bool false, .bool false, .int .i64 v, .bool false, .bool true, .bool true, .bool true, .int .i64 (errU v), .bool true, .bool true, .bool true, .pointer (some ⟨g8, 0, none⟩), .int .i64 ((([] ++ codeU v).length : Nat) : Int), .bool true, .bool true, undef, undef, undef, undef, undef, undef, undef, undef, undef, undef, undef, undef, undef], []⟩) (by kernel_rfl) ?_
    refine wp_ret ?_
    refine th_ret ?_
    exact done1 2 (.bool true) (by kernel_rfl) (by kernel_rfl) (by kernel_rfl) ⟨rfl, M61.toBelow⟩
set_option maxHeartbeats 4000000 in
set_option maxRecDepth 100000 in
theorem VlcSigned_walk (w : World) (v : Int) (hv : -9223372036854775808 ≤ v ∧ v ≤ 9223372036854775807) : Calls Try.prog 5 #[.int .i64 v] w fun e w' => e = .returned (.bool true) ∧ Below w.heap.size w w' := by
  refine calls_of_wp Try.func5 rfl ?_
  refine wp_frame (a' := ⟨#[.int .i64 v, undef, undef, undef, undef, undef, undef, undef, undef, undef, undef, undef, undef, undef, undef, undef, undef, undef, undef, undef, undef, undef, undef, undef, undef, undef, undef, undef, undef, undef, undef, undef, undef, undef, undef, undef, undef, undef, undef, undef, undef, undef, undef, undef, undef], []⟩) (by kernel_rfl) ?_
  have M0 : Mem NoS w w [] := Mem.start _ _
  refine wp_seq_k (fun K1 hK1 => ?_)
  refine wl_region ?_
  refine st_val (.bool false) (by kernel_rfl) (by kernel_rfl) ?_
  refine wl_nil ?_
  refine hK1 _ _ ?_
  try clear hK1 K1
  refine wp_seq_k (fun K2 hK2 => ?_)
  refine wl_region ?_
  refine st_callR (A := []) (B := []) M0 (by kernel_rfl) (run_value_call 12 #[] _ rfl Try.func12 (by kernel_rfl) (by kernel_rfl) _ (by kernel_rfl)) (newWriterM w) ?_
  intro v3 T4 W5 O6 M7
  have M7 : Mem NoS w W5 ((T4 ++ [])) := M7
  obtain ⟨g8, rfl, O9⟩ := O6
  refine st_val (.pointer (some ⟨g8, 0, none⟩)) (by kernel_rfl) (by kernel_rfl) ?_
  refine wl_nil ?_
  refine hK2 _ _ ?_
  try clear hK2 K2
  refine wp_seq_k (fun K10 hK10 => ?_)
  refine wl_region ?_
  refine st_val (.pointer (some ⟨g8, 0, none⟩)) (by kernel_rfl) (by kernel_rfl) ?_
  refine st_val (.int .i64 v) (by kernel_rfl) (by kernel_rfl) ?_
  refine st_callU (A := []) (T := T4) (B := []) M7 (by kernel_rfl) (run_value_call 20 #[(Operand.tmp 6), (Operand.tmp 7)] _ rfl Try.func20 (by kernel_rfl) (by kernel_rfl) _ (by kernel_rfl)) (putS_walk W5 O9 (Mem.part (A := []) (T := T4) (B := []) M7) (by first | omega | (simp only [List.length_append, List.length_nil, bitsOf_length]; omega)) v (by omega)) ?_
  intro v11 T12 W13 O14 M15
  obtain ⟨rfl, O16⟩ := O14
  have M17 : Mem NoS w W13 ((T12 ++ [])) := M15
  refine st_val (.int .i64 (errS v)) (by kernel_rfl) (by kernel_rfl) ?_
  refine wl_nil ?_
  refine hK10 _ _ ?_
  try clear hK10 K10
  refine wp_seq_k (fun K18 hK18 => ?_)
  refine wp_seq_k (fun K19 hK19 => ?_)
  refine wl_region ?_
  refine st_val (.int .i64 v) (by kernel_rfl) (by kernel_rfl) ?_
  refine st_callB M17 (.int .i64 (bitsS v)) (by kernel_rfl) (args := #[.int .i64 v]) (run_value_call 21 #[(Operand.tmp 9)] _ rfl Try.func21 (by kernel_rfl) (by kernel_rfl) _ (by kernel_rfl)) (sbits_vlc W13 v (by omega)) ?_
  intro W20 M21
  refine st_val (.int .i64 v) (by kernel_rfl) (by kernel_rfl) ?_
  refine st_callB M21 (.int .i64 (bitsS v)) (by kernel_rfl) (args := #[.int .i64 v]) (run_value_call 22 #[(Operand.tmp 11)] _ rfl Try.func22 (by kernel_rfl) (by kernel_rfl) _ (by kernel_rfl)) (sbits_ref W20 v) ?_
  intro W22 M23
  refine st_val (.bool false) (by kernel_rfl) (bool_of (neq_f (show (bitsS v : Int) = bitsS v from rfl)) (by kernel_rfl)) ?_
  refine st_val (.bool false) (by kernel_rfl) (by kernel_rfl) ?_
  refine st_val (.int .i64 v) (by kernel_rfl) (by kernel_rfl) ?_
  refine st_callB M23 (.int .i64 1) (by kernel_rfl) (args := #[(Go.Value.pointer none), .int .i64 v]) (run_value_call 20 #[(Operand.const (Value.pointer none)), (Operand.tmp 15)] _ rfl Try.func20 (by kernel_rfl) (by kernel_rfl) _ (by kernel_rfl)) (putS_nil W22 v) ?_
  intro W24 M25
  refine st_val (.bool false) (by kernel_rfl) (by kernel_rfl) ?_
  refine st_val (.bool false) (by kernel_rfl) (by kernel_rfl) ?_
  refine wl_nil ?_
  refine hK19 _ _ ?_
  try clear hK19 K19
  refine wp_frame (a' := ⟨#[.int .i64 v, undef, .bool false, .pointer (some ⟨g8, 0, none⟩), .int .i64 (errS v), .pointer (some ⟨g8, 0, none⟩), .pointer (some ⟨g8, 0, none⟩), .int .i64 v, .int .i64 (errS v), .int .i64 v, .int .i64 (bitsS v), .int .i64 v, .int .i64 (bitsS v), .bool false, .bool false, .int .i64 v, .int .i64 1, .bool false, .bool false, undef, undef, undef, undef, undef, undef, undef, undef, undef, undef, undef, undef, undef, undef, undef, undef, undef, undef, undef, undef, undef, undef, undef, undef, undef, undef], []⟩) (by kernel_rfl) ?_
  refine wp_cond_false (by kernel_rfl) ?_
  refine wp_skip ?_
  refine hK18 _ _ ?_
  try clear hK18 K18
  refine wp_seq_k (fun K26 hK26 => ?_)
  refine wp_seq_k (fun K27 hK27 => ?_)
  refine wl_region ?_
  refine st_val (.int .i64 v) (by kernel_rfl) (by kernel_rfl) ?_
  rcases Classical.em (mayS v) with hm | hm
  ·
    refine st_callB M25 (.bool true) (by kernel_rfl) (args := #[.int .i64 v]) (run_value_call 23 #[(Operand.tmp 19)] _ rfl Try.func23 (by kernel_rfl) (by kernel_rfl) _ (by kernel_rfl)) ((by have := mayS_ref W24 v; rw [decide_eq_true hm] at this; exact this)) ?_
    intro W28 M29
    refine st_val (.bool false) (by kernel_rfl) (by kernel_rfl) ?_
    refine wl_nil ?_
    refine hK27 _ _ ?_
    try clear hK27 K27
    refine wp_cond_false (by kernel_rfl) ?_
    refine wp_skip ?_
    refine hK26 _ _ ?_
    try clear hK26 K26
    refine wp_seq_k (fun K30 hK30 => ?_)
    obtain ⟨hmu1, hmu2⟩ := unsg_may hm
    refine wl_region ?_
    refine st_callB M29 (.bool true) (by kernel_rfl) (args := #[]) (run_value_call 10 #[] _ rfl Try.func10 (by kernel_rfl) (by kernel_rfl) _ (by kernel_rfl)) (awake_walk W28) ?_
    intro W31 M32
    refine st_val (.bool true) (by kernel_rfl) (by kernel_rfl) ?_
    refine st_val (.int .i64 (errS v)) (by kernel_rfl) (by kernel_rfl) ?_
    refine st_val (.bool true) (by kernel_rfl) (bool_of (dec_t (show (errS v : Int) = 0 from (errS_t hm))) (by kernel_rfl)) ?_
    refine st_val (.bool true) (by kernel_rfl) (by kernel_rfl) ?_
    refine st_val (.bool true) (by kernel_rfl) (by kernel_rfl) ?_
    refine st_val (.pointer (some ⟨g8, 0, none⟩)) (by kernel_rfl) (by kernel_rfl) ?_
    refine st_callR (A := []) (B := (T12 ++ [])) M32 (by kernel_rfl) (run_value_call 17 #[(Operand.tmp 38)] _ rfl Try.func17 (by kernel_rfl) (by kernel_rfl) _ (by kernel_rfl)) (wPayM W31 O16 (Mem.part (A := []) (T := T12) (B := []) M32) (by have := codeS_le v; rw [List.nil_append]; omega)) ?_
    intro v33 T34 W35 O36 M37
    have M37 : Mem NoS w W35 ((T34 ++ (T12 ++ []))) := M37
    obtain ⟨A38, cq39, rfl, hc40⟩ := O36.shape
    refine st_val (.int .i64 v) (by kernel_rfl) (by kernel_rfl) ?_
    refine st_callR (A := []) (B := (T34 ++ (T12 ++ []))) M37 (by kernel_rfl) (run_value_call 24 #[(Operand.tmp 40)] _ rfl Try.func24 (by kernel_rfl) (by kernel_rfl) _ (by kernel_rfl)) (scode_walk W35 v hm) ?_
    intro v41 T42 W43 O44 M45
    have M45 : Mem NoS w W43 ((T42 ++ (T34 ++ (T12 ++ [])))) := M45
    obtain ⟨A46, cq47, rfl, hc48⟩ := O44.shape
    refine st_callR (A := []) (B := (T42 ++ (T34 ++ (T12 ++ [])))) M45 (by kernel_rfl) (run_value_call 18 #[(Operand.tmp 41)] _ rfl Try.func18 (by kernel_rfl) (by kernel_rfl) _ (by kernel_rfl)) (payloadM W43 (.slice A46 (kOf ((unsg v).toNat) + (kOf ((unsg v).toNat) + 1)) cq47) (codeN ((unsg v).toNat)) ((by rw [codeN_length, show 2 * kOf ((unsg v).toNat) + 1 = kOf ((unsg v).toNat) + (kOf ((unsg v).toNat) + 1) by omega]; exact O44.rd (fun p hp => M45.at_ p (List.mem_append_left _ hp)))) (codeN_bin _) (by rw [codeN_length]; have := kOf_lt (v := (unsg v).toNat) (by omega); omega)) ?_
    intro v49 T50 W51 O52 M53
    have M53 : Mem NoS w W51 ((T50 ++ (T42 ++ (T34 ++ (T12 ++ []))))) := M53
    obtain ⟨A54, cq55, rfl, hc56⟩ := O52.shape
    refine st_callE (.bool true) (by kernel_rfl) (args := #[.slice A38 ((payload ([] ++ codeS v)).length) cq39, .slice A54 ((payload (codeN ((unsg v).toNat))).length) cq55]) (run_value_call 16 #[(Operand.tmp 39), (Operand.tmp 42)] _ rfl Try.func16 (by kernel_rfl) (by kernel_rfl) _ (by kernel_rfl)) ((by have := sameM W51 (.slice A38 ((payload ([] ++ codeS v)).length) cq39) (.slice A54 ((payload (codeN ((unsg v).toNat))).length) cq55) (payload ([] ++ codeS v)) (payload (codeN ((unsg v).toNat))) (O36.rd (fun p hp => M53.at_ p (List.mem_append_right _ (List.mem_append_right _ (List.mem_append_left _ hp))))) (O52.rd (fun p hp => M53.at_ p (List.mem_append_left _ hp))) (payload_lt _ O16.bin) (payload_lt _ (codeN_bin _)); rw [decide_eq_true (show payload ([] ++ codeS v) = payload (codeN (unsg v).toNat) by rw [List.nil_append, codeS_t hm])] at this; exact this)) ?_
    refine st_val (.bool true) (by kernel_rfl) (by kernel_rfl) ?_
    refine st_val (.bool true) (by kernel_rfl) (by kernel_rfl) ?_
    refine wl_nil ?_
    refine hK30 _ _ ?_
    try clear hK30 K30
    refine wp_frame (a' := ⟨#[.int .i64 v, undef, .bool true, .pointer (some ⟨g8, 0, none⟩), .int .i64 (errS v), .pointer (some ⟨g8, 0, none⟩), .pointer (some ⟨g8, 0, none⟩), .int .i64 v, .int .i64 (errS v), .int .i64 v, .int .i64 (bitsS v), .int .i64 v, .int .i64 (bitsS v), .bool false, .bool false, .int .i64 v, .int .i64 1, .bool false, .bool false, .int .i64 v, .bool true, .bool false, undef, undef, undef, undef, undef, undef, undef, undef, undef, undef, .bool true, .bool true, .int .i64 (errS v), .bool true, .bool true, .bool true, .pointer (some ⟨g8, 0, none⟩), .slice A38 ((payload ([] ++ codeS v)).length) cq39, .int .i64 v, .slice A46 (kOf ((unsg v).toNat) + (kOf ((unsg v).toNat) + 1)) cq47, .slice A54 ((payload (codeN ((unsg v).toNat))).length) cq55, .bool true, .bool true], []⟩) (by kernel_rfl) ?_
    refine wp_ret ?_
    exact done1 2 (.bool true) (by kernel_rfl) (by kernel_rfl) (by kernel_rfl) ⟨rfl, M53.toBelow⟩
  ·
    refine st_callB M25 (.bool false) (by kernel_rfl) (args := #[.int .i64 v]) (run_value_call 23 #[(Operand.tmp 19)] _ rfl Try.func23 (by kernel_rfl) (by kernel_rfl) _ (by kernel_rfl)) ((by have := mayS_ref W24 v; rw [decide_eq_false hm] at this; exact this)) ?_
    intro W57 M58
    refine st_val (.bool true) (by kernel_rfl) (by kernel_rfl) ?_
    refine wl_nil ?_
    refine hK27 _ _ ?_
    try clear hK27 K27
    refine wp_cond_true (by kernel_rfl) ?_
    refine wp_seq_k (fun K59 hK59 => ?_)
    refine wl_region ?_
    refine st_callB M58 (.bool true) (by kernel_rfl) (args := #[]) (run_value_call 10 #[] _ rfl Try.func10 (by kernel_rfl) (by kernel_rfl) _ (by kernel_rfl)) (awake_walk W57) ?_
    intro W60 M61
    refine st_val (.bool true) (by kernel_rfl) (by kernel_rfl) ?_
    refine st_val (.int .i64 (errS v)) (by kernel_rfl) (by kernel_rfl) ?_
    refine st_val (.bool true) (by kernel_rfl) (bool_of (dec_t (show (errS v : Int) = 2 from (errS_f hm))) (by kernel_rfl)) ?_
    refine st_val (.bool true) (by kernel_rfl) (by kernel_rfl) ?_
    refine st_val (.bool true) (by kernel_rfl) (by kernel_rfl) ?_
    refine st_val (.pointer (some ⟨g8, 0, none⟩)) (by kernel_rfl) (by kernel_rfl) ?_
    refine st_callE (.int .i64 ((([] ++ codeS v).length : Nat) : Int)) (by kernel_rfl) (args := #[.pointer (some ⟨g8, 0, none⟩)]) (run_value_call 15 #[(Operand.tmp 28)] _ rfl Try.func15 (by kernel_rfl) (by kernel_rfl) _ (by kernel_rfl)) (wLenM W60 O16 (Mem.part (A := []) (T := T12) (B := []) M61)) ?_
    refine st_val (.bool true) (by kernel_rfl) (bool_of (dec_t (show (((([] ++ codeS v).length : Nat) : Int) : Int) = 0 from (by rw [List.nil_append, codeS_f hm]; rfl))) (by kernel_rfl)) ?_
    refine st_val (.bool true) (by kernel_rfl) (by kernel_rfl) ?_
    refine st_val (.bool true) (by kernel_rfl) (by kernel_rfl) ?_
    refine wl_nil ?_
    refine hK59 _ _ ?_
    try clear hK59 K59
    refine wp_frame (a' := ⟨#[.int .i64 v, undef, .bool true, .pointer (some ⟨g8, 0, none⟩), .int .i64 (errS v), .pointer (some ⟨g8, 0, none⟩), .pointer (some ⟨g8, 0, none⟩), .int .i64 v, .int .i64 (errS v), .int .i64 v, .int .i64 (bitsS v), .int .i64 v, .int .i64 (bitsS v), .bool false, .bool false, .int .i64 v, .int .i64 1, .bool false, .bool false, .int .i64 v, .bool false, .bool true, .bool true, .bool true, .int .i64 (errS v), .bool true, .bool true, .bool true, .pointer (some ⟨g8, 0, none⟩), .int .i64 ((([] ++ codeS v).length : Nat) : Int), .bool true, .bool true, undef, undef, undef, undef, undef, undef, undef, undef, undef, undef, undef, undef, undef], []⟩) (by kernel_rfl) ?_
    refine wp_ret ?_
    refine th_ret ?_
    exact done1 2 (.bool true) (by kernel_rfl) (by kernel_rfl) (by kernel_rfl) ⟨rfl, M61.toBelow⟩

theorem short1 {a : Int} (h : mayU a) : bitsU a ≥ 1 := by unfold bitsU; rw [if_pos h]; omega
theorem short2 {a b : Int} (h : mayU a) (h' : mayU b) (hab : a ≤ b) : bitsU a ≤ bitsU b := by
  unfold bitsU
  rw [if_pos h, if_pos h']
  have := kOf_mono (a := a.toNat) (b := b.toNat) (by omega)
  omega
set_option maxHeartbeats 4000000 in
set_option maxRecDepth 100000 in
theorem VlcShorter_walk (w : World) (a : Int) (ha : -9223372036854775808 ≤ a ∧ a ≤ 9223372036854775807) (b : Int) (hb : -9223372036854775808 ≤ b ∧ b ≤ 9223372036854775807) : Calls Try.prog 3 #[.int .i64 a, .int .i64 b] w fun e w' => e = .returned (.bool true) ∧ Below w.heap.size w w' := by
  refine calls_of_wp Try.func3 rfl ?_
  refine wp_frame (a' := ⟨#[.int .i64 a, .int .i64 b, undef, undef, undef, undef, undef, undef, undef, undef, undef, undef, undef, undef, undef, undef, undef, undef, undef, undef, undef, undef, undef, undef, undef, undef, undef, undef, undef, undef, undef, undef], []⟩) (by kernel_rfl) ?_
  have M0 : Mem NoS w w [] := Mem.start _ _
  refine wp_seq_k (fun K1 hK1 => ?_)
  refine wl_region ?_
  refine st_val (.bool false) (by kernel_rfl) (by kernel_rfl) ?_
  refine wl_nil ?_
  refine hK1 _ _ ?_
  try clear hK1 K1
  refine wp_seq_k (fun K2 hK2 => ?_)
  refine wp_seq_k (fun K3 hK3 => ?_)
  refine wl_region ?_
  refine st_val (.int .i64 a) (by kernel_rfl) (by kernel_rfl) ?_
  refine st_val (.int .i64 b) (by kernel_rfl) (by kernel_rfl) ?_
  rcases Decidable.em ((a : Int) > b) with c7 | c7
  ·
    refine st_val (.bool true) (by kernel_rfl) (bool_of (dec_t c7) (by kernel_rfl)) ?_
    refine st_val (.bool true) (by kernel_rfl) (by kernel_rfl) ?_
    refine st_skip (by kernel_rfl) ?_
    refine st_skip (by kernel_rfl) ?_
    refine st_skip (by kernel_rfl) ?_
    refine st_val (.bool true) (by kernel_rfl) (by kernel_rfl) ?_
    refine st_val (.bool true) (by kernel_rfl) (by kernel_rfl) ?_
    refine st_skip (by kernel_rfl) ?_
    refine st_skip (by kernel_rfl) ?_
    refine st_skip (by kernel_rfl) ?_
    refine st_val (.bool true) (by kernel_rfl) (by kernel_rfl) ?_
    refine wl_nil ?_
    refine hK3 _ _ ?_
    try clear hK3 K3
    refine wp_frame (a' := ⟨#[.int .i64 a, .int .i64 b, undef, undef, .bool false, .int .i64 a, .int .i64 b, .bool true, .bool true, undef, undef, undef, .bool true, .bool true, undef, undef, undef, .bool true, undef, undef, undef, undef, undef, undef, undef, undef, undef, undef, undef, undef, undef, undef], []⟩) (by kernel_rfl) ?_
    refine wp_cond_true (by kernel_rfl) ?_
    refine wp_seq_k (fun K4 hK4 => ?_)
    refine wl_region ?_
    refine st_callB M0 (.bool true) (by kernel_rfl) (args := #[]) (run_value_call 10 #[] _ rfl Try.func10 (by kernel_rfl) (by kernel_rfl) _ (by kernel_rfl)) (awake_walk w) ?_
    intro W5 M6
    refine st_val (.bool true) (by kernel_rfl) (by kernel_rfl) ?_
    refine wl_nil ?_
    refine hK4 _ _ ?_
    try clear hK4 K4
    refine wp_ret ?_
    refine th_ret ?_
    exact done1 4 (.bool true) (by kernel_rfl) (by kernel_rfl) (by kernel_rfl) ⟨rfl, M6.toBelow⟩
  ·
    refine st_val (.bool false) (by kernel_rfl) (bool_of (dec_f c7) (by kernel_rfl)) ?_
    refine st_val (.bool false) (by kernel_rfl) (by kernel_rfl) ?_
    refine st_val (.int .i64 a) (by kernel_rfl) (by kernel_rfl) ?_
    rcases Classical.em (mayU a) with hma | hma
    ·
      refine st_callB M0 (.bool true) (by kernel_rfl) (args := #[.int .i64 a]) (run_value_call 9 #[(Operand.tmp 9)] _ rfl Try.func9 (by kernel_rfl) (by kernel_rfl) _ (by kernel_rfl)) ((by have := may_ref w a; rw [decide_eq_true hma] at this; exact this)) ?_
      intro W7 M8
      refine st_val (.bool false) (by kernel_rfl) (by kernel_rfl) ?_
      refine st_val (.bool false) (by kernel_rfl) (by kernel_rfl) ?_
      refine st_val (.bool false) (by kernel_rfl) (by kernel_rfl) ?_
      refine st_val (.int .i64 b) (by kernel_rfl) (by kernel_rfl) ?_
      rcases Classical.em (mayU b) with hmb | hmb
      ·
        refine st_callB M8 (.bool true) (by kernel_rfl) (args := #[.int .i64 b]) (run_value_call 9 #[(Operand.tmp 14)] _ rfl Try.func9 (by kernel_rfl) (by kernel_rfl) _ (by kernel_rfl)) ((by have := may_ref W7 b; rw [decide_eq_true hmb] at this; exact this)) ?_
        intro W9 M10
        refine st_val (.bool false) (by kernel_rfl) (by kernel_rfl) ?_
        refine st_val (.bool false) (by kernel_rfl) (by kernel_rfl) ?_
        refine wl_nil ?_
        refine hK3 _ _ ?_
        try clear hK3 K3
        refine wp_frame (a' := ⟨#[.int .i64 a, .int .i64 b, undef, undef, .bool false, .int .i64 a, .int .i64 b, .bool false, .bool false, .int .i64 a, .bool true, .bool false, .bool false, .bool false, .int .i64 b, .bool true, .bool false, .bool false, undef, undef, undef, undef, undef, undef, undef, undef, undef, undef, undef, undef, undef, undef], []⟩) (by kernel_rfl) ?_
        refine wp_cond_false (by kernel_rfl) ?_
        refine wp_skip ?_
        refine hK2 _ _ ?_
        try clear hK2 K2
        refine wp_seq_k (fun K11 hK11 => ?_)
        refine wl_region ?_
        refine st_callB M10 (.bool true) (by kernel_rfl) (args := #[]) (run_value_call 10 #[] _ rfl Try.func10 (by kernel_rfl) (by kernel_rfl) _ (by kernel_rfl)) (awake_walk W9) ?_
        intro W12 M13
        refine st_val (.bool true) (by kernel_rfl) (by kernel_rfl) ?_
        refine st_val (.int .i64 a) (by kernel_rfl) (by kernel_rfl) ?_
        refine st_callB M13 (.int .i64 (bitsU a)) (by kernel_rfl) (args := #[.int .i64 a]) (run_value_call 11 #[(Operand.tmp 21)] _ rfl Try.func11 (by kernel_rfl) (by kernel_rfl) _ (by kernel_rfl)) (bits_vlc W12 a (by omega)) ?_
        intro W14 M15
        refine st_val (.bool true) (by kernel_rfl) (bool_of (dec_t (show (bitsU a : Int) ≥ 1 from (short1 hma))) (by kernel_rfl)) ?_
        refine st_val (.bool true) (by kernel_rfl) (by kernel_rfl) ?_
        refine st_val (.bool true) (by kernel_rfl) (by kernel_rfl) ?_
        refine st_val (.int .i64 a) (by kernel_rfl) (by kernel_rfl) ?_
        refine st_callB M15 (.int .i64 (bitsU a)) (by kernel_rfl) (args := #[.int .i64 a]) (run_value_call 11 #[(Operand.tmp 26)] _ rfl Try.func11 (by kernel_rfl) (by kernel_rfl) _ (by kernel_rfl)) (bits_vlc W14 a (by omega)) ?_
        intro W16 M17
        refine st_val (.int .i64 b) (by kernel_rfl) (by kernel_rfl) ?_
        refine st_callB M17 (.int .i64 (bitsU b)) (by kernel_rfl) (args := #[.int .i64 b]) (run_value_call 11 #[(Operand.tmp 28)] _ rfl Try.func11 (by kernel_rfl) (by kernel_rfl) _ (by kernel_rfl)) (bits_vlc W16 b (by omega)) ?_
        intro W18 M19
        refine st_val (.bool true) (by kernel_rfl) (bool_of (dec_t (show (bitsU a : Int) ≤ bitsU b from (short2 hma hmb (by omega)))) (by kernel_rfl)) ?_
        refine st_val (.bool true) (by kernel_rfl) (by kernel_rfl) ?_
        refine st_val (.bool true) (by kernel_rfl) (by kernel_rfl) ?_
        refine wl_nil ?_
        refine hK11 _ _ ?_
        try clear hK11 K11
        refine wp_frame (a' := ⟨#[.int .i64 a, .int .i64 b, undef, undef, .bool true, .int .i64 a, .int .i64 b, .bool false, .bool false, .int .i64 a, .bool true, .bool false, .bool false, .bool false, .int .i64 b, .bool true, .bool false, .bool false, undef, .bool true, .bool true, .int .i64 a, .int .i64 (bitsU a), .bool true, .bool true, .bool true, .int .i64 a, .int .i64 (bitsU a), .int .i64 b, .int .i64 (bitsU b), .bool true, .bool true], []⟩) (by kernel_rfl) ?_
        refine wp_ret ?_
        exact done1 4 (.bool true) (by kernel_rfl) (by kernel_rfl) (by kernel_rfl) ⟨rfl, M19.toBelow⟩
      ·
        refine st_callB M8 (.bool false) (by kernel_rfl) (args := #[.int .i64 b]) (run_value_call 9 #[(Operand.tmp 14)] _ rfl Try.func9 (by kernel_rfl) (by kernel_rfl) _ (by kernel_rfl)) ((by have := may_ref W7 b; rw [decide_eq_false hmb] at this; exact this)) ?_
        intro W20 M21
        refine st_val (.bool true) (by kernel_rfl) (by kernel_rfl) ?_
        refine st_val (.bool true) (by kernel_rfl) (by kernel_rfl) ?_
        refine wl_nil ?_
        refine hK3 _ _ ?_
        try clear hK3 K3
        refine wp_frame (a' := ⟨#[.int .i64 a, .int .i64 b, undef, undef, .bool false, .int .i64 a, .int .i64 b, .bool false, .bool false, .int .i64 a, .bool true, .bool false, .bool false, .bool false, .int .i64 b, .bool false, .bool true, .bool true, undef, undef, undef, undef, undef, undef, undef, undef, undef, undef, undef, undef, undef, undef], []⟩) (by kernel_rfl) ?_
        refine wp_cond_true (by kernel_rfl) ?_
        refine wp_seq_k (fun K22 hK22 => ?_)
        refine wl_region ?_
        refine st_callB M21 (.bool true) (by kernel_rfl) (args := #[]) (run_value_call 10 #[] _ rfl Try.func10 (by kernel_rfl) (by kernel_rfl) _ (by kernel_rfl)) (awake_walk W20) ?_
        intro W23 M24
        refine st_val (.bool true) (by kernel_rfl) (by kernel_rfl) ?_
        refine wl_nil ?_
        refine hK22 _ _ ?_
        try clear hK22 K22
        refine wp_ret ?_
        refine th_ret ?_
        exact done1 4 (.bool true) (by kernel_rfl) (by kernel_rfl) (by kernel_rfl) ⟨rfl, M24.toBelow⟩
    ·
      refine st_callB M0 (.bool false) (by kernel_rfl) (args := #[.int .i64 a]) (run_value_call 9 #[(Operand.tmp 9)] _ rfl Try.func9 (by kernel_rfl) (by kernel_rfl) _ (by kernel_rfl)) ((by have := may_ref w a; rw [decide_eq_false hma] at this; exact this)) ?_
      intro W25 M26
      refine st_val (.bool true) (by kernel_rfl) (by kernel_rfl) ?_
      refine st_val (.bool true) (by kernel_rfl) (by kernel_rfl) ?_
      refine st_val (.bool true) (by kernel_rfl) (by kernel_rfl) ?_
      refine st_skip (by kernel_rfl) ?_
      refine st_skip (by kernel_rfl) ?_
      refine st_skip (by kernel_rfl) ?_
      refine st_val (.bool true) (by kernel_rfl) (by kernel_rfl) ?_
      refine wl_nil ?_
      refine hK3 _ _ ?_
      try clear hK3 K3
      refine wp_frame (a' := ⟨#[.int .i64 a, .int .i64 b, undef, undef, .bool false, .int .i64 a, .int .i64 b, .bool false, .bool false, .int .i64 a, .bool false, .bool true, .bool true, .bool true, undef, undef, undef, .bool true, undef, undef, undef, undef, undef, undef, undef, undef, undef, undef, undef, undef, undef, undef], []⟩) (by kernel_rfl) ?_
      refine wp_cond_true (by kernel_rfl) ?_
      refine wp_seq_k (fun K27 hK27 => ?_)
      refine wl_region ?_
      refine st_callB M26 (.bool true) (by kernel_rfl) (args := #[]) (run_value_call 10 #[] _ rfl Try.func10 (by kernel_rfl) (by kernel_rfl) _ (by kernel_rfl)) (awake_walk W25) ?_
      intro W28 M29
      refine st_val (.bool true) (by kernel_rfl) (by kernel_rfl) ?_
      refine wl_nil ?_
      refine hK27 _ _ ?_
      try clear hK27 K27
      refine wp_ret ?_
      refine th_ret ?_
      exact done1 4 (.bool true) (by kernel_rfl) (by kernel_rfl) (by kernel_rfl) ⟨rfl, M29.toBelow⟩
end Go.Proofs.Ytkmnnfmdjgpflaa
