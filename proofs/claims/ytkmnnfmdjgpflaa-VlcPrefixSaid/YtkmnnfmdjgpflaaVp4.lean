/- The walk of VlcPrefix. -/
import Derived.Test.YtkmnnfmdjgpflaaVa
namespace Go.Proofs.Ytkmnnfmdjgpflaa
open Go.RowKit Bt

/-- the bits of bytes -/
def bytesB (l : List Nat) : List Nat := l.flatMap fun x => bitsOf x 8
theorem bytesB_len (l : List Nat) : (bytesB l).length = 8 * l.length := by
  induction l with
  | nil => rfl
  | cons x l ih => show (bitsOf x 8 ++ bytesB l).length = _; rw [List.length_append, ih, bitsOf_length, List.length_cons]; omega
theorem bytesB_next (c : List Nat) (l : List Nat) (i : Nat) (h : i < l.length) : c ++ bytesB (l.take i) ++ bitsOf (l.getD i 0) 8 = c ++ bytesB (l.take (i + 1)) := by
  rw [List.append_assoc]
  congr 1
  unfold bytesB
  rw [List.take_succ_eq_append_getElem h, List.flatMap_append, List.getD_eq_getElem?_getD, List.getElem?_eq_getElem h]
  simp
set_option maxHeartbeats 4000000 in
set_option maxRecDepth 100000 in
theorem VlcPrefix_walk (w : World) (v0 : Int) (hv0 : -9223372036854775808 ≤ v0 ∧ v0 ≤ 9223372036854775807) (v : Value) (l : List Nat) (hr : RdK w v l.length (u8s l)) (hb : ∀ x ∈ l, x < 256) : Calls Try.prog 6 #[.int .i64 v0, v] w fun e w' => e = .returned (.bool true) ∧ Below w.heap.size w w' := by
  obtain ⟨A, c, rfl, hc⟩ := hr.shape
  refine calls_of_wp Try.func6 rfl ?_
  refine wp_frame (a' := ⟨#[.int .i64 v0, .slice A l.length c, undef, undef, undef, undef, undef, undef, undef, undef, undef, undef, undef, undef, undef, undef, undef, undef, undef, undef, undef, undef, undef, undef, undef, undef, undef, undef, undef, undef, undef, undef, undef, undef, undef, undef, undef, undef, undef, undef, undef, undef, undef, undef, undef, undef, undef, undef, undef, undef, undef, undef, undef, undef, undef, undef, undef, undef, undef, undef, undef, undef, undef, undef, undef, undef, undef, undef, undef, undef], []⟩) (by kernel_rfl) ?_
  have M0 : Mem NoS w w [] := Mem.start _ _
  refine wp_seq_k (fun K1 hK1 => ?_)
  refine wl_region ?_
  refine st_val (.bool false) (by kernel_rfl) (by kernel_rfl) ?_
  refine wl_nil ?_
  refine hK1 _ _ ?_
  try clear hK1 K1
  refine wp_seq_k (fun K2 hK2 => ?_)
  refine wp_seq_k (fun K3 hK3 => ?_)
  refine wl_region ?_
  refine st_val (.int .i64 v0) (by kernel_rfl) (by kernel_rfl) ?_
  rcases Classical.em (mayU v0) with hm | hm
  ·
    refine st_callB M0 (.bool true) (by kernel_rfl) (args := #[.int .i64 v0]) (run_value_call 9 #[(Operand.tmp 11)] _ rfl Try.func9 (by kernel_rfl) (by kernel_rfl) _ (by kernel_rfl)) ((by have := may_ref w v0; rw [decide_eq_true hm] at this; exact this)) ?_
    intro W4 M5
    refine st_val (.bool false) (by kernel_rfl) (by kernel_rfl) ?_
    refine st_val (.bool false) (by kernel_rfl) (by kernel_rfl) ?_
    refine st_val (.slice A l.length c) (by kernel_rfl) (by kernel_rfl) ?_
    refine st_val (.int .i64 ((l.length : Nat) : Int)) (by kernel_rfl) (by kernel_rfl) ?_
    rcases Decidable.em ((((l.length : Nat) : Int) : Int) > 100) with c17 | c17
    ·
      refine st_val (.bool true) (by kernel_rfl) (bool_of (dec_t c17) (by kernel_rfl)) ?_
      refine st_val (.bool true) (by kernel_rfl) (by kernel_rfl) ?_
      refine wl_nil ?_
      refine hK3 _ _ ?_
      try clear hK3 K3
      refine wp_cond_true (by kernel_rfl) ?_
      refine wp_seq_k (fun K6 hK6 => ?_)
      refine wl_region ?_
      refine st_callB M5 (.bool true) (by kernel_rfl) (args := #[]) (run_value_call 10 #[] _ rfl Try.func10 (by kernel_rfl) (by kernel_rfl) _ (by kernel_rfl)) (awake_walk W4) ?_
      intro W7 M8
      refine st_val (.bool true) (by kernel_rfl) (by kernel_rfl) ?_
      refine wl_nil ?_
      refine hK6 _ _ ?_
      try clear hK6 K6
      refine wp_ret ?_
      refine th_ret ?_
      exact done1 4 (.bool true) (by kernel_rfl) (by kernel_rfl) (by kernel_rfl) ⟨rfl, M8.toBelow⟩
    ·
      refine st_val (.bool false) (by kernel_rfl) (bool_of (dec_f c17) (by kernel_rfl)) ?_
      refine st_val (.bool false) (by kernel_rfl) (by kernel_rfl) ?_
      refine wl_nil ?_
      refine hK3 _ _ ?_
      try clear hK3 K3
      refine wp_cond_false (by kernel_rfl) ?_
      refine wp_skip ?_
      refine hK2 _ _ ?_
      try clear hK2 K2
      refine wp_seq_k (fun K9 hK9 => ?_)
      refine wl_region ?_
      refine st_callR (A := []) (B := []) M5 (by kernel_rfl) (run_value_call 12 #[] _ rfl Try.func12 (by kernel_rfl) (by kernel_rfl) _ (by kernel_rfl)) (newWriterM W4) ?_
      intro v10 T11 W12 O13 M14
      have M14 : Mem NoS w W12 ((T11 ++ [])) := M14
      obtain ⟨g15, rfl, O16⟩ := O13
      refine st_val (.pointer (some ⟨g15, 0, none⟩)) (by kernel_rfl) (by kernel_rfl) ?_
      refine wl_nil ?_
      refine hK9 _ _ ?_
      try clear hK9 K9
      refine wp_seq_k (fun K17 hK17 => ?_)
      refine wp_seq_k (fun K18 hK18 => ?_)
      refine wl_region ?_
      refine st_val (.pointer (some ⟨g15, 0, none⟩)) (by kernel_rfl) (by kernel_rfl) ?_
      refine st_val (.int .i64 v0) (by kernel_rfl) (by kernel_rfl) ?_
      refine st_callU (A := []) (T := T11) (B := []) M14 (by kernel_rfl) (run_value_call 13 #[(Operand.tmp 21), (Operand.tmp 22)] _ rfl Try.func13 (by kernel_rfl) (by kernel_rfl) _ (by kernel_rfl)) (putU_walk W12 O16 (Mem.part (A := []) (T := T11) (B := []) M14) (by decide) v0 (by omega)) ?_
      intro v19 T20 W21 O22 M23
      obtain ⟨rfl, O24⟩ := O22
      have M25 : Mem NoS w W21 ((T20 ++ [])) := M23
      refine st_val (.bool false) (by kernel_rfl) (bool_of (neq_f (show (errU v0 : Int) = 0 from (errU_t hm))) (by kernel_rfl)) ?_
      refine wl_nil ?_
      refine hK18 _ _ ?_
      try clear hK18 K18
      refine wp_frame (a' := ⟨#[.int .i64 v0, .slice A l.length c, undef, undef, .bool false, .pointer (some ⟨g15, 0, none⟩), undef, undef, undef, undef, undef, .int .i64 v0, .bool true, .bool false, .bool false, .slice A l.length c, .int .i64 ((l.length : Nat) : Int), .bool false, .bool false, undef, .pointer (some ⟨g15, 0, none⟩), .pointer (some ⟨g15, 0, none⟩), .int .i64 v0, .int .i64 (errU v0), .bool false, undef, undef, undef, undef, undef, undef, undef, undef, undef, undef, undef, undef, undef, undef, undef, undef, undef, undef, undef, undef, undef, undef, undef, undef, undef, undef, undef, undef, undef, undef, undef, undef, undef, undef, undef, undef, undef, undef, undef, undef, undef, undef, undef, undef, undef], []⟩) (by kernel_rfl) ?_
      refine wp_cond_false (by kernel_rfl) ?_
      refine wp_skip ?_
      refine hK17 _ _ ?_
      try clear hK17 K17
      refine wp_seq_k (fun K26 hK26 => ?_)
      refine wp_seq_k (fun K27 hK27 => ?_)
      refine wl_region ?_
      refine st_val (.int .i64 0) (by kernel_rfl) (by kernel_rfl) ?_
      refine wl_nil ?_
      refine hK27 _ _ ?_
      try clear hK27 K27
      refine wp_block ?_
      refine wp_loop_ghost (fun gn a' w' => ∃ (i : Nat) (T1 : List (Nat × Obj)) (u28 : Nat → Value), ((i ≤ l.length ∧ OwnW g15 (codeU v0 ++ bytesB (l.take i)) T1) ∧ Mem NoS w w' ((T1 ++ []))) ∧ gn = l.length - i ∧ a' = ⟨#[.int .i64 v0, .slice A l.length c, undef, undef, (u28 4), .pointer (some ⟨g15, 0, none⟩), .int .i64 ((i : Nat) : Int), undef, undef, undef, undef, .int .i64 v0, .bool true, .bool false, .bool false, .slice A l.length c, .int .i64 ((l.length : Nat) : Int), .bool false, .bool false, undef, .pointer (some ⟨g15, 0, none⟩), .pointer (some ⟨g15, 0, none⟩), .int .i64 v0, .int .i64 (errU v0), .bool false, (u28 25), (u28 26), (u28 27), (u28 28), (u28 29), (u28 30), (u28 31), (u28 32), (u28 33), (u28 34), (u28 35), (u28 36), (u28 37), (u28 38), undef, undef, undef, undef, undef, undef, undef, undef, undef, undef, undef, undef, undef, undef, undef, undef, undef, undef, undef, undef, undef, undef, undef, undef, undef, undef, undef, undef, undef, undef, undef], []⟩) _ ⟨0, T20, (fun zz => Array.getD #[.int .i64 v0, .slice A l.length c, undef, undef, .bool false, .pointer (some ⟨g15, 0, none⟩), .int .i64 0, undef, undef, undef, undef, .int .i64 v0, .bool true, .bool false, .bool false, .slice A l.length c, .int .i64 ((l.length : Nat) : Int), .bool false, .bool false, undef, .pointer (some ⟨g15, 0, none⟩), .pointer (some ⟨g15, 0, none⟩), .int .i64 v0, .int .i64 (errU v0), .bool false, undef, undef, undef, undef, undef, undef, undef, undef, undef, undef, undef, undef, undef, undef, undef, undef, undef, undef, undef, undef, undef, undef, undef, undef, undef, undef, undef, undef, undef, undef, undef, undef, undef, undef, undef, undef, undef, undef, undef, undef, undef, undef, undef, undef, undef] zz undef), ⟨⟨by omega, by have h := O24; rw [List.nil_append] at h; rw [List.take_zero]; show OwnW _ (codeU v0 ++ []) _; rw [List.append_nil]; exact h⟩, M25⟩, rfl, (by kernel_rfl)⟩ ?_
      rintro gn _ W29 ⟨i, T1, u28, ⟨⟨ri, O1⟩, M30⟩, rfl, rfl⟩
      refine wp_seq_k (fun K31 hK31 => ?_)
      refine wp_seq_k (fun K32 hK32 => ?_)
      refine wl_region ?_
      refine st_val (.int .i64 ((i : Nat) : Int)) (by kernel_rfl) (by kernel_rfl) ?_
      refine st_val (.slice A l.length c) (by kernel_rfl) (by kernel_rfl) ?_
      refine st_val (.int .i64 ((l.length : Nat) : Int)) (by kernel_rfl) (by kernel_rfl) ?_
      rcases Decidable.em ((((i : Nat) : Int) : Int) < ((l.length : Nat) : Int)) with c28 | c28
      ·
        refine st_val (.bool true) (by kernel_rfl) (bool_of (dec_t c28) (by kernel_rfl)) ?_
        refine wl_nil ?_
        refine hK32 _ _ ?_
        try clear hK32 K32
        refine wp_cond_true (by kernel_rfl) ?_
        refine wp_skip ?_
        refine hK31 _ _ ?_
        try clear hK31 K31
        refine wp_seq_k (fun K33 hK33 => ?_)
        refine wp_block ?_
        refine wp_seq_k (fun K34 hK34 => ?_)
        have hx := last_lt hb i
        refine wl_region ?_
        refine st_val (.pointer (some ⟨g15, 0, none⟩)) (by kernel_rfl) (by kernel_rfl) ?_
        refine st_val (.slice A l.length c) (by kernel_rfl) (by kernel_rfl) ?_
        refine st_val (.int .i64 ((i : Nat) : Int)) (by kernel_rfl) (by kernel_rfl) ?_
        obtain ⟨b35, o36, eA37⟩ := RdK.addr (hr.keep M30.keep (fun _ _ h => h)) (j := i * 1) (by rw [u8s_length]; omega)
        refine st_val (.pointer (some ⟨b35, o36 + i * 1, none⟩)) (by kernel_rfl) (run_indexSliceA 32 (.tmp 32) (.tmp 33) rfl A ⟨b35, o36, none⟩ eA37 l.length c .i64 i (by kernel_rfl) (by kernel_rfl) Try.underlying32 1 (by kernel_rfl) (by omega) ⟨b35, o36 + i * 1, none⟩ (addr_atK _ _ _ _)) ?_
        refine st_val (.int .u8 ((l.getD i 0 : Nat) : Int)) (by kernel_rfl) (run_load_cell 5 (.tmp 34) rfl ⟨b35, o36 + i * 1, none⟩ (by kernel_rfl) _ ((hr.keep M30.keep (fun _ _ h => h)).cellF eA37 (f := 0) (u8s_get l i (by omega))) (by kernel_rfl)) ?_
        refine st_val (.int .u32 ((l.getD i 0 : Nat) : Int)) (by kernel_rfl) (int_of (wrap_u32 (by omega)) (by kernel_rfl)) ?_
        refine st_callU (A := []) (T := T1) (B := []) M30 (by kernel_rfl) (run_value_call 25 #[(Operand.tmp 31), (Operand.tmp 36), (Operand.const (Value.int IntKind.i64 8))] _ rfl Try.func25 (by kernel_rfl) (by kernel_rfl) _ (by kernel_rfl)) (wPutN W29 O1 (Mem.part (A := []) (T := T1) (B := []) M30) (l.getD i 0) 8 (by rw [List.length_append, bytesB_len, List.length_take]; have := codeU_le v0; omega) (by omega) (by omega) (by omega)) ?_
        intro v38 T39 W40 O41 M42
        obtain ⟨rfl, O43⟩ := O41
        have M44 : Mem NoS w W40 ((T39 ++ [])) := M42
        refine st_val (.bool false) (by kernel_rfl) (by kernel_rfl) ?_
        refine wl_nil ?_
        refine hK34 _ _ ?_
        try clear hK34 K34
        refine wp_cond_false (by kernel_rfl) ?_
        refine wp_skip ?_
        refine blk_normal ?_
        refine hK33 _ _ ?_
        try clear hK33 K33
        refine wl_region ?_
        refine st_val (.int .i64 ((i : Nat) : Int)) (by kernel_rfl) (by kernel_rfl) ?_
        refine st_val (.int .i64 (((i : Nat) : Int) + 1)) (by kernel_rfl) (i64_of (by omega) (by kernel_rfl)) ?_
        refine st_val (.int .i64 (((i : Nat) : Int) + 1)) (by kernel_rfl) (by kernel_rfl) ?_
        refine wl_nil ?_
        refine th_normal ?_
        exact ⟨_, by omega, (i + 1), T39, (fun zz => Array.getD #[.int .i64 v0, .slice A l.length c, undef, undef, (u28 4), .pointer (some ⟨g15, 0, none⟩), .int .i64 (((i : Nat) : Int) + 1), undef, undef, undef, undef, .int .i64 v0, .bool true, .bool false, .bool false, .slice A l.length c, .int .i64 ((l.length : Nat) : Int), .bool false, .bool false, undef, .pointer (some ⟨g15, 0, none⟩), .pointer (some ⟨g15, 0, none⟩), .int .i64 v0, .int .i64 (errU v0), .bool false, .int .i64 ((i : Nat) : Int), .slice A l.length c, .int .i64 ((l.length : Nat) : Int), .bool true, .int .i64 ((i : Nat) : Int), .int .i64 (((i : Nat) : Int) + 1), .pointer (some ⟨g15, 0, none⟩), .slice A l.length c, .int .i64 ((i : Nat) : Int), .pointer (some ⟨b35, o36 + i * 1, none⟩), .int .u8 ((l.getD i 0 : Nat) : Int), .int .u32 ((l.getD i 0 : Nat) : Int), .int .i64 0, .bool false, undef, undef, undef, undef, undef, undef, undef, undef, undef, undef, undef, undef, undef, undef, undef, undef, undef, undef, undef, undef, undef, undef, undef, undef, undef, undef, undef, undef, undef, undef, undef] zz undef), ⟨⟨by omega, by have h := O43; rw [bytesB_next (codeU v0) l i (by omega)] at h; exact h⟩, M44⟩, rfl, (by kernel_rfl)⟩
      ·
        refine st_val (.bool false) (by kernel_rfl) (bool_of (dec_f c28) (by kernel_rfl)) ?_
        refine wl_nil ?_
        refine hK32 _ _ ?_
        try clear hK32 K32
        refine wp_cond_false (by kernel_rfl) ?_
        refine wp_exit ?_
        refine th_exit ?_
        refine th_exit ?_
        refine blk_exit ?_
        refine hK26 _ _ ?_
        try clear hK26 K26
        refine wp_seq_k (fun K45 hK45 => ?_)
        have hpl := payload_length (codeU v0 ++ bytesB (l.take i))
        have hBl : (codeU v0 ++ bytesB (l.take i)).length ≤ 1000000 := by rw [List.length_append, bytesB_len, List.length_take]; have := codeU_le v0; omega
        refine wl_region ?_
        refine st_val (.pointer (some ⟨g15, 0, none⟩)) (by kernel_rfl) (by kernel_rfl) ?_
        refine st_callR (A := []) (B := (T1 ++ [])) M30 (by kernel_rfl) (run_value_call 17 #[(Operand.tmp 40)] _ rfl Try.func17 (by kernel_rfl) (by kernel_rfl) _ (by kernel_rfl)) (wPayM W29 O1 (Mem.part (A := []) (T := T1) (B := []) M30) (by rw [List.length_append, bytesB_len, List.length_take]; have := codeU_le v0; omega)) ?_
        intro v46 T47 W48 O49 M50
        have M50 : Mem NoS w W48 ((T47 ++ (T1 ++ []))) := M50
        obtain ⟨A51, cq52, rfl, hc53⟩ := O49.shape
        refine st_callR (A := []) (B := (T47 ++ (T1 ++ []))) M50 (by kernel_rfl) (run_value_call 26 #[(Operand.tmp 41)] _ rfl Try.func26 (by kernel_rfl) (by kernel_rfl) _ (by kernel_rfl)) (newReaderM W48 (.slice A51 ((payload (codeU v0 ++ bytesB (l.take i))).length) cq52) (payload (codeU v0 ++ bytesB (l.take i))) (O49.rd (fun p hp => M50.at_ p (List.mem_append_left _ hp))) (payload_lt _ O1.bin) (by rw [payload_length]; omega) (payload_ne _) (payload_last _ O1.bin)) ?_
        intro v54 T55 W56 O57 M58
        have M58 : Mem NoS w W56 ((T55 ++ (T47 ++ (T1 ++ [])))) := M58
        obtain ⟨g59, v60, TB61, rfl, rfl, F62⟩ := O57
        have M63 : Mem NoS w W56 (((rT g59 v60 (endOf (payload (codeU v0 ++ bytesB (l.take i)))) 0 TB61) ++ (T47 ++ (T1 ++ [])))) := M58
        refine st_val (.tuple #[.pointer (some ⟨g59, 0, none⟩), .int .i64 0]) (by kernel_rfl) (by kernel_rfl) ?_
        refine st_val (.pointer (some ⟨g59, 0, none⟩)) (by kernel_rfl) (by kernel_rfl) ?_
        refine st_val (.int .i64 0) (by kernel_rfl) (by kernel_rfl) ?_
        refine st_val (.pointer (some ⟨g59, 0, none⟩)) (by kernel_rfl) (by kernel_rfl) ?_
        refine st_val (.int .i64 0) (by kernel_rfl) (by kernel_rfl) ?_
        refine wl_nil ?_
        refine hK45 _ _ ?_
        try clear hK45 K45
        refine wp_seq_k (fun K64 hK64 => ?_)
        refine wp_seq_k (fun K65 hK65 => ?_)
        refine wl_region ?_
        refine st_val (.int .i64 0) (by kernel_rfl) (by kernel_rfl) ?_
        refine st_val (.bool false) (by kernel_rfl) (by kernel_rfl) ?_
        refine wl_nil ?_
        refine hK65 _ _ ?_
        try clear hK65 K65
        refine wp_frame (a' := ⟨#[.int .i64 v0, .slice A l.length c, undef, undef, (u28 4), .pointer (some ⟨g15, 0, none⟩), .int .i64 ((i : Nat) : Int), .pointer (some ⟨g59, 0, none⟩), .int .i64 0, undef, undef, .int .i64 v0, .bool true, .bool false, .bool false, .slice A l.length c, .int .i64 ((l.length : Nat) : Int), .bool false, .bool false, undef, .pointer (some ⟨g15, 0, none⟩), .pointer (some ⟨g15, 0, none⟩), .int .i64 v0, .int .i64 (errU v0), .bool false, .int .i64 ((i : Nat) : Int), .slice A l.length c, .int .i64 ((l.length : Nat) : Int), .bool false, (u28 29), (u28 30), (u28 31), (u28 32), (u28 33), (u28 34), (u28 35), (u28 36), (u28 37), (u28 38), .tuple #[.pointer (some ⟨g59, 0, none⟩), .int .i64 0], .pointer (some ⟨g15, 0, none⟩), .slice A51 ((payload (codeU v0 ++ bytesB (l.take i))).length) cq52, .tuple #[.pointer (some ⟨g59, 0, none⟩), .int .i64 0], .pointer (some ⟨g59, 0, none⟩), .int .i64 0, .int .i64 0, .bool false, undef, undef, undef, undef, undef, undef, undef, undef, undef, undef, undef, undef, undef, undef, undef, undef, undef, undef, undef, undef, undef, undef, undef], []⟩) (by kernel_rfl) ?_
        refine wp_cond_false (by kernel_rfl) ?_
        refine wp_skip ?_
        refine hK64 _ _ ?_
        try clear hK64 K64
        refine wp_seq_k (fun K66 hK66 => ?_)
        refine wl_region ?_
        refine st_val (.pointer (some ⟨g59, 0, none⟩)) (by kernel_rfl) (by kernel_rfl) ?_
        refine st_callU (A := []) (T := (rT g59 v60 (endOf (payload (codeU v0 ++ bytesB (l.take i)))) 0 TB61)) (B := (T47 ++ (T1 ++ []))) M63 (by kernel_rfl) (run_value_call 27 #[(Operand.tmp 48)] _ rfl Try.func27 (by kernel_rfl) (by kernel_rfl) _ (by kernel_rfl)) (takeU_walk W56 F62 (by omega) (Mem.part (A := []) (T := (rT g59 v60 (endOf (payload (codeU v0 ++ bytesB (l.take i)))) 0 TB61)) (B := (T47 ++ (T1 ++ []))) M63)) ?_
        intro v67 T68 W69 O70 M71
        obtain ⟨rfl, rfl⟩ := O70
        have M72 : Mem NoS w W69 (((rT g59 v60 (endOf (payload (codeU v0 ++ bytesB (l.take i)))) (0 + (tk (((unpack (payload (codeU v0 ++ bytesB (l.take i)))).take (endOf (payload (codeU v0 ++ bytesB (l.take i))))).drop 0)).2.2) TB61) ++ (T47 ++ (T1 ++ [])))) := M71
        refine st_val (.tuple #[.int .i64 ((tk (((unpack (payload (codeU v0 ++ bytesB (l.take i)))).take (endOf (payload (codeU v0 ++ bytesB (l.take i))))).drop 0)).1), .int .i64 ((tk (((unpack (payload (codeU v0 ++ bytesB (l.take i)))).take (endOf (payload (codeU v0 ++ bytesB (l.take i))))).drop 0)).2.1)]) (by kernel_rfl) (by kernel_rfl) ?_
        refine st_val (.int .i64 ((tk (((unpack (payload (codeU v0 ++ bytesB (l.take i)))).take (endOf (payload (codeU v0 ++ bytesB (l.take i))))).drop 0)).1)) (by kernel_rfl) (by kernel_rfl) ?_
        refine st_val (.int .i64 ((tk (((unpack (payload (codeU v0 ++ bytesB (l.take i)))).take (endOf (payload (codeU v0 ++ bytesB (l.take i))))).drop 0)).2.1)) (by kernel_rfl) (by kernel_rfl) ?_
        refine st_val (.int .i64 ((tk (((unpack (payload (codeU v0 ++ bytesB (l.take i)))).take (endOf (payload (codeU v0 ++ bytesB (l.take i))))).drop 0)).1)) (by kernel_rfl) (by kernel_rfl) ?_
        refine st_val (.int .i64 ((tk (((unpack (payload (codeU v0 ++ bytesB (l.take i)))).take (endOf (payload (codeU v0 ++ bytesB (l.take i))))).drop 0)).2.1)) (by kernel_rfl) (by kernel_rfl) ?_
        refine wl_nil ?_
        refine hK66 _ _ ?_
        try clear hK66 K66
        refine wp_seq_k (fun K73 hK73 => ?_)
        have hi0 : i = l.length := (by omega)
        have hend := end_payload _ O1.bin
        have htk : tk (((unpack (payload (codeU v0 ++ bytesB (l.take i)))).take (endOf (payload (codeU v0 ++ bytesB (l.take i))))).drop 0) = (v0, 0, (codeU v0).length) := by rw [hend, take_payload _ O1.bin, List.drop_zero]; exact tk_codeU hm _
        have hBl2 : (codeU v0 ++ bytesB (l.take i)).length = (codeU v0).length + 8 * l.length := by rw [List.length_append, bytesB_len, List.length_take]; omega
        refine wl_region ?_
        refine st_callB M72 (.bool true) (by kernel_rfl) (args := #[]) (run_value_call 10 #[] _ rfl Try.func10 (by kernel_rfl) (by kernel_rfl) _ (by kernel_rfl)) (awake_walk W69) ?_
        intro W74 M75
        refine st_val (.bool true) (by kernel_rfl) (by kernel_rfl) ?_
        refine st_val (.int .i64 ((tk (((unpack (payload (codeU v0 ++ bytesB (l.take i)))).take (endOf (payload (codeU v0 ++ bytesB (l.take i))))).drop 0)).2.1)) (by kernel_rfl) (by kernel_rfl) ?_
        refine st_val (.bool true) (by kernel_rfl) (bool_of (dec_t (show ((tk (((unpack (payload (codeU v0 ++ bytesB (l.take i)))).take (endOf (payload (codeU v0 ++ bytesB (l.take i))))).drop 0)).2.1 : Int) = 0 from (by rw [htk]))) (by kernel_rfl)) ?_
        refine st_val (.bool true) (by kernel_rfl) (by kernel_rfl) ?_
        refine st_val (.bool true) (by kernel_rfl) (by kernel_rfl) ?_
        refine st_val (.int .i64 ((tk (((unpack (payload (codeU v0 ++ bytesB (l.take i)))).take (endOf (payload (codeU v0 ++ bytesB (l.take i))))).drop 0)).1)) (by kernel_rfl) (by kernel_rfl) ?_
        refine st_val (.int .i64 v0) (by kernel_rfl) (by kernel_rfl) ?_
        refine st_val (.bool true) (by kernel_rfl) (bool_of (dec_t (show ((tk (((unpack (payload (codeU v0 ++ bytesB (l.take i)))).take (endOf (payload (codeU v0 ++ bytesB (l.take i))))).drop 0)).1 : Int) = v0 from (by rw [htk]))) (by kernel_rfl)) ?_
        refine st_val (.bool true) (by kernel_rfl) (by kernel_rfl) ?_
        refine st_val (.bool true) (by kernel_rfl) (by kernel_rfl) ?_
        refine st_val (.pointer (some ⟨g59, 0, none⟩)) (by kernel_rfl) (by kernel_rfl) ?_
        refine st_callB M75 (.int .i64 (((endOf (payload (codeU v0 ++ bytesB (l.take i)))) - (0 + (tk (((unpack (payload (codeU v0 ++ bytesB (l.take i)))).take (endOf (payload (codeU v0 ++ bytesB (l.take i))))).drop 0)).2.2) : Nat) : Int)) (by kernel_rfl) (args := #[.pointer (some ⟨g59, 0, none⟩)]) (run_value_call 28 #[(Operand.tmp 63)] _ rfl Try.func28 (by kernel_rfl) (by kernel_rfl) _ (by kernel_rfl)) (rLeftM W74 F62 (by rw [htk, hend]; show 0 + (codeU v0).length ≤ _; omega) (Mem.part (A := []) (T := (rT g59 v60 (endOf (payload (codeU v0 ++ bytesB (l.take i)))) (0 + (tk (((unpack (payload (codeU v0 ++ bytesB (l.take i)))).take (endOf (payload (codeU v0 ++ bytesB (l.take i))))).drop 0)).2.2) TB61)) (B := (T47 ++ (T1 ++ []))) M75)) ?_
        intro W76 M77
        refine st_val (.slice A l.length c) (by kernel_rfl) (by kernel_rfl) ?_
        refine st_val (.int .i64 ((l.length : Nat) : Int)) (by kernel_rfl) (by kernel_rfl) ?_
        refine st_val (.int .i64 (8 * ((l.length : Nat) : Int))) (by kernel_rfl) (i64_of (by omega) (by kernel_rfl)) ?_
        refine st_val (.bool true) (by kernel_rfl) (bool_of (dec_t (show ((((endOf (payload (codeU v0 ++ bytesB (l.take i)))) - (0 + (tk (((unpack (payload (codeU v0 ++ bytesB (l.take i)))).take (endOf (payload (codeU v0 ++ bytesB (l.take i))))).drop 0)).2.2) : Nat) : Int) : Int) = 8 * ((l.length : Nat) : Int) from (by rw [htk, hend]; show ((_ - (0 + (codeU v0).length) : Nat) : Int) = _; omega))) (by kernel_rfl)) ?_
        refine st_val (.bool true) (by kernel_rfl) (by kernel_rfl) ?_
        refine st_val (.bool true) (by kernel_rfl) (by kernel_rfl) ?_
        refine wl_nil ?_
        refine hK73 _ _ ?_
        try clear hK73 K73
        refine wp_frame (a' := ⟨#[.int .i64 v0, .slice A l.length c, undef, undef, .bool true, .pointer (some ⟨g15, 0, none⟩), .int .i64 ((i : Nat) : Int), .pointer (some ⟨g59, 0, none⟩), .int .i64 0, .int .i64 ((tk (((unpack (payload (codeU v0 ++ bytesB (l.take i)))).take (endOf (payload (codeU v0 ++ bytesB (l.take i))))).drop 0)).1), .int .i64 ((tk (((unpack (payload (codeU v0 ++ bytesB (l.take i)))).take (endOf (payload (codeU v0 ++ bytesB (l.take i))))).drop 0)).2.1), .int .i64 v0, .bool true, .bool false, .bool false, .slice A l.length c, .int .i64 ((l.length : Nat) : Int), .bool false, .bool false, undef, .pointer (some ⟨g15, 0, none⟩), .pointer (some ⟨g15, 0, none⟩), .int .i64 v0, .int .i64 (errU v0), .bool false, .int .i64 ((i : Nat) : Int), .slice A l.length c, .int .i64 ((l.length : Nat) : Int), .bool false, (u28 29), (u28 30), (u28 31), (u28 32), (u28 33), (u28 34), (u28 35), (u28 36), (u28 37), (u28 38), .tuple #[.pointer (some ⟨g59, 0, none⟩), .int .i64 0], .pointer (some ⟨g15, 0, none⟩), .slice A51 ((payload (codeU v0 ++ bytesB (l.take i))).length) cq52, .tuple #[.pointer (some ⟨g59, 0, none⟩), .int .i64 0], .pointer (some ⟨g59, 0, none⟩), .int .i64 0, .int .i64 0, .bool false, .tuple #[.int .i64 ((tk (((unpack (payload (codeU v0 ++ bytesB (l.take i)))).take (endOf (payload (codeU v0 ++ bytesB (l.take i))))).drop 0)).1), .int .i64 ((tk (((unpack (payload (codeU v0 ++ bytesB (l.take i)))).take (endOf (payload (codeU v0 ++ bytesB (l.take i))))).drop 0)).2.1)], .pointer (some ⟨g59, 0, none⟩), .tuple #[.int .i64 ((tk (((unpack (payload (codeU v0 ++ bytesB (l.take i)))).take (endOf (payload (codeU v0 ++ bytesB (l.take i))))).drop 0)).1), .int .i64 ((tk (((unpack (payload (codeU v0 ++ bytesB (l.take i)))).take (endOf (payload (codeU v0 ++ bytesB (l.take i))))).drop 0)).2.1)], .int .i64 ((tk (((unpack (payload (codeU v0 ++ bytesB (l.take i)))).take (endOf (payload (codeU v0 ++ bytesB (l.take i))))).drop 0)).1), .int .i64 ((tk (((unpack (payload (codeU v0 ++ bytesB (l.take i)))).take (endOf (payload (codeU v0 ++ bytesB (l.take i))))).drop 0)).2.1), .bool true, .bool true, .int .i64 ((tk (((unpack (payload (codeU v0 ++ bytesB (l.take i)))).take (endOf (payload (codeU v0 ++ bytesB (l.take i))))).drop 0)).2.1), .bool true, .bool true, .bool true, .int .i64 ((tk (((unpack (payload (codeU v0 ++ bytesB (l.take i)))).take (endOf (payload (codeU v0 ++ bytesB (l.take i))))).drop 0)).1), .int .i64 v0, .bool true, .bool true, .bool true, .pointer (some ⟨g59, 0, none⟩), .int .i64 (((endOf (payload (codeU v0 ++ bytesB (l.take i)))) - (0 + (tk (((unpack (payload (codeU v0 ++ bytesB (l.take i)))).take (endOf (payload (codeU v0 ++ bytesB (l.take i))))).drop 0)).2.2) : Nat) : Int), .slice A l.length c, .int .i64 ((l.length : Nat) : Int), .int .i64 (8 * ((l.length : Nat) : Int)), .bool true, .bool true], []⟩) (by kernel_rfl) ?_
        refine wp_ret ?_
        exact done1 4 (.bool true) (by kernel_rfl) (by kernel_rfl) (by kernel_rfl) ⟨rfl, M77.toBelow⟩
  ·
    refine st_callB M0 (.bool false) (by kernel_rfl) (args := #[.int .i64 v0]) (run_value_call 9 #[(Operand.tmp 11)] _ rfl Try.func9 (by kernel_rfl) (by kernel_rfl) _ (by kernel_rfl)) ((by have := may_ref w v0; rw [decide_eq_false hm] at this; exact this)) ?_
    intro W78 M79
    refine st_val (.bool true) (by kernel_rfl) (by kernel_rfl) ?_
    refine st_val (.bool true) (by kernel_rfl) (by kernel_rfl) ?_
    refine st_skip (by kernel_rfl) ?_
    refine st_skip (by kernel_rfl) ?_
    refine st_skip (by kernel_rfl) ?_
    refine st_val (.bool true) (by kernel_rfl) (by kernel_rfl) ?_
    refine wl_nil ?_
    refine hK3 _ _ ?_
    try clear hK3 K3
    refine wp_cond_true (by kernel_rfl) ?_
    refine wp_seq_k (fun K80 hK80 => ?_)
    refine wl_region ?_
    refine st_callB M79 (.bool true) (by kernel_rfl) (args := #[]) (run_value_call 10 #[] _ rfl Try.func10 (by kernel_rfl) (by kernel_rfl) _ (by kernel_rfl)) (awake_walk W78) ?_
    intro W81 M82
    refine st_val (.bool true) (by kernel_rfl) (by kernel_rfl) ?_
    refine wl_nil ?_
    refine hK80 _ _ ?_
    try clear hK80 K80
    refine wp_ret ?_
    refine th_ret ?_
    exact done1 4 (.bool true) (by kernel_rfl) (by kernel_rfl) (by kernel_rfl) ⟨rfl, M82.toBelow⟩
end Go.Proofs.Ytkmnnfmdjgpflaa
