/- AudioPuts. -/
import Derived.Test.YtmimljaniliecaaAr
namespace Go.Proofs.Ytmimljaniliecaa
open Go.RowKit Bt
set_option maxHeartbeats 4000000 in
set_option maxRecDepth 100000 in
theorem AudioPuts_walk (w : World) (v : Value) (ls : List (List Int)) (As : Nat → Option Addr) (cs : Nat → Nat) (hP : RdP w v ls As cs) (hsp : SP ls) : Calls Try.prog 5 #[v] w fun e w' => e = .returned (.bool true) ∧ Below w.heap.size w w' := by
  obtain ⟨A, c, rfl, hc⟩ := hP.rd.shape
  refine calls_of_wp Try.func5 rfl ?_
  refine wp_frame (a' := ⟨#[.slice A ls.length c, undef, undef, undef, undef, undef, undef, undef, undef, undef, undef, undef, undef, undef, undef, undef, undef, undef, undef, undef, undef, undef, undef, undef, undef, undef, undef, undef, undef, undef, undef, undef, undef, undef, undef, undef, undef, undef, undef, undef, undef, undef, undef, undef, undef, undef, undef, undef], []⟩) (by kernel_rfl) ?_
  have M0 : Mem NoS w w [] := Mem.start _ _
  refine wp_seq_k (fun K1 hK1 => ?_)
  refine wl_region ?_
  refine st_val (.bool false) (by kernel_rfl) (by kernel_rfl) ?_
  refine wl_nil ?_
  refine hK1 _ _ ?_
  try clear hK1 K1
  refine wp_seq_k (fun K2 hK2 => ?_)
  refine wp_seq_k (fun K3 hK3 => ?_)
  refine wl_region ?_
  refine st_val (.slice A ls.length c) (by kernel_rfl) (by kernel_rfl) ?_
  rcases Bool.eq_false_or_eq_true (litB ls 100) with hlt | hlt
  ·
    obtain ⟨hl6, hlm⟩ := of_decide_eq_true hlt
    refine st_callB M0 (.bool true) (by kernel_rfl) (args := #[.slice A ls.length c, .int .i64 100]) (run_value_call 20 #[(Operand.tmp 8), (Operand.const (Value.int IntKind.i64 100))] _ rfl Try.func20 (by kernel_rfl) (by kernel_rfl) _ (by kernel_rfl)) ((by have := light_walk w (.slice A ls.length c) ls As cs (hP.keep M0.keep (fun _ h => h)) 100; rw [hlt] at this; exact this)) ?_
    intro W4 M5
    refine st_val (.bool false) (by kernel_rfl) (by kernel_rfl) ?_
    refine wl_nil ?_
    refine hK3 _ _ ?_
    try clear hK3 K3
    refine wp_cond_false (by kernel_rfl) ?_
    refine wp_skip ?_
    refine hK2 _ _ ?_
    try clear hK2 K2
    refine wp_seq_k (fun K6 hK6 => ?_)
    refine wl_region ?_
    refine st_val (.slice A ls.length c) (by kernel_rfl) (by kernel_rfl) ?_
    refine st_callR (A := []) (B := []) M5 (by kernel_rfl) (run_value_call 21 #[(Operand.tmp 12)] _ rfl Try.func21 (by kernel_rfl) (by kernel_rfl) _ (by kernel_rfl)) (putB_walk W4 (.slice A ls.length c) ls As cs (hP.keep M5.keep (fun _ h => h)) hsp (by omega)) ?_
    intro v7 T8 W9 O10 M11
    have M11 : Mem NoS w W9 ((T8 ++ [])) := M11
    obtain ⟨v12, m13, rfl, hm14, O15⟩ := O10
    obtain ⟨A16, cq17, rfl, hc18⟩ := O15.shape
    refine st_val (.tuple #[.slice A16 m13 cq17, .int .i64 (pbE ls)]) (by kernel_rfl) (by kernel_rfl) ?_
    refine st_val (.slice A16 m13 cq17) (by kernel_rfl) (by kernel_rfl) ?_
    refine st_val (.int .i64 (pbE ls)) (by kernel_rfl) (by kernel_rfl) ?_
    refine st_val (.slice A16 m13 cq17) (by kernel_rfl) (by kernel_rfl) ?_
    refine st_val (.int .i64 (pbE ls)) (by kernel_rfl) (by kernel_rfl) ?_
    refine wl_nil ?_
    refine hK6 _ _ ?_
    try clear hK6 K6
    refine wp_seq_k (fun K19 hK19 => ?_)
    refine wl_region ?_
    refine st_val (.slice A ls.length c) (by kernel_rfl) (by kernel_rfl) ?_
    refine st_callR (A := []) (B := (T8 ++ [])) M11 (by kernel_rfl) (run_value_call 22 #[(Operand.tmp 17)] _ rfl Try.func22 (by kernel_rfl) (by kernel_rfl) _ (by kernel_rfl)) (refPutB_walk W9 (.slice A ls.length c) ls As cs (hP.keep M11.keep (fun _ h => h)) hsp (by omega)) ?_
    intro v20 T21 W22 O23 M24
    have M24 : Mem NoS w W22 ((T21 ++ (T8 ++ []))) := M24
    obtain ⟨v25, m26, rfl, hm27, O28⟩ := O23
    obtain ⟨A29, cq30, rfl, hc31⟩ := O28.shape
    refine st_val (.tuple #[.slice A29 m26 cq30, .int .i64 (pbE ls)]) (by kernel_rfl) (by kernel_rfl) ?_
    refine st_val (.slice A29 m26 cq30) (by kernel_rfl) (by kernel_rfl) ?_
    refine st_val (.int .i64 (pbE ls)) (by kernel_rfl) (by kernel_rfl) ?_
    refine st_val (.slice A29 m26 cq30) (by kernel_rfl) (by kernel_rfl) ?_
    refine st_val (.int .i64 (pbE ls)) (by kernel_rfl) (by kernel_rfl) ?_
    refine wl_nil ?_
    refine hK19 _ _ ?_
    try clear hK19 K19
    refine wp_frame (a' := ⟨#[.slice A ls.length c, undef, .bool false, .slice A16 m13 cq17, .int .i64 (pbE ls), .slice A29 m26 cq30, .int .i64 (pbE ls), undef, .slice A ls.length c, .bool true, .bool false, .tuple #[.slice A16 m13 cq17, .int .i64 (pbE ls)], .slice A ls.length c, .tuple #[.slice A16 m13 cq17, .int .i64 (pbE ls)], .slice A16 m13 cq17, .int .i64 (pbE ls), .tuple #[.slice A29 m26 cq30, .int .i64 (pbE ls)], .slice A ls.length c, .tuple #[.slice A29 m26 cq30, .int .i64 (pbE ls)], .slice A29 m26 cq30, .int .i64 (pbE ls), undef, undef, undef, undef, undef, undef, undef, undef, undef, undef, undef, undef, undef, undef, undef, undef, undef, undef, undef, undef, undef, undef, undef, undef, undef, undef, undef], []⟩) (by kernel_rfl) ?_
    refine wp_seq_k (fun K32 hK32 => ?_)
    refine wp_seq_k (fun K33 hK33 => ?_)
    refine wl_region ?_
    refine st_val (.int .i64 (pbE ls)) (by kernel_rfl) (by kernel_rfl) ?_
    refine st_val (.int .i64 (pbE ls)) (by kernel_rfl) (by kernel_rfl) ?_
    refine st_val (.bool false) (by kernel_rfl) (bool_of (neq_f (show (pbE ls : Int) = pbE ls from rfl)) (by kernel_rfl)) ?_
    refine st_val (.bool false) (by kernel_rfl) (by kernel_rfl) ?_
    refine st_val (.slice A16 m13 cq17) (by kernel_rfl) (by kernel_rfl) ?_
    refine st_val (.slice A29 m26 cq30) (by kernel_rfl) (by kernel_rfl) ?_
    refine st_callE (.bool true) (by kernel_rfl) (args := #[.slice A16 m13 cq17, .slice A29 m26 cq30]) (run_value_call 23 #[(Operand.tmp 25), (Operand.tmp 26)] _ rfl Try.func23 (by kernel_rfl) (by kernel_rfl) _ (by kernel_rfl)) ((by have := sameM W22 (.slice A16 m13 cq17) (.slice A29 m26 cq30) (pbL ls) (pbL ls) ((by rw [← hm14]; exact O15.rd (fun p hp => M24.at_ p (List.mem_append_right _ (List.mem_append_left _ hp))))) ((by rw [← hm27]; exact O28.rd (fun p hp => M24.at_ p (List.mem_append_left _ hp)))) (pbL_lt _) (pbL_lt _); rw [decide_eq_true rfl] at this; exact this)) ?_
    refine st_val (.bool false) (by kernel_rfl) (by kernel_rfl) ?_
    refine st_val (.bool false) (by kernel_rfl) (by kernel_rfl) ?_
    refine wl_nil ?_
    refine hK33 _ _ ?_
    try clear hK33 K33
    refine wp_cond_false (by kernel_rfl) ?_
    refine wp_skip ?_
    refine hK32 _ _ ?_
    try clear hK32 K32
    refine wp_seq_k (fun K34 hK34 => ?_)
    refine wp_seq_k (fun K35 hK35 => ?_)
    refine wl_region ?_
    refine st_val (.int .i64 0) (by kernel_rfl) (by kernel_rfl) ?_
    refine wl_nil ?_
    refine hK35 _ _ ?_
    try clear hK35 K35
    refine wp_block ?_
    refine wp_loop_ghost (fun gn a' w' => ∃ (i : Nat) (u36 : Nat → Value), ((i ≤ ls.length) ∧ Mem NoS w w' ((T21 ++ (T8 ++ [])))) ∧ gn = ls.length - i ∧ a' = ⟨#[.slice A ls.length c, undef, (u36 2), .slice A16 m13 cq17, .int .i64 (pbE ls), .slice A29 m26 cq30, .int .i64 (pbE ls), .int .i64 ((i : Nat) : Int), .slice A ls.length c, .bool true, .bool false, .tuple #[.slice A16 m13 cq17, .int .i64 (pbE ls)], .slice A ls.length c, .tuple #[.slice A16 m13 cq17, .int .i64 (pbE ls)], .slice A16 m13 cq17, .int .i64 (pbE ls), .tuple #[.slice A29 m26 cq30, .int .i64 (pbE ls)], .slice A ls.length c, .tuple #[.slice A29 m26 cq30, .int .i64 (pbE ls)], .slice A29 m26 cq30, .int .i64 (pbE ls), .int .i64 (pbE ls), .int .i64 (pbE ls), .bool false, .bool false, .slice A16 m13 cq17, .slice A29 m26 cq30, .bool true, .bool false, .bool false, (u36 30), (u36 31), (u36 32), (u36 33), (u36 34), (u36 35), (u36 36), (u36 37), (u36 38), (u36 39), (u36 40), (u36 41), (u36 42), (u36 43), (u36 44), (u36 45), (u36 46), undef], []⟩) _ ⟨0, (fun zz => Array.getD #[.slice A ls.length c, undef, .bool false, .slice A16 m13 cq17, .int .i64 (pbE ls), .slice A29 m26 cq30, .int .i64 (pbE ls), .int .i64 0, .slice A ls.length c, .bool true, .bool false, .tuple #[.slice A16 m13 cq17, .int .i64 (pbE ls)], .slice A ls.length c, .tuple #[.slice A16 m13 cq17, .int .i64 (pbE ls)], .slice A16 m13 cq17, .int .i64 (pbE ls), .tuple #[.slice A29 m26 cq30, .int .i64 (pbE ls)], .slice A ls.length c, .tuple #[.slice A29 m26 cq30, .int .i64 (pbE ls)], .slice A29 m26 cq30, .int .i64 (pbE ls), .int .i64 (pbE ls), .int .i64 (pbE ls), .bool false, .bool false, .slice A16 m13 cq17, .slice A29 m26 cq30, .bool true, .bool false, .bool false, undef, undef, undef, undef, undef, undef, undef, undef, undef, undef, undef, undef, undef, undef, undef, undef, undef, undef] zz undef), ⟨by omega, M24⟩, rfl, (by kernel_rfl)⟩ ?_
    rintro gn _ W37 ⟨i, u36, ⟨ri, M38⟩, rfl, rfl⟩
    refine wp_seq_k (fun K39 hK39 => ?_)
    refine wp_seq_k (fun K40 hK40 => ?_)
    refine wl_region ?_
    refine st_val (.int .i64 ((i : Nat) : Int)) (by kernel_rfl) (by kernel_rfl) ?_
    refine st_val (.slice A ls.length c) (by kernel_rfl) (by kernel_rfl) ?_
    refine st_val (.int .i64 ((ls.length : Nat) : Int)) (by kernel_rfl) (by kernel_rfl) ?_
    rcases Decidable.em ((((i : Nat) : Int) : Int) < ((ls.length : Nat) : Int)) with c33 | c33
    ·
      refine st_val (.bool true) (by kernel_rfl) (bool_of (dec_t c33) (by kernel_rfl)) ?_
      refine wl_nil ?_
      refine hK40 _ _ ?_
      try clear hK40 K40
      refine wp_cond_true (by kernel_rfl) ?_
      refine wp_skip ?_
      refine hK39 _ _ ?_
      try clear hK39 K39
      refine wp_seq_k (fun K41 hK41 => ?_)
      refine wp_block ?_
      refine wp_seq_k (fun K42 hK42 => ?_)
      have hli := hlm i (by omega)
      refine wl_seq 11 (fun w' => Mem NoS w w' ((T21 ++ (T8 ++ [])))) (by decide) (by kernel_rfl) (by kernel_rfl) M38.drew ?_
      refine seq_run (v := .slice A ls.length c) (by decide) (by kernel_rfl) (fun w' M' => (by kernel_rfl)) ?_
      refine seq_run (v := .int .i64 ((i : Nat) : Int)) (by decide) (by kernel_rfl) (fun w' M' => (by kernel_rfl)) ?_
      obtain ⟨b43, o44, eA45⟩ := RdK.addr (hP.rd.keep M38.keep (fun _ _ h => h)) (j := i * 1) (by rw [pvs_length]; omega)
      refine seq_run (v := .pointer (some ⟨b43, o44 + i * 1, none⟩)) (by decide) (by kernel_rfl) (fun w' M' => (run_indexSliceA 28 (.tmp 36) (.tmp 37) rfl A ⟨b43, o44, none⟩ eA45 ls.length c .i64 i (by kernel_rfl) (by kernel_rfl) Try.underlying28 1 (by kernel_rfl) (by omega) ⟨b43, o44 + i * 1, none⟩ (addr_atK _ _ _ _))) ?_
      refine seq_run (v := .slice (As i) ((ls.getD i []).length) (cs i)) (by decide) (by kernel_rfl) (fun w' M' => (run_load_cell 39 (.tmp 38) rfl ⟨b43, o44 + i * 1, none⟩ (by kernel_rfl) _ ((hP.rd.keep M'.keep (fun _ _ h => h)).cellF eA45 (f := 0) (pvs_get ls As cs i (by omega))) (by kernel_rfl))) ?_
      refine seq_call (v := .int .i64 ((half (expo (ls.getD i [])) : Nat) : Int)) (f := 24) (args := #[.slice (As i) ((ls.getD i []).length) (cs i)]) (by decide) (by kernel_rfl) (fun w' M' => (run_value_call 24 #[(Operand.tmp 39)] _ rfl Try.func24 (by kernel_rfl) (by kernel_rfl) _ (by kernel_rfl))) (fun w' M' => callB_mem M' (err_walk w' (As i) (cs i) (ls.getD i []) (fun h => (hP.ch i (by omega) h).keep M'.keep (fun _ _ h => h)) (hsp i (by omega)) (by omega))) ?_
      refine seq_run (v := .slice A ls.length c) (by decide) (by kernel_rfl) (fun w' M' => (by kernel_rfl)) ?_
      refine seq_run (v := .int .i64 ((i : Nat) : Int)) (by decide) (by kernel_rfl) (fun w' M' => (by kernel_rfl)) ?_
      obtain ⟨b46, o47, eA48⟩ := RdK.addr (hP.rd.keep M38.keep (fun _ _ h => h)) (j := i * 1) (by rw [pvs_length]; omega)
      refine seq_run (v := .pointer (some ⟨b46, o47 + i * 1, none⟩)) (by decide) (by kernel_rfl) (fun w' M' => (run_indexSliceA 28 (.tmp 41) (.tmp 42) rfl A ⟨b46, o47, none⟩ eA48 ls.length c .i64 i (by kernel_rfl) (by kernel_rfl) Try.underlying28 1 (by kernel_rfl) (by omega) ⟨b46, o47 + i * 1, none⟩ (addr_atK _ _ _ _))) ?_
      refine seq_run (v := .slice (As i) ((ls.getD i []).length) (cs i)) (by decide) (by kernel_rfl) (fun w' M' => (run_load_cell 39 (.tmp 43) rfl ⟨b46, o47 + i * 1, none⟩ (by kernel_rfl) _ ((hP.rd.keep M'.keep (fun _ _ h => h)).cellF eA48 (f := 0) (pvs_get ls As cs i (by omega))) (by kernel_rfl))) ?_
      refine seq_call (v := .int .i64 ((half (expo (ls.getD i [])) : Nat) : Int)) (f := 25) (args := #[.slice (As i) ((ls.getD i []).length) (cs i)]) (by decide) (by kernel_rfl) (fun w' M' => (run_value_call 25 #[(Operand.tmp 44)] _ rfl Try.func25 (by kernel_rfl) (by kernel_rfl) _ (by kernel_rfl))) (fun w' M' => callB_mem M' (refErr_walk w' (As i) (cs i) (ls.getD i []) (fun h => (hP.ch i (by omega) h).keep M'.keep (fun _ _ h => h)) (hsp i (by omega)) (by omega))) ?_
      refine seq_run (v := .bool false) (by decide) (by kernel_rfl) (fun w' M' => (bool_of (neq_f (show (((half (expo (ls.getD i [])) : Nat) : Int) : Int) = ((half (expo (ls.getD i [])) : Nat) : Int) from rfl)) (by kernel_rfl))) ?_
      refine seq_end (by decide) ?_
      intro W49 M50
      refine wl_nil ?_
      refine hK42 _ _ ?_
      try clear hK42 K42
      refine wp_frame (a' := ⟨#[.slice A ls.length c, undef, (u36 2), .slice A16 m13 cq17, .int .i64 (pbE ls), .slice A29 m26 cq30, .int .i64 (pbE ls), .int .i64 ((i : Nat) : Int), .slice A ls.length c, .bool true, .bool false, .tuple #[.slice A16 m13 cq17, .int .i64 (pbE ls)], .slice A ls.length c, .tuple #[.slice A16 m13 cq17, .int .i64 (pbE ls)], .slice A16 m13 cq17, .int .i64 (pbE ls), .tuple #[.slice A29 m26 cq30, .int .i64 (pbE ls)], .slice A ls.length c, .tuple #[.slice A29 m26 cq30, .int .i64 (pbE ls)], .slice A29 m26 cq30, .int .i64 (pbE ls), .int .i64 (pbE ls), .int .i64 (pbE ls), .bool false, .bool false, .slice A16 m13 cq17, .slice A29 m26 cq30, .bool true, .bool false, .bool false, .int .i64 ((i : Nat) : Int), .slice A ls.length c, .int .i64 ((ls.length : Nat) : Int), .bool true, (u36 34), (u36 35), .slice A ls.length c, .int .i64 ((i : Nat) : Int), .pointer (some ⟨b43, o44 + i * 1, none⟩), .slice (As i) ((ls.getD i []).length) (cs i), .int .i64 ((half (expo (ls.getD i [])) : Nat) : Int), .slice A ls.length c, .int .i64 ((i : Nat) : Int), .pointer (some ⟨b46, o47 + i * 1, none⟩), .slice (As i) ((ls.getD i []).length) (cs i), .int .i64 ((half (expo (ls.getD i [])) : Nat) : Int), .bool false, undef], []⟩) (by kernel_rfl) ?_
      refine wp_cond_false (by kernel_rfl) ?_
      refine wp_skip ?_
      refine blk_normal ?_
      refine hK41 _ _ ?_
      try clear hK41 K41
      refine wl_region ?_
      refine st_val (.int .i64 ((i : Nat) : Int)) (by kernel_rfl) (by kernel_rfl) ?_
      refine st_val (.int .i64 (((i : Nat) : Int) + 1)) (by kernel_rfl) (i64_of (by omega) (by kernel_rfl)) ?_
      refine st_val (.int .i64 (((i : Nat) : Int) + 1)) (by kernel_rfl) (by kernel_rfl) ?_
      refine wl_nil ?_
      refine th_normal ?_
      exact ⟨_, by omega, (i + 1), (fun zz => Array.getD #[.slice A ls.length c, undef, (u36 2), .slice A16 m13 cq17, .int .i64 (pbE ls), .slice A29 m26 cq30, .int .i64 (pbE ls), .int .i64 (((i : Nat) : Int) + 1), .slice A ls.length c, .bool true, .bool false, .tuple #[.slice A16 m13 cq17, .int .i64 (pbE ls)], .slice A ls.length c, .tuple #[.slice A16 m13 cq17, .int .i64 (pbE ls)], .slice A16 m13 cq17, .int .i64 (pbE ls), .tuple #[.slice A29 m26 cq30, .int .i64 (pbE ls)], .slice A ls.length c, .tuple #[.slice A29 m26 cq30, .int .i64 (pbE ls)], .slice A29 m26 cq30, .int .i64 (pbE ls), .int .i64 (pbE ls), .int .i64 (pbE ls), .bool false, .bool false, .slice A16 m13 cq17, .slice A29 m26 cq30, .bool true, .bool false, .bool false, .int .i64 ((i : Nat) : Int), .slice A ls.length c, .int .i64 ((ls.length : Nat) : Int), .bool true, .int .i64 ((i : Nat) : Int), .int .i64 (((i : Nat) : Int) + 1), .slice A ls.length c, .int .i64 ((i : Nat) : Int), .pointer (some ⟨b43, o44 + i * 1, none⟩), .slice (As i) ((ls.getD i []).length) (cs i), .int .i64 ((half (expo (ls.getD i [])) : Nat) : Int), .slice A ls.length c, .int .i64 ((i : Nat) : Int), .pointer (some ⟨b46, o47 + i * 1, none⟩), .slice (As i) ((ls.getD i []).length) (cs i), .int .i64 ((half (expo (ls.getD i [])) : Nat) : Int), .bool false, undef] zz undef), ⟨by omega, M50⟩, rfl, (by kernel_rfl)⟩
    ·
      refine st_val (.bool false) (by kernel_rfl) (bool_of (dec_f c33) (by kernel_rfl)) ?_
      refine wl_nil ?_
      refine hK40 _ _ ?_
      try clear hK40 K40
      refine wp_cond_false (by kernel_rfl) ?_
      refine wp_exit ?_
      refine th_exit ?_
      refine th_exit ?_
      refine blk_exit ?_
      refine hK34 _ _ ?_
      try clear hK34 K34
      refine wp_seq_k (fun K51 hK51 => ?_)
      refine wl_region ?_
      refine st_callB M38 (.bool true) (by kernel_rfl) (args := #[]) (run_value_call 12 #[] _ rfl Try.func12 (by kernel_rfl) (by kernel_rfl) _ (by kernel_rfl)) (awake_walk W37) ?_
      intro W52 M53
      refine st_val (.bool true) (by kernel_rfl) (by kernel_rfl) ?_
      refine wl_nil ?_
      refine hK51 _ _ ?_
      try clear hK51 K51
      refine wp_ret ?_
      exact done1 2 (.bool true) (by kernel_rfl) (by kernel_rfl) (by kernel_rfl) ⟨rfl, M53.toBelow⟩
  ·
    refine st_callB M0 (.bool false) (by kernel_rfl) (args := #[.slice A ls.length c, .int .i64 100]) (run_value_call 20 #[(Operand.tmp 8), (Operand.const (Value.int IntKind.i64 100))] _ rfl Try.func20 (by kernel_rfl) (by kernel_rfl) _ (by kernel_rfl)) ((by have := light_walk w (.slice A ls.length c) ls As cs (hP.keep M0.keep (fun _ h => h)) 100; rw [hlt] at this; exact this)) ?_
    intro W54 M55
    refine st_val (.bool true) (by kernel_rfl) (by kernel_rfl) ?_
    refine wl_nil ?_
    refine hK3 _ _ ?_
    try clear hK3 K3
    refine wp_cond_true (by kernel_rfl) ?_
    refine wp_seq_k (fun K56 hK56 => ?_)
    refine wl_region ?_
    refine st_val (.bool true) (by kernel_rfl) (by kernel_rfl) ?_
    refine wl_nil ?_
    refine hK56 _ _ ?_
    try clear hK56 K56
    refine wp_ret ?_
    refine th_ret ?_
    exact done1 2 (.bool true) (by kernel_rfl) (by kernel_rfl) (by kernel_rfl) ⟨rfl, M55.toBelow⟩
end Go.Proofs.Ytmimljaniliecaa
