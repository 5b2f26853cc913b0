/- Are two sounds equal? -/
import Derived.Test.YtmimljaniliecaaPo
namespace Go.Proofs.Ytmimljaniliecaa
open Go.RowKit Bt
set_option maxHeartbeats 4000000 in
set_option maxRecDepth 100000 in
theorem samePcm_walk (w : World) (v v' : Value) (ls : List (List Int)) (As : Nat → Option Addr) (cs : Nat → Nat) (ms : List (List Int)) (Bs : Nat → Option Addr) (ds : Nat → Nat) (hP : RdP w v ls As cs) (hQ : RdP w v' ms Bs ds) (hB : Bd ls) : Calls Try.prog 19 #[v, v'] w fun e w' => e = .returned (.bool (decide (ls = ms))) ∧ Below w.heap.size w w' := by
  obtain ⟨A, c, rfl, hc⟩ := hP.rd.shape
  obtain ⟨B, d, rfl, hd⟩ := hQ.rd.shape
  refine calls_of_wp Try.func19 rfl ?_
  refine wp_frame (a' := ⟨#[.slice A ls.length c, .slice B ms.length d, undef, undef, undef, undef, undef, undef, undef, undef, undef, undef, undef, undef, undef, undef, undef, undef, undef, undef, undef, undef, undef, undef, undef, undef, undef, undef, undef, undef, undef, undef, undef, undef, undef, undef, undef, undef, undef, undef, undef, undef, undef, undef, undef, undef, undef, undef, undef, undef, undef, undef, undef], []⟩) (by kernel_rfl) ?_
  have M0 : Mem NoS w w [] := Mem.start _ _
  refine wp_seq_k (fun K1 hK1 => ?_)
  refine wl_region ?_
  refine st_val (.bool false) (by kernel_rfl) (by kernel_rfl) ?_
  refine wl_nil ?_
  refine hK1 _ _ ?_
  try clear hK1 K1
  refine wp_seq_k (fun K2 hK2 => ?_)
  refine wp_seq_k (fun K3 hK3 => ?_)
  refine wl_region ?_
  refine st_val (.slice A ls.length c) (by kernel_rfl) (by kernel_rfl) ?_
  refine st_val (.int .i64 ((ls.length : Nat) : Int)) (by kernel_rfl) (by kernel_rfl) ?_
  refine st_val (.slice B ms.length d) (by kernel_rfl) (by kernel_rfl) ?_
  refine st_val (.int .i64 ((ms.length : Nat) : Int)) (by kernel_rfl) (by kernel_rfl) ?_
  rcases Decidable.em ((((ls.length : Nat) : Int) : Int) = ((ms.length : Nat) : Int)) with c11 | c11
  ·
    refine st_val (.bool false) (by kernel_rfl) (bool_of (neq_f c11) (by kernel_rfl)) ?_
    refine wl_nil ?_
    refine hK3 _ _ ?_
    try clear hK3 K3
    refine wp_cond_false (by kernel_rfl) ?_
    refine wp_skip ?_
    refine hK2 _ _ ?_
    try clear hK2 K2
    refine wp_seq_k (fun K4 hK4 => ?_)
    refine wp_seq_k (fun K5 hK5 => ?_)
    have hbl := hB.1
    refine wl_region ?_
    refine st_val (.int .i64 0) (by kernel_rfl) (by kernel_rfl) ?_
    refine wl_nil ?_
    refine hK5 _ _ ?_
    try clear hK5 K5
    refine wp_block ?_
    refine wp_loop_ghost (fun gn a' w' => ∃ (i : Nat) (u6 : Nat → Value), ((i ≤ ls.length ∧ ∀ j, j < i → ls.getD j [] = ms.getD j []) ∧ Mem NoS w w' []) ∧ gn = ls.length - i ∧ a' = ⟨#[.slice A ls.length c, .slice B ms.length d, undef, undef, (u6 4), .int .i64 ((i : Nat) : Int), (u6 6), .slice A ls.length c, .int .i64 ((ls.length : Nat) : Int), .slice B ms.length d, .int .i64 ((ms.length : Nat) : Int), .bool false, (u6 12), (u6 13), (u6 14), (u6 15), (u6 16), (u6 17), (u6 18), (u6 19), (u6 20), (u6 21), (u6 22), (u6 23), (u6 24), (u6 25), (u6 26), (u6 27), (u6 28), (u6 29), (u6 30), (u6 31), (u6 32), (u6 33), (u6 34), (u6 35), (u6 36), (u6 37), (u6 38), (u6 39), (u6 40), (u6 41), (u6 42), (u6 43), (u6 44), (u6 45), (u6 46), (u6 47), (u6 48), (u6 49), (u6 50), (u6 51), (u6 52)], []⟩) _ ⟨0, (fun zz => Array.getD #[undef, undef, undef, undef, .bool false, undef, undef, undef, undef, undef, undef, undef, undef, undef, undef, undef, undef, undef, undef, undef, undef, undef, undef, undef, undef, undef, undef, undef, undef, undef, undef, undef, undef, undef, undef, undef, undef, undef, undef, undef, undef, undef, undef, undef, undef, undef, undef, undef, undef, undef, undef, undef, undef] zz undef), ⟨⟨by omega, fun j hj => by omega⟩, M0⟩, rfl, (by kernel_rfl)⟩ ?_
    rintro gn _ W7 ⟨i, u6, ⟨⟨ri, hj⟩, M8⟩, rfl, rfl⟩
    refine wp_seq_k (fun K9 hK9 => ?_)
    refine wp_seq_k (fun K10 hK10 => ?_)
    refine wl_region ?_
    refine st_val (.int .i64 ((i : Nat) : Int)) (by kernel_rfl) (by kernel_rfl) ?_
    refine st_val (.slice A ls.length c) (by kernel_rfl) (by kernel_rfl) ?_
    refine st_val (.int .i64 ((ls.length : Nat) : Int)) (by kernel_rfl) (by kernel_rfl) ?_
    rcases Decidable.em ((((i : Nat) : Int) : Int) < ((ls.length : Nat) : Int)) with c15 | c15
    ·
      refine st_val (.bool true) (by kernel_rfl) (bool_of (dec_t c15) (by kernel_rfl)) ?_
      refine wl_nil ?_
      refine hK10 _ _ ?_
      try clear hK10 K10
      refine wp_cond_true (by kernel_rfl) ?_
      refine wp_skip ?_
      refine hK9 _ _ ?_
      try clear hK9 K9
      refine wp_seq_k (fun K11 hK11 => ?_)
      refine wp_block ?_
      refine wp_seq_k (fun K12 hK12 => ?_)
      refine wp_seq_k (fun K13 hK13 => ?_)
      refine wl_seq 11 (fun w' => Mem NoS w w' []) (by decide) (by kernel_rfl) (by kernel_rfl) M8.drew ?_
      refine seq_run (v := .slice A ls.length c) (by decide) (by kernel_rfl) (fun w' M' => (by kernel_rfl)) ?_
      refine seq_run (v := .int .i64 ((i : Nat) : Int)) (by decide) (by kernel_rfl) (fun w' M' => (by kernel_rfl)) ?_
      obtain ⟨b14, o15, eA16⟩ := RdK.addr (hP.rd.keep M8.keep (fun _ _ h => h)) (j := i * 1) (by rw [pvs_length]; omega)
      refine seq_run (v := .pointer (some ⟨b14, o15 + i * 1, none⟩)) (by decide) (by kernel_rfl) (fun w' M' => (run_indexSliceA 28 (.tmp 18) (.tmp 19) rfl A ⟨b14, o15, none⟩ eA16 ls.length c .i64 i (by kernel_rfl) (by kernel_rfl) Try.underlying28 1 (by kernel_rfl) (by omega) ⟨b14, o15 + i * 1, none⟩ (addr_atK _ _ _ _))) ?_
      refine seq_run (v := .slice (As i) ((ls.getD i []).length) (cs i)) (by decide) (by kernel_rfl) (fun w' M' => (run_load_cell 39 (.tmp 20) rfl ⟨b14, o15 + i * 1, none⟩ (by kernel_rfl) _ ((hP.rd.keep M'.keep (fun _ _ h => h)).cellF eA16 (f := 0) (pvs_get ls As cs i (by omega))) (by kernel_rfl))) ?_
      refine seq_run (v := .int .i64 (((ls.getD i []).length : Nat) : Int)) (by decide) (by kernel_rfl) (fun w' M' => (by kernel_rfl)) ?_
      refine seq_run (v := .slice B ms.length d) (by decide) (by kernel_rfl) (fun w' M' => (by kernel_rfl)) ?_
      refine seq_run (v := .int .i64 ((i : Nat) : Int)) (by decide) (by kernel_rfl) (fun w' M' => (by kernel_rfl)) ?_
      obtain ⟨b17, o18, eA19⟩ := RdK.addr (hQ.rd.keep M8.keep (fun _ _ h => h)) (j := i * 1) (by rw [pvs_length]; omega)
      refine seq_run (v := .pointer (some ⟨b17, o18 + i * 1, none⟩)) (by decide) (by kernel_rfl) (fun w' M' => (run_indexSliceA 28 (.tmp 23) (.tmp 24) rfl B ⟨b17, o18, none⟩ eA19 ms.length d .i64 i (by kernel_rfl) (by kernel_rfl) Try.underlying28 1 (by kernel_rfl) (by omega) ⟨b17, o18 + i * 1, none⟩ (addr_atK _ _ _ _))) ?_
      refine seq_run (v := .slice (Bs i) ((ms.getD i []).length) (ds i)) (by decide) (by kernel_rfl) (fun w' M' => (run_load_cell 39 (.tmp 25) rfl ⟨b17, o18 + i * 1, none⟩ (by kernel_rfl) _ ((hQ.rd.keep M'.keep (fun _ _ h => h)).cellF eA19 (f := 0) (pvs_get ms Bs ds i (by omega))) (by kernel_rfl))) ?_
      refine seq_run (v := .int .i64 (((ms.getD i []).length : Nat) : Int)) (by decide) (by kernel_rfl) (fun w' M' => (by kernel_rfl)) ?_
      rcases Decidable.em (((((ls.getD i []).length : Nat) : Int) : Int) = (((ms.getD i []).length : Nat) : Int)) with c28 | c28
      ·
        refine seq_run (v := .bool false) (by decide) (by kernel_rfl) (fun w' M' => (bool_of (neq_f c28) (by kernel_rfl))) ?_
        refine seq_end (by decide) ?_
        intro W20 M21
        refine wl_nil ?_
        refine hK13 _ _ ?_
        try clear hK13 K13
        refine wp_frame (a' := ⟨#[.slice A ls.length c, .slice B ms.length d, undef, undef, (u6 4), .int .i64 ((i : Nat) : Int), (u6 6), .slice A ls.length c, .int .i64 ((ls.length : Nat) : Int), .slice B ms.length d, .int .i64 ((ms.length : Nat) : Int), .bool false, .int .i64 ((i : Nat) : Int), .slice A ls.length c, .int .i64 ((ls.length : Nat) : Int), .bool true, (u6 16), (u6 17), .slice A ls.length c, .int .i64 ((i : Nat) : Int), .pointer (some ⟨b14, o15 + i * 1, none⟩), .slice (As i) ((ls.getD i []).length) (cs i), .int .i64 (((ls.getD i []).length : Nat) : Int), .slice B ms.length d, .int .i64 ((i : Nat) : Int), .pointer (some ⟨b17, o18 + i * 1, none⟩), .slice (Bs i) ((ms.getD i []).length) (ds i), .int .i64 (((ms.getD i []).length : Nat) : Int), .bool false, (u6 29), (u6 30), (u6 31), (u6 32), (u6 33), (u6 34), (u6 35), (u6 36), (u6 37), (u6 38), (u6 39), (u6 40), (u6 41), (u6 42), (u6 43), (u6 44), (u6 45), (u6 46), (u6 47), (u6 48), (u6 49), (u6 50), (u6 51), (u6 52)], []⟩) (by kernel_rfl) ?_
        refine wp_cond_false (by kernel_rfl) ?_
        refine wp_skip ?_
        refine hK12 _ _ ?_
        try clear hK12 K12
        refine wp_seq_k (fun K22 hK22 => ?_)
        have hbi := hB.2 i
        refine wl_region ?_
        refine st_val (.int .i64 0) (by kernel_rfl) (by kernel_rfl) ?_
        refine wl_nil ?_
        refine hK22 _ _ ?_
        try clear hK22 K22
        refine wp_block ?_
        refine wp_loop_ghost (fun gn a' w' => ∃ (k : Nat) (u23 : Nat → Value), ((k ≤ (ls.getD i []).length ∧ ∀ j, j < k → (ls.getD i []).getD j 0 = (ms.getD i []).getD j 0) ∧ Mem NoS w w' []) ∧ gn = (ls.getD i []).length - k ∧ a' = ⟨#[.slice A ls.length c, .slice B ms.length d, undef, undef, (u23 4), .int .i64 ((i : Nat) : Int), .int .i64 ((k : Nat) : Int), .slice A ls.length c, .int .i64 ((ls.length : Nat) : Int), .slice B ms.length d, .int .i64 ((ms.length : Nat) : Int), .bool false, .int .i64 ((i : Nat) : Int), .slice A ls.length c, .int .i64 ((ls.length : Nat) : Int), .bool true, (u6 16), (u6 17), .slice A ls.length c, .int .i64 ((i : Nat) : Int), .pointer (some ⟨b14, o15 + i * 1, none⟩), .slice (As i) ((ls.getD i []).length) (cs i), .int .i64 (((ls.getD i []).length : Nat) : Int), .slice B ms.length d, .int .i64 ((i : Nat) : Int), .pointer (some ⟨b17, o18 + i * 1, none⟩), .slice (Bs i) ((ms.getD i []).length) (ds i), .int .i64 (((ms.getD i []).length : Nat) : Int), .bool false, (u23 29), (u23 30), (u23 31), (u23 32), (u23 33), (u23 34), (u23 35), (u23 36), (u23 37), (u23 38), (u23 39), (u23 40), (u23 41), (u23 42), (u23 43), (u23 44), (u23 45), (u23 46), (u23 47), (u23 48), (u23 49), (u23 50), (u23 51), (u23 52)], []⟩) _ ⟨0, (fun zz => Array.getD #[undef, undef, undef, undef, (u6 4), undef, undef, undef, undef, undef, undef, undef, undef, undef, undef, undef, undef, undef, undef, undef, undef, undef, undef, undef, undef, undef, undef, undef, undef, (u6 29), (u6 30), (u6 31), (u6 32), (u6 33), (u6 34), (u6 35), (u6 36), (u6 37), (u6 38), (u6 39), (u6 40), (u6 41), (u6 42), (u6 43), (u6 44), (u6 45), (u6 46), (u6 47), (u6 48), (u6 49), (u6 50), (u6 51), (u6 52)] zz undef), ⟨⟨by omega, fun j hj => by omega⟩, M21⟩, rfl, (by kernel_rfl)⟩ ?_
        rintro gn _ W24 ⟨k, u23, ⟨⟨rk, hk⟩, M25⟩, rfl, rfl⟩
        refine wp_seq_k (fun K26 hK26 => ?_)
        refine wp_seq_k (fun K27 hK27 => ?_)
        refine wl_region ?_
        refine st_val (.int .i64 ((k : Nat) : Int)) (by kernel_rfl) (by kernel_rfl) ?_
        refine st_val (.slice A ls.length c) (by kernel_rfl) (by kernel_rfl) ?_
        refine st_val (.int .i64 ((i : Nat) : Int)) (by kernel_rfl) (by kernel_rfl) ?_
        obtain ⟨b28, o29, eA30⟩ := RdK.addr (hP.rd.keep M25.keep (fun _ _ h => h)) (j := i * 1) (by rw [pvs_length]; omega)
        refine st_val (.pointer (some ⟨b28, o29 + i * 1, none⟩)) (by kernel_rfl) (run_indexSliceA 28 (.tmp 30) (.tmp 31) rfl A ⟨b28, o29, none⟩ eA30 ls.length c .i64 i (by kernel_rfl) (by kernel_rfl) Try.underlying28 1 (by kernel_rfl) (by omega) ⟨b28, o29 + i * 1, none⟩ (addr_atK _ _ _ _)) ?_
        refine st_val (.slice (As i) ((ls.getD i []).length) (cs i)) (by kernel_rfl) (run_load_cell 39 (.tmp 32) rfl ⟨b28, o29 + i * 1, none⟩ (by kernel_rfl) _ ((hP.rd.keep M25.keep (fun _ _ h => h)).cellF eA30 (f := 0) (pvs_get ls As cs i (by omega))) (by kernel_rfl)) ?_
        refine st_val (.int .i64 (((ls.getD i []).length : Nat) : Int)) (by kernel_rfl) (by kernel_rfl) ?_
        rcases Decidable.em ((((k : Nat) : Int) : Int) < (((ls.getD i []).length : Nat) : Int)) with c35 | c35
        ·
          refine st_val (.bool true) (by kernel_rfl) (bool_of (dec_t c35) (by kernel_rfl)) ?_
          refine wl_nil ?_
          refine hK27 _ _ ?_
          try clear hK27 K27
          refine wp_cond_true (by kernel_rfl) ?_
          refine wp_skip ?_
          refine hK26 _ _ ?_
          try clear hK26 K26
          refine wp_seq_k (fun K31 hK31 => ?_)
          refine wp_block ?_
          refine wp_seq_k (fun K32 hK32 => ?_)
          refine wl_seq 15 (fun w' => Mem NoS w w' []) (by decide) (by kernel_rfl) (by kernel_rfl) M25.drew ?_
          refine seq_run (v := .slice A ls.length c) (by decide) (by kernel_rfl) (fun w' M' => (by kernel_rfl)) ?_
          refine seq_run (v := .int .i64 ((i : Nat) : Int)) (by decide) (by kernel_rfl) (fun w' M' => (by kernel_rfl)) ?_
          obtain ⟨b33, o34, eA35⟩ := RdK.addr (hP.rd.keep M25.keep (fun _ _ h => h)) (j := i * 1) (by rw [pvs_length]; omega)
          refine seq_run (v := .pointer (some ⟨b33, o34 + i * 1, none⟩)) (by decide) (by kernel_rfl) (fun w' M' => (run_indexSliceA 28 (.tmp 38) (.tmp 39) rfl A ⟨b33, o34, none⟩ eA35 ls.length c .i64 i (by kernel_rfl) (by kernel_rfl) Try.underlying28 1 (by kernel_rfl) (by omega) ⟨b33, o34 + i * 1, none⟩ (addr_atK _ _ _ _))) ?_
          refine seq_run (v := .slice (As i) ((ls.getD i []).length) (cs i)) (by decide) (by kernel_rfl) (fun w' M' => (run_load_cell 39 (.tmp 40) rfl ⟨b33, o34 + i * 1, none⟩ (by kernel_rfl) _ ((hP.rd.keep M'.keep (fun _ _ h => h)).cellF eA35 (f := 0) (pvs_get ls As cs i (by omega))) (by kernel_rfl))) ?_
          refine seq_run (v := .int .i64 ((k : Nat) : Int)) (by decide) (by kernel_rfl) (fun w' M' => (by kernel_rfl)) ?_
          obtain ⟨b36, o37, eA38⟩ := RdK.addr ((hP.ch i (by omega) (by omega)).keep M25.keep (fun _ _ h => h)) (j := k * 1) (by rw [i16s_length]; omega)
          refine seq_run (v := .pointer (some ⟨b36, o37 + k * 1, none⟩)) (by decide) (by kernel_rfl) (fun w' M' => (run_indexSliceA 39 (.tmp 41) (.tmp 42) rfl (As i) ⟨b36, o37, none⟩ eA38 ((ls.getD i []).length) (cs i) .i64 k (by kernel_rfl) (by kernel_rfl) Try.underlying39 1 (by kernel_rfl) (by omega) ⟨b36, o37 + k * 1, none⟩ (addr_atK _ _ _ _))) ?_
          refine seq_run (v := .int .i16 ((ls.getD i []).getD k 0)) (by decide) (by kernel_rfl) (fun w' M' => (run_load_cell 45 (.tmp 43) rfl ⟨b36, o37 + k * 1, none⟩ (by kernel_rfl) _ (((hP.ch i (by omega) (by omega)).keep M'.keep (fun _ _ h => h)).cellF eA38 (f := 0) (i16s_get (ls.getD i []) k (by omega))) (by kernel_rfl))) ?_
          refine seq_run (v := .slice B ms.length d) (by decide) (by kernel_rfl) (fun w' M' => (by kernel_rfl)) ?_
          refine seq_run (v := .int .i64 ((i : Nat) : Int)) (by decide) (by kernel_rfl) (fun w' M' => (by kernel_rfl)) ?_
          obtain ⟨b39, o40, eA41⟩ := RdK.addr (hQ.rd.keep M25.keep (fun _ _ h => h)) (j := i * 1) (by rw [pvs_length]; omega)
          refine seq_run (v := .pointer (some ⟨b39, o40 + i * 1, none⟩)) (by decide) (by kernel_rfl) (fun w' M' => (run_indexSliceA 28 (.tmp 45) (.tmp 46) rfl B ⟨b39, o40, none⟩ eA41 ms.length d .i64 i (by kernel_rfl) (by kernel_rfl) Try.underlying28 1 (by kernel_rfl) (by omega) ⟨b39, o40 + i * 1, none⟩ (addr_atK _ _ _ _))) ?_
          refine seq_run (v := .slice (Bs i) ((ms.getD i []).length) (ds i)) (by decide) (by kernel_rfl) (fun w' M' => (run_load_cell 39 (.tmp 47) rfl ⟨b39, o40 + i * 1, none⟩ (by kernel_rfl) _ ((hQ.rd.keep M'.keep (fun _ _ h => h)).cellF eA41 (f := 0) (pvs_get ms Bs ds i (by omega))) (by kernel_rfl))) ?_
          refine seq_run (v := .int .i64 ((k : Nat) : Int)) (by decide) (by kernel_rfl) (fun w' M' => (by kernel_rfl)) ?_
          obtain ⟨b42, o43, eA44⟩ := RdK.addr ((hQ.ch i (by omega) (by omega)).keep M25.keep (fun _ _ h => h)) (j := k * 1) (by rw [i16s_length]; omega)
          refine seq_run (v := .pointer (some ⟨b42, o43 + k * 1, none⟩)) (by decide) (by kernel_rfl) (fun w' M' => (run_indexSliceA 39 (.tmp 48) (.tmp 49) rfl (Bs i) ⟨b42, o43, none⟩ eA44 ((ms.getD i []).length) (ds i) .i64 k (by kernel_rfl) (by kernel_rfl) Try.underlying39 1 (by kernel_rfl) (by omega) ⟨b42, o43 + k * 1, none⟩ (addr_atK _ _ _ _))) ?_
          refine seq_run (v := .int .i16 ((ms.getD i []).getD k 0)) (by decide) (by kernel_rfl) (fun w' M' => (run_load_cell 45 (.tmp 50) rfl ⟨b42, o43 + k * 1, none⟩ (by kernel_rfl) _ (((hQ.ch i (by omega) (by omega)).keep M'.keep (fun _ _ h => h)).cellF eA44 (f := 0) (i16s_get (ms.getD i []) k (by omega))) (by kernel_rfl))) ?_
          rcases Decidable.em (((ls.getD i []).getD k 0 : Int) = (ms.getD i []).getD k 0) with c52 | c52
          ·
            refine seq_run (v := .bool false) (by decide) (by kernel_rfl) (fun w' M' => (bool_of (neq_f c52) (by kernel_rfl))) ?_
            refine seq_end (by decide) ?_
            intro W45 M46
            refine wl_nil ?_
            refine hK32 _ _ ?_
            try clear hK32 K32
            refine wp_frame (a' := ⟨#[.slice A ls.length c, .slice B ms.length d, undef, undef, (u23 4), .int .i64 ((i : Nat) : Int), .int .i64 ((k : Nat) : Int), .slice A ls.length c, .int .i64 ((ls.length : Nat) : Int), .slice B ms.length d, .int .i64 ((ms.length : Nat) : Int), .bool false, .int .i64 ((i : Nat) : Int), .slice A ls.length c, .int .i64 ((ls.length : Nat) : Int), .bool true, (u6 16), (u6 17), .slice A ls.length c, .int .i64 ((i : Nat) : Int), .pointer (some ⟨b14, o15 + i * 1, none⟩), .slice (As i) ((ls.getD i []).length) (cs i), .int .i64 (((ls.getD i []).length : Nat) : Int), .slice B ms.length d, .int .i64 ((i : Nat) : Int), .pointer (some ⟨b17, o18 + i * 1, none⟩), .slice (Bs i) ((ms.getD i []).length) (ds i), .int .i64 (((ms.getD i []).length : Nat) : Int), .bool false, .int .i64 ((k : Nat) : Int), .slice A ls.length c, .int .i64 ((i : Nat) : Int), .pointer (some ⟨b28, o29 + i * 1, none⟩), .slice (As i) ((ls.getD i []).length) (cs i), .int .i64 (((ls.getD i []).length : Nat) : Int), .bool true, (u23 36), (u23 37), .slice A ls.length c, .int .i64 ((i : Nat) : Int), .pointer (some ⟨b33, o34 + i * 1, none⟩), .slice (As i) ((ls.getD i []).length) (cs i), .int .i64 ((k : Nat) : Int), .pointer (some ⟨b36, o37 + k * 1, none⟩), .int .i16 ((ls.getD i []).getD k 0), .slice B ms.length d, .int .i64 ((i : Nat) : Int), .pointer (some ⟨b39, o40 + i * 1, none⟩), .slice (Bs i) ((ms.getD i []).length) (ds i), .int .i64 ((k : Nat) : Int), .pointer (some ⟨b42, o43 + k * 1, none⟩), .int .i16 ((ms.getD i []).getD k 0), .bool false], []⟩) (by kernel_rfl) ?_
            refine wp_cond_false (by kernel_rfl) ?_
            refine wp_skip ?_
            refine blk_normal ?_
            refine hK31 _ _ ?_
            try clear hK31 K31
            refine wl_region ?_
            refine st_val (.int .i64 ((k : Nat) : Int)) (by kernel_rfl) (by kernel_rfl) ?_
            refine st_val (.int .i64 (((k : Nat) : Int) + 1)) (by kernel_rfl) (i64_of (by omega) (by kernel_rfl)) ?_
            refine st_val (.int .i64 (((k : Nat) : Int) + 1)) (by kernel_rfl) (by kernel_rfl) ?_
            refine wl_nil ?_
            refine th_normal ?_
            exact ⟨_, by omega, (k + 1), (fun zz => Array.getD #[undef, undef, undef, undef, (u23 4), undef, undef, undef, undef, undef, undef, undef, undef, undef, undef, undef, undef, undef, undef, undef, undef, undef, undef, undef, undef, undef, undef, undef, undef, .int .i64 ((k : Nat) : Int), .slice A ls.length c, .int .i64 ((i : Nat) : Int), .pointer (some ⟨b28, o29 + i * 1, none⟩), .slice (As i) ((ls.getD i []).length) (cs i), .int .i64 (((ls.getD i []).length : Nat) : Int), .bool true, .int .i64 ((k : Nat) : Int), .int .i64 (((k : Nat) : Int) + 1), .slice A ls.length c, .int .i64 ((i : Nat) : Int), .pointer (some ⟨b33, o34 + i * 1, none⟩), .slice (As i) ((ls.getD i []).length) (cs i), .int .i64 ((k : Nat) : Int), .pointer (some ⟨b36, o37 + k * 1, none⟩), .int .i16 ((ls.getD i []).getD k 0), .slice B ms.length d, .int .i64 ((i : Nat) : Int), .pointer (some ⟨b39, o40 + i * 1, none⟩), .slice (Bs i) ((ms.getD i []).length) (ds i), .int .i64 ((k : Nat) : Int), .pointer (some ⟨b42, o43 + k * 1, none⟩), .int .i16 ((ms.getD i []).getD k 0), .bool false] zz undef), ⟨⟨by omega, fun j h => by by_cases e : j = k; rw [e]; omega; exact hk j (by omega)⟩, M46⟩, rfl, (by kernel_rfl)⟩
          ·
            refine seq_run (v := .bool true) (by decide) (by kernel_rfl) (fun w' M' => (bool_of (neq_t c52) (by kernel_rfl))) ?_
            refine seq_end (by decide) ?_
            intro W47 M48
            refine wl_nil ?_
            refine hK32 _ _ ?_
            try clear hK32 K32
            refine wp_frame (a' := ⟨#[.slice A ls.length c, .slice B ms.length d, undef, undef, (u23 4), .int .i64 ((i : Nat) : Int), .int .i64 ((k : Nat) : Int), .slice A ls.length c, .int .i64 ((ls.length : Nat) : Int), .slice B ms.length d, .int .i64 ((ms.length : Nat) : Int), .bool false, .int .i64 ((i : Nat) : Int), .slice A ls.length c, .int .i64 ((ls.length : Nat) : Int), .bool true, (u6 16), (u6 17), .slice A ls.length c, .int .i64 ((i : Nat) : Int), .pointer (some ⟨b14, o15 + i * 1, none⟩), .slice (As i) ((ls.getD i []).length) (cs i), .int .i64 (((ls.getD i []).length : Nat) : Int), .slice B ms.length d, .int .i64 ((i : Nat) : Int), .pointer (some ⟨b17, o18 + i * 1, none⟩), .slice (Bs i) ((ms.getD i []).length) (ds i), .int .i64 (((ms.getD i []).length : Nat) : Int), .bool false, .int .i64 ((k : Nat) : Int), .slice A ls.length c, .int .i64 ((i : Nat) : Int), .pointer (some ⟨b28, o29 + i * 1, none⟩), .slice (As i) ((ls.getD i []).length) (cs i), .int .i64 (((ls.getD i []).length : Nat) : Int), .bool true, (u23 36), (u23 37), .slice A ls.length c, .int .i64 ((i : Nat) : Int), .pointer (some ⟨b33, o34 + i * 1, none⟩), .slice (As i) ((ls.getD i []).length) (cs i), .int .i64 ((k : Nat) : Int), .pointer (some ⟨b36, o37 + k * 1, none⟩), .int .i16 ((ls.getD i []).getD k 0), .slice B ms.length d, .int .i64 ((i : Nat) : Int), .pointer (some ⟨b39, o40 + i * 1, none⟩), .slice (Bs i) ((ms.getD i []).length) (ds i), .int .i64 ((k : Nat) : Int), .pointer (some ⟨b42, o43 + k * 1, none⟩), .int .i16 ((ms.getD i []).getD k 0), .bool true], []⟩) (by kernel_rfl) ?_
            refine wp_cond_true (by kernel_rfl) ?_
            refine wp_seq_k (fun K49 hK49 => ?_)
            refine wl_region ?_
            refine st_val (.bool false) (by kernel_rfl) (by kernel_rfl) ?_
            refine wl_nil ?_
            refine hK49 _ _ ?_
            try clear hK49 K49
            refine wp_ret ?_
            refine blk_ret ?_
            refine th_ret ?_
            refine th_ret ?_
            refine blk_ret ?_
            refine blk_ret ?_
            refine th_ret ?_
            refine th_ret ?_
            refine blk_ret ?_
            refine th_ret ?_
            exact done1 4 (.bool false) (by kernel_rfl) (by kernel_rfl) (by kernel_rfl) ⟨by rw [decide_eq_false (fun h => by subst h; omega)], M48.toBelow⟩
        ·
          refine st_val (.bool false) (by kernel_rfl) (bool_of (dec_f c35) (by kernel_rfl)) ?_
          refine wl_nil ?_
          refine hK27 _ _ ?_
          try clear hK27 K27
          refine wp_cond_false (by kernel_rfl) ?_
          refine wp_exit ?_
          refine th_exit ?_
          refine th_exit ?_
          refine blk_exit ?_
          refine blk_normal ?_
          refine hK11 _ _ ?_
          try clear hK11 K11
          refine wl_region ?_
          refine st_val (.int .i64 ((i : Nat) : Int)) (by kernel_rfl) (by kernel_rfl) ?_
          refine st_val (.int .i64 (((i : Nat) : Int) + 1)) (by kernel_rfl) (i64_of (by omega) (by kernel_rfl)) ?_
          refine st_val (.int .i64 (((i : Nat) : Int) + 1)) (by kernel_rfl) (by kernel_rfl) ?_
          refine wl_nil ?_
          refine th_normal ?_
          have hei : ls.getD i [] = ms.getD i [] := ext_getD (d := 0) (by omega) (fun j h => hk j (by omega))
          exact ⟨_, by omega, (i + 1), (fun zz => Array.getD #[undef, undef, undef, undef, (u23 4), undef, .int .i64 ((k : Nat) : Int), undef, undef, undef, undef, undef, .int .i64 ((i : Nat) : Int), .slice A ls.length c, .int .i64 ((ls.length : Nat) : Int), .bool true, .int .i64 ((i : Nat) : Int), .int .i64 (((i : Nat) : Int) + 1), .slice A ls.length c, .int .i64 ((i : Nat) : Int), .pointer (some ⟨b14, o15 + i * 1, none⟩), .slice (As i) ((ls.getD i []).length) (cs i), .int .i64 (((ls.getD i []).length : Nat) : Int), .slice B ms.length d, .int .i64 ((i : Nat) : Int), .pointer (some ⟨b17, o18 + i * 1, none⟩), .slice (Bs i) ((ms.getD i []).length) (ds i), .int .i64 (((ms.getD i []).length : Nat) : Int), .bool false, .int .i64 ((k : Nat) : Int), .slice A ls.length c, .int .i64 ((i : Nat) : Int), .pointer (some ⟨b28, o29 + i * 1, none⟩), .slice (As i) ((ls.getD i []).length) (cs i), .int .i64 (((ls.getD i []).length : Nat) : Int), .bool false, (u23 36), (u23 37), (u23 38), (u23 39), (u23 40), (u23 41), (u23 42), (u23 43), (u23 44), (u23 45), (u23 46), (u23 47), (u23 48), (u23 49), (u23 50), (u23 51), (u23 52)] zz undef), ⟨⟨by omega, fun j h => by by_cases e : j = i; rw [e]; exact hei; exact hj j (by omega)⟩, M25⟩, rfl, (by kernel_rfl)⟩
      ·
        refine seq_run (v := .bool true) (by decide) (by kernel_rfl) (fun w' M' => (bool_of (neq_t c28) (by kernel_rfl))) ?_
        refine seq_end (by decide) ?_
        intro W50 M51
        refine wl_nil ?_
        refine hK13 _ _ ?_
        try clear hK13 K13
        refine wp_frame (a' := ⟨#[.slice A ls.length c, .slice B ms.length d, undef, undef, (u6 4), .int .i64 ((i : Nat) : Int), (u6 6), .slice A ls.length c, .int .i64 ((ls.length : Nat) : Int), .slice B ms.length d, .int .i64 ((ms.length : Nat) : Int), .bool false, .int .i64 ((i : Nat) : Int), .slice A ls.length c, .int .i64 ((ls.length : Nat) : Int), .bool true, (u6 16), (u6 17), .slice A ls.length c, .int .i64 ((i : Nat) : Int), .pointer (some ⟨b14, o15 + i * 1, none⟩), .slice (As i) ((ls.getD i []).length) (cs i), .int .i64 (((ls.getD i []).length : Nat) : Int), .slice B ms.length d, .int .i64 ((i : Nat) : Int), .pointer (some ⟨b17, o18 + i * 1, none⟩), .slice (Bs i) ((ms.getD i []).length) (ds i), .int .i64 (((ms.getD i []).length : Nat) : Int), .bool true, (u6 29), (u6 30), (u6 31), (u6 32), (u6 33), (u6 34), (u6 35), (u6 36), (u6 37), (u6 38), (u6 39), (u6 40), (u6 41), (u6 42), (u6 43), (u6 44), (u6 45), (u6 46), (u6 47), (u6 48), (u6 49), (u6 50), (u6 51), (u6 52)], []⟩) (by kernel_rfl) ?_
        refine wp_cond_true (by kernel_rfl) ?_
        refine wp_seq_k (fun K52 hK52 => ?_)
        refine wl_region ?_
        refine st_val (.bool false) (by kernel_rfl) (by kernel_rfl) ?_
        refine wl_nil ?_
        refine hK52 _ _ ?_
        try clear hK52 K52
        refine wp_ret ?_
        refine th_ret ?_
        refine blk_ret ?_
        refine th_ret ?_
        refine th_ret ?_
        refine blk_ret ?_
        refine th_ret ?_
        exact done1 4 (.bool false) (by kernel_rfl) (by kernel_rfl) (by kernel_rfl) ⟨by rw [decide_eq_false (fun h => by subst h; omega)], M51.toBelow⟩
    ·
      refine st_val (.bool false) (by kernel_rfl) (bool_of (dec_f c15) (by kernel_rfl)) ?_
      refine wl_nil ?_
      refine hK10 _ _ ?_
      try clear hK10 K10
      refine wp_cond_false (by kernel_rfl) ?_
      refine wp_exit ?_
      refine th_exit ?_
      refine th_exit ?_
      refine blk_exit ?_
      refine hK4 _ _ ?_
      try clear hK4 K4
      refine wp_seq_k (fun K53 hK53 => ?_)
      refine wl_region ?_
      refine st_val (.bool true) (by kernel_rfl) (by kernel_rfl) ?_
      refine wl_nil ?_
      refine hK53 _ _ ?_
      try clear hK53 K53
      refine wp_ret ?_
      exact done1 4 (.bool true) (by kernel_rfl) (by kernel_rfl) (by kernel_rfl) ⟨by rw [decide_eq_true (ext_getD (d := []) (by omega) (fun j h => hj j (by omega)))], M8.toBelow⟩
  ·
    refine st_val (.bool true) (by kernel_rfl) (bool_of (neq_t c11) (by kernel_rfl)) ?_
    refine wl_nil ?_
    refine hK3 _ _ ?_
    try clear hK3 K3
    refine wp_cond_true (by kernel_rfl) ?_
    refine wp_seq_k (fun K54 hK54 => ?_)
    refine wl_region ?_
    refine st_val (.bool false) (by kernel_rfl) (by kernel_rfl) ?_
    refine wl_nil ?_
    refine hK54 _ _ ?_
    try clear hK54 K54
    refine wp_ret ?_
    refine th_ret ?_
    exact done1 4 (.bool false) (by kernel_rfl) (by kernel_rfl) (by kernel_rfl) ⟨by rw [decide_eq_false (fun h => by subst h; omega)], M0.toBelow⟩
end Go.Proofs.Ytmimljaniliecaa
