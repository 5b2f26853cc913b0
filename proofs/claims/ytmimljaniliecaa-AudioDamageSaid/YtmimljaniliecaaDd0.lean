/- Are two lists of numbers equal? -/
import Derived.Test.YtmimljaniliecaaBg
import Derived.Test.YtmimljaniliecaaLi
namespace Go.Proofs.Ytmimljaniliecaa
open Go.RowKit Bt

theorem Mem.splitL {S : Nat → Prop} {w0 w : World} {A T1 T2 B : List (Nat × Obj)} (M : Mem S w0 w (A ++ ((T1 ++ T2) ++ B))) : Mem S w0 w (A ++ (T1 ++ (T2 ++ B))) := by
  rw [← List.append_assoc T1]; exact M
theorem deE_G {l : List Nat} (h : deE l = 0) : 10 ≤ l.length ∧ deG l ∧ intB (sl l 0 (10 - 0)) = true ∧ l.length - 10 ≤ deK l * deS l := by
  unfold deE at h
  split at h
  · omega
  · split at h
    · omega
    · split at h
      · omega
      · split at h
        · omega
        · rename_i h1 h2 h3 h4
          exact ⟨by omega, Classical.not_not.1 h2, by simpa using h3, by omega⟩
theorem deM_bd (l : List Nat) : (deM l).length ≤ 1000000 := by
  unfold deM
  split
  · rename_i h
    have hN := (deE_G h).2.1.2.2
    have := deD_le l (deK l)
    unfold deK at *
    omega
  · exact Nat.zero_le _
set_option maxHeartbeats 4000000 in
set_option maxRecDepth 100000 in
theorem sameNum_walk (w : World) (v v' : Value) (l m : List Int) (hr : RdK w v l.length (i64s l)) (hq : RdK w v' m.length (i64s m)) (hl9 : l.length ≤ 1000000) : Calls Try.prog 30 #[v, v'] w fun e w' => e = .returned (.bool (decide (l = m))) ∧ Below w.heap.size w w' := by
  obtain ⟨A, c, rfl, hc⟩ := hr.shape
  obtain ⟨B, d, rfl, hd⟩ := hq.shape
  refine calls_of_wp Try.func30 rfl ?_
  refine wp_frame (a' := ⟨#[.slice A l.length c, .slice B m.length d, undef, undef, undef, undef, undef, undef, undef, undef, undef, undef, undef, undef, undef, undef, undef, undef, undef, undef, undef, undef, undef, undef, undef, undef], []⟩) (by kernel_rfl) ?_
  have M0 : Mem NoS w w [] := Mem.start _ _
  refine wp_seq_k (fun K1 hK1 => ?_)
  refine wl_region ?_
  refine st_val (.bool false) (by kernel_rfl) (by kernel_rfl) ?_
  refine wl_nil ?_
  refine hK1 _ _ ?_
  try clear hK1 K1
  refine wp_seq_k (fun K2 hK2 => ?_)
  refine wp_seq_k (fun K3 hK3 => ?_)
  refine wl_region ?_
  refine st_val (.slice A l.length c) (by kernel_rfl) (by kernel_rfl) ?_
  refine st_val (.int .i64 ((l.length : Nat) : Int)) (by kernel_rfl) (by kernel_rfl) ?_
  refine st_val (.slice B m.length d) (by kernel_rfl) (by kernel_rfl) ?_
  refine st_val (.int .i64 ((m.length : Nat) : Int)) (by kernel_rfl) (by kernel_rfl) ?_
  rcases Decidable.em ((((l.length : Nat) : Int) : Int) = ((m.length : Nat) : Int)) with c10 | c10
  ·
    refine st_val (.bool false) (by kernel_rfl) (bool_of (neq_f c10) (by kernel_rfl)) ?_
    refine wl_nil ?_
    refine hK3 _ _ ?_
    try clear hK3 K3
    refine wp_cond_false (by kernel_rfl) ?_
    refine wp_skip ?_
    refine hK2 _ _ ?_
    try clear hK2 K2
    refine wp_seq_k (fun K4 hK4 => ?_)
    refine wp_seq_k (fun K5 hK5 => ?_)
    refine wl_region ?_
    refine st_val (.int .i64 0) (by kernel_rfl) (by kernel_rfl) ?_
    refine wl_nil ?_
    refine hK5 _ _ ?_
    try clear hK5 K5
    refine wp_block ?_
    refine wp_loop_ghost (fun gn a' w' => ∃ (i : Nat) (u6 : Nat → Value), ((i ≤ l.length ∧ ∀ j, j < i → l.getD j 0 = m.getD j 0) ∧ Mem NoS w w' []) ∧ gn = l.length - i ∧ a' = ⟨#[.slice A l.length c, .slice B m.length d, undef, undef, (u6 4), .int .i64 ((i : Nat) : Int), .slice A l.length c, .int .i64 ((l.length : Nat) : Int), .slice B m.length d, .int .i64 ((m.length : Nat) : Int), .bool false, (u6 11), (u6 12), (u6 13), (u6 14), (u6 15), (u6 16), (u6 17), (u6 18), (u6 19), (u6 20), (u6 21), (u6 22), (u6 23), (u6 24), (u6 25)], []⟩) _ ⟨0, (fun zz => Array.getD #[undef, undef, undef, undef, .bool false, undef, undef, undef, undef, undef, undef, undef, undef, undef, undef, undef, undef, undef, undef, undef, undef, undef, undef, undef, undef, undef] zz undef), ⟨⟨by omega, fun j hj => by omega⟩, M0⟩, rfl, (by kernel_rfl)⟩ ?_
    rintro gn _ W7 ⟨i, u6, ⟨⟨ri, hj⟩, M8⟩, rfl, rfl⟩
    refine wp_seq_k (fun K9 hK9 => ?_)
    refine wp_seq_k (fun K10 hK10 => ?_)
    refine wl_region ?_
    refine st_val (.int .i64 ((i : Nat) : Int)) (by kernel_rfl) (by kernel_rfl) ?_
    refine st_val (.slice A l.length c) (by kernel_rfl) (by kernel_rfl) ?_
    refine st_val (.int .i64 ((l.length : Nat) : Int)) (by kernel_rfl) (by kernel_rfl) ?_
    rcases Decidable.em ((((i : Nat) : Int) : Int) < ((l.length : Nat) : Int)) with c14 | c14
    ·
      refine st_val (.bool true) (by kernel_rfl) (bool_of (dec_t c14) (by kernel_rfl)) ?_
      refine wl_nil ?_
      refine hK10 _ _ ?_
      try clear hK10 K10
      refine wp_cond_true (by kernel_rfl) ?_
      refine wp_skip ?_
      refine hK9 _ _ ?_
      try clear hK9 K9
      refine wp_seq_k (fun K11 hK11 => ?_)
      refine wp_block ?_
      refine wp_seq_k (fun K12 hK12 => ?_)
      refine wl_seq 9 (fun w' => Mem NoS w w' []) (by decide) (by kernel_rfl) (by kernel_rfl) M8.drew ?_
      refine seq_run (v := .slice A l.length c) (by decide) (by kernel_rfl) (fun w' M' => (by kernel_rfl)) ?_
      refine seq_run (v := .int .i64 ((i : Nat) : Int)) (by decide) (by kernel_rfl) (fun w' M' => (by kernel_rfl)) ?_
      obtain ⟨b13, o14, eA15⟩ := RdK.addr (hr.keep M8.keep (fun _ _ h => h)) (j := i * 1) (by rw [i64s_length]; omega)
      refine seq_run (v := .pointer (some ⟨b13, o14 + i * 1, none⟩)) (by decide) (by kernel_rfl) (fun w' M' => (run_indexSliceA 41 (.tmp 17) (.tmp 18) rfl A ⟨b13, o14, none⟩ eA15 l.length c .i64 i (by kernel_rfl) (by kernel_rfl) Try.underlying41 1 (by kernel_rfl) (by omega) ⟨b13, o14 + i * 1, none⟩ (addr_atK _ _ _ _))) ?_
      refine seq_run (v := .int .i64 (l.getD i 0)) (by decide) (by kernel_rfl) (fun w' M' => (run_load_cell 3 (.tmp 19) rfl ⟨b13, o14 + i * 1, none⟩ (by kernel_rfl) _ ((hr.keep M'.keep (fun _ _ h => h)).cellF eA15 (f := 0) (i64s_get l i (by omega))) (by kernel_rfl))) ?_
      refine seq_run (v := .slice B m.length d) (by decide) (by kernel_rfl) (fun w' M' => (by kernel_rfl)) ?_
      refine seq_run (v := .int .i64 ((i : Nat) : Int)) (by decide) (by kernel_rfl) (fun w' M' => (by kernel_rfl)) ?_
      obtain ⟨b16, o17, eA18⟩ := RdK.addr (hq.keep M8.keep (fun _ _ h => h)) (j := i * 1) (by rw [i64s_length]; omega)
      refine seq_run (v := .pointer (some ⟨b16, o17 + i * 1, none⟩)) (by decide) (by kernel_rfl) (fun w' M' => (run_indexSliceA 41 (.tmp 21) (.tmp 22) rfl B ⟨b16, o17, none⟩ eA18 m.length d .i64 i (by kernel_rfl) (by kernel_rfl) Try.underlying41 1 (by kernel_rfl) (by omega) ⟨b16, o17 + i * 1, none⟩ (addr_atK _ _ _ _))) ?_
      refine seq_run (v := .int .i64 (m.getD i 0)) (by decide) (by kernel_rfl) (fun w' M' => (run_load_cell 3 (.tmp 23) rfl ⟨b16, o17 + i * 1, none⟩ (by kernel_rfl) _ ((hq.keep M'.keep (fun _ _ h => h)).cellF eA18 (f := 0) (i64s_get m i (by omega))) (by kernel_rfl))) ?_
      rcases Decidable.em ((l.getD i 0 : Int) = m.getD i 0) with c25 | c25
      ·
        refine seq_run (v := .bool false) (by decide) (by kernel_rfl) (fun w' M' => (bool_of (neq_f c25) (by kernel_rfl))) ?_
        refine seq_end (by decide) ?_
        intro W19 M20
        refine wl_nil ?_
        refine hK12 _ _ ?_
        try clear hK12 K12
        refine wp_frame (a' := ⟨#[.slice A l.length c, .slice B m.length d, undef, undef, (u6 4), .int .i64 ((i : Nat) : Int), .slice A l.length c, .int .i64 ((l.length : Nat) : Int), .slice B m.length d, .int .i64 ((m.length : Nat) : Int), .bool false, .int .i64 ((i : Nat) : Int), .slice A l.length c, .int .i64 ((l.length : Nat) : Int), .bool true, (u6 15), (u6 16), .slice A l.length c, .int .i64 ((i : Nat) : Int), .pointer (some ⟨b13, o14 + i * 1, none⟩), .int .i64 (l.getD i 0), .slice B m.length d, .int .i64 ((i : Nat) : Int), .pointer (some ⟨b16, o17 + i * 1, none⟩), .int .i64 (m.getD i 0), .bool false], []⟩) (by kernel_rfl) ?_
        refine wp_cond_false (by kernel_rfl) ?_
        refine wp_skip ?_
        refine blk_normal ?_
        refine hK11 _ _ ?_
        try clear hK11 K11
        refine wl_region ?_
        refine st_val (.int .i64 ((i : Nat) : Int)) (by kernel_rfl) (by kernel_rfl) ?_
        refine st_val (.int .i64 (((i : Nat) : Int) + 1)) (by kernel_rfl) (i64_of (by omega) (by kernel_rfl)) ?_
        refine st_val (.int .i64 (((i : Nat) : Int) + 1)) (by kernel_rfl) (by kernel_rfl) ?_
        refine wl_nil ?_
        refine th_normal ?_
        exact ⟨_, by omega, (i + 1), (fun zz => Array.getD #[undef, undef, undef, undef, (u6 4), undef, undef, undef, undef, undef, undef, .int .i64 ((i : Nat) : Int), .slice A l.length c, .int .i64 ((l.length : Nat) : Int), .bool true, .int .i64 ((i : Nat) : Int), .int .i64 (((i : Nat) : Int) + 1), .slice A l.length c, .int .i64 ((i : Nat) : Int), .pointer (some ⟨b13, o14 + i * 1, none⟩), .int .i64 (l.getD i 0), .slice B m.length d, .int .i64 ((i : Nat) : Int), .pointer (some ⟨b16, o17 + i * 1, none⟩), .int .i64 (m.getD i 0), .bool false] zz undef), ⟨⟨by omega, fun j h => by by_cases e : j = i; rw [e]; omega; exact hj j (by omega)⟩, M20⟩, rfl, (by kernel_rfl)⟩
      ·
        refine seq_run (v := .bool true) (by decide) (by kernel_rfl) (fun w' M' => (bool_of (neq_t c25) (by kernel_rfl))) ?_
        refine seq_end (by decide) ?_
        intro W21 M22
        refine wl_nil ?_
        refine hK12 _ _ ?_
        try clear hK12 K12
        refine wp_frame (a' := ⟨#[.slice A l.length c, .slice B m.length d, undef, undef, (u6 4), .int .i64 ((i : Nat) : Int), .slice A l.length c, .int .i64 ((l.length : Nat) : Int), .slice B m.length d, .int .i64 ((m.length : Nat) : Int), .bool false, .int .i64 ((i : Nat) : Int), .slice A l.length c, .int .i64 ((l.length : Nat) : Int), .bool true, (u6 15), (u6 16), .slice A l.length c, .int .i64 ((i : Nat) : Int), .pointer (some ⟨b13, o14 + i * 1, none⟩), .int .i64 (l.getD i 0), .slice B m.length d, .int .i64 ((i : Nat) : Int), .pointer (some ⟨b16, o17 + i * 1, none⟩), .int .i64 (m.getD i 0), .bool true], []⟩) (by kernel_rfl) ?_
        refine wp_cond_true (by kernel_rfl) ?_
        refine wp_seq_k (fun K23 hK23 => ?_)
        refine wl_region ?_
        refine st_val (.bool false) (by kernel_rfl) (by kernel_rfl) ?_
        refine wl_nil ?_
        refine hK23 _ _ ?_
        try clear hK23 K23
        refine wp_ret ?_
        refine blk_ret ?_
        refine th_ret ?_
        refine th_ret ?_
        refine blk_ret ?_
        refine th_ret ?_
        exact done1 4 (.bool false) (by kernel_rfl) (by kernel_rfl) (by kernel_rfl) ⟨by rw [decide_eq_false (fun h => by subst h; omega)], M22.toBelow⟩
    ·
      refine st_val (.bool false) (by kernel_rfl) (bool_of (dec_f c14) (by kernel_rfl)) ?_
      refine wl_nil ?_
      refine hK10 _ _ ?_
      try clear hK10 K10
      refine wp_cond_false (by kernel_rfl) ?_
      refine wp_exit ?_
      refine th_exit ?_
      refine th_exit ?_
      refine blk_exit ?_
      refine hK4 _ _ ?_
      try clear hK4 K4
      refine wp_seq_k (fun K24 hK24 => ?_)
      refine wl_region ?_
      refine st_val (.bool true) (by kernel_rfl) (by kernel_rfl) ?_
      refine wl_nil ?_
      refine hK24 _ _ ?_
      try clear hK24 K24
      refine wp_ret ?_
      exact done1 4 (.bool true) (by kernel_rfl) (by kernel_rfl) (by kernel_rfl) ⟨by rw [decide_eq_true (ext_getD (d := 0) (by omega) (fun j h => hj j (by omega)))], M8.toBelow⟩
  ·
    refine st_val (.bool true) (by kernel_rfl) (bool_of (neq_t c10) (by kernel_rfl)) ?_
    refine wl_nil ?_
    refine hK3 _ _ ?_
    try clear hK3 K3
    refine wp_cond_true (by kernel_rfl) ?_
    refine wp_seq_k (fun K25 hK25 => ?_)
    refine wl_region ?_
    refine st_val (.bool false) (by kernel_rfl) (by kernel_rfl) ?_
    refine wl_nil ?_
    refine hK25 _ _ ?_
    try clear hK25 K25
    refine wp_ret ?_
    refine th_ret ?_
    exact done1 4 (.bool false) (by kernel_rfl) (by kernel_rfl) (by kernel_rfl) ⟨by rw [decide_eq_false (fun h => by subst h; omega)], M0.toBelow⟩
end Go.Proofs.Ytmimljaniliecaa
