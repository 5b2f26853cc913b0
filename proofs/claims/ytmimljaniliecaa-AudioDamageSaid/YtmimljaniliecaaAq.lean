/- May sound be coded? -/
import Derived.Test.YtmimljaniliecaaAe
namespace Go.Proofs.Ytmimljaniliecaa
open Go.RowKit Bt

/-- the first channel of another length, or -1 -/
noncomputable def pidx (ls : List (List Int)) : Int := @ite _ (∀ j, j < ls.length → (ls.getD j []).length = (ls.getD 0 []).length) (Classical.propDecidable _) (-1) (@Classical.epsilon Nat ⟨0⟩ fun i => (∀ j, j < i → (ls.getD j []).length = (ls.getD 0 []).length) ∧ i < ls.length ∧ ¬ (ls.getD i []).length = (ls.getD 0 []).length)
theorem pidx_ok {ls : List (List Int)} (h : ∀ j, j < ls.length → (ls.getD j []).length = (ls.getD 0 []).length) : pidx ls = -1 := by unfold pidx; rw [if_pos h]
theorem pidx_bad {ls : List (List Int)} {i : Nat} (h : ∀ j, j < i → (ls.getD j []).length = (ls.getD 0 []).length) (hi : i < ls.length) (hn : ¬ (ls.getD i []).length = (ls.getD 0 []).length) : pidx ls = ((i : Nat) : Int) := by
  unfold pidx
  rw [if_neg (fun c => hn (c i hi))]
  have := @Classical.epsilon_spec_aux Nat ⟨0⟩ (fun i => (∀ j, j < i → (ls.getD j []).length = (ls.getD 0 []).length) ∧ i < ls.length ∧ ¬ (ls.getD i []).length = (ls.getD 0 []).length) ⟨i, h, hi, hn⟩
  generalize @Classical.epsilon Nat ⟨0⟩ (fun i => (∀ j, j < i → (ls.getD j []).length = (ls.getD 0 []).length) ∧ i < ls.length ∧ ¬ (ls.getD i []).length = (ls.getD 0 []).length) = k at *
  obtain ⟨h1, h2, h3⟩ := this
  rcases Nat.lt_trichotomy k i with h4 | h4 | h4
  · exact absurd (h k h4) h3
  · rw [h4]
  · exact absurd (h1 i h4) hn
theorem pidx_no {ls : List (List Int)} (h : ¬ pidx ls ≥ 0) : ∀ j, j < ls.length → (ls.getD j []).length = (ls.getD 0 []).length := by
  by_cases hc : ∀ j, j < ls.length → (ls.getD j []).length = (ls.getD 0 []).length
  · exact hc
  · exfalso; apply h
    unfold pidx
    rw [if_neg hc]
    omega
set_option maxHeartbeats 4000000 in
set_option maxRecDepth 100000 in
theorem pclo_walk (w : World) (Ac : Option Addr) (m cc : Nat) (g : Nat) (A : Option Addr) (c : Nat) (ls : List (List Int)) (As : Nat → Option Addr) (cs : Nat → Nat) (hP : RdP w (.slice A ls.length c) ls As cs) (hl : 1 ≤ ls.length) (hg : w.cell? ⟨g, 0, none⟩ = some (.slice A ls.length c)) : Calls Try.prog 60 #[.slice Ac m cc, .pointer (some ⟨g, 0, none⟩)] w fun e w' => e = .returned (.bool (!decide (((m : Nat) : Int) = (((ls.getD 0 []).length : Nat) : Int)))) ∧ Below w.heap.size w w' := by
  refine calls_of_wp Try.func60 rfl ?_
  refine wp_frame (a' := ⟨#[.slice Ac m cc, .pointer (some ⟨g, 0, none⟩), undef, undef, undef, undef, undef, undef, undef, undef, undef], []⟩) (by kernel_rfl) ?_
  have M0 : Mem NoS w w [] := Mem.start _ _
  refine wp_seq_k (fun K1 hK1 => ?_)
  refine wl_region ?_
  refine st_val (.bool false) (by kernel_rfl) (by kernel_rfl) ?_
  refine wl_nil ?_
  refine hK1 _ _ ?_
  try clear hK1 K1
  refine wp_seq_k (fun K2 hK2 => ?_)
  refine wl_region ?_
  refine st_val (.slice Ac m cc) (by kernel_rfl) (by kernel_rfl) ?_
  refine st_val (.int .i64 ((m : Nat) : Int)) (by kernel_rfl) (by kernel_rfl) ?_
  refine st_val (.slice A ls.length c) (by kernel_rfl) (run_load_cell 28 (.tmp 1) rfl ⟨g, 0, none⟩ (by kernel_rfl) _ hg (by kernel_rfl)) ?_
  obtain ⟨b3, o4, eA5⟩ := RdK.addr (hP.rd.keep M0.keep (fun _ _ h => h)) (j := 0 * 1) (by rw [pvs_length]; omega)
  refine st_val (.pointer (some ⟨b3, o4 + 0 * 1, none⟩)) (by kernel_rfl) (run_indexSliceA 28 (.tmp 6) _ rfl A ⟨b3, o4, none⟩ eA5 ls.length c .i64 0 (by kernel_rfl) (by kernel_rfl) Try.underlying28 1 (by kernel_rfl) (by omega) ⟨b3, o4 + 0 * 1, none⟩ (addr_atK _ _ _ _)) ?_
  refine st_val (.slice (As 0) ((ls.getD 0 []).length) (cs 0)) (by kernel_rfl) (run_load_cell 39 (.tmp 7) rfl ⟨b3, o4 + 0 * 1, none⟩ (by kernel_rfl) _ ((hP.rd.keep M0.keep (fun _ _ h => h)).cellF eA5 (f := 0) (pvs_get ls As cs 0 (by omega))) (by kernel_rfl)) ?_
  refine st_val (.int .i64 (((ls.getD 0 []).length : Nat) : Int)) (by kernel_rfl) (by kernel_rfl) ?_
  refine st_val (.bool (!decide ((((m : Nat) : Int) : Int) = (((ls.getD 0 []).length : Nat) : Int)))) (by kernel_rfl) (by kernel_rfl) ?_
  refine st_val (.bool (!decide ((((m : Nat) : Int) : Int) = (((ls.getD 0 []).length : Nat) : Int)))) (by kernel_rfl) (by kernel_rfl) ?_
  refine wl_nil ?_
  refine hK2 _ _ ?_
  try clear hK2 K2
  refine wp_ret ?_
  exact done1 3 (.bool (!decide ((((m : Nat) : Int) : Int) = (((ls.getD 0 []).length : Nat) : Int)))) (by kernel_rfl) (by kernel_rfl) (by kernel_rfl) ⟨rfl, M0.toBelow⟩
set_option maxHeartbeats 4000000 in
set_option maxRecDepth 100000 in
theorem pidx_walk (w : World) (g : Nat) (A : Option Addr) (c : Nat) (ls : List (List Int)) (As : Nat → Option Addr) (cs : Nat → Nat) (hP : RdP w (.slice A ls.length c) ls As cs) (hl : 1 ≤ ls.length) (hl4 : ls.length ≤ 1000000) (hg : w.cell? ⟨g, 0, none⟩ = some (.slice A ls.length c)) : Calls Try.prog 61 #[.slice A ls.length c, .func (.func 60) #[] #[.pointer (some ⟨g, 0, none⟩)]] w fun e w' => e = .returned (.int .i64 (pidx ls)) ∧ Below w.heap.size w w' := by
  refine calls_of_wp Try.func61 rfl ?_
  refine wp_frame (a' := ⟨#[.slice A ls.length c, .func (.func 60) #[] #[.pointer (some ⟨g, 0, none⟩)], undef, undef, undef, undef, undef, undef, undef, undef, undef, undef, undef, undef, undef, undef, undef, undef, undef], []⟩) (by kernel_rfl) ?_
  have M0 : Mem NoS w w [] := Mem.start _ _
  refine wp_seq_k (fun K1 hK1 => ?_)
  refine wl_region ?_
  refine st_val (.int .i64 0) (by kernel_rfl) (by kernel_rfl) ?_
  refine wl_nil ?_
  refine hK1 _ _ ?_
  try clear hK1 K1
  refine wp_seq_k (fun K2 hK2 => ?_)
  refine wp_seq_k (fun K3 hK3 => ?_)
  refine wl_region ?_
  refine st_val (.slice A ls.length c) (by kernel_rfl) (by kernel_rfl) ?_
  refine st_val (.int .i64 ((ls.length : Nat) : Int)) (by kernel_rfl) (by kernel_rfl) ?_
  refine st_val (.int .i64 0) (by kernel_rfl) (by kernel_rfl) ?_
  refine wl_nil ?_
  refine hK3 _ _ ?_
  try clear hK3 K3
  refine wp_block ?_
  refine wp_loop_ghost (fun gn a' w' => ∃ (i : Nat) (u4 : Nat → Value), ((i ≤ ls.length ∧ ∀ j, j < i → (ls.getD j []).length = (ls.getD 0 []).length) ∧ Mem NoS w w' []) ∧ gn = ls.length - i ∧ a' = ⟨#[.slice A ls.length c, .func (.func 60) #[] #[.pointer (some ⟨g, 0, none⟩)], undef, undef, (u4 4), (u4 5), .slice A ls.length c, .int .i64 ((ls.length : Nat) : Int), .int .i64 ((i : Nat) : Int), (u4 9), (u4 10), (u4 11), (u4 12), (u4 13), (u4 14), (u4 15), (u4 16), (u4 17), (u4 18)], []⟩) _ ⟨0, (fun zz => Array.getD #[.slice A ls.length c, .func (.func 60) #[] #[.pointer (some ⟨g, 0, none⟩)], undef, undef, .int .i64 0, undef, .slice A ls.length c, .int .i64 ((ls.length : Nat) : Int), .int .i64 0, undef, undef, undef, undef, undef, undef, undef, undef, undef, undef] zz undef), ⟨⟨by omega, fun j hj => by omega⟩, M0⟩, rfl, (by kernel_rfl)⟩ ?_
  rintro gn _ W5 ⟨i, u4, ⟨⟨ri, hj⟩, M6⟩, rfl, rfl⟩
  refine wp_seq_k (fun K7 hK7 => ?_)
  refine wl_region ?_
  rcases Decidable.em ((((i : Nat) : Int) : Int) < ((ls.length : Nat) : Int)) with c9 | c9
  ·
    refine st_val (.bool true) (by kernel_rfl) (bool_of (dec_t c9) (by kernel_rfl)) ?_
    refine wl_nil ?_
    refine hK7 _ _ ?_
    try clear hK7 K7
    refine wp_seq_k (fun K8 hK8 => ?_)
    refine wp_cond_true (by kernel_rfl) ?_
    refine wp_skip ?_
    refine hK8 _ _ ?_
    try clear hK8 K8
    refine wp_seq_k (fun K9 hK9 => ?_)
    refine wp_block ?_
    refine wp_seq_k (fun K10 hK10 => ?_)
    refine wl_region ?_
    refine st_val (.int .i64 ((i : Nat) : Int)) (by kernel_rfl) (by kernel_rfl) ?_
    refine st_val (.int .i64 ((i : Nat) : Int)) (by kernel_rfl) (by kernel_rfl) ?_
    refine wl_nil ?_
    refine hK10 _ _ ?_
    try clear hK10 K10
    refine wp_seq_k (fun K11 hK11 => ?_)
    refine wl_region ?_
    refine st_val (.func (.func 60) #[] #[.pointer (some ⟨g, 0, none⟩)]) (by kernel_rfl) (by kernel_rfl) ?_
    refine st_val (.slice A ls.length c) (by kernel_rfl) (by kernel_rfl) ?_
    refine st_val (.int .i64 ((i : Nat) : Int)) (by kernel_rfl) (by kernel_rfl) ?_
    obtain ⟨b12, o13, eA14⟩ := RdK.addr (hP.rd.keep M6.keep (fun _ _ h => h)) (j := i * 1) (by rw [pvs_length]; omega)
    refine st_val (.pointer (some ⟨b12, o13 + i * 1, none⟩)) (by kernel_rfl) (run_indexSliceA 28 (.tmp 12) (.tmp 13) rfl A ⟨b12, o13, none⟩ eA14 ls.length c .i64 i (by kernel_rfl) (by kernel_rfl) Try.underlying28 1 (by kernel_rfl) (by omega) ⟨b12, o13 + i * 1, none⟩ (addr_atK _ _ _ _)) ?_
    refine st_val (.slice (As i) ((ls.getD i []).length) (cs i)) (by kernel_rfl) (run_load_cell 39 (.tmp 14) rfl ⟨b12, o13 + i * 1, none⟩ (by kernel_rfl) _ ((hP.rd.keep M6.keep (fun _ _ h => h)).cellF eA14 (f := 0) (pvs_get ls As cs i (by omega))) (by kernel_rfl)) ?_
    rcases Decidable.em ((((ls.getD i []).length : Nat) : Int) = (((ls.getD 0 []).length : Nat) : Int)) with hq | hq
    ·
      refine st_callB M6 (.bool false) (by kernel_rfl) (args := #[.slice (As i) ((ls.getD i []).length) (cs i), .pointer (some ⟨g, 0, none⟩)]) (run_clo_call _ _ _ rfl 60 #[.pointer (some ⟨g, 0, none⟩)] (by kernel_rfl) Try.func60 (by kernel_rfl) (by kernel_rfl) _ (by kernel_rfl)) ((by have := pclo_walk W5 (As i) ((ls.getD i []).length) (cs i) g A c ls As cs (hP.keep M6.keep (fun _ h => h)) hl (M6.keep.cell hg (fun h => h)); rw [decide_eq_true hq] at this; exact this)) ?_
      intro W15 M16
      refine wl_nil ?_
      refine hK11 _ _ ?_
      try clear hK11 K11
      refine wp_cond_false (by kernel_rfl) ?_
      refine wp_skip ?_
      refine blk_normal ?_
      refine hK9 _ _ ?_
      try clear hK9 K9
      refine wl_region ?_
      refine st_val (.int .i64 (((i : Nat) : Int) + 1)) (by kernel_rfl) (i64_of (by omega) (by kernel_rfl)) ?_
      refine st_val (.int .i64 (((i : Nat) : Int) + 1)) (by kernel_rfl) (by kernel_rfl) ?_
      refine wl_nil ?_
      refine th_normal ?_
      exact ⟨_, by omega, (i + 1), (fun zz => Array.getD #[.slice A ls.length c, .func (.func 60) #[] #[.pointer (some ⟨g, 0, none⟩)], undef, undef, (u4 4), .int .i64 ((i : Nat) : Int), .slice A ls.length c, .int .i64 ((ls.length : Nat) : Int), .int .i64 (((i : Nat) : Int) + 1), .bool true, .int .i64 ((i : Nat) : Int), .func (.func 60) #[] #[.pointer (some ⟨g, 0, none⟩)], .slice A ls.length c, .int .i64 ((i : Nat) : Int), .pointer (some ⟨b12, o13 + i * 1, none⟩), .slice (As i) ((ls.getD i []).length) (cs i), .bool false, (u4 17), .int .i64 (((i : Nat) : Int) + 1)] zz undef), ⟨⟨by omega, fun j h => by by_cases e : j = i; subst e; omega; exact hj j (by omega)⟩, M16⟩, rfl, (by kernel_rfl)⟩
    ·
      refine st_callB M6 (.bool true) (by kernel_rfl) (args := #[.slice (As i) ((ls.getD i []).length) (cs i), .pointer (some ⟨g, 0, none⟩)]) (run_clo_call _ _ _ rfl 60 #[.pointer (some ⟨g, 0, none⟩)] (by kernel_rfl) Try.func60 (by kernel_rfl) (by kernel_rfl) _ (by kernel_rfl)) ((by have := pclo_walk W5 (As i) ((ls.getD i []).length) (cs i) g A c ls As cs (hP.keep M6.keep (fun _ h => h)) hl (M6.keep.cell hg (fun h => h)); rw [decide_eq_false hq] at this; exact this)) ?_
      intro W17 M18
      refine wl_nil ?_
      refine hK11 _ _ ?_
      try clear hK11 K11
      refine wp_cond_true (by kernel_rfl) ?_
      refine wp_seq_k (fun K19 hK19 => ?_)
      refine wl_region ?_
      refine st_val (.int .i64 ((i : Nat) : Int)) (by kernel_rfl) (by kernel_rfl) ?_
      refine st_val (.int .i64 ((i : Nat) : Int)) (by kernel_rfl) (by kernel_rfl) ?_
      refine wl_nil ?_
      refine hK19 _ _ ?_
      try clear hK19 K19
      refine wp_ret ?_
      refine blk_ret ?_
      refine th_ret ?_
      refine th_ret ?_
      refine blk_ret ?_
      refine th_ret ?_
      exact done1 4 (.int .i64 ((i : Nat) : Int)) (by kernel_rfl) (by kernel_rfl) (by kernel_rfl) ⟨by rw [show pidx ls = ((i : Nat) : Int) from pidx_bad hj (by omega) (by omega)], M18.toBelow⟩
  ·
    refine st_val (.bool false) (by kernel_rfl) (bool_of (dec_f c9) (by kernel_rfl)) ?_
    refine wl_nil ?_
    refine hK7 _ _ ?_
    try clear hK7 K7
    refine wp_seq_k (fun K20 hK20 => ?_)
    refine wp_cond_false (by kernel_rfl) ?_
    refine wp_exit ?_
    refine th_exit ?_
    refine th_exit ?_
    refine blk_exit ?_
    refine hK2 _ _ ?_
    try clear hK2 K2
    refine wp_seq_k (fun K21 hK21 => ?_)
    refine wl_region ?_
    refine st_val (.int .i64 (-1)) (by kernel_rfl) (by kernel_rfl) ?_
    refine wl_nil ?_
    refine hK21 _ _ ?_
    try clear hK21 K21
    refine wp_ret ?_
    exact done1 4 (.int .i64 (-1)) (by kernel_rfl) (by kernel_rfl) (by kernel_rfl) ⟨by rw [show pidx ls = -1 from pidx_ok (fun j h => hj j (by omega))], M6.toBelow⟩
set_option maxHeartbeats 4000000 in
set_option maxRecDepth 100000 in
theorem pcont_walk (w : World) (g : Nat) (A : Option Addr) (c : Nat) (ls : List (List Int)) (As : Nat → Option Addr) (cs : Nat → Nat) (hP : RdP w (.slice A ls.length c) ls As cs) (hl : 1 ≤ ls.length) (hl4 : ls.length ≤ 1000000) (hg : w.cell? ⟨g, 0, none⟩ = some (.slice A ls.length c)) : Calls Try.prog 59 #[.slice A ls.length c, .func (.func 60) #[] #[.pointer (some ⟨g, 0, none⟩)]] w fun e w' => e = .returned (.bool (decide (pidx ls ≥ 0))) ∧ Below w.heap.size w w' := by
  refine calls_of_wp Try.func59 rfl ?_
  refine wp_frame (a' := ⟨#[.slice A ls.length c, .func (.func 60) #[] #[.pointer (some ⟨g, 0, none⟩)], undef, undef, undef, undef, undef, undef, undef], []⟩) (by kernel_rfl) ?_
  have M0 : Mem NoS w w [] := Mem.start _ _
  refine wp_seq_k (fun K1 hK1 => ?_)
  refine wl_region ?_
  refine st_val (.bool false) (by kernel_rfl) (by kernel_rfl) ?_
  refine wl_nil ?_
  refine hK1 _ _ ?_
  try clear hK1 K1
  refine wp_seq_k (fun K2 hK2 => ?_)
  refine wl_region ?_
  refine st_val (.slice A ls.length c) (by kernel_rfl) (by kernel_rfl) ?_
  refine st_val (.func (.func 60) #[] #[.pointer (some ⟨g, 0, none⟩)]) (by kernel_rfl) (by kernel_rfl) ?_
  refine st_callB M0 (.int .i64 (pidx ls)) (by kernel_rfl) (args := #[.slice A ls.length c, .func (.func 60) #[] #[.pointer (some ⟨g, 0, none⟩)]]) (run_value_call 61 #[(Operand.tmp 5), (Operand.tmp 6)] _ rfl Try.func61 (by kernel_rfl) (by kernel_rfl) _ (by kernel_rfl)) (pidx_walk w g A c ls As cs (hP.keep M0.keep (fun _ h => h)) hl hl4 (M0.keep.cell hg (fun h => h))) ?_
  intro W3 M4
  refine st_val (.bool (decide ((pidx ls : Int) ≥ 0))) (by kernel_rfl) (by kernel_rfl) ?_
  refine st_val (.bool (decide ((pidx ls : Int) ≥ 0))) (by kernel_rfl) (by kernel_rfl) ?_
  refine wl_nil ?_
  refine hK2 _ _ ?_
  try clear hK2 K2
  refine wp_ret ?_
  exact done1 4 (.bool (decide ((pidx ls : Int) ≥ 0))) (by kernel_rfl) (by kernel_rfl) (by kernel_rfl) ⟨rfl, M4.toBelow⟩
set_option maxHeartbeats 4000000 in
set_option maxRecDepth 100000 in
theorem proper_walk (w : World) (v : Value) (ls : List (List Int)) (As : Nat → Option Addr) (cs : Nat → Nat) (hP : RdP w v ls As cs) (hl4 : ls.length ≤ 1000000) : Calls Try.prog 42 #[v] w fun e w' => e = .returned (.bool (ppB ls)) ∧ Below w.heap.size w w' := by
  obtain ⟨A, c, rfl, hc⟩ := hP.rd.shape
  refine calls_of_wp Try.func42 rfl ?_
  refine wp_frame (a' := ⟨#[.slice A ls.length c, undef, undef, undef, undef, undef, undef, undef, undef, undef, undef, undef, undef, undef, undef, undef, undef, undef], []⟩) (by kernel_rfl) ?_
  have M0 : Mem NoS w w [] := Mem.start _ _
  refine wp_seq_k (fun K1 hK1 => ?_)
  refine wl_region ?_
  refine st_alloc M0 (.cells #[.slice A ls.length c] 28 (0, 0)) (by kernel_rfl) (by kernel_rfl) ?_
  intro g2 W3 M4
  refine st_val (.bool false) (by kernel_rfl) (by kernel_rfl) ?_
  refine wl_nil ?_
  refine hK1 _ _ ?_
  try clear hK1 K1
  refine wp_seq_k (fun K5 hK5 => ?_)
  refine wp_seq_k (fun K6 hK6 => ?_)
  refine wl_region ?_
  refine st_val (.slice A ls.length c) (by kernel_rfl) (run_load_cell 28 (.tmp 1) rfl ⟨g2, 0, none⟩ (by kernel_rfl) _ (M4.cell 0 rfl 0 _ rfl) (by kernel_rfl)) ?_
  refine st_val (.int .i64 ((ls.length : Nat) : Int)) (by kernel_rfl) (by kernel_rfl) ?_
  rcases Bool.eq_false_or_eq_true (mayC ((ls.length : Nat) : Int)) with hmc | hmc
  ·
    obtain ⟨hm1, hm2⟩ := of_decide_eq_true hmc
    refine st_callB M4 (.bool true) (by kernel_rfl) (args := #[.int .i64 ((ls.length : Nat) : Int)]) (run_value_call 32 #[(Operand.tmp 4)] _ rfl Try.func32 (by kernel_rfl) (by kernel_rfl) _ (by kernel_rfl)) ((by have := mayC_walk W3 ((ls.length : Nat) : Int); rw [hmc] at this; exact this)) ?_
    intro W7 M8
    refine st_val (.bool false) (by kernel_rfl) (by kernel_rfl) ?_
    refine st_val (.bool false) (by kernel_rfl) (by kernel_rfl) ?_
    refine st_val (.slice A ls.length c) (by kernel_rfl) (run_load_cell 28 (.tmp 1) rfl ⟨g2, 0, none⟩ (by kernel_rfl) _ (M8.cell 0 rfl 0 _ rfl) (by kernel_rfl)) ?_
    obtain ⟨b9, o10, eA11⟩ := RdK.addr (hP.rd.keep M8.keep (fun _ _ h => h)) (j := 0 * 1) (by rw [pvs_length]; omega)
    refine st_val (.pointer (some ⟨b9, o10 + 0 * 1, none⟩)) (by kernel_rfl) (run_indexSliceA 28 (.tmp 8) _ rfl A ⟨b9, o10, none⟩ eA11 ls.length c .i64 0 (by kernel_rfl) (by kernel_rfl) Try.underlying28 1 (by kernel_rfl) (by omega) ⟨b9, o10 + 0 * 1, none⟩ (addr_atK _ _ _ _)) ?_
    refine st_val (.slice (As 0) ((ls.getD 0 []).length) (cs 0)) (by kernel_rfl) (run_load_cell 39 (.tmp 9) rfl ⟨b9, o10 + 0 * 1, none⟩ (by kernel_rfl) _ ((hP.rd.keep M8.keep (fun _ _ h => h)).cellF eA11 (f := 0) (pvs_get ls As cs 0 (by omega))) (by kernel_rfl)) ?_
    refine st_val (.int .i64 (((ls.getD 0 []).length : Nat) : Int)) (by kernel_rfl) (by kernel_rfl) ?_
    rcases Decidable.em (((((ls.getD 0 []).length : Nat) : Int) : Int) > 1048576) with c12 | c12
    ·
      refine st_val (.bool true) (by kernel_rfl) (bool_of (dec_t c12) (by kernel_rfl)) ?_
      refine st_val (.bool true) (by kernel_rfl) (by kernel_rfl) ?_
      refine wl_nil ?_
      refine hK6 _ _ ?_
      try clear hK6 K6
      refine wp_frame (a' := ⟨#[.slice A ls.length c, .pointer (some ⟨g2, 0, none⟩), .bool false, .slice A ls.length c, .int .i64 ((ls.length : Nat) : Int), .bool true, .bool false, .bool false, .slice A ls.length c, .pointer (some ⟨b9, o10 + 0 * 1, none⟩), .slice (As 0) ((ls.getD 0 []).length) (cs 0), .int .i64 (((ls.getD 0 []).length : Nat) : Int), .bool true, .bool true, undef, undef, undef, undef], []⟩) (by kernel_rfl) ?_
      refine wp_cond_true (by kernel_rfl) ?_
      refine wp_seq_k (fun K12 hK12 => ?_)
      refine wl_region ?_
      refine st_val (.bool false) (by kernel_rfl) (by kernel_rfl) ?_
      refine wl_nil ?_
      refine hK12 _ _ ?_
      try clear hK12 K12
      refine wp_ret ?_
      refine th_ret ?_
      exact done1 2 (.bool false) (by kernel_rfl) (by kernel_rfl) (by kernel_rfl) ⟨by first | rw [ppB_f (fun h => hmn ⟨by have := h.1.1; omega, by have := h.1.2; omega⟩)] | rw [ppB_f (fun h => by have := h.2.1; omega)] | rw [ppB_f (fun h => by rw [pidx_ok h.2.2] at hq; omega)], M8.toBelow⟩
    ·
      refine st_val (.bool false) (by kernel_rfl) (bool_of (dec_f c12) (by kernel_rfl)) ?_
      refine st_val (.bool false) (by kernel_rfl) (by kernel_rfl) ?_
      refine wl_nil ?_
      refine hK6 _ _ ?_
      try clear hK6 K6
      refine wp_frame (a' := ⟨#[.slice A ls.length c, .pointer (some ⟨g2, 0, none⟩), .bool false, .slice A ls.length c, .int .i64 ((ls.length : Nat) : Int), .bool true, .bool false, .bool false, .slice A ls.length c, .pointer (some ⟨b9, o10 + 0 * 1, none⟩), .slice (As 0) ((ls.getD 0 []).length) (cs 0), .int .i64 (((ls.getD 0 []).length : Nat) : Int), .bool false, .bool false, undef, undef, undef, undef], []⟩) (by kernel_rfl) ?_
      refine wp_cond_false (by kernel_rfl) ?_
      refine wp_skip ?_
      refine hK5 _ _ ?_
      try clear hK5 K5
      refine wp_seq_k (fun K13 hK13 => ?_)
      refine wl_region ?_
      refine st_val (.slice A ls.length c) (by kernel_rfl) (run_load_cell 28 (.tmp 1) rfl ⟨g2, 0, none⟩ (by kernel_rfl) _ (M8.cell 0 rfl 0 _ rfl) (by kernel_rfl)) ?_
      refine st_val (.func (.func 60) #[] #[.pointer (some ⟨g2, 0, none⟩)]) (by kernel_rfl) (by kernel_rfl) ?_
      rcases Decidable.em (pidx ls ≥ 0) with hq | hq
      ·
        refine st_callB M8 (.bool true) (by kernel_rfl) (args := #[.slice A ls.length c, .func (.func 60) #[] #[.pointer (some ⟨g2, 0, none⟩)]]) (run_value_call 59 #[(Operand.tmp 14), (Operand.tmp 15)] _ rfl Try.func59 (by kernel_rfl) (by kernel_rfl) _ (by kernel_rfl)) ((by have := pcont_walk W7 g2 A c ls As cs (hP.keep M8.keep (fun _ h => h)) (by omega) (by omega) (M8.cell 0 rfl 0 _ rfl); rw [decide_eq_true hq] at this; exact this)) ?_
        intro W14 M15
        refine st_val (.bool false) (by kernel_rfl) (by kernel_rfl) ?_
        refine st_val (.bool false) (by kernel_rfl) (by kernel_rfl) ?_
        refine wl_nil ?_
        refine hK13 _ _ ?_
        try clear hK13 K13
        refine wp_ret ?_
        exact done1 2 (.bool false) (by kernel_rfl) (by kernel_rfl) (by kernel_rfl) ⟨by first | rw [ppB_f (fun h => hmn ⟨by have := h.1.1; omega, by have := h.1.2; omega⟩)] | rw [ppB_f (fun h => by have := h.2.1; omega)] | rw [ppB_f (fun h => by rw [pidx_ok h.2.2] at hq; omega)], M15.toBelow⟩
      ·
        refine st_callB M8 (.bool false) (by kernel_rfl) (args := #[.slice A ls.length c, .func (.func 60) #[] #[.pointer (some ⟨g2, 0, none⟩)]]) (run_value_call 59 #[(Operand.tmp 14), (Operand.tmp 15)] _ rfl Try.func59 (by kernel_rfl) (by kernel_rfl) _ (by kernel_rfl)) ((by have := pcont_walk W7 g2 A c ls As cs (hP.keep M8.keep (fun _ h => h)) (by omega) (by omega) (M8.cell 0 rfl 0 _ rfl); rw [decide_eq_false hq] at this; exact this)) ?_
        intro W16 M17
        refine st_val (.bool true) (by kernel_rfl) (by kernel_rfl) ?_
        refine st_val (.bool true) (by kernel_rfl) (by kernel_rfl) ?_
        refine wl_nil ?_
        refine hK13 _ _ ?_
        try clear hK13 K13
        refine wp_ret ?_
        exact done1 2 (.bool true) (by kernel_rfl) (by kernel_rfl) (by kernel_rfl) ⟨by rw [ppB_t ⟨⟨by omega, by omega⟩, by omega, pidx_no hq⟩], M17.toBelow⟩
  ·
    have hmn := of_decide_eq_false hmc
    refine st_callB M4 (.bool false) (by kernel_rfl) (args := #[.int .i64 ((ls.length : Nat) : Int)]) (run_value_call 32 #[(Operand.tmp 4)] _ rfl Try.func32 (by kernel_rfl) (by kernel_rfl) _ (by kernel_rfl)) ((by have := mayC_walk W3 ((ls.length : Nat) : Int); rw [hmc] at this; exact this)) ?_
    intro W18 M19
    refine st_val (.bool true) (by kernel_rfl) (by kernel_rfl) ?_
    refine st_val (.bool true) (by kernel_rfl) (by kernel_rfl) ?_
    refine st_skip (by kernel_rfl) ?_
    refine st_skip (by kernel_rfl) ?_
    refine st_skip (by kernel_rfl) ?_
    refine st_skip (by kernel_rfl) ?_
    refine st_skip (by kernel_rfl) ?_
    refine st_val (.bool true) (by kernel_rfl) (by kernel_rfl) ?_
    refine wl_nil ?_
    refine hK6 _ _ ?_
    try clear hK6 K6
    refine wp_frame (a' := ⟨#[.slice A ls.length c, .pointer (some ⟨g2, 0, none⟩), .bool false, .slice A ls.length c, .int .i64 ((ls.length : Nat) : Int), .bool false, .bool true, .bool true, undef, undef, undef, undef, undef, .bool true, undef, undef, undef, undef], []⟩) (by kernel_rfl) ?_
    refine wp_cond_true (by kernel_rfl) ?_
    refine wp_seq_k (fun K20 hK20 => ?_)
    refine wl_region ?_
    refine st_val (.bool false) (by kernel_rfl) (by kernel_rfl) ?_
    refine wl_nil ?_
    refine hK20 _ _ ?_
    try clear hK20 K20
    refine wp_ret ?_
    refine th_ret ?_
    exact done1 2 (.bool false) (by kernel_rfl) (by kernel_rfl) (by kernel_rfl) ⟨by first | rw [ppB_f (fun h => hmn ⟨by have := h.1.1; omega, by have := h.1.2; omega⟩)] | rw [ppB_f (fun h => by have := h.2.1; omega)] | rw [ppB_f (fun h => by rw [pidx_ok h.2.2] at hq; omega)], M19.toBelow⟩
set_option maxHeartbeats 4000000 in
set_option maxRecDepth 100000 in
theorem refProper_walk (w : World) (v : Value) (ls : List (List Int)) (As : Nat → Option Addr) (cs : Nat → Nat) (hP : RdP w v ls As cs) (hl4 : ls.length ≤ 1000000) : Calls Try.prog 31 #[v] w fun e w' => e = .returned (.bool (ppB ls)) ∧ Below w.heap.size w w' := by
  obtain ⟨A, c, rfl, hc⟩ := hP.rd.shape
  refine calls_of_wp Try.func31 rfl ?_
  refine wp_frame (a' := ⟨#[.slice A ls.length c, undef, undef, undef, undef, undef, undef, undef, undef, undef, undef, undef, undef, undef, undef, undef, undef, undef, undef, undef, undef, undef, undef, undef, undef, undef, undef, undef, undef, undef, undef, undef, undef, undef, undef], []⟩) (by kernel_rfl) ?_
  have M0 : Mem NoS w w [] := Mem.start _ _
  refine wp_seq_k (fun K1 hK1 => ?_)
  refine wl_region ?_
  refine st_val (.bool false) (by kernel_rfl) (by kernel_rfl) ?_
  refine wl_nil ?_
  refine hK1 _ _ ?_
  try clear hK1 K1
  refine wp_seq_k (fun K2 hK2 => ?_)
  refine wp_seq_k (fun K3 hK3 => ?_)
  refine wl_region ?_
  refine st_val (.slice A ls.length c) (by kernel_rfl) (by kernel_rfl) ?_
  refine st_val (.int .i64 ((ls.length : Nat) : Int)) (by kernel_rfl) (by kernel_rfl) ?_
  rcases Decidable.em ((((ls.length : Nat) : Int) : Int) < 1) with c6 | c6
  ·
    refine st_val (.bool true) (by kernel_rfl) (bool_of (dec_t c6) (by kernel_rfl)) ?_
    refine st_val (.bool true) (by kernel_rfl) (by kernel_rfl) ?_
    refine st_skip (by kernel_rfl) ?_
    refine st_skip (by kernel_rfl) ?_
    refine st_skip (by kernel_rfl) ?_
    refine st_val (.bool true) (by kernel_rfl) (by kernel_rfl) ?_
    refine st_val (.bool true) (by kernel_rfl) (by kernel_rfl) ?_
    refine st_skip (by kernel_rfl) ?_
    refine st_skip (by kernel_rfl) ?_
    refine st_skip (by kernel_rfl) ?_
    refine st_skip (by kernel_rfl) ?_
    refine st_skip (by kernel_rfl) ?_
    refine st_val (.bool true) (by kernel_rfl) (by kernel_rfl) ?_
    refine wl_nil ?_
    refine hK3 _ _ ?_
    try clear hK3 K3
    refine wp_frame (a' := ⟨#[.slice A ls.length c, undef, .bool false, undef, .slice A ls.length c, .int .i64 ((ls.length : Nat) : Int), .bool true, .bool true, undef, undef, undef, .bool true, .bool true, undef, undef, undef, undef, undef, .bool true, undef, undef, undef, undef, undef, undef, undef, undef, undef, undef, undef, undef, undef, undef, undef, undef], []⟩) (by kernel_rfl) ?_
    refine wp_cond_true (by kernel_rfl) ?_
    refine wp_seq_k (fun K4 hK4 => ?_)
    refine wl_region ?_
    refine st_val (.bool false) (by kernel_rfl) (by kernel_rfl) ?_
    refine wl_nil ?_
    refine hK4 _ _ ?_
    try clear hK4 K4
    refine wp_ret ?_
    refine th_ret ?_
    exact done1 2 (.bool false) (by kernel_rfl) (by kernel_rfl) (by kernel_rfl) ⟨by first | rw [ppB_f (fun h => by have := h.1.1; have := h.1.2; omega)] | rw [ppB_f (fun h => by have := h.2.1; omega)] | rw [ppB_f (fun h => by have := h.2.2 i (by omega); omega)], M0.toBelow⟩
  ·
    refine st_val (.bool false) (by kernel_rfl) (bool_of (dec_f c6) (by kernel_rfl)) ?_
    refine st_val (.bool false) (by kernel_rfl) (by kernel_rfl) ?_
    refine st_val (.slice A ls.length c) (by kernel_rfl) (by kernel_rfl) ?_
    refine st_val (.int .i64 ((ls.length : Nat) : Int)) (by kernel_rfl) (by kernel_rfl) ?_
    rcases Decidable.em ((((ls.length : Nat) : Int) : Int) > 4) with c10 | c10
    ·
      refine st_val (.bool true) (by kernel_rfl) (bool_of (dec_t c10) (by kernel_rfl)) ?_
      refine st_val (.bool true) (by kernel_rfl) (by kernel_rfl) ?_
      refine st_val (.bool true) (by kernel_rfl) (by kernel_rfl) ?_
      refine st_skip (by kernel_rfl) ?_
      refine st_skip (by kernel_rfl) ?_
      refine st_skip (by kernel_rfl) ?_
      refine st_skip (by kernel_rfl) ?_
      refine st_skip (by kernel_rfl) ?_
      refine st_val (.bool true) (by kernel_rfl) (by kernel_rfl) ?_
      refine wl_nil ?_
      refine hK3 _ _ ?_
      try clear hK3 K3
      refine wp_frame (a' := ⟨#[.slice A ls.length c, undef, .bool false, undef, .slice A ls.length c, .int .i64 ((ls.length : Nat) : Int), .bool false, .bool false, .slice A ls.length c, .int .i64 ((ls.length : Nat) : Int), .bool true, .bool true, .bool true, undef, undef, undef, undef, undef, .bool true, undef, undef, undef, undef, undef, undef, undef, undef, undef, undef, undef, undef, undef, undef, undef, undef], []⟩) (by kernel_rfl) ?_
      refine wp_cond_true (by kernel_rfl) ?_
      refine wp_seq_k (fun K5 hK5 => ?_)
      refine wl_region ?_
      refine st_val (.bool false) (by kernel_rfl) (by kernel_rfl) ?_
      refine wl_nil ?_
      refine hK5 _ _ ?_
      try clear hK5 K5
      refine wp_ret ?_
      refine th_ret ?_
      exact done1 2 (.bool false) (by kernel_rfl) (by kernel_rfl) (by kernel_rfl) ⟨by first | rw [ppB_f (fun h => by have := h.1.1; have := h.1.2; omega)] | rw [ppB_f (fun h => by have := h.2.1; omega)] | rw [ppB_f (fun h => by have := h.2.2 i (by omega); omega)], M0.toBelow⟩
    ·
      refine st_val (.bool false) (by kernel_rfl) (bool_of (dec_f c10) (by kernel_rfl)) ?_
      refine st_val (.bool false) (by kernel_rfl) (by kernel_rfl) ?_
      refine st_val (.bool false) (by kernel_rfl) (by kernel_rfl) ?_
      refine st_val (.slice A ls.length c) (by kernel_rfl) (by kernel_rfl) ?_
      obtain ⟨b6, o7, eA8⟩ := RdK.addr (hP.rd.keep M0.keep (fun _ _ h => h)) (j := 0 * 1) (by rw [pvs_length]; omega)
      refine st_val (.pointer (some ⟨b6, o7 + 0 * 1, none⟩)) (by kernel_rfl) (run_indexSliceA 28 (.tmp 13) _ rfl A ⟨b6, o7, none⟩ eA8 ls.length c .i64 0 (by kernel_rfl) (by kernel_rfl) Try.underlying28 1 (by kernel_rfl) (by omega) ⟨b6, o7 + 0 * 1, none⟩ (addr_atK _ _ _ _)) ?_
      refine st_val (.slice (As 0) ((ls.getD 0 []).length) (cs 0)) (by kernel_rfl) (run_load_cell 39 (.tmp 14) rfl ⟨b6, o7 + 0 * 1, none⟩ (by kernel_rfl) _ ((hP.rd.keep M0.keep (fun _ _ h => h)).cellF eA8 (f := 0) (pvs_get ls As cs 0 (by omega))) (by kernel_rfl)) ?_
      refine st_val (.int .i64 (((ls.getD 0 []).length : Nat) : Int)) (by kernel_rfl) (by kernel_rfl) ?_
      rcases Decidable.em (((((ls.getD 0 []).length : Nat) : Int) : Int) > 1048576) with c17 | c17
      ·
        refine st_val (.bool true) (by kernel_rfl) (bool_of (dec_t c17) (by kernel_rfl)) ?_
        refine st_val (.bool true) (by kernel_rfl) (by kernel_rfl) ?_
        refine wl_nil ?_
        refine hK3 _ _ ?_
        try clear hK3 K3
        refine wp_frame (a' := ⟨#[.slice A ls.length c, undef, .bool false, undef, .slice A ls.length c, .int .i64 ((ls.length : Nat) : Int), .bool false, .bool false, .slice A ls.length c, .int .i64 ((ls.length : Nat) : Int), .bool false, .bool false, .bool false, .slice A ls.length c, .pointer (some ⟨b6, o7 + 0 * 1, none⟩), .slice (As 0) ((ls.getD 0 []).length) (cs 0), .int .i64 (((ls.getD 0 []).length : Nat) : Int), .bool true, .bool true, undef, undef, undef, undef, undef, undef, undef, undef, undef, undef, undef, undef, undef, undef, undef, undef], []⟩) (by kernel_rfl) ?_
        refine wp_cond_true (by kernel_rfl) ?_
        refine wp_seq_k (fun K9 hK9 => ?_)
        refine wl_region ?_
        refine st_val (.bool false) (by kernel_rfl) (by kernel_rfl) ?_
        refine wl_nil ?_
        refine hK9 _ _ ?_
        try clear hK9 K9
        refine wp_ret ?_
        refine th_ret ?_
        exact done1 2 (.bool false) (by kernel_rfl) (by kernel_rfl) (by kernel_rfl) ⟨by first | rw [ppB_f (fun h => by have := h.1.1; have := h.1.2; omega)] | rw [ppB_f (fun h => by have := h.2.1; omega)] | rw [ppB_f (fun h => by have := h.2.2 i (by omega); omega)], M0.toBelow⟩
      ·
        refine st_val (.bool false) (by kernel_rfl) (bool_of (dec_f c17) (by kernel_rfl)) ?_
        refine st_val (.bool false) (by kernel_rfl) (by kernel_rfl) ?_
        refine wl_nil ?_
        refine hK3 _ _ ?_
        try clear hK3 K3
        refine wp_frame (a' := ⟨#[.slice A ls.length c, undef, .bool false, undef, .slice A ls.length c, .int .i64 ((ls.length : Nat) : Int), .bool false, .bool false, .slice A ls.length c, .int .i64 ((ls.length : Nat) : Int), .bool false, .bool false, .bool false, .slice A ls.length c, .pointer (some ⟨b6, o7 + 0 * 1, none⟩), .slice (As 0) ((ls.getD 0 []).length) (cs 0), .int .i64 (((ls.getD 0 []).length : Nat) : Int), .bool false, .bool false, undef, undef, undef, undef, undef, undef, undef, undef, undef, undef, undef, undef, undef, undef, undef, undef], []⟩) (by kernel_rfl) ?_
        refine wp_cond_false (by kernel_rfl) ?_
        refine wp_skip ?_
        refine hK2 _ _ ?_
        try clear hK2 K2
        refine wp_seq_k (fun K10 hK10 => ?_)
        refine wp_seq_k (fun K11 hK11 => ?_)
        refine wl_region ?_
        refine st_val (.int .i64 0) (by kernel_rfl) (by kernel_rfl) ?_
        refine wl_nil ?_
        refine hK11 _ _ ?_
        try clear hK11 K11
        refine wp_block ?_
        refine wp_loop_ghost (fun gn a' w' => ∃ (i : Nat) (u12 : Nat → Value), ((i ≤ ls.length ∧ ∀ j, j < i → (ls.getD j []).length = (ls.getD 0 []).length) ∧ Mem NoS w w' []) ∧ gn = ls.length - i ∧ a' = ⟨#[.slice A ls.length c, undef, (u12 2), .int .i64 ((i : Nat) : Int), .slice A ls.length c, .int .i64 ((ls.length : Nat) : Int), .bool false, .bool false, .slice A ls.length c, .int .i64 ((ls.length : Nat) : Int), .bool false, .bool false, .bool false, .slice A ls.length c, .pointer (some ⟨b6, o7 + 0 * 1, none⟩), .slice (As 0) ((ls.getD 0 []).length) (cs 0), .int .i64 (((ls.getD 0 []).length : Nat) : Int), .bool false, .bool false, (u12 19), (u12 20), (u12 21), (u12 22), (u12 23), (u12 24), (u12 25), (u12 26), (u12 27), (u12 28), (u12 29), (u12 30), (u12 31), (u12 32), (u12 33), (u12 34)], []⟩) _ ⟨0, (fun zz => Array.getD #[.slice A ls.length c, undef, .bool false, .int .i64 0, .slice A ls.length c, .int .i64 ((ls.length : Nat) : Int), .bool false, .bool false, .slice A ls.length c, .int .i64 ((ls.length : Nat) : Int), .bool false, .bool false, .bool false, .slice A ls.length c, .pointer (some ⟨b6, o7 + 0 * 1, none⟩), .slice (As 0) ((ls.getD 0 []).length) (cs 0), .int .i64 (((ls.getD 0 []).length : Nat) : Int), .bool false, .bool false, undef, undef, undef, undef, undef, undef, undef, undef, undef, undef, undef, undef, undef, undef, undef, undef] zz undef), ⟨⟨by omega, fun j hj => by omega⟩, M0⟩, rfl, (by kernel_rfl)⟩ ?_
        rintro gn _ W13 ⟨i, u12, ⟨⟨ri, hj⟩, M14⟩, rfl, rfl⟩
        refine wp_seq_k (fun K15 hK15 => ?_)
        refine wp_seq_k (fun K16 hK16 => ?_)
        refine wl_region ?_
        refine st_val (.int .i64 ((i : Nat) : Int)) (by kernel_rfl) (by kernel_rfl) ?_
        refine st_val (.slice A ls.length c) (by kernel_rfl) (by kernel_rfl) ?_
        refine st_val (.int .i64 ((ls.length : Nat) : Int)) (by kernel_rfl) (by kernel_rfl) ?_
        rcases Decidable.em ((((i : Nat) : Int) : Int) < ((ls.length : Nat) : Int)) with c22 | c22
        ·
          refine st_val (.bool true) (by kernel_rfl) (bool_of (dec_t c22) (by kernel_rfl)) ?_
          refine wl_nil ?_
          refine hK16 _ _ ?_
          try clear hK16 K16
          refine wp_cond_true (by kernel_rfl) ?_
          refine wp_skip ?_
          refine hK15 _ _ ?_
          try clear hK15 K15
          refine wp_seq_k (fun K17 hK17 => ?_)
          refine wp_block ?_
          refine wp_seq_k (fun K18 hK18 => ?_)
          refine wl_seq 10 (fun w' => Mem NoS w w' []) (by decide) (by kernel_rfl) (by kernel_rfl) M14.drew ?_
          refine seq_run (v := .slice A ls.length c) (by decide) (by kernel_rfl) (fun w' M' => (by kernel_rfl)) ?_
          refine seq_run (v := .int .i64 ((i : Nat) : Int)) (by decide) (by kernel_rfl) (fun w' M' => (by kernel_rfl)) ?_
          obtain ⟨b19, o20, eA21⟩ := RdK.addr (hP.rd.keep M14.keep (fun _ _ h => h)) (j := i * 1) (by rw [pvs_length]; omega)
          refine seq_run (v := .pointer (some ⟨b19, o20 + i * 1, none⟩)) (by decide) (by kernel_rfl) (fun w' M' => (run_indexSliceA 28 (.tmp 25) (.tmp 26) rfl A ⟨b19, o20, none⟩ eA21 ls.length c .i64 i (by kernel_rfl) (by kernel_rfl) Try.underlying28 1 (by kernel_rfl) (by omega) ⟨b19, o20 + i * 1, none⟩ (addr_atK _ _ _ _))) ?_
          refine seq_run (v := .slice (As i) ((ls.getD i []).length) (cs i)) (by decide) (by kernel_rfl) (fun w' M' => (run_load_cell 39 (.tmp 27) rfl ⟨b19, o20 + i * 1, none⟩ (by kernel_rfl) _ ((hP.rd.keep M'.keep (fun _ _ h => h)).cellF eA21 (f := 0) (pvs_get ls As cs i (by omega))) (by kernel_rfl))) ?_
          refine seq_run (v := .int .i64 (((ls.getD i []).length : Nat) : Int)) (by decide) (by kernel_rfl) (fun w' M' => (by kernel_rfl)) ?_
          refine seq_run (v := .slice A ls.length c) (by decide) (by kernel_rfl) (fun w' M' => (by kernel_rfl)) ?_
          obtain ⟨b22, o23, eA24⟩ := RdK.addr (hP.rd.keep M14.keep (fun _ _ h => h)) (j := 0 * 1) (by rw [pvs_length]; omega)
          refine seq_run (v := .pointer (some ⟨b22, o23 + 0 * 1, none⟩)) (by decide) (by kernel_rfl) (fun w' M' => (run_indexSliceA 28 (.tmp 30) _ rfl A ⟨b22, o23, none⟩ eA24 ls.length c .i64 0 (by kernel_rfl) (by kernel_rfl) Try.underlying28 1 (by kernel_rfl) (by omega) ⟨b22, o23 + 0 * 1, none⟩ (addr_atK _ _ _ _))) ?_
          refine seq_run (v := .slice (As 0) ((ls.getD 0 []).length) (cs 0)) (by decide) (by kernel_rfl) (fun w' M' => (run_load_cell 39 (.tmp 31) rfl ⟨b22, o23 + 0 * 1, none⟩ (by kernel_rfl) _ ((hP.rd.keep M'.keep (fun _ _ h => h)).cellF eA24 (f := 0) (pvs_get ls As cs 0 (by omega))) (by kernel_rfl))) ?_
          refine seq_run (v := .int .i64 (((ls.getD 0 []).length : Nat) : Int)) (by decide) (by kernel_rfl) (fun w' M' => (by kernel_rfl)) ?_
          rcases Decidable.em (((((ls.getD i []).length : Nat) : Int) : Int) = (((ls.getD 0 []).length : Nat) : Int)) with c34 | c34
          ·
            refine seq_run (v := .bool false) (by decide) (by kernel_rfl) (fun w' M' => (bool_of (neq_f c34) (by kernel_rfl))) ?_
            refine seq_end (by decide) ?_
            intro W25 M26
            refine wl_nil ?_
            refine hK18 _ _ ?_
            try clear hK18 K18
            refine wp_frame (a' := ⟨#[.slice A ls.length c, undef, (u12 2), .int .i64 ((i : Nat) : Int), .slice A ls.length c, .int .i64 ((ls.length : Nat) : Int), .bool false, .bool false, .slice A ls.length c, .int .i64 ((ls.length : Nat) : Int), .bool false, .bool false, .bool false, .slice A ls.length c, .pointer (some ⟨b6, o7 + 0 * 1, none⟩), .slice (As 0) ((ls.getD 0 []).length) (cs 0), .int .i64 (((ls.getD 0 []).length : Nat) : Int), .bool false, .bool false, .int .i64 ((i : Nat) : Int), .slice A ls.length c, .int .i64 ((ls.length : Nat) : Int), .bool true, (u12 23), (u12 24), .slice A ls.length c, .int .i64 ((i : Nat) : Int), .pointer (some ⟨b19, o20 + i * 1, none⟩), .slice (As i) ((ls.getD i []).length) (cs i), .int .i64 (((ls.getD i []).length : Nat) : Int), .slice A ls.length c, .pointer (some ⟨b22, o23 + 0 * 1, none⟩), .slice (As 0) ((ls.getD 0 []).length) (cs 0), .int .i64 (((ls.getD 0 []).length : Nat) : Int), .bool false], []⟩) (by kernel_rfl) ?_
            refine wp_cond_false (by kernel_rfl) ?_
            refine wp_skip ?_
            refine blk_normal ?_
            refine hK17 _ _ ?_
            try clear hK17 K17
            refine wl_region ?_
            refine st_val (.int .i64 ((i : Nat) : Int)) (by kernel_rfl) (by kernel_rfl) ?_
            refine st_val (.int .i64 (((i : Nat) : Int) + 1)) (by kernel_rfl) (i64_of (by omega) (by kernel_rfl)) ?_
            refine st_val (.int .i64 (((i : Nat) : Int) + 1)) (by kernel_rfl) (by kernel_rfl) ?_
            refine wl_nil ?_
            refine th_normal ?_
            exact ⟨_, by omega, (i + 1), (fun zz => Array.getD #[.slice A ls.length c, undef, (u12 2), .int .i64 (((i : Nat) : Int) + 1), .slice A ls.length c, .int .i64 ((ls.length : Nat) : Int), .bool false, .bool false, .slice A ls.length c, .int .i64 ((ls.length : Nat) : Int), .bool false, .bool false, .bool false, .slice A ls.length c, .pointer (some ⟨b6, o7 + 0 * 1, none⟩), .slice (As 0) ((ls.getD 0 []).length) (cs 0), .int .i64 (((ls.getD 0 []).length : Nat) : Int), .bool false, .bool false, .int .i64 ((i : Nat) : Int), .slice A ls.length c, .int .i64 ((ls.length : Nat) : Int), .bool true, .int .i64 ((i : Nat) : Int), .int .i64 (((i : Nat) : Int) + 1), .slice A ls.length c, .int .i64 ((i : Nat) : Int), .pointer (some ⟨b19, o20 + i * 1, none⟩), .slice (As i) ((ls.getD i []).length) (cs i), .int .i64 (((ls.getD i []).length : Nat) : Int), .slice A ls.length c, .pointer (some ⟨b22, o23 + 0 * 1, none⟩), .slice (As 0) ((ls.getD 0 []).length) (cs 0), .int .i64 (((ls.getD 0 []).length : Nat) : Int), .bool false] zz undef), ⟨⟨by omega, fun j h => by by_cases e : j = i; subst e; omega; exact hj j (by omega)⟩, M26⟩, rfl, (by kernel_rfl)⟩
          ·
            refine seq_run (v := .bool true) (by decide) (by kernel_rfl) (fun w' M' => (bool_of (neq_t c34) (by kernel_rfl))) ?_
            refine seq_end (by decide) ?_
            intro W27 M28
            refine wl_nil ?_
            refine hK18 _ _ ?_
            try clear hK18 K18
            refine wp_frame (a' := ⟨#[.slice A ls.length c, undef, (u12 2), .int .i64 ((i : Nat) : Int), .slice A ls.length c, .int .i64 ((ls.length : Nat) : Int), .bool false, .bool false, .slice A ls.length c, .int .i64 ((ls.length : Nat) : Int), .bool false, .bool false, .bool false, .slice A ls.length c, .pointer (some ⟨b6, o7 + 0 * 1, none⟩), .slice (As 0) ((ls.getD 0 []).length) (cs 0), .int .i64 (((ls.getD 0 []).length : Nat) : Int), .bool false, .bool false, .int .i64 ((i : Nat) : Int), .slice A ls.length c, .int .i64 ((ls.length : Nat) : Int), .bool true, (u12 23), (u12 24), .slice A ls.length c, .int .i64 ((i : Nat) : Int), .pointer (some ⟨b19, o20 + i * 1, none⟩), .slice (As i) ((ls.getD i []).length) (cs i), .int .i64 (((ls.getD i []).length : Nat) : Int), .slice A ls.length c, .pointer (some ⟨b22, o23 + 0 * 1, none⟩), .slice (As 0) ((ls.getD 0 []).length) (cs 0), .int .i64 (((ls.getD 0 []).length : Nat) : Int), .bool true], []⟩) (by kernel_rfl) ?_
            refine wp_cond_true (by kernel_rfl) ?_
            refine wp_seq_k (fun K29 hK29 => ?_)
            refine wl_region ?_
            refine st_val (.bool false) (by kernel_rfl) (by kernel_rfl) ?_
            refine wl_nil ?_
            refine hK29 _ _ ?_
            try clear hK29 K29
            refine wp_ret ?_
            refine blk_ret ?_
            refine th_ret ?_
            refine th_ret ?_
            refine blk_ret ?_
            refine th_ret ?_
            exact done1 2 (.bool false) (by kernel_rfl) (by kernel_rfl) (by kernel_rfl) ⟨by first | rw [ppB_f (fun h => by have := h.1.1; have := h.1.2; omega)] | rw [ppB_f (fun h => by have := h.2.1; omega)] | rw [ppB_f (fun h => by have := h.2.2 i (by omega); omega)], M28.toBelow⟩
        ·
          refine st_val (.bool false) (by kernel_rfl) (bool_of (dec_f c22) (by kernel_rfl)) ?_
          refine wl_nil ?_
          refine hK16 _ _ ?_
          try clear hK16 K16
          refine wp_cond_false (by kernel_rfl) ?_
          refine wp_exit ?_
          refine th_exit ?_
          refine th_exit ?_
          refine blk_exit ?_
          refine hK10 _ _ ?_
          try clear hK10 K10
          refine wp_seq_k (fun K30 hK30 => ?_)
          refine wl_region ?_
          refine st_val (.bool true) (by kernel_rfl) (by kernel_rfl) ?_
          refine wl_nil ?_
          refine hK30 _ _ ?_
          try clear hK30 K30
          refine wp_ret ?_
          exact done1 2 (.bool true) (by kernel_rfl) (by kernel_rfl) (by kernel_rfl) ⟨by rw [ppB_t ⟨⟨by omega, by omega⟩, by omega, fun j h => hj j (by omega)⟩], M14.toBelow⟩
end Go.Proofs.Ytmimljaniliecaa
