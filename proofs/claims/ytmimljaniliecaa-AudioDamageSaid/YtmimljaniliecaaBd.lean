/- A block that is whole. -/
import Derived.Test.YtmimljaniliecaaSc
namespace Go.Proofs.Ytmimljaniliecaa
open Go.RowKit Bt
set_option maxHeartbeats 4000000 in
set_option maxRecDepth 100000 in
theorem equal_walk (w : World) (v v' : Value) (l m : List Nat) (hr : RdK w v l.length (u8s l)) (hq : RdK w v' m.length (u8s m)) (hl9 : l.length ≤ 1000000000) : Calls Try.prog 55 #[v, v'] w fun e w' => e = .returned (.bool (decide (l = m))) ∧ Below w.heap.size w w' := by
  obtain ⟨A, c, rfl, hc⟩ := hr.shape
  obtain ⟨B, d, rfl, hd⟩ := hq.shape
  refine calls_of_wp Try.func55 rfl ?_
  refine wp_frame (a' := ⟨#[.slice A l.length c, .slice B m.length d, undef, undef, undef, undef, undef, undef, undef, undef, undef, undef, undef, undef, undef, undef, undef, undef, undef, undef, undef, undef, undef, undef, undef, undef], []⟩) (by kernel_rfl) ?_
  have M0 : Mem NoS w w [] := Mem.start _ _
  refine wp_seq_k (fun K1 hK1 => ?_)
  refine wl_region ?_
  refine st_val (.bool false) (by kernel_rfl) (by kernel_rfl) ?_
  refine wl_nil ?_
  refine hK1 _ _ ?_
  try clear hK1 K1
  refine wp_seq_k (fun K2 hK2 => ?_)
  refine wp_seq_k (fun K3 hK3 => ?_)
  refine wl_region ?_
  refine st_val (.slice A l.length c) (by kernel_rfl) (by kernel_rfl) ?_
  refine st_val (.int .i64 ((l.length : Nat) : Int)) (by kernel_rfl) (by kernel_rfl) ?_
  refine st_val (.slice B m.length d) (by kernel_rfl) (by kernel_rfl) ?_
  refine st_val (.int .i64 ((m.length : Nat) : Int)) (by kernel_rfl) (by kernel_rfl) ?_
  rcases Decidable.em ((((l.length : Nat) : Int) : Int) = ((m.length : Nat) : Int)) with c10 | c10
  ·
    refine st_val (.bool false) (by kernel_rfl) (bool_of (neq_f c10) (by kernel_rfl)) ?_
    refine wl_nil ?_
    refine hK3 _ _ ?_
    try clear hK3 K3
    refine wp_cond_false (by kernel_rfl) ?_
    refine wp_skip ?_
    refine hK2 _ _ ?_
    try clear hK2 K2
    refine wp_seq_k (fun K4 hK4 => ?_)
    refine wp_seq_k (fun K5 hK5 => ?_)
    refine wl_region ?_
    refine st_val (.slice A l.length c) (by kernel_rfl) (by kernel_rfl) ?_
    refine st_val (.int .i64 ((l.length : Nat) : Int)) (by kernel_rfl) (by kernel_rfl) ?_
    refine st_val (.int .i64 0) (by kernel_rfl) (by kernel_rfl) ?_
    refine wl_nil ?_
    refine hK5 _ _ ?_
    try clear hK5 K5
    refine wp_block ?_
    refine wp_loop_ghost (fun gn a' w' => ∃ (i : Nat) (u6 : Nat → Value), ((i ≤ l.length ∧ ∀ j, j < i → l.getD j 0 = m.getD j 0) ∧ Mem NoS w w' []) ∧ gn = l.length - i ∧ a' = ⟨#[.slice A l.length c, .slice B m.length d, undef, undef, (u6 4), (u6 5), .slice A l.length c, .int .i64 ((l.length : Nat) : Int), .slice B m.length d, .int .i64 ((m.length : Nat) : Int), .bool false, .slice A l.length c, .int .i64 ((l.length : Nat) : Int), .int .i64 ((i : Nat) : Int), (u6 14), (u6 15), (u6 16), (u6 17), (u6 18), (u6 19), (u6 20), (u6 21), (u6 22), (u6 23), (u6 24), (u6 25)], []⟩) _ ⟨0, (fun zz => Array.getD #[.slice A l.length c, .slice B m.length d, undef, undef, .bool false, undef, .slice A l.length c, .int .i64 ((l.length : Nat) : Int), .slice B m.length d, .int .i64 ((m.length : Nat) : Int), .bool false, .slice A l.length c, .int .i64 ((l.length : Nat) : Int), .int .i64 0, undef, undef, undef, undef, undef, undef, undef, undef, undef, undef, undef, undef] zz undef), ⟨⟨by omega, fun j hj => by omega⟩, M0⟩, rfl, (by kernel_rfl)⟩ ?_
    rintro gn _ W7 ⟨i, u6, ⟨⟨ri, hj⟩, M8⟩, rfl, rfl⟩
    refine wp_seq_k (fun K9 hK9 => ?_)
    refine wl_region ?_
    rcases Decidable.em ((((i : Nat) : Int) : Int) < ((l.length : Nat) : Int)) with c14 | c14
    ·
      refine st_val (.bool true) (by kernel_rfl) (bool_of (dec_t c14) (by kernel_rfl)) ?_
      refine wl_nil ?_
      refine hK9 _ _ ?_
      try clear hK9 K9
      refine wp_seq_k (fun K10 hK10 => ?_)
      refine wp_cond_true (by kernel_rfl) ?_
      refine wp_skip ?_
      refine hK10 _ _ ?_
      try clear hK10 K10
      refine wp_seq_k (fun K11 hK11 => ?_)
      refine wp_block ?_
      refine wp_seq_k (fun K12 hK12 => ?_)
      refine wl_region ?_
      refine st_val (.int .i64 ((i : Nat) : Int)) (by kernel_rfl) (by kernel_rfl) ?_
      refine st_val (.int .i64 ((i : Nat) : Int)) (by kernel_rfl) (by kernel_rfl) ?_
      refine wl_nil ?_
      refine hK12 _ _ ?_
      try clear hK12 K12
      refine wp_seq_k (fun K13 hK13 => ?_)
      refine wl_seq 9 (fun w' => Mem NoS w w' []) (by decide) (by kernel_rfl) (by kernel_rfl) M8.drew ?_
      refine seq_run (v := .slice A l.length c) (by decide) (by kernel_rfl) (fun w' M' => (by kernel_rfl)) ?_
      refine seq_run (v := .int .i64 ((i : Nat) : Int)) (by decide) (by kernel_rfl) (fun w' M' => (by kernel_rfl)) ?_
      obtain ⟨b14, o15, eA16⟩ := RdK.addr (hr.keep M8.keep (fun _ _ h => h)) (j := i * 1) (by rw [u8s_length]; omega)
      refine seq_run (v := .pointer (some ⟨b14, o15 + i * 1, none⟩)) (by decide) (by kernel_rfl) (fun w' M' => (run_indexSliceA 22 (.tmp 16) (.tmp 17) rfl A ⟨b14, o15, none⟩ eA16 l.length c .i64 i (by kernel_rfl) (by kernel_rfl) Try.underlying22 1 (by kernel_rfl) (by omega) ⟨b14, o15 + i * 1, none⟩ (addr_atK _ _ _ _))) ?_
      refine seq_run (v := .int .u8 ((l.getD i 0 : Nat) : Int)) (by decide) (by kernel_rfl) (fun w' M' => (run_load_cell 5 (.tmp 18) rfl ⟨b14, o15 + i * 1, none⟩ (by kernel_rfl) _ ((hr.keep M'.keep (fun _ _ h => h)).cellF eA16 (f := 0) (u8s_get l i (by omega))) (by kernel_rfl))) ?_
      refine seq_run (v := .slice B m.length d) (by decide) (by kernel_rfl) (fun w' M' => (by kernel_rfl)) ?_
      refine seq_run (v := .int .i64 ((i : Nat) : Int)) (by decide) (by kernel_rfl) (fun w' M' => (by kernel_rfl)) ?_
      obtain ⟨b17, o18, eA19⟩ := RdK.addr (hq.keep M8.keep (fun _ _ h => h)) (j := i * 1) (by rw [u8s_length]; omega)
      refine seq_run (v := .pointer (some ⟨b17, o18 + i * 1, none⟩)) (by decide) (by kernel_rfl) (fun w' M' => (run_indexSliceA 22 (.tmp 20) (.tmp 21) rfl B ⟨b17, o18, none⟩ eA19 m.length d .i64 i (by kernel_rfl) (by kernel_rfl) Try.underlying22 1 (by kernel_rfl) (by omega) ⟨b17, o18 + i * 1, none⟩ (addr_atK _ _ _ _))) ?_
      refine seq_run (v := .int .u8 ((m.getD i 0 : Nat) : Int)) (by decide) (by kernel_rfl) (fun w' M' => (run_load_cell 5 (.tmp 22) rfl ⟨b17, o18 + i * 1, none⟩ (by kernel_rfl) _ ((hq.keep M'.keep (fun _ _ h => h)).cellF eA19 (f := 0) (u8s_get m i (by omega))) (by kernel_rfl))) ?_
      rcases Decidable.em ((((l.getD i 0 : Nat) : Int) : Int) = ((m.getD i 0 : Nat) : Int)) with c24 | c24
      ·
        refine seq_run (v := .bool false) (by decide) (by kernel_rfl) (fun w' M' => (bool_of (neq_f c24) (by kernel_rfl))) ?_
        refine seq_end (by decide) ?_
        intro W20 M21
        refine wl_nil ?_
        refine hK13 _ _ ?_
        try clear hK13 K13
        refine wp_cond_false (by kernel_rfl) ?_
        refine wp_skip ?_
        refine blk_normal ?_
        refine hK11 _ _ ?_
        try clear hK11 K11
        refine wl_region ?_
        refine st_val (.int .i64 (((i : Nat) : Int) + 1)) (by kernel_rfl) (i64_of (by omega) (by kernel_rfl)) ?_
        refine st_val (.int .i64 (((i : Nat) : Int) + 1)) (by kernel_rfl) (by kernel_rfl) ?_
        refine wl_nil ?_
        refine th_normal ?_
        exact ⟨_, by omega, (i + 1), (fun zz => Array.getD #[.slice A l.length c, .slice B m.length d, undef, undef, (u6 4), .int .i64 ((i : Nat) : Int), .slice A l.length c, .int .i64 ((l.length : Nat) : Int), .slice B m.length d, .int .i64 ((m.length : Nat) : Int), .bool false, .slice A l.length c, .int .i64 ((l.length : Nat) : Int), .int .i64 (((i : Nat) : Int) + 1), .bool true, .int .i64 ((i : Nat) : Int), .slice A l.length c, .int .i64 ((i : Nat) : Int), .pointer (some ⟨b14, o15 + i * 1, none⟩), .int .u8 ((l.getD i 0 : Nat) : Int), .slice B m.length d, .int .i64 ((i : Nat) : Int), .pointer (some ⟨b17, o18 + i * 1, none⟩), .int .u8 ((m.getD i 0 : Nat) : Int), .bool false, .int .i64 (((i : Nat) : Int) + 1)] zz undef), ⟨⟨by omega, fun j h => by by_cases e : j = i; rw [e]; omega; exact hj j (by omega)⟩, M21⟩, rfl, (by kernel_rfl)⟩
      ·
        refine seq_run (v := .bool true) (by decide) (by kernel_rfl) (fun w' M' => (bool_of (neq_t c24) (by kernel_rfl))) ?_
        refine seq_end (by decide) ?_
        intro W22 M23
        refine wl_nil ?_
        refine hK13 _ _ ?_
        try clear hK13 K13
        refine wp_cond_true (by kernel_rfl) ?_
        refine wp_seq_k (fun K24 hK24 => ?_)
        refine wl_region ?_
        refine st_val (.bool false) (by kernel_rfl) (by kernel_rfl) ?_
        refine wl_nil ?_
        refine hK24 _ _ ?_
        try clear hK24 K24
        refine wp_frame (a' := ⟨#[.slice A l.length c, .slice B m.length d, undef, undef, .bool false, .int .i64 ((i : Nat) : Int), .slice A l.length c, .int .i64 ((l.length : Nat) : Int), .slice B m.length d, .int .i64 ((m.length : Nat) : Int), .bool false, .slice A l.length c, .int .i64 ((l.length : Nat) : Int), .int .i64 ((i : Nat) : Int), .bool true, .int .i64 ((i : Nat) : Int), .slice A l.length c, .int .i64 ((i : Nat) : Int), .pointer (some ⟨b14, o15 + i * 1, none⟩), .int .u8 ((l.getD i 0 : Nat) : Int), .slice B m.length d, .int .i64 ((i : Nat) : Int), .pointer (some ⟨b17, o18 + i * 1, none⟩), .int .u8 ((m.getD i 0 : Nat) : Int), .bool true, (u6 25)], []⟩) (by kernel_rfl) ?_
        refine wp_ret ?_
        refine blk_ret ?_
        refine th_ret ?_
        refine th_ret ?_
        refine blk_ret ?_
        refine th_ret ?_
        exact done1 4 (.bool false) (by kernel_rfl) (by kernel_rfl) (by kernel_rfl) ⟨by rw [decide_eq_false (fun h => by subst h; omega)], M23.toBelow⟩
    ·
      refine st_val (.bool false) (by kernel_rfl) (bool_of (dec_f c14) (by kernel_rfl)) ?_
      refine wl_nil ?_
      refine hK9 _ _ ?_
      try clear hK9 K9
      refine wp_seq_k (fun K25 hK25 => ?_)
      refine wp_cond_false (by kernel_rfl) ?_
      refine wp_exit ?_
      refine th_exit ?_
      refine th_exit ?_
      refine blk_exit ?_
      refine hK4 _ _ ?_
      try clear hK4 K4
      refine wp_seq_k (fun K26 hK26 => ?_)
      refine wl_region ?_
      refine st_val (.bool true) (by kernel_rfl) (by kernel_rfl) ?_
      refine wl_nil ?_
      refine hK26 _ _ ?_
      try clear hK26 K26
      refine wp_ret ?_
      exact done1 4 (.bool true) (by kernel_rfl) (by kernel_rfl) (by kernel_rfl) ⟨by rw [decide_eq_true (ext_getD (d := 0) (by omega) (fun j h => hj j (by omega)))], M8.toBelow⟩
  ·
    refine st_val (.bool true) (by kernel_rfl) (bool_of (neq_t c10) (by kernel_rfl)) ?_
    refine wl_nil ?_
    refine hK3 _ _ ?_
    try clear hK3 K3
    refine wp_cond_true (by kernel_rfl) ?_
    refine wp_seq_k (fun K27 hK27 => ?_)
    refine wl_region ?_
    refine st_val (.bool false) (by kernel_rfl) (by kernel_rfl) ?_
    refine wl_nil ?_
    refine hK27 _ _ ?_
    try clear hK27 K27
    refine wp_ret ?_
    refine th_ret ?_
    exact done1 4 (.bool false) (by kernel_rfl) (by kernel_rfl) (by kernel_rfl) ⟨by rw [decide_eq_false (fun h => by subst h; omega)], M0.toBelow⟩
set_option maxHeartbeats 4000000 in
set_option maxRecDepth 100000 in
theorem whole_walk (w : World) (v : Value) (l : List Nat) (hr : RdK w v l.length (u8s l)) (hb : ∀ x ∈ l, x < 256) (hlen : l.length ≤ 1000000) (ch n : Nat) (hch : 1 ≤ ch ∧ ch ≤ 4) (hn : n ≤ 1000000) : MakesRow Try.prog 56 #[v, .int .i64 (ch : Int), .int .i64 (n : Int)] w (fun v T => ∃ v1, v = .tuple #[v1, .bool (decide (whB l ch n))] ∧ OwnP v1 (whL l ch n) T) := by
  unfold MakesRow
  obtain ⟨A, c, rfl, hc⟩ := hr.shape
  have hbz := bsz_v hch
  obtain ⟨sz, hsz⟩ : ∃ sz : Nat, bsz (ch : Int) = (sz : Int) := ⟨(bsz (ch : Int)).toNat, by omega⟩
  have hszt : (bsz (ch : Int)).toNat = sz := by omega
  refine calls_of_wp Try.func56 rfl ?_
  refine wp_frame (a' := ⟨#[.slice A l.length c, .int .i64 ((ch : Nat) : Int), .int .i64 ((n : Nat) : Int), undef, undef, undef, undef, undef, undef, undef, undef, undef, undef, undef, undef, undef, undef, undef, undef, undef, undef, undef, undef, undef, undef, undef, undef, undef, undef, undef, undef, undef, undef, undef, undef, undef, undef, undef, undef, undef, undef], []⟩) (by kernel_rfl) ?_
  have M0 : Mem NoS w w [] := Mem.start _ _
  refine wp_seq_k (fun K1 hK1 => ?_)
  refine wl_region ?_
  refine st_val ((Go.Value.slice none 0 0)) (by kernel_rfl) (by kernel_rfl) ?_
  refine st_val (.bool false) (by kernel_rfl) (by kernel_rfl) ?_
  refine wl_nil ?_
  refine hK1 _ _ ?_
  try clear hK1 K1
  refine wp_scope_fwd 0 rfl ?_
  refine wp_seq_k (fun K2 hK2 => ?_)
  refine wl_region ?_
  refine st_val ((Go.Value.slice none 0 0)) (by kernel_rfl) (by kernel_rfl) ?_
  refine wl_nil ?_
  refine hK2 _ _ ?_
  try clear hK2 K2
  refine wp_seq_k (fun K3 hK3 => ?_)
  refine wl_region ?_
  refine st_val (.int .i64 0) (by kernel_rfl) (by kernel_rfl) ?_
  refine wl_nil ?_
  refine hK3 _ _ ?_
  try clear hK3 K3
  refine wp_seq_k (fun K4 hK4 => ?_)
  refine wl_region ?_
  refine st_val (.int .i64 ((ch : Nat) : Int)) (by kernel_rfl) (by kernel_rfl) ?_
  refine st_callB M0 (.int .i64 ((sz : Nat) : Int)) (by kernel_rfl) (args := #[.int .i64 ((ch : Nat) : Int)]) (run_value_call 15 #[(Operand.tmp 11)] _ rfl Try.func15 (by kernel_rfl) (by kernel_rfl) _ (by kernel_rfl)) ((by have := bsz_walk w (ch : Int); rw [hsz] at this; exact this)) ?_
  intro W5 M6
  refine st_val (.int .i64 ((sz : Nat) : Int)) (by kernel_rfl) (by kernel_rfl) ?_
  refine wl_nil ?_
  refine hK4 _ _ ?_
  try clear hK4 K4
  refine wp_seq_k (fun K7 hK7 => ?_)
  refine wp_seq_k (fun K8 hK8 => ?_)
  refine wl_region ?_
  refine st_val (.slice A l.length c) (by kernel_rfl) (by kernel_rfl) ?_
  refine st_val (.int .i64 ((l.length : Nat) : Int)) (by kernel_rfl) (by kernel_rfl) ?_
  refine st_val (.int .i64 ((sz : Nat) : Int)) (by kernel_rfl) (by kernel_rfl) ?_
  rcases Decidable.em ((((l.length : Nat) : Int) : Int) < ((sz : Nat) : Int)) with c16 | c16
  ·
    refine st_val (.bool true) (by kernel_rfl) (bool_of (dec_t c16) (by kernel_rfl)) ?_
    refine wl_nil ?_
    refine hK8 _ _ ?_
    try clear hK8 K8
    refine wp_cond_true (by kernel_rfl) ?_
    refine wp_goto ?_
    refine th_goto ?_
    refine sc_goto ?_
    refine wp_seq_k (fun K9 hK9 => ?_)
    refine wp_skip ?_
    refine hK9 _ _ ?_
    try clear hK9 K9
    refine wp_seq_k (fun K10 hK10 => ?_)
    refine wl_region ?_
    refine st_val ((Go.Value.slice none 0 0)) (by kernel_rfl) (by kernel_rfl) ?_
    refine st_val (.bool false) (by kernel_rfl) (by kernel_rfl) ?_
    refine wl_nil ?_
    refine hK10 _ _ ?_
    try clear hK10 K10
    refine wp_frame (a' := ⟨#[.slice A l.length c, .int .i64 ((ch : Nat) : Int), .int .i64 ((n : Nat) : Int), undef, undef, undef, (Go.Value.slice none 0 0), .bool false, (Go.Value.slice none 0 0), .int .i64 0, .int .i64 ((sz : Nat) : Int), .int .i64 ((ch : Nat) : Int), .int .i64 ((sz : Nat) : Int), .slice A l.length c, .int .i64 ((l.length : Nat) : Int), .int .i64 ((sz : Nat) : Int), .bool true, undef, undef, undef, undef, undef, undef, undef, undef, undef, undef, undef, undef, undef, undef, undef, undef, undef, undef, undef, undef, undef, undef, undef, undef], []⟩) (by kernel_rfl) ?_
    refine wp_ret ?_
    refine ng_ret ?_
    have hxx : whB l ch n ↔ (bsz (ch : Int) ≤ ((l.length : Nat) : Int) ∧ tbE (sl l 0 (sz - 0)) = 0 ∧ (tbL (sl l 0 (sz - 0))).length = ch ∧ ((tbL (sl l 0 (sz - 0))).getD 0 []).length = n) := by unfold whB; rw [hszt]
    have hwh : ¬ whB l ch n := fun h => by have h := hxx.1 h; have h1 := h.1; have h2 := h.2.1; have h3 := h.2.2.1; have h4 := h.2.2.2; omega
    exact done2 6 7 ((Go.Value.slice none 0 0)) (.bool false) (by kernel_rfl) (by kernel_rfl) (by kernel_rfl) (by kernel_rfl) ⟨_, [], rfl, ⟨_, by rw [decide_eq_false hwh], by rw [wh_f hwh]; exact OwnP.nil⟩, M6.sub (List.nil_sublist _)⟩
  ·
    refine st_val (.bool false) (by kernel_rfl) (bool_of (dec_f c16) (by kernel_rfl)) ?_
    refine wl_nil ?_
    refine hK8 _ _ ?_
    try clear hK8 K8
    refine wp_cond_false (by kernel_rfl) ?_
    refine wp_skip ?_
    refine hK7 _ _ ?_
    try clear hK7 K7
    refine wp_seq_k (fun K11 hK11 => ?_)
    refine wl_region ?_
    refine st_val (.slice A l.length c) (by kernel_rfl) (by kernel_rfl) ?_
    refine st_val (.int .i64 ((sz : Nat) : Int)) (by kernel_rfl) (by kernel_rfl) ?_
    refine st_val (.slice (subA A c 0) (sz - 0) (c - 0)) (by kernel_rfl) (run_sub_hi 22 5 (.tmp 18) (.tmp 19) rfl Try.underlying22 (by kernel_rfl) A l.length c (by kernel_rfl) .i64 sz (by kernel_rfl) (by omega)) ?_
    refine st_callR (A := []) (B := []) M6 (by kernel_rfl) (run_value_call 17 #[(Operand.tmp 20)] _ rfl Try.func17 (by kernel_rfl) (by kernel_rfl) _ (by kernel_rfl)) (takeB_walk W5 (.slice (subA A c 0) (sz - 0) (c - 0)) (sl l 0 (sz - 0)) ((by rw [sl_len (by omega)]; exact (rdk_sl (hr.keep M6.keep (fun _ _ h => h)) rfl (by omega) (lo := 0) (hi := sz) (by omega) (by omega)))) (sl_lt hb _ _) (by rw [sl_len (by omega)]; omega)) ?_
    intro v12 T13 W14 O15 M16
    have M16 : Mem NoS w W14 ((T13 ++ [])) := M16
    obtain ⟨v17, rfl, O18⟩ := O15
    obtain ⟨As19, cs20, To21, Ts22, O23, OI24, eT25⟩ := O18
    obtain ⟨A26, cq27, rfl, hc28⟩ := O23.shape
    refine st_val (.tuple #[.slice A26 ((tbL (sl l 0 (sz - 0))).length) cq27, .int .i64 (tbE (sl l 0 (sz - 0)))]) (by kernel_rfl) (by kernel_rfl) ?_
    refine st_val (.slice A26 ((tbL (sl l 0 (sz - 0))).length) cq27) (by kernel_rfl) (by kernel_rfl) ?_
    refine st_val (.int .i64 (tbE (sl l 0 (sz - 0)))) (by kernel_rfl) (by kernel_rfl) ?_
    refine st_val (.slice A26 ((tbL (sl l 0 (sz - 0))).length) cq27) (by kernel_rfl) (by kernel_rfl) ?_
    refine st_val (.int .i64 (tbE (sl l 0 (sz - 0)))) (by kernel_rfl) (by kernel_rfl) ?_
    refine wl_nil ?_
    refine hK11 _ _ ?_
    try clear hK11 K11
    refine wp_frame (a' := ⟨#[.slice A l.length c, .int .i64 ((ch : Nat) : Int), .int .i64 ((n : Nat) : Int), undef, undef, undef, (Go.Value.slice none 0 0), .bool false, .slice A26 ((tbL (sl l 0 (sz - 0))).length) cq27, .int .i64 (tbE (sl l 0 (sz - 0))), .int .i64 ((sz : Nat) : Int), .int .i64 ((ch : Nat) : Int), .int .i64 ((sz : Nat) : Int), .slice A l.length c, .int .i64 ((l.length : Nat) : Int), .int .i64 ((sz : Nat) : Int), .bool false, .tuple #[.slice A26 ((tbL (sl l 0 (sz - 0))).length) cq27, .int .i64 (tbE (sl l 0 (sz - 0)))], .slice A l.length c, .int .i64 ((sz : Nat) : Int), .slice (subA A c 0) (sz - 0) (c - 0), .tuple #[.slice A26 ((tbL (sl l 0 (sz - 0))).length) cq27, .int .i64 (tbE (sl l 0 (sz - 0)))], .slice A26 ((tbL (sl l 0 (sz - 0))).length) cq27, .int .i64 (tbE (sl l 0 (sz - 0))), undef, undef, undef, undef, undef, undef, undef, undef, undef, undef, undef, undef, undef, undef, undef, undef, undef], []⟩) (by kernel_rfl) ?_
    refine wp_seq_k (fun K29 hK29 => ?_)
    refine wp_seq_k (fun K30 hK30 => ?_)
    refine wl_region ?_
    refine st_val (.int .i64 (tbE (sl l 0 (sz - 0)))) (by kernel_rfl) (by kernel_rfl) ?_
    rcases Decidable.em ((tbE (sl l 0 (sz - 0)) : Int) = 0) with c25 | c25
    ·
      refine st_val (.bool false) (by kernel_rfl) (bool_of (neq_f c25) (by kernel_rfl)) ?_
      refine st_val (.bool false) (by kernel_rfl) (by kernel_rfl) ?_
      refine st_val (.slice A26 ((tbL (sl l 0 (sz - 0))).length) cq27) (by kernel_rfl) (by kernel_rfl) ?_
      refine st_val (.int .i64 (((tbL (sl l 0 (sz - 0))).length : Nat) : Int)) (by kernel_rfl) (by kernel_rfl) ?_
      refine st_val (.int .i64 ((ch : Nat) : Int)) (by kernel_rfl) (by kernel_rfl) ?_
      rcases Decidable.em (((((tbL (sl l 0 (sz - 0))).length : Nat) : Int) : Int) = ((ch : Nat) : Int)) with c30 | c30
      ·
        refine st_val (.bool false) (by kernel_rfl) (bool_of (neq_f c30) (by kernel_rfl)) ?_
        refine st_val (.bool false) (by kernel_rfl) (by kernel_rfl) ?_
        refine st_val (.bool false) (by kernel_rfl) (by kernel_rfl) ?_
        refine st_val (.slice A26 ((tbL (sl l 0 (sz - 0))).length) cq27) (by kernel_rfl) (by kernel_rfl) ?_
        obtain ⟨b31, o32, eA33⟩ := RdK.addr ((rdP_of O23 OI24 (fun p hp => M16.at_ p ((List.mem_append_left _ (by rw [eT25]; exact List.mem_append_left _ hp)))) (fun p hp => M16.at_ p ((List.mem_append_left _ (by rw [eT25]; exact List.mem_append_right _ hp))))).rd) (j := 0 * 1) (by rw [pvs_length]; omega)
        refine st_val (.pointer (some ⟨b31, o32 + 0 * 1, none⟩)) (by kernel_rfl) (run_indexSliceA 28 (.tmp 33) _ rfl A26 ⟨b31, o32, none⟩ eA33 ((tbL (sl l 0 (sz - 0))).length) cq27 .i64 0 (by kernel_rfl) (by kernel_rfl) Try.underlying28 1 (by kernel_rfl) (by omega) ⟨b31, o32 + 0 * 1, none⟩ (addr_atK _ _ _ _)) ?_
        refine st_val (.slice (As19 0) (((tbL (sl l 0 (sz - 0))).getD 0 []).length) (cs20 0)) (by kernel_rfl) (run_load_cell 39 (.tmp 34) rfl ⟨b31, o32 + 0 * 1, none⟩ (by kernel_rfl) _ (((rdP_of O23 OI24 (fun p hp => M16.at_ p ((List.mem_append_left _ (by rw [eT25]; exact List.mem_append_left _ hp)))) (fun p hp => M16.at_ p ((List.mem_append_left _ (by rw [eT25]; exact List.mem_append_right _ hp))))).rd).cellF eA33 (f := 0) (pvs_get (tbL (sl l 0 (sz - 0))) As19 cs20 0 (by omega))) (by kernel_rfl)) ?_
        refine st_val (.int .i64 ((((tbL (sl l 0 (sz - 0))).getD 0 []).length : Nat) : Int)) (by kernel_rfl) (by kernel_rfl) ?_
        refine st_val (.int .i64 ((n : Nat) : Int)) (by kernel_rfl) (by kernel_rfl) ?_
        rcases Decidable.em ((((((tbL (sl l 0 (sz - 0))).getD 0 []).length : Nat) : Int) : Int) = ((n : Nat) : Int)) with c38 | c38
        ·
          refine st_val (.bool false) (by kernel_rfl) (bool_of (neq_f c38) (by kernel_rfl)) ?_
          refine st_val (.bool false) (by kernel_rfl) (by kernel_rfl) ?_
          refine wl_nil ?_
          refine hK30 _ _ ?_
          try clear hK30 K30
          refine wp_frame (a' := ⟨#[.slice A l.length c, .int .i64 ((ch : Nat) : Int), .int .i64 ((n : Nat) : Int), undef, undef, undef, (Go.Value.slice none 0 0), .bool false, .slice A26 ((tbL (sl l 0 (sz - 0))).length) cq27, .int .i64 (tbE (sl l 0 (sz - 0))), .int .i64 ((sz : Nat) : Int), .int .i64 ((ch : Nat) : Int), .int .i64 ((sz : Nat) : Int), .slice A l.length c, .int .i64 ((l.length : Nat) : Int), .int .i64 ((sz : Nat) : Int), .bool false, .tuple #[.slice A26 ((tbL (sl l 0 (sz - 0))).length) cq27, .int .i64 (tbE (sl l 0 (sz - 0)))], .slice A l.length c, .int .i64 ((sz : Nat) : Int), .slice (subA A c 0) (sz - 0) (c - 0), .tuple #[.slice A26 ((tbL (sl l 0 (sz - 0))).length) cq27, .int .i64 (tbE (sl l 0 (sz - 0)))], .slice A26 ((tbL (sl l 0 (sz - 0))).length) cq27, .int .i64 (tbE (sl l 0 (sz - 0))), .int .i64 (tbE (sl l 0 (sz - 0))), .bool false, .bool false, .slice A26 ((tbL (sl l 0 (sz - 0))).length) cq27, .int .i64 (((tbL (sl l 0 (sz - 0))).length : Nat) : Int), .int .i64 ((ch : Nat) : Int), .bool false, .bool false, .bool false, .slice A26 ((tbL (sl l 0 (sz - 0))).length) cq27, .pointer (some ⟨b31, o32 + 0 * 1, none⟩), .slice (As19 0) (((tbL (sl l 0 (sz - 0))).getD 0 []).length) (cs20 0), .int .i64 ((((tbL (sl l 0 (sz - 0))).getD 0 []).length : Nat) : Int), .int .i64 ((n : Nat) : Int), .bool false, .bool false, undef], []⟩) (by kernel_rfl) ?_
          refine wp_cond_false (by kernel_rfl) ?_
          refine wp_skip ?_
          refine hK29 _ _ ?_
          try clear hK29 K29
          refine wp_seq_k (fun K34 hK34 => ?_)
          refine wp_seq_k (fun K35 hK35 => ?_)
          refine wl_region ?_
          refine st_val (.slice A26 ((tbL (sl l 0 (sz - 0))).length) cq27) (by kernel_rfl) (by kernel_rfl) ?_
          refine st_val (.slice A26 ((tbL (sl l 0 (sz - 0))).length) cq27) (by kernel_rfl) (by kernel_rfl) ?_
          refine st_val (.bool true) (by kernel_rfl) (by kernel_rfl) ?_
          refine wl_nil ?_
          refine hK35 _ _ ?_
          try clear hK35 K35
          refine wp_ret ?_
          refine th_ret ?_
          refine sc_ret ?_
          have hxx : whB l ch n ↔ (bsz (ch : Int) ≤ ((l.length : Nat) : Int) ∧ tbE (sl l 0 (sz - 0)) = 0 ∧ (tbL (sl l 0 (sz - 0))).length = ch ∧ ((tbL (sl l 0 (sz - 0))).getD 0 []).length = n) := by unfold whB; rw [hszt]
          have hwh : whB l ch n := hxx.2 ⟨by omega, by omega, by omega, by omega⟩
          exact done2 6 7 (.slice A26 ((tbL (sl l 0 (sz - 0))).length) cq27) (.bool true) (by kernel_rfl) (by kernel_rfl) (by kernel_rfl) (by kernel_rfl) ⟨_, T13, rfl, ⟨_, by rw [decide_eq_true hwh], by rw [wh_t hwh, hszt]; exact ⟨_, _, _, _, O23, OI24, eT25⟩⟩, M16.sub (List.sublist_append_left T13 [])⟩
        ·
          refine st_val (.bool true) (by kernel_rfl) (bool_of (neq_t c38) (by kernel_rfl)) ?_
          refine st_val (.bool true) (by kernel_rfl) (by kernel_rfl) ?_
          refine wl_nil ?_
          refine hK30 _ _ ?_
          try clear hK30 K30
          refine wp_frame (a' := ⟨#[.slice A l.length c, .int .i64 ((ch : Nat) : Int), .int .i64 ((n : Nat) : Int), undef, undef, undef, (Go.Value.slice none 0 0), .bool false, .slice A26 ((tbL (sl l 0 (sz - 0))).length) cq27, .int .i64 (tbE (sl l 0 (sz - 0))), .int .i64 ((sz : Nat) : Int), .int .i64 ((ch : Nat) : Int), .int .i64 ((sz : Nat) : Int), .slice A l.length c, .int .i64 ((l.length : Nat) : Int), .int .i64 ((sz : Nat) : Int), .bool false, .tuple #[.slice A26 ((tbL (sl l 0 (sz - 0))).length) cq27, .int .i64 (tbE (sl l 0 (sz - 0)))], .slice A l.length c, .int .i64 ((sz : Nat) : Int), .slice (subA A c 0) (sz - 0) (c - 0), .tuple #[.slice A26 ((tbL (sl l 0 (sz - 0))).length) cq27, .int .i64 (tbE (sl l 0 (sz - 0)))], .slice A26 ((tbL (sl l 0 (sz - 0))).length) cq27, .int .i64 (tbE (sl l 0 (sz - 0))), .int .i64 (tbE (sl l 0 (sz - 0))), .bool false, .bool false, .slice A26 ((tbL (sl l 0 (sz - 0))).length) cq27, .int .i64 (((tbL (sl l 0 (sz - 0))).length : Nat) : Int), .int .i64 ((ch : Nat) : Int), .bool false, .bool false, .bool false, .slice A26 ((tbL (sl l 0 (sz - 0))).length) cq27, .pointer (some ⟨b31, o32 + 0 * 1, none⟩), .slice (As19 0) (((tbL (sl l 0 (sz - 0))).getD 0 []).length) (cs20 0), .int .i64 ((((tbL (sl l 0 (sz - 0))).getD 0 []).length : Nat) : Int), .int .i64 ((n : Nat) : Int), .bool true, .bool true, undef], []⟩) (by kernel_rfl) ?_
          refine wp_cond_true (by kernel_rfl) ?_
          refine wp_goto ?_
          refine th_goto ?_
          refine sc_goto ?_
          refine wp_seq_k (fun K36 hK36 => ?_)
          refine wp_skip ?_
          refine hK36 _ _ ?_
          try clear hK36 K36
          refine wp_seq_k (fun K37 hK37 => ?_)
          refine wl_region ?_
          refine st_val ((Go.Value.slice none 0 0)) (by kernel_rfl) (by kernel_rfl) ?_
          refine st_val (.bool false) (by kernel_rfl) (by kernel_rfl) ?_
          refine wl_nil ?_
          refine hK37 _ _ ?_
          try clear hK37 K37
          refine wp_ret ?_
          refine ng_ret ?_
          have hxx : whB l ch n ↔ (bsz (ch : Int) ≤ ((l.length : Nat) : Int) ∧ tbE (sl l 0 (sz - 0)) = 0 ∧ (tbL (sl l 0 (sz - 0))).length = ch ∧ ((tbL (sl l 0 (sz - 0))).getD 0 []).length = n) := by unfold whB; rw [hszt]
          have hwh : ¬ whB l ch n := fun h => by have h := hxx.1 h; have h1 := h.1; have h2 := h.2.1; have h3 := h.2.2.1; have h4 := h.2.2.2; omega
          exact done2 6 7 ((Go.Value.slice none 0 0)) (.bool false) (by kernel_rfl) (by kernel_rfl) (by kernel_rfl) (by kernel_rfl) ⟨_, [], rfl, ⟨_, by rw [decide_eq_false hwh], by rw [wh_f hwh]; exact OwnP.nil⟩, M16.sub (List.nil_sublist _)⟩
      ·
        refine st_val (.bool true) (by kernel_rfl) (bool_of (neq_t c30) (by kernel_rfl)) ?_
        refine st_val (.bool true) (by kernel_rfl) (by kernel_rfl) ?_
        refine st_val (.bool true) (by kernel_rfl) (by kernel_rfl) ?_
        refine st_skip (by kernel_rfl) ?_
        refine st_skip (by kernel_rfl) ?_
        refine st_skip (by kernel_rfl) ?_
        refine st_skip (by kernel_rfl) ?_
        refine st_skip (by kernel_rfl) ?_
        refine st_skip (by kernel_rfl) ?_
        refine st_val (.bool true) (by kernel_rfl) (by kernel_rfl) ?_
        refine wl_nil ?_
        refine hK30 _ _ ?_
        try clear hK30 K30
        refine wp_frame (a' := ⟨#[.slice A l.length c, .int .i64 ((ch : Nat) : Int), .int .i64 ((n : Nat) : Int), undef, undef, undef, (Go.Value.slice none 0 0), .bool false, .slice A26 ((tbL (sl l 0 (sz - 0))).length) cq27, .int .i64 (tbE (sl l 0 (sz - 0))), .int .i64 ((sz : Nat) : Int), .int .i64 ((ch : Nat) : Int), .int .i64 ((sz : Nat) : Int), .slice A l.length c, .int .i64 ((l.length : Nat) : Int), .int .i64 ((sz : Nat) : Int), .bool false, .tuple #[.slice A26 ((tbL (sl l 0 (sz - 0))).length) cq27, .int .i64 (tbE (sl l 0 (sz - 0)))], .slice A l.length c, .int .i64 ((sz : Nat) : Int), .slice (subA A c 0) (sz - 0) (c - 0), .tuple #[.slice A26 ((tbL (sl l 0 (sz - 0))).length) cq27, .int .i64 (tbE (sl l 0 (sz - 0)))], .slice A26 ((tbL (sl l 0 (sz - 0))).length) cq27, .int .i64 (tbE (sl l 0 (sz - 0))), .int .i64 (tbE (sl l 0 (sz - 0))), .bool false, .bool false, .slice A26 ((tbL (sl l 0 (sz - 0))).length) cq27, .int .i64 (((tbL (sl l 0 (sz - 0))).length : Nat) : Int), .int .i64 ((ch : Nat) : Int), .bool true, .bool true, .bool true, undef, undef, undef, undef, undef, undef, .bool true, undef], []⟩) (by kernel_rfl) ?_
        refine wp_cond_true (by kernel_rfl) ?_
        refine wp_goto ?_
        refine th_goto ?_
        refine sc_goto ?_
        refine wp_seq_k (fun K38 hK38 => ?_)
        refine wp_skip ?_
        refine hK38 _ _ ?_
        try clear hK38 K38
        refine wp_seq_k (fun K39 hK39 => ?_)
        refine wl_region ?_
        refine st_val ((Go.Value.slice none 0 0)) (by kernel_rfl) (by kernel_rfl) ?_
        refine st_val (.bool false) (by kernel_rfl) (by kernel_rfl) ?_
        refine wl_nil ?_
        refine hK39 _ _ ?_
        try clear hK39 K39
        refine wp_ret ?_
        refine ng_ret ?_
        have hxx : whB l ch n ↔ (bsz (ch : Int) ≤ ((l.length : Nat) : Int) ∧ tbE (sl l 0 (sz - 0)) = 0 ∧ (tbL (sl l 0 (sz - 0))).length = ch ∧ ((tbL (sl l 0 (sz - 0))).getD 0 []).length = n) := by unfold whB; rw [hszt]
        have hwh : ¬ whB l ch n := fun h => by have h := hxx.1 h; have h1 := h.1; have h2 := h.2.1; have h3 := h.2.2.1; have h4 := h.2.2.2; omega
        exact done2 6 7 ((Go.Value.slice none 0 0)) (.bool false) (by kernel_rfl) (by kernel_rfl) (by kernel_rfl) (by kernel_rfl) ⟨_, [], rfl, ⟨_, by rw [decide_eq_false hwh], by rw [wh_f hwh]; exact OwnP.nil⟩, M16.sub (List.nil_sublist _)⟩
    ·
      refine st_val (.bool true) (by kernel_rfl) (bool_of (neq_t c25) (by kernel_rfl)) ?_
      refine st_val (.bool true) (by kernel_rfl) (by kernel_rfl) ?_
      refine st_skip (by kernel_rfl) ?_
      refine st_skip (by kernel_rfl) ?_
      refine st_skip (by kernel_rfl) ?_
      refine st_skip (by kernel_rfl) ?_
      refine st_val (.bool true) (by kernel_rfl) (by kernel_rfl) ?_
      refine st_val (.bool true) (by kernel_rfl) (by kernel_rfl) ?_
      refine st_skip (by kernel_rfl) ?_
      refine st_skip (by kernel_rfl) ?_
      refine st_skip (by kernel_rfl) ?_
      refine st_skip (by kernel_rfl) ?_
      refine st_skip (by kernel_rfl) ?_
      refine st_skip (by kernel_rfl) ?_
      refine st_val (.bool true) (by kernel_rfl) (by kernel_rfl) ?_
      refine wl_nil ?_
      refine hK30 _ _ ?_
      try clear hK30 K30
      refine wp_frame (a' := ⟨#[.slice A l.length c, .int .i64 ((ch : Nat) : Int), .int .i64 ((n : Nat) : Int), undef, undef, undef, (Go.Value.slice none 0 0), .bool false, .slice A26 ((tbL (sl l 0 (sz - 0))).length) cq27, .int .i64 (tbE (sl l 0 (sz - 0))), .int .i64 ((sz : Nat) : Int), .int .i64 ((ch : Nat) : Int), .int .i64 ((sz : Nat) : Int), .slice A l.length c, .int .i64 ((l.length : Nat) : Int), .int .i64 ((sz : Nat) : Int), .bool false, .tuple #[.slice A26 ((tbL (sl l 0 (sz - 0))).length) cq27, .int .i64 (tbE (sl l 0 (sz - 0)))], .slice A l.length c, .int .i64 ((sz : Nat) : Int), .slice (subA A c 0) (sz - 0) (c - 0), .tuple #[.slice A26 ((tbL (sl l 0 (sz - 0))).length) cq27, .int .i64 (tbE (sl l 0 (sz - 0)))], .slice A26 ((tbL (sl l 0 (sz - 0))).length) cq27, .int .i64 (tbE (sl l 0 (sz - 0))), .int .i64 (tbE (sl l 0 (sz - 0))), .bool true, .bool true, undef, undef, undef, undef, .bool true, .bool true, undef, undef, undef, undef, undef, undef, .bool true, undef], []⟩) (by kernel_rfl) ?_
      refine wp_cond_true (by kernel_rfl) ?_
      refine wp_goto ?_
      refine th_goto ?_
      refine sc_goto ?_
      refine wp_seq_k (fun K40 hK40 => ?_)
      refine wp_skip ?_
      refine hK40 _ _ ?_
      try clear hK40 K40
      refine wp_seq_k (fun K41 hK41 => ?_)
      refine wl_region ?_
      refine st_val ((Go.Value.slice none 0 0)) (by kernel_rfl) (by kernel_rfl) ?_
      refine st_val (.bool false) (by kernel_rfl) (by kernel_rfl) ?_
      refine wl_nil ?_
      refine hK41 _ _ ?_
      try clear hK41 K41
      refine wp_ret ?_
      refine ng_ret ?_
      have hxx : whB l ch n ↔ (bsz (ch : Int) ≤ ((l.length : Nat) : Int) ∧ tbE (sl l 0 (sz - 0)) = 0 ∧ (tbL (sl l 0 (sz - 0))).length = ch ∧ ((tbL (sl l 0 (sz - 0))).getD 0 []).length = n) := by unfold whB; rw [hszt]
      have hwh : ¬ whB l ch n := fun h => by have h := hxx.1 h; have h1 := h.1; have h2 := h.2.1; have h3 := h.2.2.1; have h4 := h.2.2.2; omega
      exact done2 6 7 ((Go.Value.slice none 0 0)) (.bool false) (by kernel_rfl) (by kernel_rfl) (by kernel_rfl) (by kernel_rfl) ⟨_, [], rfl, ⟨_, by rw [decide_eq_false hwh], by rw [wh_f hwh]; exact OwnP.nil⟩, M16.sub (List.nil_sublist _)⟩
end Go.Proofs.Ytmimljaniliecaa
