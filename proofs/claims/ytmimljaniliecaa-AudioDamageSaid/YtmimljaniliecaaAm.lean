/- Blocks are decoded. -/
import Derived.Test.YtmimljaniliecaaAl
namespace Go.Proofs.Ytmimljaniliecaa
open Go.RowKit Bt

theorem flatT_snoc {Ts : Nat → List (Nat × Obj)} {ls : List (List Int)} {T : List (Nat × Obj)} {i : Nat} (h : ls.length = i) : flatT (setF Ts ls.length T) (i + 1) = flatT Ts i ++ T := by
  subst h
  show flatT _ _ ++ setF _ _ _ _ = _
  rw [flatT_set _ _ _ _ (Nat.le_refl _), setF_eq]

theorem bsz_v {n : Nat} (h : 1 ≤ n ∧ n ≤ 4) : bsz (n : Int) = 4 + 292 * (n : Int) / 8 + 1 := by unfold bsz; omega
theorem tbA_len {l : List Nat} (h : tbA l) : 41 ≤ l.length ∧ l.length ≤ 151 := by
  obtain ⟨_, h1, _, h3⟩ := h
  rw [bsz_v h1] at h3
  omega

theorem getDb_lt {l : List Nat} (h : ∀ x ∈ l, x < 256) (i : Nat) : l.getD i 0 < 256 := by
  rw [List.getD_eq_getElem?_getD]
  cases e : l[i]? with
  | none => simp
  | some x => simpa using h x (List.mem_of_getElem? e)
set_option maxHeartbeats 4000000 in
set_option maxRecDepth 100000 in
theorem takeB_walk (w : World) (v : Value) (l : List Nat) (hr : RdK w v l.length (u8s l)) (hb : ∀ x ∈ l, x < 256) (hlen : l.length ≤ 1000000) : MakesRow Try.prog 17 #[v] w (fun v T => ∃ v1, v = .tuple #[v1, .int .i64 (tbE l)] ∧ OwnP v1 (tbL l) T) := by
  unfold MakesRow
  obtain ⟨A, c, rfl, hc⟩ := hr.shape
  refine calls_of_wp Try.func17 rfl ?_
  refine wp_frame (a' := ⟨#[.slice A l.length c, undef, undef, undef, undef, undef, undef, undef, undef, undef, undef, undef, undef, undef, undef, undef, undef, undef, undef, undef, undef, undef, undef, undef, undef, undef, undef, undef, undef, undef, undef, undef, undef, undef, undef, undef, undef, undef, undef, undef, undef, undef, undef, undef, undef, undef, undef, undef, undef, undef, undef, undef, undef, undef, undef, undef, undef, undef, undef, undef, undef, undef, undef, undef, undef, undef, undef, undef, undef, undef, undef, undef, undef, undef, undef, undef, undef, undef, undef, undef], []⟩) (by kernel_rfl) ?_
  have M0 : Mem NoS w w [] := Mem.start _ _
  refine wp_seq_k (fun K1 hK1 => ?_)
  refine wl_region ?_
  refine st_val ((Go.Value.slice none 0 0)) (by kernel_rfl) (by kernel_rfl) ?_
  refine st_val (.int .i64 0) (by kernel_rfl) (by kernel_rfl) ?_
  refine wl_nil ?_
  refine hK1 _ _ ?_
  try clear hK1 K1
  refine wp_seq_k (fun K2 hK2 => ?_)
  refine wp_seq_k (fun K3 hK3 => ?_)
  refine wl_region ?_
  refine st_val (.slice A l.length c) (by kernel_rfl) (by kernel_rfl) ?_
  refine st_val (.int .i64 ((l.length : Nat) : Int)) (by kernel_rfl) (by kernel_rfl) ?_
  rcases Decidable.em ((((l.length : Nat) : Int) : Int) < 2) with c13 | c13
  ·
    refine st_val (.bool true) (by kernel_rfl) (bool_of (dec_t c13) (by kernel_rfl)) ?_
    refine wl_nil ?_
    refine hK3 _ _ ?_
    try clear hK3 K3
    refine wp_cond_true (by kernel_rfl) ?_
    refine wp_seq_k (fun K4 hK4 => ?_)
    refine wl_region ?_
    refine st_val ((Go.Value.slice none 0 0)) (by kernel_rfl) (by kernel_rfl) ?_
    refine st_val (.int .i64 3) (by kernel_rfl) (by kernel_rfl) ?_
    refine wl_nil ?_
    refine hK4 _ _ ?_
    try clear hK4 K4
    refine wp_ret ?_
    refine th_ret ?_
    have hte := tb_a (l := l) (fun h => by have h1 := h.1; have h2 := h.2.1; have h3 := h.2.2.1; have h4 := h.2.2.2; first | omega | exact hmn ⟨by omega, by omega⟩)
    exact done2 2 3 ((Go.Value.slice none 0 0)) (.int .i64 3) (by kernel_rfl) (by kernel_rfl) (by kernel_rfl) (by kernel_rfl) ⟨_, [], rfl, ⟨_, by rw [hte.1], by rw [hte.2]; exact OwnP.nil⟩, M0.sub (List.nil_sublist _)⟩
  ·
    refine st_val (.bool false) (by kernel_rfl) (bool_of (dec_f c13) (by kernel_rfl)) ?_
    refine wl_nil ?_
    refine hK3 _ _ ?_
    try clear hK3 K3
    refine wp_cond_false (by kernel_rfl) ?_
    refine wp_skip ?_
    refine hK2 _ _ ?_
    try clear hK2 K2
    refine wp_seq_k (fun K5 hK5 => ?_)
    have hb0 := getDb_lt hb 0
    have hb1 := getDb_lt hb 1
    refine wl_seq 10 (fun w' => Mem NoS w w' []) (by decide) (by kernel_rfl) (by kernel_rfl) M0.drew ?_
    refine seq_run (v := .slice A l.length c) (by decide) (by kernel_rfl) (fun w' M' => (by kernel_rfl)) ?_
    obtain ⟨b6, o7, eA8⟩ := RdK.addr (hr.keep M0.keep (fun _ _ h => h)) (j := 0 * 1) (by rw [u8s_length]; omega)
    refine seq_run (v := .pointer (some ⟨b6, o7 + 0 * 1, none⟩)) (by decide) (by kernel_rfl) (fun w' M' => (run_indexSliceA 22 (.tmp 14) _ rfl A ⟨b6, o7, none⟩ eA8 l.length c .i64 0 (by kernel_rfl) (by kernel_rfl) Try.underlying22 1 (by kernel_rfl) (by omega) ⟨b6, o7 + 0 * 1, none⟩ (addr_atK _ _ _ _))) ?_
    refine seq_run (v := .int .u8 ((l.getD 0 0 : Nat) : Int)) (by decide) (by kernel_rfl) (fun w' M' => (run_load_cell 5 (.tmp 15) rfl ⟨b6, o7 + 0 * 1, none⟩ (by kernel_rfl) _ ((hr.keep M'.keep (fun _ _ h => h)).cellF eA8 (f := 0) (u8s_get l 0 (by omega))) (by kernel_rfl))) ?_
    refine seq_run (v := .int .i64 ((l.getD 0 0 : Nat) : Int)) (by decide) (by kernel_rfl) (fun w' M' => (i64_of (by omega) (by kernel_rfl))) ?_
    refine seq_run (v := .slice A l.length c) (by decide) (by kernel_rfl) (fun w' M' => (by kernel_rfl)) ?_
    obtain ⟨b9, o10, eA11⟩ := RdK.addr (hr.keep M0.keep (fun _ _ h => h)) (j := 1 * 1) (by rw [u8s_length]; omega)
    refine seq_run (v := .pointer (some ⟨b9, o10 + 1 * 1, none⟩)) (by decide) (by kernel_rfl) (fun w' M' => (run_indexSliceA 22 (.tmp 18) _ rfl A ⟨b9, o10, none⟩ eA11 l.length c .i64 1 (by kernel_rfl) (by kernel_rfl) Try.underlying22 1 (by kernel_rfl) (by omega) ⟨b9, o10 + 1 * 1, none⟩ (addr_atK _ _ _ _))) ?_
    refine seq_run (v := .int .u8 ((l.getD 1 0 : Nat) : Int)) (by decide) (by kernel_rfl) (fun w' M' => (run_load_cell 5 (.tmp 19) rfl ⟨b9, o10 + 1 * 1, none⟩ (by kernel_rfl) _ ((hr.keep M'.keep (fun _ _ h => h)).cellF eA11 (f := 0) (u8s_get l 1 (by omega))) (by kernel_rfl))) ?_
    refine seq_run (v := .int .i64 ((l.getD 1 0 : Nat) : Int)) (by decide) (by kernel_rfl) (fun w' M' => (i64_of (by omega) (by kernel_rfl))) ?_
    refine seq_run (v := .int .i64 ((l.getD 0 0 : Nat) : Int)) (by decide) (by kernel_rfl) (fun w' M' => (by kernel_rfl)) ?_
    refine seq_run (v := .int .i64 ((l.getD 1 0 : Nat) : Int)) (by decide) (by kernel_rfl) (fun w' M' => (by kernel_rfl)) ?_
    refine seq_end (by decide) ?_
    intro W12 M13
    refine wl_nil ?_
    refine hK5 _ _ ?_
    try clear hK5 K5
    refine wp_frame (a' := ⟨#[.slice A l.length c, undef, (Go.Value.slice none 0 0), .int .i64 0, .int .i64 ((l.getD 0 0 : Nat) : Int), .int .i64 ((l.getD 1 0 : Nat) : Int), undef, undef, undef, undef, undef, .slice A l.length c, .int .i64 ((l.length : Nat) : Int), .bool false, .slice A l.length c, .pointer (some ⟨b6, o7 + 0 * 1, none⟩), .int .u8 ((l.getD 0 0 : Nat) : Int), .int .i64 ((l.getD 0 0 : Nat) : Int), .slice A l.length c, .pointer (some ⟨b9, o10 + 1 * 1, none⟩), .int .u8 ((l.getD 1 0 : Nat) : Int), .int .i64 ((l.getD 1 0 : Nat) : Int), undef, undef, undef, undef, undef, undef, undef, undef, undef, undef, undef, undef, undef, undef, undef, undef, undef, undef, undef, undef, undef, undef, undef, undef, undef, undef, undef, undef, undef, undef, undef, undef, undef, undef, undef, undef, undef, undef, undef, undef, undef, undef, undef, undef, undef, undef, undef, undef, undef, undef, undef, undef, undef, undef, undef, undef, undef, undef], []⟩) (by kernel_rfl) ?_
    refine wp_seq_k (fun K14 hK14 => ?_)
    refine wp_block ?_
    refine wp_seq_k (fun K15 hK15 => ?_)
    refine wl_region ?_
    refine st_val (.int .i64 ((l.getD 0 0 : Nat) : Int)) (by kernel_rfl) (by kernel_rfl) ?_
    rcases Bool.eq_false_or_eq_true (mayC ((l.getD 0 0 : Nat) : Int)) with hmc | hmc
    ·
      obtain ⟨hm1, hm2⟩ := of_decide_eq_true hmc
      refine st_callB M13 (.bool true) (by kernel_rfl) (args := #[.int .i64 ((l.getD 0 0 : Nat) : Int)]) (run_value_call 32 #[(Operand.tmp 23)] _ rfl Try.func32 (by kernel_rfl) (by kernel_rfl) _ (by kernel_rfl)) ((by have := mayC_walk W12 ((l.getD 0 0 : Nat) : Int); rw [hmc] at this; exact this)) ?_
      intro W16 M17
      refine st_val (.bool false) (by kernel_rfl) (by kernel_rfl) ?_
      refine st_val (.bool false) (by kernel_rfl) (by kernel_rfl) ?_
      refine st_val (.int .i64 ((l.getD 1 0 : Nat) : Int)) (by kernel_rfl) (by kernel_rfl) ?_
      rcases Decidable.em ((((l.getD 1 0 : Nat) : Int) : Int) < 1) with c28 | c28
      ·
        refine st_val (.bool true) (by kernel_rfl) (bool_of (dec_t c28) (by kernel_rfl)) ?_
        refine st_val (.bool true) (by kernel_rfl) (by kernel_rfl) ?_
        refine st_val (.bool true) (by kernel_rfl) (by kernel_rfl) ?_
        refine st_skip (by kernel_rfl) ?_
        refine st_skip (by kernel_rfl) ?_
        refine st_val (.bool true) (by kernel_rfl) (by kernel_rfl) ?_
        refine st_val (.bool true) (by kernel_rfl) (by kernel_rfl) ?_
        refine st_skip (by kernel_rfl) ?_
        refine st_skip (by kernel_rfl) ?_
        refine st_skip (by kernel_rfl) ?_
        refine st_skip (by kernel_rfl) ?_
        refine st_skip (by kernel_rfl) ?_
        refine st_val (.bool true) (by kernel_rfl) (by kernel_rfl) ?_
        refine st_val (.bool true) (by kernel_rfl) (by kernel_rfl) ?_
        refine wl_nil ?_
        refine hK15 _ _ ?_
        try clear hK15 K15
        refine wp_frame (a' := ⟨#[.slice A l.length c, undef, (Go.Value.slice none 0 0), .int .i64 0, .int .i64 ((l.getD 0 0 : Nat) : Int), .int .i64 ((l.getD 1 0 : Nat) : Int), undef, undef, undef, undef, undef, .slice A l.length c, .int .i64 ((l.length : Nat) : Int), .bool false, .slice A l.length c, .pointer (some ⟨b6, o7 + 0 * 1, none⟩), .int .u8 ((l.getD 0 0 : Nat) : Int), .int .i64 ((l.getD 0 0 : Nat) : Int), .slice A l.length c, .pointer (some ⟨b9, o10 + 1 * 1, none⟩), .int .u8 ((l.getD 1 0 : Nat) : Int), .int .i64 ((l.getD 1 0 : Nat) : Int), .bool true, .int .i64 ((l.getD 0 0 : Nat) : Int), .bool true, .bool false, .bool false, .int .i64 ((l.getD 1 0 : Nat) : Int), .bool true, .bool true, .bool true, undef, undef, .bool true, .bool true, undef, undef, undef, undef, undef, .bool true, undef, undef, undef, undef, undef, undef, undef, undef, undef, undef, undef, undef, undef, undef, undef, undef, undef, undef, undef, undef, undef, undef, undef, undef, undef, undef, undef, undef, undef, undef, undef, undef, undef, undef, undef, undef, undef, undef, undef], []⟩) (by kernel_rfl) ?_
        refine wp_cond_true (by kernel_rfl) ?_
        refine wp_seq_k (fun K18 hK18 => ?_)
        refine wl_region ?_
        refine st_val ((Go.Value.slice none 0 0)) (by kernel_rfl) (by kernel_rfl) ?_
        refine st_val (.int .i64 3) (by kernel_rfl) (by kernel_rfl) ?_
        refine wl_nil ?_
        refine hK18 _ _ ?_
        try clear hK18 K18
        refine wp_ret ?_
        refine blk_ret ?_
        refine th_ret ?_
        have hte := tb_a (l := l) (fun h => by have h1 := h.1; have h2 := h.2.1; have h3 := h.2.2.1; have h4 := h.2.2.2; first | omega | exact hmn ⟨by omega, by omega⟩)
        exact done2 2 3 ((Go.Value.slice none 0 0)) (.int .i64 3) (by kernel_rfl) (by kernel_rfl) (by kernel_rfl) (by kernel_rfl) ⟨_, [], rfl, ⟨_, by rw [hte.1], by rw [hte.2]; exact OwnP.nil⟩, M17.sub (List.nil_sublist _)⟩
      ·
        refine st_val (.bool false) (by kernel_rfl) (bool_of (dec_f c28) (by kernel_rfl)) ?_
        refine st_val (.bool false) (by kernel_rfl) (by kernel_rfl) ?_
        refine st_val (.bool false) (by kernel_rfl) (by kernel_rfl) ?_
        refine st_val (.int .i64 ((l.getD 1 0 : Nat) : Int)) (by kernel_rfl) (by kernel_rfl) ?_
        rcases Decidable.em ((((l.getD 1 0 : Nat) : Int) : Int) > 32) with c32 | c32
        ·
          refine st_val (.bool true) (by kernel_rfl) (bool_of (dec_t c32) (by kernel_rfl)) ?_
          refine st_val (.bool true) (by kernel_rfl) (by kernel_rfl) ?_
          refine st_val (.bool true) (by kernel_rfl) (by kernel_rfl) ?_
          refine st_skip (by kernel_rfl) ?_
          refine st_skip (by kernel_rfl) ?_
          refine st_skip (by kernel_rfl) ?_
          refine st_skip (by kernel_rfl) ?_
          refine st_skip (by kernel_rfl) ?_
          refine st_val (.bool true) (by kernel_rfl) (by kernel_rfl) ?_
          refine st_val (.bool true) (by kernel_rfl) (by kernel_rfl) ?_
          refine wl_nil ?_
          refine hK15 _ _ ?_
          try clear hK15 K15
          refine wp_frame (a' := ⟨#[.slice A l.length c, undef, (Go.Value.slice none 0 0), .int .i64 0, .int .i64 ((l.getD 0 0 : Nat) : Int), .int .i64 ((l.getD 1 0 : Nat) : Int), undef, undef, undef, undef, undef, .slice A l.length c, .int .i64 ((l.length : Nat) : Int), .bool false, .slice A l.length c, .pointer (some ⟨b6, o7 + 0 * 1, none⟩), .int .u8 ((l.getD 0 0 : Nat) : Int), .int .i64 ((l.getD 0 0 : Nat) : Int), .slice A l.length c, .pointer (some ⟨b9, o10 + 1 * 1, none⟩), .int .u8 ((l.getD 1 0 : Nat) : Int), .int .i64 ((l.getD 1 0 : Nat) : Int), .bool true, .int .i64 ((l.getD 0 0 : Nat) : Int), .bool true, .bool false, .bool false, .int .i64 ((l.getD 1 0 : Nat) : Int), .bool false, .bool false, .bool false, .int .i64 ((l.getD 1 0 : Nat) : Int), .bool true, .bool true, .bool true, undef, undef, undef, undef, undef, .bool true, undef, undef, undef, undef, undef, undef, undef, undef, undef, undef, undef, undef, undef, undef, undef, undef, undef, undef, undef, undef, undef, undef, undef, undef, undef, undef, undef, undef, undef, undef, undef, undef, undef, undef, undef, undef, undef, undef, undef], []⟩) (by kernel_rfl) ?_
          refine wp_cond_true (by kernel_rfl) ?_
          refine wp_seq_k (fun K19 hK19 => ?_)
          refine wl_region ?_
          refine st_val ((Go.Value.slice none 0 0)) (by kernel_rfl) (by kernel_rfl) ?_
          refine st_val (.int .i64 3) (by kernel_rfl) (by kernel_rfl) ?_
          refine wl_nil ?_
          refine hK19 _ _ ?_
          try clear hK19 K19
          refine wp_ret ?_
          refine blk_ret ?_
          refine th_ret ?_
          have hte := tb_a (l := l) (fun h => by have h1 := h.1; have h2 := h.2.1; have h3 := h.2.2.1; have h4 := h.2.2.2; first | omega | exact hmn ⟨by omega, by omega⟩)
          exact done2 2 3 ((Go.Value.slice none 0 0)) (.int .i64 3) (by kernel_rfl) (by kernel_rfl) (by kernel_rfl) (by kernel_rfl) ⟨_, [], rfl, ⟨_, by rw [hte.1], by rw [hte.2]; exact OwnP.nil⟩, M17.sub (List.nil_sublist _)⟩
        ·
          refine st_val (.bool false) (by kernel_rfl) (bool_of (dec_f c32) (by kernel_rfl)) ?_
          refine st_val (.bool false) (by kernel_rfl) (by kernel_rfl) ?_
          refine st_val (.bool false) (by kernel_rfl) (by kernel_rfl) ?_
          refine st_val (.slice A l.length c) (by kernel_rfl) (by kernel_rfl) ?_
          refine st_val (.int .i64 ((l.length : Nat) : Int)) (by kernel_rfl) (by kernel_rfl) ?_
          refine st_val (.int .i64 ((l.getD 0 0 : Nat) : Int)) (by kernel_rfl) (by kernel_rfl) ?_
          refine st_callB M17 (.int .i64 (bsz ((l.getD 0 0 : Nat) : Int))) (by kernel_rfl) (args := #[.int .i64 ((l.getD 0 0 : Nat) : Int)]) (run_value_call 15 #[(Operand.tmp 37)] _ rfl Try.func15 (by kernel_rfl) (by kernel_rfl) _ (by kernel_rfl)) (bsz_walk W16 ((l.getD 0 0 : Nat) : Int)) ?_
          intro W20 M21
          rcases Decidable.em ((((l.length : Nat) : Int) : Int) = bsz ((l.getD 0 0 : Nat) : Int)) with c39 | c39
          ·
            refine st_val (.bool false) (by kernel_rfl) (bool_of (neq_f c39) (by kernel_rfl)) ?_
            refine st_val (.bool false) (by kernel_rfl) (by kernel_rfl) ?_
            refine st_val (.bool false) (by kernel_rfl) (by kernel_rfl) ?_
            refine wl_nil ?_
            refine hK15 _ _ ?_
            try clear hK15 K15
            refine wp_frame (a' := ⟨#[.slice A l.length c, undef, (Go.Value.slice none 0 0), .int .i64 0, .int .i64 ((l.getD 0 0 : Nat) : Int), .int .i64 ((l.getD 1 0 : Nat) : Int), undef, undef, undef, undef, undef, .slice A l.length c, .int .i64 ((l.length : Nat) : Int), .bool false, .slice A l.length c, .pointer (some ⟨b6, o7 + 0 * 1, none⟩), .int .u8 ((l.getD 0 0 : Nat) : Int), .int .i64 ((l.getD 0 0 : Nat) : Int), .slice A l.length c, .pointer (some ⟨b9, o10 + 1 * 1, none⟩), .int .u8 ((l.getD 1 0 : Nat) : Int), .int .i64 ((l.getD 1 0 : Nat) : Int), .bool false, .int .i64 ((l.getD 0 0 : Nat) : Int), .bool true, .bool false, .bool false, .int .i64 ((l.getD 1 0 : Nat) : Int), .bool false, .bool false, .bool false, .int .i64 ((l.getD 1 0 : Nat) : Int), .bool false, .bool false, .bool false, .slice A l.length c, .int .i64 ((l.length : Nat) : Int), .int .i64 ((l.getD 0 0 : Nat) : Int), .int .i64 (bsz ((l.getD 0 0 : Nat) : Int)), .bool false, .bool false, undef, undef, undef, undef, undef, undef, undef, undef, undef, undef, undef, undef, undef, undef, undef, undef, undef, undef, undef, undef, undef, undef, undef, undef, undef, undef, undef, undef, undef, undef, undef, undef, undef, undef, undef, undef, undef, undef, undef], []⟩) (by kernel_rfl) ?_
            refine wp_cond_false (by kernel_rfl) ?_
            refine wp_seq_k (fun K22 hK22 => ?_)
            have hA : tbA l := ⟨by omega, ⟨by omega, by omega⟩, ⟨by omega, by omega⟩, by omega⟩; have hsz := tbA_len hA
            refine wl_region ?_
            refine st_val (.slice A l.length c) (by kernel_rfl) (by kernel_rfl) ?_
            rcases Bool.eq_false_or_eq_true (intB l) with hit | hit
            ·
              refine st_callB M21 (.bool true) (by kernel_rfl) (args := #[.slice A l.length c]) (run_value_call 33 #[(Operand.tmp 42)] _ rfl Try.func33 (by kernel_rfl) (by kernel_rfl) _ (by kernel_rfl)) ((by have := intact_walk W20 (.slice A l.length c) l (hr.keep M21.keep (fun _ _ h => h)) hb (by omega) (by omega); rw [hit] at this; exact this)) ?_
              intro W23 M24
              refine st_val (.bool false) (by kernel_rfl) (by kernel_rfl) ?_
              refine st_val (.bool false) (by kernel_rfl) (by kernel_rfl) ?_
              refine wl_nil ?_
              refine hK22 _ _ ?_
              try clear hK22 K22
              refine wp_cond_false (by kernel_rfl) ?_
              refine wp_skip ?_
              refine blk_normal ?_
              refine hK14 _ _ ?_
              try clear hK14 K14
              refine wp_seq_k (fun K25 hK25 => ?_)
              refine wl_region ?_
              refine st_val (.slice A l.length c) (by kernel_rfl) (by kernel_rfl) ?_
              refine st_val (.slice A l.length c) (by kernel_rfl) (by kernel_rfl) ?_
              refine st_val (.int .i64 ((l.length : Nat) : Int)) (by kernel_rfl) (by kernel_rfl) ?_
              refine st_val (.int .i64 ((l.length - 2 : Nat) : Int)) (by kernel_rfl) (int_of (show ((l.length : Nat) : Int) - 2 = ((l.length - 2 : Nat) : Int) by omega) (i64_of (by omega) (by kernel_rfl))) ?_
              refine st_val (.slice (subA A c 2) ((l.length - 2) - 2) (c - 2)) (by kernel_rfl) (run_sub_lh 22 5 (.tmp 46) _ (.tmp 49) rfl Try.underlying22 (by kernel_rfl) A l.length c (by kernel_rfl) .i64 .i64 2 (l.length - 2) (by kernel_rfl) (by kernel_rfl) (by omega) (by omega)) ?_
              rcases Classical.em ((sl l 2 ((l.length - 2) - 2)) = [] ∨ (sl l 2 ((l.length - 2) - 2)).getD ((sl l 2 ((l.length - 2) - 2)).length - 1) 0 = 0) with hpb | hpb
              ·
                refine st_callB M24 (.tuple #[.pointer none, .int .i64 3]) (by kernel_rfl) (args := #[.slice (subA A c 2) ((l.length - 2) - 2) (c - 2)]) (run_value_call 34 #[(Operand.tmp 50)] _ rfl Try.func34 (by kernel_rfl) (by kernel_rfl) _ (by kernel_rfl)) (newReaderBadM W23 (.slice (subA A c 2) ((l.length - 2) - 2) (c - 2)) (sl l 2 ((l.length - 2) - 2)) ((by rw [sl_len (by omega)]; exact (rdk_sl (hr.keep M24.keep (fun _ _ h => h)) rfl (by omega) (lo := 2) (hi := (l.length - 2)) (by omega) (by omega)))) (by rw [sl_len (by omega)]; omega) hpb) ?_
                intro W26 M27
                refine st_val (.tuple #[.pointer none, .int .i64 3]) (by kernel_rfl) (by kernel_rfl) ?_
                refine st_val (.pointer none) (by kernel_rfl) (by kernel_rfl) ?_
                refine st_val (.int .i64 3) (by kernel_rfl) (by kernel_rfl) ?_
                refine st_val (.pointer none) (by kernel_rfl) (by kernel_rfl) ?_
                refine st_val (.int .i64 3) (by kernel_rfl) (by kernel_rfl) ?_
                refine wl_nil ?_
                refine hK25 _ _ ?_
                try clear hK25 K25
                refine wp_frame (a' := ⟨#[.slice A l.length c, undef, (Go.Value.slice none 0 0), .int .i64 0, .int .i64 ((l.getD 0 0 : Nat) : Int), .int .i64 ((l.getD 1 0 : Nat) : Int), .pointer none, .int .i64 3, undef, undef, undef, .slice A l.length c, .int .i64 ((l.length : Nat) : Int), .bool false, .slice A l.length c, .pointer (some ⟨b6, o7 + 0 * 1, none⟩), .int .u8 ((l.getD 0 0 : Nat) : Int), .int .i64 ((l.getD 0 0 : Nat) : Int), .slice A l.length c, .pointer (some ⟨b9, o10 + 1 * 1, none⟩), .int .u8 ((l.getD 1 0 : Nat) : Int), .int .i64 ((l.getD 1 0 : Nat) : Int), .bool false, .int .i64 ((l.getD 0 0 : Nat) : Int), .bool true, .bool false, .bool false, .int .i64 ((l.getD 1 0 : Nat) : Int), .bool false, .bool false, .bool false, .int .i64 ((l.getD 1 0 : Nat) : Int), .bool false, .bool false, .bool false, .slice A l.length c, .int .i64 ((l.length : Nat) : Int), .int .i64 ((l.getD 0 0 : Nat) : Int), .int .i64 (bsz ((l.getD 0 0 : Nat) : Int)), .bool false, .bool false, .bool false, .slice A l.length c, .bool true, .bool false, .tuple #[.pointer none, .int .i64 3], .slice A l.length c, .slice A l.length c, .int .i64 ((l.length : Nat) : Int), .int .i64 ((l.length - 2 : Nat) : Int), .slice (subA A c 2) ((l.length - 2) - 2) (c - 2), .tuple #[.pointer none, .int .i64 3], .pointer none, .int .i64 3, undef, undef, undef, undef, undef, undef, undef, undef, undef, undef, undef, undef, undef, undef, undef, undef, undef, undef, undef, undef, undef, undef, undef, undef, undef, undef], []⟩) (by kernel_rfl) ?_
                refine wp_seq_k (fun K28 hK28 => ?_)
                refine wp_seq_k (fun K29 hK29 => ?_)
                refine wl_region ?_
                refine st_val (.int .i64 3) (by kernel_rfl) (by kernel_rfl) ?_
                refine st_val (.bool true) (by kernel_rfl) (by kernel_rfl) ?_
                refine st_val (.bool true) (by kernel_rfl) (by kernel_rfl) ?_
                refine st_skip (by kernel_rfl) ?_
                refine st_skip (by kernel_rfl) ?_
                refine st_skip (by kernel_rfl) ?_
                refine st_skip (by kernel_rfl) ?_
                refine st_skip (by kernel_rfl) ?_
                refine st_val (.bool true) (by kernel_rfl) (by kernel_rfl) ?_
                refine wl_nil ?_
                refine hK29 _ _ ?_
                try clear hK29 K29
                refine wp_cond_true (by kernel_rfl) ?_
                refine wp_seq_k (fun K30 hK30 => ?_)
                refine wl_region ?_
                refine st_val ((Go.Value.slice none 0 0)) (by kernel_rfl) (by kernel_rfl) ?_
                refine st_val (.int .i64 3) (by kernel_rfl) (by kernel_rfl) ?_
                refine wl_nil ?_
                refine hK30 _ _ ?_
                try clear hK30 K30
                refine wp_ret ?_
                refine th_ret ?_
                have hte := tb_f hA hit (fun h => by first | exact h.1 hpb | (have h2 := h.2.1; rw [show tbP l = (sl l 2 (l.length - 2 - 2)) from rfl] at h2; omega))
                exact done2 2 3 ((Go.Value.slice none 0 0)) (.int .i64 3) (by kernel_rfl) (by kernel_rfl) (by kernel_rfl) (by kernel_rfl) ⟨_, [], rfl, ⟨_, by rw [hte.1], by rw [hte.2]; exact OwnP.nil⟩, M27.sub (List.nil_sublist _)⟩
              ·
                have hne := fun h => hpb (.inl h)
                have hla := fun h => hpb (.inr h)
                refine st_callR (A := []) (B := []) M24 (by kernel_rfl) (run_value_call 34 #[(Operand.tmp 50)] _ rfl Try.func34 (by kernel_rfl) (by kernel_rfl) _ (by kernel_rfl)) (newReaderM W23 (.slice (subA A c 2) ((l.length - 2) - 2) (c - 2)) (sl l 2 ((l.length - 2) - 2)) ((by rw [sl_len (by omega)]; exact (rdk_sl (hr.keep M24.keep (fun _ _ h => h)) rfl (by omega) (lo := 2) (hi := (l.length - 2)) (by omega) (by omega)))) (sl_lt hb _ _) (by rw [sl_len (by omega)]; omega) hne hla) ?_
                intro v31 T32 W33 O34 M35
                have M35 : Mem NoS w W33 ((T32 ++ [])) := M35
                obtain ⟨g36, v37, TB38, rfl, rfl, F39⟩ := O34
                have M40 : Mem NoS w W33 (((rT g36 v37 (endOf (sl l 2 ((l.length - 2) - 2))) 0 TB38) ++ [])) := M35
                refine st_val (.tuple #[.pointer (some ⟨g36, 0, none⟩), .int .i64 0]) (by kernel_rfl) (by kernel_rfl) ?_
                refine st_val (.pointer (some ⟨g36, 0, none⟩)) (by kernel_rfl) (by kernel_rfl) ?_
                refine st_val (.int .i64 0) (by kernel_rfl) (by kernel_rfl) ?_
                refine st_val (.pointer (some ⟨g36, 0, none⟩)) (by kernel_rfl) (by kernel_rfl) ?_
                refine st_val (.int .i64 0) (by kernel_rfl) (by kernel_rfl) ?_
                refine wl_nil ?_
                refine hK25 _ _ ?_
                try clear hK25 K25
                refine wp_frame (a' := ⟨#[.slice A l.length c, undef, (Go.Value.slice none 0 0), .int .i64 0, .int .i64 ((l.getD 0 0 : Nat) : Int), .int .i64 ((l.getD 1 0 : Nat) : Int), .pointer (some ⟨g36, 0, none⟩), .int .i64 0, undef, undef, undef, .slice A l.length c, .int .i64 ((l.length : Nat) : Int), .bool false, .slice A l.length c, .pointer (some ⟨b6, o7 + 0 * 1, none⟩), .int .u8 ((l.getD 0 0 : Nat) : Int), .int .i64 ((l.getD 0 0 : Nat) : Int), .slice A l.length c, .pointer (some ⟨b9, o10 + 1 * 1, none⟩), .int .u8 ((l.getD 1 0 : Nat) : Int), .int .i64 ((l.getD 1 0 : Nat) : Int), .bool false, .int .i64 ((l.getD 0 0 : Nat) : Int), .bool true, .bool false, .bool false, .int .i64 ((l.getD 1 0 : Nat) : Int), .bool false, .bool false, .bool false, .int .i64 ((l.getD 1 0 : Nat) : Int), .bool false, .bool false, .bool false, .slice A l.length c, .int .i64 ((l.length : Nat) : Int), .int .i64 ((l.getD 0 0 : Nat) : Int), .int .i64 (bsz ((l.getD 0 0 : Nat) : Int)), .bool false, .bool false, .bool false, .slice A l.length c, .bool true, .bool false, .tuple #[.pointer (some ⟨g36, 0, none⟩), .int .i64 0], .slice A l.length c, .slice A l.length c, .int .i64 ((l.length : Nat) : Int), .int .i64 ((l.length - 2 : Nat) : Int), .slice (subA A c 2) ((l.length - 2) - 2) (c - 2), .tuple #[.pointer (some ⟨g36, 0, none⟩), .int .i64 0], .pointer (some ⟨g36, 0, none⟩), .int .i64 0, undef, undef, undef, undef, undef, undef, undef, undef, undef, undef, undef, undef, undef, undef, undef, undef, undef, undef, undef, undef, undef, undef, undef, undef, undef, undef], []⟩) (by kernel_rfl) ?_
                refine wp_seq_k (fun K41 hK41 => ?_)
                refine wp_seq_k (fun K42 hK42 => ?_)
                refine wl_region ?_
                refine st_val (.int .i64 0) (by kernel_rfl) (by kernel_rfl) ?_
                refine st_val (.bool false) (by kernel_rfl) (by kernel_rfl) ?_
                refine st_val (.bool false) (by kernel_rfl) (by kernel_rfl) ?_
                refine st_val (.pointer (some ⟨g36, 0, none⟩)) (by kernel_rfl) (by kernel_rfl) ?_
                refine st_callB M40 (.int .i64 (((endOf (sl l 2 ((l.length - 2) - 2))) - 0 : Nat) : Int)) (by kernel_rfl) (args := #[.pointer (some ⟨g36, 0, none⟩)]) (run_value_call 35 #[(Operand.tmp 57)] _ rfl Try.func35 (by kernel_rfl) (by kernel_rfl) _ (by kernel_rfl)) (rLeftM W33 F39 (by omega) (Mem.part (A := []) (T := (rT g36 v37 (endOf (sl l 2 ((l.length - 2) - 2))) 0 TB38)) (B := []) M40)) ?_
                intro W43 M44
                refine st_val (.int .i64 ((l.getD 0 0 : Nat) : Int)) (by kernel_rfl) (by kernel_rfl) ?_
                refine st_val (.int .i64 ((292 * (l.getD 0 0) : Nat) : Int)) (by kernel_rfl) (i64_of (by omega) (by kernel_rfl)) ?_
                rcases Decidable.em (((((endOf (sl l 2 ((l.length - 2) - 2))) - 0 : Nat) : Int) : Int) = ((292 * (l.getD 0 0) : Nat) : Int)) with c61 | c61
                ·
                  refine st_val (.bool false) (by kernel_rfl) (bool_of (neq_f c61) (by kernel_rfl)) ?_
                  refine st_val (.bool false) (by kernel_rfl) (by kernel_rfl) ?_
                  refine wl_nil ?_
                  refine hK42 _ _ ?_
                  try clear hK42 K42
                  refine wp_cond_false (by kernel_rfl) ?_
                  refine wp_skip ?_
                  refine hK41 _ _ ?_
                  try clear hK41 K41
                  refine wp_seq_k (fun K45 hK45 => ?_)
                  refine wl_region ?_
                  refine st_val ((Go.Value.slice none 0 0)) (by kernel_rfl) (by kernel_rfl) ?_
                  refine wl_nil ?_
                  refine hK45 _ _ ?_
                  try clear hK45 K45
                  refine wp_seq_k (fun K46 hK46 => ?_)
                  refine wp_seq_k (fun K47 hK47 => ?_)
                  refine wl_region ?_
                  refine st_val (.int .i64 ((l.getD 0 0 : Nat) : Int)) (by kernel_rfl) (by kernel_rfl) ?_
                  refine st_val (.int .i64 0) (by kernel_rfl) (by kernel_rfl) ?_
                  refine wl_nil ?_
                  refine hK47 _ _ ?_
                  try clear hK47 K47
                  refine wp_block ?_
                  have hen := c61
                  have hM0 := M44
                  refine wp_loop_ghost (fun gn a' w' => ∃ (i : Nat) (A1 : Option Addr) (c1 : Nat) (T1 : List (Nat × Obj)) (As : Nat → Option Addr) (cs : Nat → Nat) (Ts : Nat → List (Nat × Obj)) (u48 : Nat → Value), ((i ≤ l.getD 0 0 ∧ Own 39 1 (.slice A1 i c1) i (pvs (chLs (unpack (sl l 2 (l.length - 2 - 2))) (l.getD 1 0) i) As cs) T1 ∧ OwnI (chLs (unpack (sl l 2 (l.length - 2 - 2))) (l.getD 1 0) i) As cs Ts ∧ ∀ j, j < i → chB' (unpack (sl l 2 (l.length - 2 - 2))) (292 * j) (l.getD 1 0) 32 = true) ∧ Mem NoS w w' ((T1 ++ (flatT Ts i ++ ((rT g36 v37 (endOf (sl l 2 ((l.length - 2) - 2))) (292 * i) TB38) ++ []))))) ∧ gn = (l.getD 0 0) - i ∧ a' = ⟨#[.slice A l.length c, undef, (u48 2), (u48 3), .int .i64 ((l.getD 0 0 : Nat) : Int), .int .i64 ((l.getD 1 0 : Nat) : Int), .pointer (some ⟨g36, 0, none⟩), .int .i64 0, .slice A1 i c1, (u48 9), (u48 10), .slice A l.length c, .int .i64 ((l.length : Nat) : Int), .bool false, .slice A l.length c, .pointer (some ⟨b6, o7 + 0 * 1, none⟩), .int .u8 ((l.getD 0 0 : Nat) : Int), .int .i64 ((l.getD 0 0 : Nat) : Int), .slice A l.length c, .pointer (some ⟨b9, o10 + 1 * 1, none⟩), .int .u8 ((l.getD 1 0 : Nat) : Int), .int .i64 ((l.getD 1 0 : Nat) : Int), .bool false, .int .i64 ((l.getD 0 0 : Nat) : Int), .bool true, .bool false, .bool false, .int .i64 ((l.getD 1 0 : Nat) : Int), .bool false, .bool false, .bool false, .int .i64 ((l.getD 1 0 : Nat) : Int), .bool false, .bool false, .bool false, .slice A l.length c, .int .i64 ((l.length : Nat) : Int), .int .i64 ((l.getD 0 0 : Nat) : Int), .int .i64 (bsz ((l.getD 0 0 : Nat) : Int)), .bool false, .bool false, .bool false, .slice A l.length c, .bool true, .bool false, .tuple #[.pointer (some ⟨g36, 0, none⟩), .int .i64 0], .slice A l.length c, .slice A l.length c, .int .i64 ((l.length : Nat) : Int), .int .i64 ((l.length - 2 : Nat) : Int), .slice (subA A c 2) ((l.length - 2) - 2) (c - 2), .tuple #[.pointer (some ⟨g36, 0, none⟩), .int .i64 0], .pointer (some ⟨g36, 0, none⟩), .int .i64 0, .int .i64 0, .bool false, .bool false, .pointer (some ⟨g36, 0, none⟩), .int .i64 (((endOf (sl l 2 ((l.length - 2) - 2))) - 0 : Nat) : Int), .int .i64 ((l.getD 0 0 : Nat) : Int), .int .i64 ((292 * (l.getD 0 0) : Nat) : Int), .bool false, .bool false, .int .i64 ((l.getD 0 0 : Nat) : Int), .int .i64 ((i : Nat) : Int), (u48 65), (u48 66), (u48 67), (u48 68), (u48 69), (u48 70), (u48 71), (u48 72), (u48 73), (u48 74), (u48 75), (u48 76), (u48 77), (u48 78), undef], []⟩) _ ⟨0, none, 0, ([]), (fun _ => none), (fun _ => 0), (fun _ => []), (fun zz => Array.getD #[.slice A l.length c, undef, (Go.Value.slice none 0 0), .int .i64 0, .int .i64 ((l.getD 0 0 : Nat) : Int), .int .i64 ((l.getD 1 0 : Nat) : Int), .pointer (some ⟨g36, 0, none⟩), .int .i64 0, (Go.Value.slice none 0 0), undef, undef, .slice A l.length c, .int .i64 ((l.length : Nat) : Int), .bool false, .slice A l.length c, .pointer (some ⟨b6, o7 + 0 * 1, none⟩), .int .u8 ((l.getD 0 0 : Nat) : Int), .int .i64 ((l.getD 0 0 : Nat) : Int), .slice A l.length c, .pointer (some ⟨b9, o10 + 1 * 1, none⟩), .int .u8 ((l.getD 1 0 : Nat) : Int), .int .i64 ((l.getD 1 0 : Nat) : Int), .bool false, .int .i64 ((l.getD 0 0 : Nat) : Int), .bool true, .bool false, .bool false, .int .i64 ((l.getD 1 0 : Nat) : Int), .bool false, .bool false, .bool false, .int .i64 ((l.getD 1 0 : Nat) : Int), .bool false, .bool false, .bool false, .slice A l.length c, .int .i64 ((l.length : Nat) : Int), .int .i64 ((l.getD 0 0 : Nat) : Int), .int .i64 (bsz ((l.getD 0 0 : Nat) : Int)), .bool false, .bool false, .bool false, .slice A l.length c, .bool true, .bool false, .tuple #[.pointer (some ⟨g36, 0, none⟩), .int .i64 0], .slice A l.length c, .slice A l.length c, .int .i64 ((l.length : Nat) : Int), .int .i64 ((l.length - 2 : Nat) : Int), .slice (subA A c 2) ((l.length - 2) - 2) (c - 2), .tuple #[.pointer (some ⟨g36, 0, none⟩), .int .i64 0], .pointer (some ⟨g36, 0, none⟩), .int .i64 0, .int .i64 0, .bool false, .bool false, .pointer (some ⟨g36, 0, none⟩), .int .i64 (((endOf (sl l 2 ((l.length - 2) - 2))) - 0 : Nat) : Int), .int .i64 ((l.getD 0 0 : Nat) : Int), .int .i64 ((292 * (l.getD 0 0) : Nat) : Int), .bool false, .bool false, .int .i64 ((l.getD 0 0 : Nat) : Int), .int .i64 0, undef, undef, undef, undef, undef, undef, undef, undef, undef, undef, undef, undef, undef, undef, undef] zz undef), ⟨⟨by omega, Own.nil _ _, OwnI.nil _ _ _, fun j hj => by omega⟩, hM0⟩, rfl, (by kernel_rfl)⟩ ?_
                  rintro gn _ W49 ⟨i, A1, c1, T1, As, cs, Ts, u48, ⟨⟨ri, O1, OI1, hok⟩, M50⟩, rfl, rfl⟩
                  refine wp_seq_k (fun K51 hK51 => ?_)
                  refine wl_region ?_
                  rcases Decidable.em ((((i : Nat) : Int) : Int) < ((l.getD 0 0 : Nat) : Int)) with c65 | c65
                  ·
                    refine st_val (.bool true) (by kernel_rfl) (bool_of (dec_t c65) (by kernel_rfl)) ?_
                    refine wl_nil ?_
                    refine hK51 _ _ ?_
                    try clear hK51 K51
                    refine wp_seq_k (fun K52 hK52 => ?_)
                    refine wp_cond_true (by kernel_rfl) ?_
                    refine wp_skip ?_
                    refine hK52 _ _ ?_
                    try clear hK52 K52
                    refine wp_seq_k (fun K53 hK53 => ?_)
                    refine wp_block ?_
                    refine wp_seq_k (fun K54 hK54 => ?_)
                    refine wl_region ?_
                    refine st_val (.pointer (some ⟨g36, 0, none⟩)) (by kernel_rfl) (by kernel_rfl) ?_
                    refine st_val (.int .i64 ((l.getD 1 0 : Nat) : Int)) (by kernel_rfl) (by kernel_rfl) ?_
                    have M55 : Mem NoS w W49 (((rT g36 v37 (endOf (sl l 2 ((l.length - 2) - 2))) (292 * i) TB38) ++ (T1 ++ (flatT Ts i ++ [])))) := Mem.pull (A := []) [T1, flatT Ts i] (rT g36 v37 (endOf (sl l 2 ((l.length - 2) - 2))) (292 * i) TB38) [] M50
                    rcases Bool.eq_false_or_eq_true (chB' (unpack (sl l 2 (l.length - 2 - 2))) (292 * i) (l.getD 1 0) 32) with hck | hck
                    ·
                      refine st_callU (A := []) (T := (rT g36 v37 (endOf (sl l 2 ((l.length - 2) - 2))) (292 * i) TB38)) (B := (T1 ++ (flatT Ts i ++ []))) M55 (by kernel_rfl) (run_value_call 36 #[(Operand.tmp 67), (Operand.tmp 68)] _ rfl Try.func36 (by kernel_rfl) (by kernel_rfl) _ (by kernel_rfl)) ((by have := takeCh_walk W49 F39 (by omega) (Mem.part (A := []) (T := (rT g36 v37 (endOf (sl l 2 ((l.length - 2) - 2))) (292 * i) TB38)) (B := (T1 ++ (flatT Ts i ++ []))) M55) (l.getD 1 0) (by omega) (by omega); rw [hck] at this; exact this)) ?_
                      intro v56 T57 W58 O59 M60
                      obtain ⟨v61, T62, rfl, hT67, O63⟩ := O59
                      obtain ⟨A64, cq65, rfl, hc66⟩ := O63.shape
                      subst hT67
                      have M68 : Mem NoS w W58 (((rT g36 v37 (endOf (sl l 2 ((l.length - 2) - 2))) ((292 * i) + 292) TB38) ++ (T62 ++ (T1 ++ (flatT Ts i ++ []))))) := Mem.split2 M60
                      refine st_val (.tuple #[.slice A64 (l.getD 1 0) cq65, .bool true]) (by kernel_rfl) (by kernel_rfl) ?_
                      refine st_val (.slice A64 (l.getD 1 0) cq65) (by kernel_rfl) (by kernel_rfl) ?_
                      refine st_val (.bool true) (by kernel_rfl) (by kernel_rfl) ?_
                      refine st_val (.slice A64 (l.getD 1 0) cq65) (by kernel_rfl) (by kernel_rfl) ?_
                      refine st_val (.bool true) (by kernel_rfl) (by kernel_rfl) ?_
                      refine wl_nil ?_
                      refine hK54 _ _ ?_
                      try clear hK54 K54
                      refine wp_seq_k (fun K69 hK69 => ?_)
                      refine wp_seq_k (fun K70 hK70 => ?_)
                      refine wl_region ?_
                      refine st_val (.bool true) (by kernel_rfl) (by kernel_rfl) ?_
                      refine st_val (.bool false) (by kernel_rfl) (by kernel_rfl) ?_
                      refine wl_nil ?_
                      refine hK70 _ _ ?_
                      try clear hK70 K70
                      refine wp_cond_false (by kernel_rfl) ?_
                      refine wp_skip ?_
                      refine hK69 _ _ ?_
                      try clear hK69 K69
                      refine wl_region ?_
                      refine st_val (.slice A1 i c1) (by kernel_rfl) (by kernel_rfl) ?_
                      refine st_val (.slice A64 (l.getD 1 0) cq65) (by kernel_rfl) (by kernel_rfl) ?_
                      refine st_new M68 (.cells #[.slice A64 (l.getD 1 0) cq65] 39 (0, 0)) (fun g => .slice (some ⟨g, 0, none⟩) 1 1) (by kernel_rfl) (by kernel_rfl) ?_
                      intro g71 W72 M73
                      have M83 : Mem NoS w W72 ((g71, .cells #[.slice A64 (l.getD 1 0) cq65] 39 (0, 0)) :: (T1 ++ ((rT g36 v37 (endOf (sl l 2 ((l.length - 2) - 2))) ((292 * i) + 292) TB38) ++ (T62 ++ (flatT Ts i ++ []))))) := Mem.pull (A := [(g71, .cells #[.slice A64 (l.getD 1 0) cq65] 39 (0, 0))]) [(rT g36 v37 (endOf (sl l 2 ((l.length - 2) - 2))) ((292 * i) + 292) TB38), T62] T1 [flatT Ts i] M73
                      obtain ⟨v74, T75, W76, hr77, O78, M79⟩ := append_s16 (A := [(g71, .cells #[.slice A64 (l.getD 1 0) cq65] 39 (0, 0))]) (T := T1) (B := ((rT g36 v37 (endOf (sl l 2 ((l.length - 2) - 2))) ((292 * i) + 292) TB38) ++ (T62 ++ (flatT Ts i ++ [])))) M83 28 _ _ _ O1 _ 1 ([.slice A64 (l.getD 1 0) cq65]) (rdk_lit (xs := [.slice A64 (l.getD 1 0) cq65]) (M83.get 0 rfl) rfl) rfl (by intro x hx; simp only [List.mem_cons, List.not_mem_nil, or_false] at hx; subst hx; rfl) (by omega)
                      have M79 : Mem NoS w W76 ((g71, .cells #[.slice A64 (l.getD 1 0) cq65] 39 (0, 0)) :: (T75 ++ ((rT g36 v37 (endOf (sl l 2 ((l.length - 2) - 2))) ((292 * i) + 292) TB38) ++ (T62 ++ (flatT Ts i ++ []))))) := M79
                      obtain ⟨A80, cq81, rfl, hc82⟩ := O78.shape
                      refine st_world (.slice A80 (i + 1) cq81) W76 (by kernel_rfl) (run_append_op (.tmp 74) (.tmp 76) _ rfl (.slice A1 i c1) (.slice (some ⟨g71, 0, none⟩) 1 1) _ (by kernel_rfl) (by kernel_rfl) hr77) ?_
                      refine st_val (.slice A80 (i + 1) cq81) (by kernel_rfl) (by kernel_rfl) ?_
                      refine wl_nil ?_
                      refine blk_normal ?_
                      refine hK53 _ _ ?_
                      try clear hK53 K53
                      refine wp_frame (a' := ⟨#[.slice A l.length c, undef, (u48 2), (u48 3), .int .i64 ((l.getD 0 0 : Nat) : Int), .int .i64 ((l.getD 1 0 : Nat) : Int), .pointer (some ⟨g36, 0, none⟩), .int .i64 0, .slice A80 (i + 1) cq81, .slice A64 (l.getD 1 0) cq65, .bool true, .slice A l.length c, .int .i64 ((l.length : Nat) : Int), .bool false, .slice A l.length c, .pointer (some ⟨b6, o7 + 0 * 1, none⟩), .int .u8 ((l.getD 0 0 : Nat) : Int), .int .i64 ((l.getD 0 0 : Nat) : Int), .slice A l.length c, .pointer (some ⟨b9, o10 + 1 * 1, none⟩), .int .u8 ((l.getD 1 0 : Nat) : Int), .int .i64 ((l.getD 1 0 : Nat) : Int), .bool false, .int .i64 ((l.getD 0 0 : Nat) : Int), .bool true, .bool false, .bool false, .int .i64 ((l.getD 1 0 : Nat) : Int), .bool false, .bool false, .bool false, .int .i64 ((l.getD 1 0 : Nat) : Int), .bool false, .bool false, .bool false, .slice A l.length c, .int .i64 ((l.length : Nat) : Int), .int .i64 ((l.getD 0 0 : Nat) : Int), .int .i64 (bsz ((l.getD 0 0 : Nat) : Int)), .bool false, .bool false, .bool false, .slice A l.length c, .bool true, .bool false, .tuple #[.pointer (some ⟨g36, 0, none⟩), .int .i64 0], .slice A l.length c, .slice A l.length c, .int .i64 ((l.length : Nat) : Int), .int .i64 ((l.length - 2 : Nat) : Int), .slice (subA A c 2) ((l.length - 2) - 2) (c - 2), .tuple #[.pointer (some ⟨g36, 0, none⟩), .int .i64 0], .pointer (some ⟨g36, 0, none⟩), .int .i64 0, .int .i64 0, .bool false, .bool false, .pointer (some ⟨g36, 0, none⟩), .int .i64 (((endOf (sl l 2 ((l.length - 2) - 2))) - 0 : Nat) : Int), .int .i64 ((l.getD 0 0 : Nat) : Int), .int .i64 ((292 * (l.getD 0 0) : Nat) : Int), .bool false, .bool false, .int .i64 ((l.getD 0 0 : Nat) : Int), .int .i64 ((i : Nat) : Int), .bool true, .tuple #[.slice A64 (l.getD 1 0) cq65, .bool true], .pointer (some ⟨g36, 0, none⟩), .int .i64 ((l.getD 1 0 : Nat) : Int), .tuple #[.slice A64 (l.getD 1 0) cq65, .bool true], .slice A64 (l.getD 1 0) cq65, .bool true, .bool true, .bool false, .slice A1 i c1, .slice A64 (l.getD 1 0) cq65, .slice (some ⟨g71, 0, none⟩) 1 1, .slice A80 (i + 1) cq81, (u48 78), undef], []⟩) (by kernel_rfl) ?_
                      refine wl_region ?_
                      refine st_val (.int .i64 (((i : Nat) : Int) + 1)) (by kernel_rfl) (i64_of (by omega) (by kernel_rfl)) ?_
                      refine st_val (.int .i64 (((i : Nat) : Int) + 1)) (by kernel_rfl) (by kernel_rfl) ?_
                      refine wl_nil ?_
                      refine th_normal ?_
                      have M84 : Mem NoS w W76 ((T75 ++ ((rT g36 v37 (endOf (sl l 2 ((l.length - 2) - 2))) ((292 * i) + 292) TB38) ++ (T62 ++ (flatT Ts i ++ []))))) := M79.sub ((((((List.Sublist.refl []).append_left (flatT Ts i)).append_left T62).append_left (rT g36 v37 (endOf (sl l 2 ((l.length - 2) - 2))) ((292 * i) + 292) TB38)).append_left T75).cons _)
                      have M85 : Mem NoS w W76 (((rT g36 v37 (endOf (sl l 2 ((l.length - 2) - 2))) ((292 * i) + 292) TB38) ++ (T75 ++ (T62 ++ (flatT Ts i ++ []))))) := M84.swap (A := []) (T := T75) (U := (rT g36 v37 (endOf (sl l 2 ((l.length - 2) - 2))) ((292 * i) + 292) TB38)) (B := (T62 ++ (flatT Ts i ++ [])))
                      have M86 : Mem NoS w W76 ((T62 ++ ((rT g36 v37 (endOf (sl l 2 ((l.length - 2) - 2))) ((292 * i) + 292) TB38) ++ (T75 ++ (flatT Ts i ++ []))))) := Mem.pull (A := []) [(rT g36 v37 (endOf (sl l 2 ((l.length - 2) - 2))) ((292 * i) + 292) TB38), T75] T62 [flatT Ts i] M85
                      have M87 : Mem NoS w W76 ((flatT Ts i ++ (T62 ++ ((rT g36 v37 (endOf (sl l 2 ((l.length - 2) - 2))) ((292 * i) + 292) TB38) ++ (T75 ++ []))))) := Mem.pull (A := []) [T62, (rT g36 v37 (endOf (sl l 2 ((l.length - 2) - 2))) ((292 * i) + 292) TB38), T75] (flatT Ts i) [] M86
                      have M88 : Mem NoS w W76 ((T75 ++ (flatT Ts i ++ (T62 ++ ((rT g36 v37 (endOf (sl l 2 ((l.length - 2) - 2))) ((292 * i) + 292) TB38) ++ []))))) := Mem.pull (A := []) [flatT Ts i, T62, (rT g36 v37 (endOf (sl l 2 ((l.length - 2) - 2))) ((292 * i) + 292) TB38)] T75 [] M87
                      have hM4 := M88
                      have hO4 := O78
                      have hI4 := OwnI.snoc OI1 O63 (chL_length _ _ _)
                      rw [← pvs_snoc (chLs (unpack (sl l 2 (l.length - 2 - 2))) (l.getD 1 0) i) _ As cs A64 cq65 _ (chL_length _ _ _)] at hO4
                      have hF4 : flatT (setF Ts (chLs (unpack (sl l 2 (l.length - 2 - 2))) (l.getD 1 0) i).length T62) (i + 1) = flatT Ts i ++ T62 := flatT_snoc (chLs_length _ _ _)
                      rw [← List.append_assoc (flatT Ts i), ← hF4, show 292 * i + 292 = 292 * (i + 1) by omega] at hM4
                      exact ⟨_, by omega, (i + 1), A80, cq81, T75, (setF As (chLs (unpack (sl l 2 (l.length - 2 - 2))) (l.getD 1 0) i).length A64), (setF cs (chLs (unpack (sl l 2 (l.length - 2 - 2))) (l.getD 1 0) i).length cq65), (setF Ts (chLs (unpack (sl l 2 (l.length - 2 - 2))) (l.getD 1 0) i).length T62), (fun zz => Array.getD #[.slice A l.length c, undef, (u48 2), (u48 3), .int .i64 ((l.getD 0 0 : Nat) : Int), .int .i64 ((l.getD 1 0 : Nat) : Int), .pointer (some ⟨g36, 0, none⟩), .int .i64 0, .slice A80 (i + 1) cq81, .slice A64 (l.getD 1 0) cq65, .bool true, .slice A l.length c, .int .i64 ((l.length : Nat) : Int), .bool false, .slice A l.length c, .pointer (some ⟨b6, o7 + 0 * 1, none⟩), .int .u8 ((l.getD 0 0 : Nat) : Int), .int .i64 ((l.getD 0 0 : Nat) : Int), .slice A l.length c, .pointer (some ⟨b9, o10 + 1 * 1, none⟩), .int .u8 ((l.getD 1 0 : Nat) : Int), .int .i64 ((l.getD 1 0 : Nat) : Int), .bool false, .int .i64 ((l.getD 0 0 : Nat) : Int), .bool true, .bool false, .bool false, .int .i64 ((l.getD 1 0 : Nat) : Int), .bool false, .bool false, .bool false, .int .i64 ((l.getD 1 0 : Nat) : Int), .bool false, .bool false, .bool false, .slice A l.length c, .int .i64 ((l.length : Nat) : Int), .int .i64 ((l.getD 0 0 : Nat) : Int), .int .i64 (bsz ((l.getD 0 0 : Nat) : Int)), .bool false, .bool false, .bool false, .slice A l.length c, .bool true, .bool false, .tuple #[.pointer (some ⟨g36, 0, none⟩), .int .i64 0], .slice A l.length c, .slice A l.length c, .int .i64 ((l.length : Nat) : Int), .int .i64 ((l.length - 2 : Nat) : Int), .slice (subA A c 2) ((l.length - 2) - 2) (c - 2), .tuple #[.pointer (some ⟨g36, 0, none⟩), .int .i64 0], .pointer (some ⟨g36, 0, none⟩), .int .i64 0, .int .i64 0, .bool false, .bool false, .pointer (some ⟨g36, 0, none⟩), .int .i64 (((endOf (sl l 2 ((l.length - 2) - 2))) - 0 : Nat) : Int), .int .i64 ((l.getD 0 0 : Nat) : Int), .int .i64 ((292 * (l.getD 0 0) : Nat) : Int), .bool false, .bool false, .int .i64 ((l.getD 0 0 : Nat) : Int), .int .i64 (((i : Nat) : Int) + 1), .bool true, .tuple #[.slice A64 (l.getD 1 0) cq65, .bool true], .pointer (some ⟨g36, 0, none⟩), .int .i64 ((l.getD 1 0 : Nat) : Int), .tuple #[.slice A64 (l.getD 1 0) cq65, .bool true], .slice A64 (l.getD 1 0) cq65, .bool true, .bool true, .bool false, .slice A1 i c1, .slice A64 (l.getD 1 0) cq65, .slice (some ⟨g71, 0, none⟩) 1 1, .slice A80 (i + 1) cq81, .int .i64 (((i : Nat) : Int) + 1), undef] zz undef), ⟨⟨by omega, hO4, hI4, fun j hj => by by_cases e : j = i; subst e; exact hck; exact hok j (by omega)⟩, hM4⟩, rfl, (by kernel_rfl)⟩
                    ·
                      refine st_callU (A := []) (T := (rT g36 v37 (endOf (sl l 2 ((l.length - 2) - 2))) (292 * i) TB38)) (B := (T1 ++ (flatT Ts i ++ []))) M55 (by kernel_rfl) (run_value_call 36 #[(Operand.tmp 67), (Operand.tmp 68)] _ rfl Try.func36 (by kernel_rfl) (by kernel_rfl) _ (by kernel_rfl)) ((by have := takeCh_walk W49 F39 (by omega) (Mem.part (A := []) (T := (rT g36 v37 (endOf (sl l 2 ((l.length - 2) - 2))) (292 * i) TB38)) (B := (T1 ++ (flatT Ts i ++ []))) M55) (l.getD 1 0) (by omega) (by omega); rw [hck] at this; exact this)) ?_
                      intro v89 T90 W91 O92 M93
                      obtain ⟨v94, T95, rfl, hT100, O96⟩ := O92
                      obtain ⟨A97, cq98, rfl, hc99⟩ := O96.shape
                      subst hT100
                      have M101 : Mem NoS w W91 (((rT g36 v37 (endOf (sl l 2 ((l.length - 2) - 2))) ((292 * i) + 292) TB38) ++ (T95 ++ (T1 ++ (flatT Ts i ++ []))))) := Mem.split2 M93
                      refine st_val (.tuple #[.slice A97 (l.getD 1 0) cq98, .bool false]) (by kernel_rfl) (by kernel_rfl) ?_
                      refine st_val (.slice A97 (l.getD 1 0) cq98) (by kernel_rfl) (by kernel_rfl) ?_
                      refine st_val (.bool false) (by kernel_rfl) (by kernel_rfl) ?_
                      refine st_val (.slice A97 (l.getD 1 0) cq98) (by kernel_rfl) (by kernel_rfl) ?_
                      refine st_val (.bool false) (by kernel_rfl) (by kernel_rfl) ?_
                      refine wl_nil ?_
                      refine hK54 _ _ ?_
                      try clear hK54 K54
                      refine wp_seq_k (fun K102 hK102 => ?_)
                      refine wp_seq_k (fun K103 hK103 => ?_)
                      refine wl_region ?_
                      refine st_val (.bool false) (by kernel_rfl) (by kernel_rfl) ?_
                      refine st_val (.bool true) (by kernel_rfl) (by kernel_rfl) ?_
                      refine wl_nil ?_
                      refine hK103 _ _ ?_
                      try clear hK103 K103
                      refine wp_cond_true (by kernel_rfl) ?_
                      refine wp_seq_k (fun K104 hK104 => ?_)
                      refine wl_region ?_
                      refine st_val ((Go.Value.slice none 0 0)) (by kernel_rfl) (by kernel_rfl) ?_
                      refine st_val (.int .i64 3) (by kernel_rfl) (by kernel_rfl) ?_
                      refine wl_nil ?_
                      refine hK104 _ _ ?_
                      try clear hK104 K104
                      refine wp_frame (a' := ⟨#[.slice A l.length c, undef, (Go.Value.slice none 0 0), .int .i64 3, .int .i64 ((l.getD 0 0 : Nat) : Int), .int .i64 ((l.getD 1 0 : Nat) : Int), .pointer (some ⟨g36, 0, none⟩), .int .i64 0, .slice A1 i c1, .slice A97 (l.getD 1 0) cq98, .bool false, .slice A l.length c, .int .i64 ((l.length : Nat) : Int), .bool false, .slice A l.length c, .pointer (some ⟨b6, o7 + 0 * 1, none⟩), .int .u8 ((l.getD 0 0 : Nat) : Int), .int .i64 ((l.getD 0 0 : Nat) : Int), .slice A l.length c, .pointer (some ⟨b9, o10 + 1 * 1, none⟩), .int .u8 ((l.getD 1 0 : Nat) : Int), .int .i64 ((l.getD 1 0 : Nat) : Int), .bool false, .int .i64 ((l.getD 0 0 : Nat) : Int), .bool true, .bool false, .bool false, .int .i64 ((l.getD 1 0 : Nat) : Int), .bool false, .bool false, .bool false, .int .i64 ((l.getD 1 0 : Nat) : Int), .bool false, .bool false, .bool false, .slice A l.length c, .int .i64 ((l.length : Nat) : Int), .int .i64 ((l.getD 0 0 : Nat) : Int), .int .i64 (bsz ((l.getD 0 0 : Nat) : Int)), .bool false, .bool false, .bool false, .slice A l.length c, .bool true, .bool false, .tuple #[.pointer (some ⟨g36, 0, none⟩), .int .i64 0], .slice A l.length c, .slice A l.length c, .int .i64 ((l.length : Nat) : Int), .int .i64 ((l.length - 2 : Nat) : Int), .slice (subA A c 2) ((l.length - 2) - 2) (c - 2), .tuple #[.pointer (some ⟨g36, 0, none⟩), .int .i64 0], .pointer (some ⟨g36, 0, none⟩), .int .i64 0, .int .i64 0, .bool false, .bool false, .pointer (some ⟨g36, 0, none⟩), .int .i64 (((endOf (sl l 2 ((l.length - 2) - 2))) - 0 : Nat) : Int), .int .i64 ((l.getD 0 0 : Nat) : Int), .int .i64 ((292 * (l.getD 0 0) : Nat) : Int), .bool false, .bool false, .int .i64 ((l.getD 0 0 : Nat) : Int), .int .i64 ((i : Nat) : Int), .bool true, .tuple #[.slice A97 (l.getD 1 0) cq98, .bool false], .pointer (some ⟨g36, 0, none⟩), .int .i64 ((l.getD 1 0 : Nat) : Int), .tuple #[.slice A97 (l.getD 1 0) cq98, .bool false], .slice A97 (l.getD 1 0) cq98, .bool false, .bool false, .bool true, (u48 74), (u48 75), (u48 76), (u48 77), (u48 78), undef], []⟩) (by kernel_rfl) ?_
                      refine wp_ret ?_
                      refine th_ret ?_
                      refine blk_ret ?_
                      refine th_ret ?_
                      refine th_ret ?_
                      refine blk_ret ?_
                      refine th_ret ?_
                      have hte := tb_f hA hit (fun h => by have := h.2.2 i (by omega); rw [show tbP l = (sl l 2 (l.length - 2 - 2)) from rfl, hck] at this; exact absurd this (by decide))
                      exact done2 2 3 ((Go.Value.slice none 0 0)) (.int .i64 3) (by kernel_rfl) (by kernel_rfl) (by kernel_rfl) (by kernel_rfl) ⟨_, [], rfl, ⟨_, by rw [hte.1], by rw [hte.2]; exact OwnP.nil⟩, M101.sub (List.nil_sublist _)⟩
                  ·
                    refine st_val (.bool false) (by kernel_rfl) (bool_of (dec_f c65) (by kernel_rfl)) ?_
                    refine wl_nil ?_
                    refine hK51 _ _ ?_
                    try clear hK51 K51
                    refine wp_seq_k (fun K105 hK105 => ?_)
                    refine wp_cond_false (by kernel_rfl) ?_
                    refine wp_exit ?_
                    refine th_exit ?_
                    refine th_exit ?_
                    refine blk_exit ?_
                    refine hK46 _ _ ?_
                    try clear hK46 K46
                    refine wp_seq_k (fun K106 hK106 => ?_)
                    refine wl_region ?_
                    refine st_val (.slice A1 i c1) (by kernel_rfl) (by kernel_rfl) ?_
                    refine st_val (.slice A1 i c1) (by kernel_rfl) (by kernel_rfl) ?_
                    refine st_val (.int .i64 0) (by kernel_rfl) (by kernel_rfl) ?_
                    refine wl_nil ?_
                    refine hK106 _ _ ?_
                    try clear hK106 K106
                    refine wp_ret ?_
                    have M107 : Mem NoS w W49 ((T1 ++ (flatT Ts i ++ []))) := M50.sub ((((List.Sublist.refl []).trans (List.sublist_append_right (rT g36 v37 (endOf (sl l 2 ((l.length - 2) - 2))) (292 * i) TB38) _)).append_left (flatT Ts i)).append_left T1)
                    have hib : i = l.getD 0 0 := (by omega)
                    have hF : tbF l := ⟨hpb, (by show endOf (sl l 2 (l.length - 2 - 2)) = _; omega), fun j hj => hok j (by omega)⟩
                    have hMf := M107
                    rw [List.append_nil] at hMf
                    exact done2 2 3 (.slice A1 i c1) (.int .i64 0) (by kernel_rfl) (by kernel_rfl) (by kernel_rfl) (by kernel_rfl) ⟨_, T1 ++ flatT Ts i, rfl, ⟨_, by rw [(tb_t hA hit hF).1], by rw [(tb_t hA hit hF).2]; exact ⟨As, cs, T1, Ts, by rw [chLs_length, ← hib]; exact O1, by rw [← hib]; exact OI1, by rw [chLs_length, ← hib]⟩⟩, hMf⟩
                ·
                  refine st_val (.bool true) (by kernel_rfl) (bool_of (neq_t c61) (by kernel_rfl)) ?_
                  refine st_val (.bool true) (by kernel_rfl) (by kernel_rfl) ?_
                  refine wl_nil ?_
                  refine hK42 _ _ ?_
                  try clear hK42 K42
                  refine wp_cond_true (by kernel_rfl) ?_
                  refine wp_seq_k (fun K108 hK108 => ?_)
                  refine wl_region ?_
                  refine st_val ((Go.Value.slice none 0 0)) (by kernel_rfl) (by kernel_rfl) ?_
                  refine st_val (.int .i64 3) (by kernel_rfl) (by kernel_rfl) ?_
                  refine wl_nil ?_
                  refine hK108 _ _ ?_
                  try clear hK108 K108
                  refine wp_ret ?_
                  refine th_ret ?_
                  have hte := tb_f hA hit (fun h => by first | exact h.1 hpb | (have h2 := h.2.1; rw [show tbP l = (sl l 2 (l.length - 2 - 2)) from rfl] at h2; omega))
                  exact done2 2 3 ((Go.Value.slice none 0 0)) (.int .i64 3) (by kernel_rfl) (by kernel_rfl) (by kernel_rfl) (by kernel_rfl) ⟨_, [], rfl, ⟨_, by rw [hte.1], by rw [hte.2]; exact OwnP.nil⟩, M44.sub (List.nil_sublist _)⟩
            ·
              refine st_callB M21 (.bool false) (by kernel_rfl) (args := #[.slice A l.length c]) (run_value_call 33 #[(Operand.tmp 42)] _ rfl Try.func33 (by kernel_rfl) (by kernel_rfl) _ (by kernel_rfl)) ((by have := intact_walk W20 (.slice A l.length c) l (hr.keep M21.keep (fun _ _ h => h)) hb (by omega) (by omega); rw [hit] at this; exact this)) ?_
              intro W109 M110
              refine st_val (.bool true) (by kernel_rfl) (by kernel_rfl) ?_
              refine st_val (.bool true) (by kernel_rfl) (by kernel_rfl) ?_
              refine wl_nil ?_
              refine hK22 _ _ ?_
              try clear hK22 K22
              refine wp_cond_true (by kernel_rfl) ?_
              refine wp_seq_k (fun K111 hK111 => ?_)
              refine wl_region ?_
              refine st_val ((Go.Value.slice none 0 0)) (by kernel_rfl) (by kernel_rfl) ?_
              refine st_val (.int .i64 10) (by kernel_rfl) (by kernel_rfl) ?_
              refine wl_nil ?_
              refine hK111 _ _ ?_
              try clear hK111 K111
              refine wp_ret ?_
              refine blk_ret ?_
              refine th_ret ?_
              have hte := tb_i hA hit
              exact done2 2 3 ((Go.Value.slice none 0 0)) (.int .i64 10) (by kernel_rfl) (by kernel_rfl) (by kernel_rfl) (by kernel_rfl) ⟨_, [], rfl, ⟨_, by rw [hte.1], by rw [hte.2]; exact OwnP.nil⟩, M110.sub (List.nil_sublist _)⟩
          ·
            refine st_val (.bool true) (by kernel_rfl) (bool_of (neq_t c39) (by kernel_rfl)) ?_
            refine st_val (.bool true) (by kernel_rfl) (by kernel_rfl) ?_
            refine st_val (.bool true) (by kernel_rfl) (by kernel_rfl) ?_
            refine wl_nil ?_
            refine hK15 _ _ ?_
            try clear hK15 K15
            refine wp_frame (a' := ⟨#[.slice A l.length c, undef, (Go.Value.slice none 0 0), .int .i64 0, .int .i64 ((l.getD 0 0 : Nat) : Int), .int .i64 ((l.getD 1 0 : Nat) : Int), undef, undef, undef, undef, undef, .slice A l.length c, .int .i64 ((l.length : Nat) : Int), .bool false, .slice A l.length c, .pointer (some ⟨b6, o7 + 0 * 1, none⟩), .int .u8 ((l.getD 0 0 : Nat) : Int), .int .i64 ((l.getD 0 0 : Nat) : Int), .slice A l.length c, .pointer (some ⟨b9, o10 + 1 * 1, none⟩), .int .u8 ((l.getD 1 0 : Nat) : Int), .int .i64 ((l.getD 1 0 : Nat) : Int), .bool true, .int .i64 ((l.getD 0 0 : Nat) : Int), .bool true, .bool false, .bool false, .int .i64 ((l.getD 1 0 : Nat) : Int), .bool false, .bool false, .bool false, .int .i64 ((l.getD 1 0 : Nat) : Int), .bool false, .bool false, .bool false, .slice A l.length c, .int .i64 ((l.length : Nat) : Int), .int .i64 ((l.getD 0 0 : Nat) : Int), .int .i64 (bsz ((l.getD 0 0 : Nat) : Int)), .bool true, .bool true, undef, undef, undef, undef, undef, undef, undef, undef, undef, undef, undef, undef, undef, undef, undef, undef, undef, undef, undef, undef, undef, undef, undef, undef, undef, undef, undef, undef, undef, undef, undef, undef, undef, undef, undef, undef, undef, undef, undef], []⟩) (by kernel_rfl) ?_
            refine wp_cond_true (by kernel_rfl) ?_
            refine wp_seq_k (fun K112 hK112 => ?_)
            refine wl_region ?_
            refine st_val ((Go.Value.slice none 0 0)) (by kernel_rfl) (by kernel_rfl) ?_
            refine st_val (.int .i64 3) (by kernel_rfl) (by kernel_rfl) ?_
            refine wl_nil ?_
            refine hK112 _ _ ?_
            try clear hK112 K112
            refine wp_ret ?_
            refine blk_ret ?_
            refine th_ret ?_
            have hte := tb_a (l := l) (fun h => by have h1 := h.1; have h2 := h.2.1; have h3 := h.2.2.1; have h4 := h.2.2.2; first | omega | exact hmn ⟨by omega, by omega⟩)
            exact done2 2 3 ((Go.Value.slice none 0 0)) (.int .i64 3) (by kernel_rfl) (by kernel_rfl) (by kernel_rfl) (by kernel_rfl) ⟨_, [], rfl, ⟨_, by rw [hte.1], by rw [hte.2]; exact OwnP.nil⟩, M21.sub (List.nil_sublist _)⟩
    ·
      have hmn := of_decide_eq_false hmc
      refine st_callB M13 (.bool false) (by kernel_rfl) (args := #[.int .i64 ((l.getD 0 0 : Nat) : Int)]) (run_value_call 32 #[(Operand.tmp 23)] _ rfl Try.func32 (by kernel_rfl) (by kernel_rfl) _ (by kernel_rfl)) ((by have := mayC_walk W12 ((l.getD 0 0 : Nat) : Int); rw [hmc] at this; exact this)) ?_
      intro W113 M114
      refine st_val (.bool true) (by kernel_rfl) (by kernel_rfl) ?_
      refine st_val (.bool true) (by kernel_rfl) (by kernel_rfl) ?_
      refine st_skip (by kernel_rfl) ?_
      refine st_skip (by kernel_rfl) ?_
      refine st_val (.bool true) (by kernel_rfl) (by kernel_rfl) ?_
      refine st_val (.bool true) (by kernel_rfl) (by kernel_rfl) ?_
      refine st_skip (by kernel_rfl) ?_
      refine st_skip (by kernel_rfl) ?_
      refine st_val (.bool true) (by kernel_rfl) (by kernel_rfl) ?_
      refine st_val (.bool true) (by kernel_rfl) (by kernel_rfl) ?_
      refine st_skip (by kernel_rfl) ?_
      refine st_skip (by kernel_rfl) ?_
      refine st_skip (by kernel_rfl) ?_
      refine st_skip (by kernel_rfl) ?_
      refine st_skip (by kernel_rfl) ?_
      refine st_val (.bool true) (by kernel_rfl) (by kernel_rfl) ?_
      refine st_val (.bool true) (by kernel_rfl) (by kernel_rfl) ?_
      refine wl_nil ?_
      refine hK15 _ _ ?_
      try clear hK15 K15
      refine wp_frame (a' := ⟨#[.slice A l.length c, undef, (Go.Value.slice none 0 0), .int .i64 0, .int .i64 ((l.getD 0 0 : Nat) : Int), .int .i64 ((l.getD 1 0 : Nat) : Int), undef, undef, undef, undef, undef, .slice A l.length c, .int .i64 ((l.length : Nat) : Int), .bool false, .slice A l.length c, .pointer (some ⟨b6, o7 + 0 * 1, none⟩), .int .u8 ((l.getD 0 0 : Nat) : Int), .int .i64 ((l.getD 0 0 : Nat) : Int), .slice A l.length c, .pointer (some ⟨b9, o10 + 1 * 1, none⟩), .int .u8 ((l.getD 1 0 : Nat) : Int), .int .i64 ((l.getD 1 0 : Nat) : Int), .bool true, .int .i64 ((l.getD 0 0 : Nat) : Int), .bool false, .bool true, .bool true, undef, undef, .bool true, .bool true, undef, undef, .bool true, .bool true, undef, undef, undef, undef, undef, .bool true, undef, undef, undef, undef, undef, undef, undef, undef, undef, undef, undef, undef, undef, undef, undef, undef, undef, undef, undef, undef, undef, undef, undef, undef, undef, undef, undef, undef, undef, undef, undef, undef, undef, undef, undef, undef, undef, undef, undef], []⟩) (by kernel_rfl) ?_
      refine wp_cond_true (by kernel_rfl) ?_
      refine wp_seq_k (fun K115 hK115 => ?_)
      refine wl_region ?_
      refine st_val ((Go.Value.slice none 0 0)) (by kernel_rfl) (by kernel_rfl) ?_
      refine st_val (.int .i64 3) (by kernel_rfl) (by kernel_rfl) ?_
      refine wl_nil ?_
      refine hK115 _ _ ?_
      try clear hK115 K115
      refine wp_ret ?_
      refine blk_ret ?_
      refine th_ret ?_
      have hte := tb_a (l := l) (fun h => by have h1 := h.1; have h2 := h.2.1; have h3 := h.2.2.1; have h4 := h.2.2.2; first | omega | exact hmn ⟨by omega, by omega⟩)
      exact done2 2 3 ((Go.Value.slice none 0 0)) (.int .i64 3) (by kernel_rfl) (by kernel_rfl) (by kernel_rfl) (by kernel_rfl) ⟨_, [], rfl, ⟨_, by rw [hte.1], by rw [hte.2]; exact OwnP.nil⟩, M114.sub (List.nil_sublist _)⟩
end Go.Proofs.Ytmimljaniliecaa
