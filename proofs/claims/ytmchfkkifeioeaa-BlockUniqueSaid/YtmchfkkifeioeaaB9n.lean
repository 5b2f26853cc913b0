/- The walk of BlockUnique. -/
import Derived.Test.YtmchfkkifeioeaaB9l
namespace Go.Proofs.Ytmchfkkifeioeaa
open Go.RowKit Bt

/-- what Take accepts is what Put writes -/
theorem tkB_unique {L : List Nat} (hb : Bin L) {pos : Nat} {fr : Int} (hp : pos ≤ L.length) (h : (tkB L pos fr).2.1 = 0) : bE (tkB L pos fr).1 fr = 0 ∧ bC (tkB L pos fr).1 fr = (L.drop pos).take ((tkB L pos fr).2.2 - pos) ∧ pos ≤ (tkB L pos fr).2.2 ∧ (tkB L pos fr).2.2 ≤ L.length := by
  by_cases hf : fr = 0 ∨ fr = 1
  · obtain ⟨f, rfl⟩ := Int.eq_ofNat_of_zero_le (show 0 ≤ fr by omega)
    rw [tkB_t hf, Int.toNat_natCast] at h ⊢
    obtain ⟨r1, r2, r3, r4, r5, r6⟩ := btk_unique L hb 64 pos f zeros zeros_length (by omega) (by omega) hp (fun i _ h2 => zeros_at i h2) h
    obtain ⟨h1, h2⟩ := bE_ok (x := (btk L 65 pos f zeros).1) (f := f) (by omega) (okB_t (fun i h1 h2 => r5 i h2 h1))
    refine ⟨h1, ?_, r2, r3⟩
    rw [h2]
    exact (r6 f (Nat.le_refl _) (by omega) (fun i h1 h2 => by omega)).symm
  · rw [tkB_f hf] at h; exact absurd (show (1 : Int) = 0 from h) (by decide)
theorem take_getD {α : Type} (l : List α) (n i : Nat) (d : α) (h : i < n) : (l.take n).getD i d = l.getD i d := by
  rw [List.getD_eq_getElem?_getD, List.getElem?_take, if_pos h, ← List.getD_eq_getElem?_getD]
set_option maxHeartbeats 4000000 in
set_option maxRecDepth 100000 in
theorem BlockUnique_walk (w : World) (v : Value) (l : List Nat) (hr : RdK w v l.length (u8s l)) (hb : ∀ x ∈ l, x < 256) (fr : Int) (hfr : -9223372036854775808 ≤ fr ∧ fr ≤ 9223372036854775807) : Calls Try.prog 6 #[v, .int .i64 fr] w fun e w' => e = .returned (.bool true) ∧ Below w.heap.size w w' := by
  obtain ⟨A, c, rfl, hc⟩ := hr.shape
  refine calls_of_wp Try.func6 rfl ?_
  refine wp_frame (a' := ⟨#[.slice A l.length c, .int .i64 fr, undef, undef, undef, undef, undef, undef, undef, undef, undef, undef, undef, undef, undef, undef, undef, undef, undef, undef, undef, undef, undef, undef, undef, undef, undef, undef, undef, undef, undef, undef, undef, undef, undef, undef, undef, undef, undef, undef, undef, undef, undef, undef, undef, undef, undef, undef, undef, undef, undef, undef, undef, undef, undef, undef, undef, undef, undef, undef, undef, undef, undef, undef, undef, undef, undef, undef, undef, undef, undef, undef, undef, undef, undef, undef, undef, undef, undef, undef, undef, undef, undef, undef, undef, undef, undef, undef, undef], []⟩) (by kernel_rfl) ?_
  have M0 : Mem NoS w w [] := Mem.start _ _
  refine wp_seq_k (fun K1 hK1 => ?_)
  refine wl_region ?_
  refine st_val (.bool false) (by kernel_rfl) (by kernel_rfl) ?_
  refine wl_nil ?_
  refine hK1 _ _ ?_
  try clear hK1 K1
  refine wp_seq_k (fun K2 hK2 => ?_)
  refine wp_seq_k (fun K3 hK3 => ?_)
  refine wl_region ?_
  refine st_val (.slice A l.length c) (by kernel_rfl) (by kernel_rfl) ?_
  refine st_val (.int .i64 ((l.length : Nat) : Int)) (by kernel_rfl) (by kernel_rfl) ?_
  rcases Decidable.em ((((l.length : Nat) : Int) : Int) > 500) with c21 | c21
  ·
    refine st_val (.bool true) (by kernel_rfl) (bool_of (dec_t c21) (by kernel_rfl)) ?_
    refine wl_nil ?_
    refine hK3 _ _ ?_
    try clear hK3 K3
    refine wp_cond_true (by kernel_rfl) ?_
    refine wp_seq_k (fun K4 hK4 => ?_)
    refine wl_region ?_
    refine st_val (.bool true) (by kernel_rfl) (by kernel_rfl) ?_
    refine wl_nil ?_
    refine hK4 _ _ ?_
    try clear hK4 K4
    refine wp_ret ?_
    refine th_ret ?_
    exact done1 4 (.bool true) (by kernel_rfl) (by kernel_rfl) (by kernel_rfl) ⟨rfl, M0.toBelow⟩
  ·
    refine st_val (.bool false) (by kernel_rfl) (bool_of (dec_f c21) (by kernel_rfl)) ?_
    refine wl_nil ?_
    refine hK3 _ _ ?_
    try clear hK3 K3
    refine wp_cond_false (by kernel_rfl) ?_
    refine wp_skip ?_
    refine hK2 _ _ ?_
    try clear hK2 K2
    refine wp_seq_k (fun K5 hK5 => ?_)
    refine wl_region ?_
    refine st_val (.slice A l.length c) (by kernel_rfl) (by kernel_rfl) ?_
    rcases Classical.em (l = [] ∨ l.getD (l.length - 1) 0 = 0) with hpb | hpb
    ·
      refine st_callB M0 (.tuple #[.pointer none, .int .i64 3]) (by kernel_rfl) (args := #[.slice A l.length c]) (run_value_call 16 #[(Operand.tmp 23)] _ rfl Try.func16 (by kernel_rfl) (by kernel_rfl) _ (by kernel_rfl)) (newReaderBadM w (.slice A l.length c) l (hr.keep M0.keep (fun _ _ h => h)) (by omega) hpb) ?_
      intro W6 M7
      refine st_val (.tuple #[.pointer none, .int .i64 3]) (by kernel_rfl) (by kernel_rfl) ?_
      refine st_val (.pointer none) (by kernel_rfl) (by kernel_rfl) ?_
      refine st_val (.int .i64 3) (by kernel_rfl) (by kernel_rfl) ?_
      refine st_val (.pointer none) (by kernel_rfl) (by kernel_rfl) ?_
      refine st_val (.int .i64 3) (by kernel_rfl) (by kernel_rfl) ?_
      refine wl_nil ?_
      refine hK5 _ _ ?_
      try clear hK5 K5
      refine wp_seq_k (fun K8 hK8 => ?_)
      refine wp_seq_k (fun K9 hK9 => ?_)
      refine wl_region ?_
      refine st_val (.int .i64 3) (by kernel_rfl) (by kernel_rfl) ?_
      refine st_val (.bool true) (by kernel_rfl) (by kernel_rfl) ?_
      refine wl_nil ?_
      refine hK9 _ _ ?_
      try clear hK9 K9
      refine wp_frame (a' := ⟨#[.slice A l.length c, .int .i64 fr, undef, undef, .bool false, .pointer none, .int .i64 3, undef, undef, undef, undef, undef, undef, undef, undef, undef, undef, undef, undef, .slice A l.length c, .int .i64 ((l.length : Nat) : Int), .bool false, .tuple #[.pointer none, .int .i64 3], .slice A l.length c, .tuple #[.pointer none, .int .i64 3], .pointer none, .int .i64 3, .int .i64 3, .bool true, undef, undef, undef, undef, undef, undef, undef, undef, undef, undef, undef, undef, undef, undef, undef, undef, undef, undef, undef, undef, undef, undef, undef, undef, undef, undef, undef, undef, undef, undef, undef, undef, undef, undef, undef, undef, undef, undef, undef, undef, undef, undef, undef, undef, undef, undef, undef, undef, undef, undef, undef, undef, undef, undef, undef, undef, undef, undef, undef, undef], []⟩) (by kernel_rfl) ?_
      refine wp_cond_true (by kernel_rfl) ?_
      refine wp_seq_k (fun K10 hK10 => ?_)
      refine wl_region ?_
      refine st_callB M7 (.bool true) (by kernel_rfl) (args := #[]) (run_value_call 12 #[] _ rfl Try.func12 (by kernel_rfl) (by kernel_rfl) _ (by kernel_rfl)) (awake_walk W6) ?_
      intro W11 M12
      refine st_val (.bool true) (by kernel_rfl) (by kernel_rfl) ?_
      refine wl_nil ?_
      refine hK10 _ _ ?_
      try clear hK10 K10
      refine wp_ret ?_
      refine th_ret ?_
      exact done1 4 (.bool true) (by kernel_rfl) (by kernel_rfl) (by kernel_rfl) ⟨rfl, M12.toBelow⟩
    ·
      have hne := fun h => hpb (.inl h)
      have hla := fun h => hpb (.inr h)
      refine st_callR (A := []) (B := []) M0 (by kernel_rfl) (run_value_call 16 #[(Operand.tmp 23)] _ rfl Try.func16 (by kernel_rfl) (by kernel_rfl) _ (by kernel_rfl)) (newReaderM w (.slice A l.length c) l (hr.keep M0.keep (fun _ _ h => h)) hb (by omega) hne hla) ?_
      intro v13 T14 W15 O16 M17
      have M17 : Mem NoS w W15 ((T14 ++ [])) := M17
      obtain ⟨g18, v19, TB20, rfl, rfl, F21⟩ := O16
      have M22 : Mem NoS w W15 (((rT g18 v19 (endOf l) 0 TB20) ++ [])) := M17
      refine st_val (.tuple #[.pointer (some ⟨g18, 0, none⟩), .int .i64 0]) (by kernel_rfl) (by kernel_rfl) ?_
      refine st_val (.pointer (some ⟨g18, 0, none⟩)) (by kernel_rfl) (by kernel_rfl) ?_
      refine st_val (.int .i64 0) (by kernel_rfl) (by kernel_rfl) ?_
      refine st_val (.pointer (some ⟨g18, 0, none⟩)) (by kernel_rfl) (by kernel_rfl) ?_
      refine st_val (.int .i64 0) (by kernel_rfl) (by kernel_rfl) ?_
      refine wl_nil ?_
      refine hK5 _ _ ?_
      try clear hK5 K5
      refine wp_seq_k (fun K23 hK23 => ?_)
      refine wp_seq_k (fun K24 hK24 => ?_)
      refine wl_region ?_
      refine st_val (.int .i64 0) (by kernel_rfl) (by kernel_rfl) ?_
      refine st_val (.bool false) (by kernel_rfl) (by kernel_rfl) ?_
      refine wl_nil ?_
      refine hK24 _ _ ?_
      try clear hK24 K24
      refine wp_frame (a' := ⟨#[.slice A l.length c, .int .i64 fr, undef, undef, .bool false, .pointer (some ⟨g18, 0, none⟩), .int .i64 0, undef, undef, undef, undef, undef, undef, undef, undef, undef, undef, undef, undef, .slice A l.length c, .int .i64 ((l.length : Nat) : Int), .bool false, .tuple #[.pointer (some ⟨g18, 0, none⟩), .int .i64 0], .slice A l.length c, .tuple #[.pointer (some ⟨g18, 0, none⟩), .int .i64 0], .pointer (some ⟨g18, 0, none⟩), .int .i64 0, .int .i64 0, .bool false, undef, undef, undef, undef, undef, undef, undef, undef, undef, undef, undef, undef, undef, undef, undef, undef, undef, undef, undef, undef, undef, undef, undef, undef, undef, undef, undef, undef, undef, undef, undef, undef, undef, undef, undef, undef, undef, undef, undef, undef, undef, undef, undef, undef, undef, undef, undef, undef, undef, undef, undef, undef, undef, undef, undef, undef, undef, undef, undef, undef], []⟩) (by kernel_rfl) ?_
      refine wp_cond_false (by kernel_rfl) ?_
      refine wp_skip ?_
      refine hK23 _ _ ?_
      try clear hK23 K23
      refine wp_seq_k (fun K25 hK25 => ?_)
      refine wl_region ?_
      refine st_val (.pointer (some ⟨g18, 0, none⟩)) (by kernel_rfl) (by kernel_rfl) ?_
      refine st_val (.int .i64 fr) (by kernel_rfl) (by kernel_rfl) ?_
      refine st_callU (A := []) (T := (rT g18 v19 (endOf l) 0 TB20)) (B := []) M22 (by kernel_rfl) (run_value_call 18 #[(Operand.tmp 31), (Operand.tmp 32)] _ rfl Try.func18 (by kernel_rfl) (by kernel_rfl) _ (by kernel_rfl)) (btake_any W15 F21 (by omega) (Mem.part (A := []) (T := (rT g18 v19 (endOf l) 0 TB20)) (B := []) M22) fr) ?_
      intro v26 T27 W28 O29 M30
      obtain ⟨rfl, rfl⟩ := O29
      have M31 : Mem NoS w W28 (((rT g18 v19 (endOf l) ((tkB ((unpack l).take (endOf l)) 0 fr).2.2) TB20) ++ [])) := M30
      refine st_val (.tuple #[.agg (iv (tkB ((unpack l).take (endOf l)) 0 fr).1), .int .i64 ((tkB ((unpack l).take (endOf l)) 0 fr).2.1)]) (by kernel_rfl) (by kernel_rfl) ?_
      refine st_val (.agg (iv (tkB ((unpack l).take (endOf l)) 0 fr).1)) (by kernel_rfl) (by kernel_rfl) ?_
      refine st_val (.int .i64 ((tkB ((unpack l).take (endOf l)) 0 fr).2.1)) (by kernel_rfl) (by kernel_rfl) ?_
      refine st_alloc M31 (.cells (iv zeros) 23 (0, 0)) (by kernel_rfl) (by kernel_rfl) ?_
      intro g32 W33 M34
      refine st_storeRow M34 0 rfl 23 (.tmp 7) (.tmp 34) (by rfl) (iv ((tkB ((unpack l).take (endOf l)) 0 fr).1)) (by kernel_rfl) (by kernel_rfl) (info64 _ (tkB_len _ _ _)) (iv_same (tkB_len _ _ _) zeros_length) (iv_one _) (by kernel_rfl) ((g32, .cells (iv ((tkB ((unpack l).take (endOf l)) 0 fr).1)) 23 (0, 0)) :: ((rT g18 v19 (endOf l) ((tkB ((unpack l).take (endOf l)) 0 fr).2.2) TB20) ++ [])) rfl ?_
      intro W35 M36
      refine st_val (.int .i64 ((tkB ((unpack l).take (endOf l)) 0 fr).2.1)) (by kernel_rfl) (by kernel_rfl) ?_
      refine wl_nil ?_
      refine hK25 _ _ ?_
      try clear hK25 K25
      refine wp_seq_k (fun K37 hK37 => ?_)
      refine wp_seq_k (fun K38 hK38 => ?_)
      refine wl_region ?_
      refine st_val (.int .i64 ((tkB ((unpack l).take (endOf l)) 0 fr).2.1)) (by kernel_rfl) (by kernel_rfl) ?_
      rcases Decidable.em (((tkB ((unpack l).take (endOf l)) 0 fr).2.1 : Int) = 0) with c37 | c37
      ·
        refine st_val (.bool false) (by kernel_rfl) (bool_of (neq_f c37) (by kernel_rfl)) ?_
        refine wl_nil ?_
        refine hK38 _ _ ?_
        try clear hK38 K38
        refine wp_cond_false (by kernel_rfl) ?_
        refine wp_skip ?_
        refine hK37 _ _ ?_
        try clear hK37 K37
        refine wp_seq_k (fun K39 hK39 => ?_)
        have hLl := F21.llen
        obtain ⟨hu1, hu2, hu3, hu4⟩ := tkB_unique F21.bin (Nat.zero_le _) c37
        have hBl : ([] ++ bC (tkB ((unpack l).take (endOf l)) 0 fr).1 fr).length = (tkB ((unpack l).take (endOf l)) 0 fr).2.2 := by rw [List.nil_append, hu2, List.length_take, List.length_drop]; omega
        rw [hLl] at hu4
        have hel := endOf_lt l hne
        refine wl_region ?_
        refine st_callR (A := [(g32, .cells (iv ((tkB ((unpack l).take (endOf l)) 0 fr).1)) 23 (0, 0))]) (B := ((rT g18 v19 (endOf l) ((tkB ((unpack l).take (endOf l)) 0 fr).2.2) TB20) ++ [])) M36 (by kernel_rfl) (run_value_call 8 #[] _ rfl Try.func8 (by kernel_rfl) (by kernel_rfl) _ (by kernel_rfl)) (newWriterM W35) ?_
        intro v40 T41 W42 O43 M44
        have M44 : Mem NoS w W42 ((g32, .cells (iv ((tkB ((unpack l).take (endOf l)) 0 fr).1)) 23 (0, 0)) :: (T41 ++ ((rT g18 v19 (endOf l) ((tkB ((unpack l).take (endOf l)) 0 fr).2.2) TB20) ++ []))) := M44
        obtain ⟨g45, rfl, O46⟩ := O43
        refine st_val (.pointer (some ⟨g45, 0, none⟩)) (by kernel_rfl) (by kernel_rfl) ?_
        refine wl_nil ?_
        refine hK39 _ _ ?_
        try clear hK39 K39
        refine wp_seq_k (fun K47 hK47 => ?_)
        refine wp_seq_k (fun K48 hK48 => ?_)
        refine wl_region ?_
        refine st_val (.pointer (some ⟨g45, 0, none⟩)) (by kernel_rfl) (by kernel_rfl) ?_
        refine st_val (.agg (iv ((tkB ((unpack l).take (endOf l)) 0 fr).1))) (by kernel_rfl) (run_load_row 23 (.tmp 7) rfl g32 (by kernel_rfl) 23 (iv ((tkB ((unpack l).take (endOf l)) 0 fr).1)) (0, 0) _ (M44.get 0 rfl) Try.underlying23 rfl (info64 _ (tkB_len _ _ _))) ?_
        refine st_val (.int .i64 fr) (by kernel_rfl) (by kernel_rfl) ?_
        refine st_callU (A := [(g32, .cells (iv ((tkB ((unpack l).take (endOf l)) 0 fr).1)) 23 (0, 0))]) (T := T41) (B := ((rT g18 v19 (endOf l) ((tkB ((unpack l).take (endOf l)) 0 fr).2.2) TB20) ++ [])) M44 (by kernel_rfl) (run_value_call 9 #[(Operand.tmp 40), (Operand.tmp 41), (Operand.tmp 42)] _ rfl Try.func9 (by kernel_rfl) (by kernel_rfl) _ (by kernel_rfl)) (bput_any W42 O46 (Mem.part (A := [(g32, .cells (iv ((tkB ((unpack l).take (endOf l)) 0 fr).1)) 23 (0, 0))]) (T := T41) (B := ((rT g18 v19 (endOf l) ((tkB ((unpack l).take (endOf l)) 0 fr).2.2) TB20) ++ [])) M44) (by first | omega | (simp only [List.length_append, List.length_nil, bitsOf_length]; omega)) ((tkB ((unpack l).take (endOf l)) 0 fr).1) (tkB_len _ _ _) fr) ?_
        intro v49 T50 W51 O52 M53
        obtain ⟨rfl, O54⟩ := O52
        have M55 : Mem NoS w W51 ((g32, .cells (iv ((tkB ((unpack l).take (endOf l)) 0 fr).1)) 23 (0, 0)) :: (T50 ++ ((rT g18 v19 (endOf l) ((tkB ((unpack l).take (endOf l)) 0 fr).2.2) TB20) ++ []))) := M53
        refine st_val (.bool false) (by kernel_rfl) (bool_of (neq_f (show (bE ((tkB ((unpack l).take (endOf l)) 0 fr).1) fr : Int) = 0 from hu1)) (by kernel_rfl)) ?_
        refine st_val (.bool false) (by kernel_rfl) (by kernel_rfl) ?_
        refine st_val (.pointer (some ⟨g45, 0, none⟩)) (by kernel_rfl) (by kernel_rfl) ?_
        refine st_callE (.int .i64 ((([] ++ bC ((tkB ((unpack l).take (endOf l)) 0 fr).1) fr).length : Nat) : Int)) (by kernel_rfl) (args := #[.pointer (some ⟨g45, 0, none⟩)]) (run_value_call 21 #[(Operand.tmp 46)] _ rfl Try.func21 (by kernel_rfl) (by kernel_rfl) _ (by kernel_rfl)) (wLenM W51 O54 (Mem.part (A := [(g32, .cells (iv ((tkB ((unpack l).take (endOf l)) 0 fr).1)) 23 (0, 0))]) (T := T50) (B := ((rT g18 v19 (endOf l) ((tkB ((unpack l).take (endOf l)) 0 fr).2.2) TB20) ++ [])) M55)) ?_
        refine st_val (.pointer (some ⟨g18, 0, none⟩)) (by kernel_rfl) (by kernel_rfl) ?_
        have M56 : Mem NoS w W51 ((g32, .cells (iv ((tkB ((unpack l).take (endOf l)) 0 fr).1)) 23 (0, 0)) :: ((rT g18 v19 (endOf l) ((tkB ((unpack l).take (endOf l)) 0 fr).2.2) TB20) ++ (T50 ++ []))) := M55.swap (A := [(g32, .cells (iv ((tkB ((unpack l).take (endOf l)) 0 fr).1)) 23 (0, 0))]) (T := T50) (U := (rT g18 v19 (endOf l) ((tkB ((unpack l).take (endOf l)) 0 fr).2.2) TB20)) (B := [])
        refine st_callE (.int .i64 (((tkB ((unpack l).take (endOf l)) 0 fr).2.2 : Nat) : Int)) (by kernel_rfl) (args := #[.pointer (some ⟨g18, 0, none⟩)]) (run_value_call 20 #[(Operand.tmp 48)] _ rfl Try.func20 (by kernel_rfl) (by kernel_rfl) _ (by kernel_rfl)) (rAtM W51 F21 (by omega) (Mem.part (A := [(g32, .cells (iv ((tkB ((unpack l).take (endOf l)) 0 fr).1)) 23 (0, 0))]) (T := (rT g18 v19 (endOf l) ((tkB ((unpack l).take (endOf l)) 0 fr).2.2) TB20)) (B := (T50 ++ [])) M56)) ?_
        refine st_val (.bool false) (by kernel_rfl) (bool_of (neq_f (show (((([] ++ bC ((tkB ((unpack l).take (endOf l)) 0 fr).1) fr).length : Nat) : Int) : Int) = (((tkB ((unpack l).take (endOf l)) 0 fr).2.2 : Nat) : Int) from (by rw [hBl]))) (by kernel_rfl)) ?_
        refine st_val (.bool false) (by kernel_rfl) (by kernel_rfl) ?_
        refine wl_nil ?_
        refine hK48 _ _ ?_
        try clear hK48 K48
        refine wp_frame (a' := ⟨#[.slice A l.length c, .int .i64 fr, undef, undef, .bool false, .pointer (some ⟨g18, 0, none⟩), .int .i64 0, .pointer (some ⟨g32, 0, none⟩), .int .i64 ((tkB ((unpack l).take (endOf l)) 0 fr).2.1), .pointer (some ⟨g45, 0, none⟩), undef, undef, undef, undef, undef, undef, undef, undef, undef, .slice A l.length c, .int .i64 ((l.length : Nat) : Int), .bool false, .tuple #[.pointer (some ⟨g18, 0, none⟩), .int .i64 0], .slice A l.length c, .tuple #[.pointer (some ⟨g18, 0, none⟩), .int .i64 0], .pointer (some ⟨g18, 0, none⟩), .int .i64 0, .int .i64 0, .bool false, undef, .tuple #[.agg (iv (tkB ((unpack l).take (endOf l)) 0 fr).1), .int .i64 ((tkB ((unpack l).take (endOf l)) 0 fr).2.1)], .pointer (some ⟨g18, 0, none⟩), .int .i64 fr, .tuple #[.agg (iv (tkB ((unpack l).take (endOf l)) 0 fr).1), .int .i64 ((tkB ((unpack l).take (endOf l)) 0 fr).2.1)], .agg (iv (tkB ((unpack l).take (endOf l)) 0 fr).1), .int .i64 ((tkB ((unpack l).take (endOf l)) 0 fr).2.1), .int .i64 ((tkB ((unpack l).take (endOf l)) 0 fr).2.1), .bool false, undef, .pointer (some ⟨g45, 0, none⟩), .pointer (some ⟨g45, 0, none⟩), .agg (iv ((tkB ((unpack l).take (endOf l)) 0 fr).1)), .int .i64 fr, .int .i64 (bE ((tkB ((unpack l).take (endOf l)) 0 fr).1) fr), .bool false, .bool false, .pointer (some ⟨g45, 0, none⟩), .int .i64 ((([] ++ bC ((tkB ((unpack l).take (endOf l)) 0 fr).1) fr).length : Nat) : Int), .pointer (some ⟨g18, 0, none⟩), .int .i64 (((tkB ((unpack l).take (endOf l)) 0 fr).2.2 : Nat) : Int), .bool false, .bool false, undef, undef, undef, undef, undef, undef, undef, undef, undef, undef, undef, undef, undef, undef, undef, undef, undef, undef, undef, undef, undef, undef, undef, undef, undef, undef, undef, undef, undef, undef, undef, undef, undef, undef, undef, undef, undef], []⟩) (by kernel_rfl) ?_
        refine wp_cond_false (by kernel_rfl) ?_
        refine wp_skip ?_
        refine hK47 _ _ ?_
        try clear hK47 K47
        refine wp_seq_k (fun K57 hK57 => ?_)
        refine wl_region ?_
        refine st_val (.slice A l.length c) (by kernel_rfl) (by kernel_rfl) ?_
        refine st_callR (A := [(g32, .cells (iv ((tkB ((unpack l).take (endOf l)) 0 fr).1)) 23 (0, 0))]) (B := ((rT g18 v19 (endOf l) ((tkB ((unpack l).take (endOf l)) 0 fr).2.2) TB20) ++ (T50 ++ []))) M56 (by kernel_rfl) (run_value_call 16 #[(Operand.tmp 53)] _ rfl Try.func16 (by kernel_rfl) (by kernel_rfl) _ (by kernel_rfl)) (newReaderM W51 (.slice A l.length c) l (hr.keep M56.keep (fun _ _ h => h)) hb (by omega) hne hla) ?_
        intro v58 T59 W60 O61 M62
        have M62 : Mem NoS w W60 ((g32, .cells (iv ((tkB ((unpack l).take (endOf l)) 0 fr).1)) 23 (0, 0)) :: (T59 ++ ((rT g18 v19 (endOf l) ((tkB ((unpack l).take (endOf l)) 0 fr).2.2) TB20) ++ (T50 ++ [])))) := M62
        obtain ⟨g63, v64, TB65, rfl, rfl, F66⟩ := O61
        have M67 : Mem NoS w W60 ((g32, .cells (iv ((tkB ((unpack l).take (endOf l)) 0 fr).1)) 23 (0, 0)) :: ((rT g63 v64 (endOf l) 0 TB65) ++ ((rT g18 v19 (endOf l) ((tkB ((unpack l).take (endOf l)) 0 fr).2.2) TB20) ++ (T50 ++ [])))) := M62
        refine st_val (.tuple #[.pointer (some ⟨g63, 0, none⟩), .int .i64 0]) (by kernel_rfl) (by kernel_rfl) ?_
        refine st_val (.pointer (some ⟨g63, 0, none⟩)) (by kernel_rfl) (by kernel_rfl) ?_
        refine st_val (.int .i64 0) (by kernel_rfl) (by kernel_rfl) ?_
        refine st_val (.pointer (some ⟨g63, 0, none⟩)) (by kernel_rfl) (by kernel_rfl) ?_
        refine st_val (.int .i64 0) (by kernel_rfl) (by kernel_rfl) ?_
        refine wl_nil ?_
        refine hK57 _ _ ?_
        try clear hK57 K57
        refine wp_seq_k (fun K68 hK68 => ?_)
        have hpl := payload_length ([] ++ bC (tkB ((unpack l).take (endOf l)) 0 fr).1 fr)
        refine wl_region ?_
        refine st_val (.pointer (some ⟨g45, 0, none⟩)) (by kernel_rfl) (by kernel_rfl) ?_
        have M69 : Mem NoS w W60 ((g32, .cells (iv ((tkB ((unpack l).take (endOf l)) 0 fr).1)) 23 (0, 0)) :: (T50 ++ ((rT g63 v64 (endOf l) 0 TB65) ++ ((rT g18 v19 (endOf l) ((tkB ((unpack l).take (endOf l)) 0 fr).2.2) TB20) ++ [])))) := Mem.pull (A := [(g32, .cells (iv ((tkB ((unpack l).take (endOf l)) 0 fr).1)) 23 (0, 0))]) [(rT g63 v64 (endOf l) 0 TB65), (rT g18 v19 (endOf l) ((tkB ((unpack l).take (endOf l)) 0 fr).2.2) TB20)] T50 [] M67
        refine st_callR (A := [(g32, .cells (iv ((tkB ((unpack l).take (endOf l)) 0 fr).1)) 23 (0, 0))]) (B := (T50 ++ ((rT g63 v64 (endOf l) 0 TB65) ++ ((rT g18 v19 (endOf l) ((tkB ((unpack l).take (endOf l)) 0 fr).2.2) TB20) ++ [])))) M69 (by kernel_rfl) (run_value_call 14 #[(Operand.tmp 58)] _ rfl Try.func14 (by kernel_rfl) (by kernel_rfl) _ (by kernel_rfl)) (wPayM W60 O54 (Mem.part (A := [(g32, .cells (iv ((tkB ((unpack l).take (endOf l)) 0 fr).1)) 23 (0, 0))]) (T := T50) (B := ((rT g63 v64 (endOf l) 0 TB65) ++ ((rT g18 v19 (endOf l) ((tkB ((unpack l).take (endOf l)) 0 fr).2.2) TB20) ++ []))) M69) (by first | omega | (simp only [List.length_append, List.length_nil, bitsOf_length]; omega))) ?_
        intro v70 T71 W72 O73 M74
        have M74 : Mem NoS w W72 ((g32, .cells (iv ((tkB ((unpack l).take (endOf l)) 0 fr).1)) 23 (0, 0)) :: (T71 ++ (T50 ++ ((rT g63 v64 (endOf l) 0 TB65) ++ ((rT g18 v19 (endOf l) ((tkB ((unpack l).take (endOf l)) 0 fr).2.2) TB20) ++ []))))) := M74
        obtain ⟨A75, cq76, rfl, hc77⟩ := O73.shape
        refine st_callR (A := [(g32, .cells (iv ((tkB ((unpack l).take (endOf l)) 0 fr).1)) 23 (0, 0))]) (B := (T71 ++ (T50 ++ ((rT g63 v64 (endOf l) 0 TB65) ++ ((rT g18 v19 (endOf l) ((tkB ((unpack l).take (endOf l)) 0 fr).2.2) TB20) ++ []))))) M74 (by kernel_rfl) (run_value_call 16 #[(Operand.tmp 59)] _ rfl Try.func16 (by kernel_rfl) (by kernel_rfl) _ (by kernel_rfl)) (newReaderM W72 (.slice A75 ((payload ([] ++ bC ((tkB ((unpack l).take (endOf l)) 0 fr).1) fr)).length) cq76) (payload ([] ++ bC ((tkB ((unpack l).take (endOf l)) 0 fr).1) fr)) (O73.rd (fun p hp => M74.at_ p (List.mem_cons_of_mem _ (List.mem_append_left _ hp)))) (payload_lt _ O54.bin) (by rw [payload_length]; omega) (payload_ne _) (payload_last _ O54.bin)) ?_
        intro v78 T79 W80 O81 M82
        have M82 : Mem NoS w W80 ((g32, .cells (iv ((tkB ((unpack l).take (endOf l)) 0 fr).1)) 23 (0, 0)) :: (T79 ++ (T71 ++ (T50 ++ ((rT g63 v64 (endOf l) 0 TB65) ++ ((rT g18 v19 (endOf l) ((tkB ((unpack l).take (endOf l)) 0 fr).2.2) TB20) ++ [])))))) := M82
        obtain ⟨g83, v84, TB85, rfl, rfl, F86⟩ := O81
        have M87 : Mem NoS w W80 ((g32, .cells (iv ((tkB ((unpack l).take (endOf l)) 0 fr).1)) 23 (0, 0)) :: ((rT g83 v84 (endOf (payload ([] ++ bC ((tkB ((unpack l).take (endOf l)) 0 fr).1) fr))) 0 TB85) ++ (T71 ++ (T50 ++ ((rT g63 v64 (endOf l) 0 TB65) ++ ((rT g18 v19 (endOf l) ((tkB ((unpack l).take (endOf l)) 0 fr).2.2) TB20) ++ [])))))) := M82
        refine st_val (.tuple #[.pointer (some ⟨g83, 0, none⟩), .int .i64 0]) (by kernel_rfl) (by kernel_rfl) ?_
        refine st_val (.pointer (some ⟨g83, 0, none⟩)) (by kernel_rfl) (by kernel_rfl) ?_
        refine st_val (.int .i64 0) (by kernel_rfl) (by kernel_rfl) ?_
        refine st_val (.pointer (some ⟨g83, 0, none⟩)) (by kernel_rfl) (by kernel_rfl) ?_
        refine st_val (.int .i64 0) (by kernel_rfl) (by kernel_rfl) ?_
        refine wl_nil ?_
        refine hK68 _ _ ?_
        try clear hK68 K68
        refine wp_frame (a' := ⟨#[.slice A l.length c, .int .i64 fr, undef, undef, .bool false, .pointer (some ⟨g18, 0, none⟩), .int .i64 0, .pointer (some ⟨g32, 0, none⟩), .int .i64 ((tkB ((unpack l).take (endOf l)) 0 fr).2.1), .pointer (some ⟨g45, 0, none⟩), .pointer (some ⟨g63, 0, none⟩), .int .i64 0, .pointer (some ⟨g83, 0, none⟩), .int .i64 0, undef, undef, undef, undef, undef, .slice A l.length c, .int .i64 ((l.length : Nat) : Int), .bool false, .tuple #[.pointer (some ⟨g18, 0, none⟩), .int .i64 0], .slice A l.length c, .tuple #[.pointer (some ⟨g18, 0, none⟩), .int .i64 0], .pointer (some ⟨g18, 0, none⟩), .int .i64 0, .int .i64 0, .bool false, undef, .tuple #[.agg (iv (tkB ((unpack l).take (endOf l)) 0 fr).1), .int .i64 ((tkB ((unpack l).take (endOf l)) 0 fr).2.1)], .pointer (some ⟨g18, 0, none⟩), .int .i64 fr, .tuple #[.agg (iv (tkB ((unpack l).take (endOf l)) 0 fr).1), .int .i64 ((tkB ((unpack l).take (endOf l)) 0 fr).2.1)], .agg (iv (tkB ((unpack l).take (endOf l)) 0 fr).1), .int .i64 ((tkB ((unpack l).take (endOf l)) 0 fr).2.1), .int .i64 ((tkB ((unpack l).take (endOf l)) 0 fr).2.1), .bool false, undef, .pointer (some ⟨g45, 0, none⟩), .pointer (some ⟨g45, 0, none⟩), .agg (iv ((tkB ((unpack l).take (endOf l)) 0 fr).1)), .int .i64 fr, .int .i64 (bE ((tkB ((unpack l).take (endOf l)) 0 fr).1) fr), .bool false, .bool false, .pointer (some ⟨g45, 0, none⟩), .int .i64 ((([] ++ bC ((tkB ((unpack l).take (endOf l)) 0 fr).1) fr).length : Nat) : Int), .pointer (some ⟨g18, 0, none⟩), .int .i64 (((tkB ((unpack l).take (endOf l)) 0 fr).2.2 : Nat) : Int), .bool false, .bool false, .tuple #[.pointer (some ⟨g63, 0, none⟩), .int .i64 0], .slice A l.length c, .tuple #[.pointer (some ⟨g63, 0, none⟩), .int .i64 0], .pointer (some ⟨g63, 0, none⟩), .int .i64 0, .tuple #[.pointer (some ⟨g83, 0, none⟩), .int .i64 0], .pointer (some ⟨g45, 0, none⟩), .slice A75 ((payload ([] ++ bC ((tkB ((unpack l).take (endOf l)) 0 fr).1) fr)).length) cq76, .tuple #[.pointer (some ⟨g83, 0, none⟩), .int .i64 0], .pointer (some ⟨g83, 0, none⟩), .int .i64 0, undef, undef, undef, undef, undef, undef, undef, undef, undef, undef, undef, undef, undef, undef, undef, undef, undef, undef, undef, undef, undef, undef, undef, undef, undef, undef], []⟩) (by kernel_rfl) ?_
        refine wp_seq_k (fun K88 hK88 => ?_)
        refine wp_seq_k (fun K89 hK89 => ?_)
        refine wl_region ?_
        refine st_val (.int .i64 0) (by kernel_rfl) (by kernel_rfl) ?_
        refine st_val (.bool false) (by kernel_rfl) (by kernel_rfl) ?_
        refine st_val (.bool false) (by kernel_rfl) (by kernel_rfl) ?_
        refine st_val (.int .i64 0) (by kernel_rfl) (by kernel_rfl) ?_
        refine st_val (.bool false) (by kernel_rfl) (by kernel_rfl) ?_
        refine st_val (.bool false) (by kernel_rfl) (by kernel_rfl) ?_
        refine wl_nil ?_
        refine hK89 _ _ ?_
        try clear hK89 K89
        refine wp_cond_false (by kernel_rfl) ?_
        refine wp_skip ?_
        refine hK88 _ _ ?_
        try clear hK88 K88
        refine wp_seq_k (fun K90 hK90 => ?_)
        refine wp_seq_k (fun K91 hK91 => ?_)
        refine wl_region ?_
        refine st_val (.int .i64 0) (by kernel_rfl) (by kernel_rfl) ?_
        refine wl_nil ?_
        refine hK91 _ _ ?_
        try clear hK91 K91
        refine wp_block ?_
        have hend := end_payload _ O54.bin
        have M92 : Mem NoS w W80 ((g32, .cells (iv ((tkB ((unpack l).take (endOf l)) 0 fr).1)) 23 (0, 0)) :: ((rT g83 v84 (endOf (payload ([] ++ bC ((tkB ((unpack l).take (endOf l)) 0 fr).1) fr))) 0 TB85) ++ (T50 ++ ((rT g63 v64 (endOf l) 0 TB65) ++ [])))) := M87.sub (((((((List.Sublist.refl []).trans (List.sublist_append_right (rT g18 v19 (endOf l) ((tkB ((unpack l).take (endOf l)) 0 fr).2.2) TB20) _)).append_left (rT g63 v64 (endOf l) 0 TB65)).append_left T50).trans (List.sublist_append_right T71 _)).append_left (rT g83 v84 (endOf (payload ([] ++ bC ((tkB ((unpack l).take (endOf l)) 0 fr).1) fr))) 0 TB85)).cons_cons _)
        have M93 : Mem NoS w W80 ((g32, .cells (iv ((tkB ((unpack l).take (endOf l)) 0 fr).1)) 23 (0, 0)) :: (T50 ++ ((rT g83 v84 (endOf (payload ([] ++ bC ((tkB ((unpack l).take (endOf l)) 0 fr).1) fr))) 0 TB85) ++ ((rT g63 v64 (endOf l) 0 TB65) ++ [])))) := M92.swap (A := [(g32, .cells (iv ((tkB ((unpack l).take (endOf l)) 0 fr).1)) 23 (0, 0))]) (T := (rT g83 v84 (endOf (payload ([] ++ bC ((tkB ((unpack l).take (endOf l)) 0 fr).1) fr))) 0 TB85)) (U := T50) (B := ((rT g63 v64 (endOf l) 0 TB65) ++ []))
        have M94 : Mem NoS w W80 ((g32, .cells (iv ((tkB ((unpack l).take (endOf l)) 0 fr).1)) 23 (0, 0)) :: ((rT g63 v64 (endOf l) 0 TB65) ++ (T50 ++ ((rT g83 v84 (endOf (payload ([] ++ bC ((tkB ((unpack l).take (endOf l)) 0 fr).1) fr))) 0 TB85) ++ [])))) := Mem.pull (A := [(g32, .cells (iv ((tkB ((unpack l).take (endOf l)) 0 fr).1)) 23 (0, 0))]) [T50, (rT g83 v84 (endOf (payload ([] ++ bC ((tkB ((unpack l).take (endOf l)) 0 fr).1) fr))) 0 TB85)] (rT g63 v64 (endOf l) 0 TB65) [] M93
        have M95 : Mem NoS w W80 ((g32, .cells (iv ((tkB ((unpack l).take (endOf l)) 0 fr).1)) 23 (0, 0)) :: ((rT g83 v84 (endOf (payload ([] ++ bC ((tkB ((unpack l).take (endOf l)) 0 fr).1) fr))) 0 TB85) ++ ((rT g63 v64 (endOf l) 0 TB65) ++ (T50 ++ [])))) := Mem.pull (A := [(g32, .cells (iv ((tkB ((unpack l).take (endOf l)) 0 fr).1)) 23 (0, 0))]) [(rT g63 v64 (endOf l) 0 TB65), T50] (rT g83 v84 (endOf (payload ([] ++ bC ((tkB ((unpack l).take (endOf l)) 0 fr).1) fr))) 0 TB85) [] M94
        refine wp_loop_ghost (fun gn a' w' => ∃ (i : Nat) (u96 : Nat → Value), ((i ≤ (tkB ((unpack l).take (endOf l)) 0 fr).2.2) ∧ Mem NoS w w' ((g32, .cells (iv ((tkB ((unpack l).take (endOf l)) 0 fr).1)) 23 (0, 0)) :: ((rT g83 v84 (endOf (payload ([] ++ bC ((tkB ((unpack l).take (endOf l)) 0 fr).1) fr))) i TB85) ++ ((rT g63 v64 (endOf l) i TB65) ++ (T50 ++ []))))) ∧ gn = (tkB ((unpack l).take (endOf l)) 0 fr).2.2 - i ∧ a' = ⟨#[.slice A l.length c, .int .i64 fr, undef, undef, (u96 4), .pointer (some ⟨g18, 0, none⟩), .int .i64 0, .pointer (some ⟨g32, 0, none⟩), .int .i64 ((tkB ((unpack l).take (endOf l)) 0 fr).2.1), .pointer (some ⟨g45, 0, none⟩), .pointer (some ⟨g63, 0, none⟩), .int .i64 0, .pointer (some ⟨g83, 0, none⟩), .int .i64 0, .int .i64 ((i : Nat) : Int), (u96 15), (u96 16), (u96 17), (u96 18), .slice A l.length c, .int .i64 ((l.length : Nat) : Int), .bool false, .tuple #[.pointer (some ⟨g18, 0, none⟩), .int .i64 0], .slice A l.length c, .tuple #[.pointer (some ⟨g18, 0, none⟩), .int .i64 0], .pointer (some ⟨g18, 0, none⟩), .int .i64 0, .int .i64 0, .bool false, undef, .tuple #[.agg (iv (tkB ((unpack l).take (endOf l)) 0 fr).1), .int .i64 ((tkB ((unpack l).take (endOf l)) 0 fr).2.1)], .pointer (some ⟨g18, 0, none⟩), .int .i64 fr, .tuple #[.agg (iv (tkB ((unpack l).take (endOf l)) 0 fr).1), .int .i64 ((tkB ((unpack l).take (endOf l)) 0 fr).2.1)], .agg (iv (tkB ((unpack l).take (endOf l)) 0 fr).1), .int .i64 ((tkB ((unpack l).take (endOf l)) 0 fr).2.1), .int .i64 ((tkB ((unpack l).take (endOf l)) 0 fr).2.1), .bool false, undef, .pointer (some ⟨g45, 0, none⟩), .pointer (some ⟨g45, 0, none⟩), .agg (iv ((tkB ((unpack l).take (endOf l)) 0 fr).1)), .int .i64 fr, .int .i64 (bE ((tkB ((unpack l).take (endOf l)) 0 fr).1) fr), .bool false, .bool false, .pointer (some ⟨g45, 0, none⟩), .int .i64 ((([] ++ bC ((tkB ((unpack l).take (endOf l)) 0 fr).1) fr).length : Nat) : Int), .pointer (some ⟨g18, 0, none⟩), .int .i64 (((tkB ((unpack l).take (endOf l)) 0 fr).2.2 : Nat) : Int), .bool false, .bool false, .tuple #[.pointer (some ⟨g63, 0, none⟩), .int .i64 0], .slice A l.length c, .tuple #[.pointer (some ⟨g63, 0, none⟩), .int .i64 0], .pointer (some ⟨g63, 0, none⟩), .int .i64 0, .tuple #[.pointer (some ⟨g83, 0, none⟩), .int .i64 0], .pointer (some ⟨g45, 0, none⟩), .slice A75 ((payload ([] ++ bC ((tkB ((unpack l).take (endOf l)) 0 fr).1) fr)).length) cq76, .tuple #[.pointer (some ⟨g83, 0, none⟩), .int .i64 0], .pointer (some ⟨g83, 0, none⟩), .int .i64 0, .int .i64 0, .bool false, .bool false, .int .i64 0, .bool false, .bool false, (u96 69), (u96 70), (u96 71), (u96 72), (u96 73), (u96 74), (u96 75), (u96 76), (u96 77), (u96 78), (u96 79), (u96 80), (u96 81), (u96 82), (u96 83), (u96 84), (u96 85), (u96 86), (u96 87), undef], []⟩) _ ⟨0, (fun zz => Array.getD #[.slice A l.length c, .int .i64 fr, undef, undef, .bool false, .pointer (some ⟨g18, 0, none⟩), .int .i64 0, .pointer (some ⟨g32, 0, none⟩), .int .i64 ((tkB ((unpack l).take (endOf l)) 0 fr).2.1), .pointer (some ⟨g45, 0, none⟩), .pointer (some ⟨g63, 0, none⟩), .int .i64 0, .pointer (some ⟨g83, 0, none⟩), .int .i64 0, .int .i64 0, undef, undef, undef, undef, .slice A l.length c, .int .i64 ((l.length : Nat) : Int), .bool false, .tuple #[.pointer (some ⟨g18, 0, none⟩), .int .i64 0], .slice A l.length c, .tuple #[.pointer (some ⟨g18, 0, none⟩), .int .i64 0], .pointer (some ⟨g18, 0, none⟩), .int .i64 0, .int .i64 0, .bool false, undef, .tuple #[.agg (iv (tkB ((unpack l).take (endOf l)) 0 fr).1), .int .i64 ((tkB ((unpack l).take (endOf l)) 0 fr).2.1)], .pointer (some ⟨g18, 0, none⟩), .int .i64 fr, .tuple #[.agg (iv (tkB ((unpack l).take (endOf l)) 0 fr).1), .int .i64 ((tkB ((unpack l).take (endOf l)) 0 fr).2.1)], .agg (iv (tkB ((unpack l).take (endOf l)) 0 fr).1), .int .i64 ((tkB ((unpack l).take (endOf l)) 0 fr).2.1), .int .i64 ((tkB ((unpack l).take (endOf l)) 0 fr).2.1), .bool false, undef, .pointer (some ⟨g45, 0, none⟩), .pointer (some ⟨g45, 0, none⟩), .agg (iv ((tkB ((unpack l).take (endOf l)) 0 fr).1)), .int .i64 fr, .int .i64 (bE ((tkB ((unpack l).take (endOf l)) 0 fr).1) fr), .bool false, .bool false, .pointer (some ⟨g45, 0, none⟩), .int .i64 ((([] ++ bC ((tkB ((unpack l).take (endOf l)) 0 fr).1) fr).length : Nat) : Int), .pointer (some ⟨g18, 0, none⟩), .int .i64 (((tkB ((unpack l).take (endOf l)) 0 fr).2.2 : Nat) : Int), .bool false, .bool false, .tuple #[.pointer (some ⟨g63, 0, none⟩), .int .i64 0], .slice A l.length c, .tuple #[.pointer (some ⟨g63, 0, none⟩), .int .i64 0], .pointer (some ⟨g63, 0, none⟩), .int .i64 0, .tuple #[.pointer (some ⟨g83, 0, none⟩), .int .i64 0], .pointer (some ⟨g45, 0, none⟩), .slice A75 ((payload ([] ++ bC ((tkB ((unpack l).take (endOf l)) 0 fr).1) fr)).length) cq76, .tuple #[.pointer (some ⟨g83, 0, none⟩), .int .i64 0], .pointer (some ⟨g83, 0, none⟩), .int .i64 0, .int .i64 0, .bool false, .bool false, .int .i64 0, .bool false, .bool false, undef, undef, undef, undef, undef, undef, undef, undef, undef, undef, undef, undef, undef, undef, undef, undef, undef, undef, undef, undef] zz undef), ⟨by omega, M95⟩, rfl, (by kernel_rfl)⟩ ?_
        rintro gn _ W97 ⟨i, u96, ⟨ri, M98⟩, rfl, rfl⟩
        refine wp_seq_k (fun K99 hK99 => ?_)
        refine wp_seq_k (fun K100 hK100 => ?_)
        refine wl_region ?_
        refine st_val (.int .i64 ((i : Nat) : Int)) (by kernel_rfl) (by kernel_rfl) ?_
        refine st_val (.pointer (some ⟨g45, 0, none⟩)) (by kernel_rfl) (by kernel_rfl) ?_
        have M101 : Mem NoS w W97 ((g32, .cells (iv ((tkB ((unpack l).take (endOf l)) 0 fr).1)) 23 (0, 0)) :: (T50 ++ ((rT g83 v84 (endOf (payload ([] ++ bC ((tkB ((unpack l).take (endOf l)) 0 fr).1) fr))) i TB85) ++ ((rT g63 v64 (endOf l) i TB65) ++ [])))) := Mem.pull (A := [(g32, .cells (iv ((tkB ((unpack l).take (endOf l)) 0 fr).1)) 23 (0, 0))]) [(rT g83 v84 (endOf (payload ([] ++ bC ((tkB ((unpack l).take (endOf l)) 0 fr).1) fr))) i TB85), (rT g63 v64 (endOf l) i TB65)] T50 [] M98
        refine st_callE (.int .i64 ((([] ++ bC ((tkB ((unpack l).take (endOf l)) 0 fr).1) fr).length : Nat) : Int)) (by kernel_rfl) (args := #[.pointer (some ⟨g45, 0, none⟩)]) (run_value_call 21 #[(Operand.tmp 70)] _ rfl Try.func21 (by kernel_rfl) (by kernel_rfl) _ (by kernel_rfl)) (wLenM W97 O54 (Mem.part (A := [(g32, .cells (iv ((tkB ((unpack l).take (endOf l)) 0 fr).1)) 23 (0, 0))]) (T := T50) (B := ((rT g83 v84 (endOf (payload ([] ++ bC ((tkB ((unpack l).take (endOf l)) 0 fr).1) fr))) i TB85) ++ ((rT g63 v64 (endOf l) i TB65) ++ []))) M101)) ?_
        rcases Decidable.em ((((i : Nat) : Int) : Int) < ((([] ++ bC ((tkB ((unpack l).take (endOf l)) 0 fr).1) fr).length : Nat) : Int)) with c72 | c72
        ·
          have c72b := c72
          rw [hBl] at c72b
          have hend2 := hend
          rw [hBl] at hend2
          refine st_val (.bool true) (by kernel_rfl) (bool_of (dec_t c72) (by kernel_rfl)) ?_
          refine wl_nil ?_
          refine hK100 _ _ ?_
          try clear hK100 K100
          refine wp_cond_true (by kernel_rfl) ?_
          refine wp_skip ?_
          refine hK99 _ _ ?_
          try clear hK99 K99
          refine wp_seq_k (fun K102 hK102 => ?_)
          refine wp_block ?_
          refine wp_seq_k (fun K103 hK103 => ?_)
          refine wl_region ?_
          refine st_val (.pointer (some ⟨g63, 0, none⟩)) (by kernel_rfl) (by kernel_rfl) ?_
          have M104 : Mem NoS w W97 ((g32, .cells (iv ((tkB ((unpack l).take (endOf l)) 0 fr).1)) 23 (0, 0)) :: ((rT g63 v64 (endOf l) i TB65) ++ (T50 ++ ((rT g83 v84 (endOf (payload ([] ++ bC ((tkB ((unpack l).take (endOf l)) 0 fr).1) fr))) i TB85) ++ [])))) := Mem.pull (A := [(g32, .cells (iv ((tkB ((unpack l).take (endOf l)) 0 fr).1)) 23 (0, 0))]) [T50, (rT g83 v84 (endOf (payload ([] ++ bC ((tkB ((unpack l).take (endOf l)) 0 fr).1) fr))) i TB85)] (rT g63 v64 (endOf l) i TB65) [] M101
          refine st_callU (A := [(g32, .cells (iv ((tkB ((unpack l).take (endOf l)) 0 fr).1)) 23 (0, 0))]) (T := (rT g63 v64 (endOf l) i TB65)) (B := (T50 ++ ((rT g83 v84 (endOf (payload ([] ++ bC ((tkB ((unpack l).take (endOf l)) 0 fr).1) fr))) i TB85) ++ []))) M104 (by kernel_rfl) (run_value_call 23 #[(Operand.tmp 76), (Operand.const (Value.int IntKind.i64 1))] _ rfl Try.func23 (by kernel_rfl) (by kernel_rfl) _ (by kernel_rfl)) (rTakeM W97 F66 (Mem.part (A := [(g32, .cells (iv ((tkB ((unpack l).take (endOf l)) 0 fr).1)) 23 (0, 0))]) (T := (rT g63 v64 (endOf l) i TB65)) (B := (T50 ++ ((rT g83 v84 (endOf (payload ([] ++ bC ((tkB ((unpack l).take (endOf l)) 0 fr).1) fr))) i TB85) ++ []))) M104) 1 (by omega) (by omega)) ?_
          intro v105 T106 W107 O108 M109
          obtain ⟨rfl, rfl⟩ := O108
          have M110 : Mem NoS w W107 ((g32, .cells (iv ((tkB ((unpack l).take (endOf l)) 0 fr).1)) 23 (0, 0)) :: ((rT g63 v64 (endOf l) (i + 1) TB65) ++ (T50 ++ ((rT g83 v84 (endOf (payload ([] ++ bC ((tkB ((unpack l).take (endOf l)) 0 fr).1) fr))) i TB85) ++ [])))) := M109
          refine st_val (.tuple #[.int .u32 ((valueOf (((unpack l).drop i).take 1) : Nat) : Int), .int .i64 0]) (by kernel_rfl) (by kernel_rfl) ?_
          refine st_val (.int .u32 ((valueOf (((unpack l).drop i).take 1) : Nat) : Int)) (by kernel_rfl) (by kernel_rfl) ?_
          refine st_val (.int .i64 0) (by kernel_rfl) (by kernel_rfl) ?_
          refine st_val (.int .u32 ((valueOf (((unpack l).drop i).take 1) : Nat) : Int)) (by kernel_rfl) (by kernel_rfl) ?_
          refine st_val (.int .i64 0) (by kernel_rfl) (by kernel_rfl) ?_
          refine wl_nil ?_
          refine hK103 _ _ ?_
          try clear hK103 K103
          refine wp_seq_k (fun K111 hK111 => ?_)
          refine wl_region ?_
          refine st_val (.pointer (some ⟨g83, 0, none⟩)) (by kernel_rfl) (by kernel_rfl) ?_
          have M112 : Mem NoS w W107 ((g32, .cells (iv ((tkB ((unpack l).take (endOf l)) 0 fr).1)) 23 (0, 0)) :: ((rT g83 v84 (endOf (payload ([] ++ bC ((tkB ((unpack l).take (endOf l)) 0 fr).1) fr))) i TB85) ++ ((rT g63 v64 (endOf l) (i + 1) TB65) ++ (T50 ++ [])))) := Mem.pull (A := [(g32, .cells (iv ((tkB ((unpack l).take (endOf l)) 0 fr).1)) 23 (0, 0))]) [(rT g63 v64 (endOf l) (i + 1) TB65), T50] (rT g83 v84 (endOf (payload ([] ++ bC ((tkB ((unpack l).take (endOf l)) 0 fr).1) fr))) i TB85) [] M110
          refine st_callU (A := [(g32, .cells (iv ((tkB ((unpack l).take (endOf l)) 0 fr).1)) 23 (0, 0))]) (T := (rT g83 v84 (endOf (payload ([] ++ bC ((tkB ((unpack l).take (endOf l)) 0 fr).1) fr))) i TB85)) (B := ((rT g63 v64 (endOf l) (i + 1) TB65) ++ (T50 ++ []))) M112 (by kernel_rfl) (run_value_call 23 #[(Operand.tmp 81), (Operand.const (Value.int IntKind.i64 1))] _ rfl Try.func23 (by kernel_rfl) (by kernel_rfl) _ (by kernel_rfl)) (rTakeM W107 F86 (Mem.part (A := [(g32, .cells (iv ((tkB ((unpack l).take (endOf l)) 0 fr).1)) 23 (0, 0))]) (T := (rT g83 v84 (endOf (payload ([] ++ bC ((tkB ((unpack l).take (endOf l)) 0 fr).1) fr))) i TB85)) (B := ((rT g63 v64 (endOf l) (i + 1) TB65) ++ (T50 ++ []))) M112) 1 (by omega) (by omega)) ?_
          intro v113 T114 W115 O116 M117
          obtain ⟨rfl, rfl⟩ := O116
          have M118 : Mem NoS w W115 ((g32, .cells (iv ((tkB ((unpack l).take (endOf l)) 0 fr).1)) 23 (0, 0)) :: ((rT g83 v84 (endOf (payload ([] ++ bC ((tkB ((unpack l).take (endOf l)) 0 fr).1) fr))) (i + 1) TB85) ++ ((rT g63 v64 (endOf l) (i + 1) TB65) ++ (T50 ++ [])))) := M117
          refine st_val (.tuple #[.int .u32 ((valueOf (((unpack (payload ([] ++ bC ((tkB ((unpack l).take (endOf l)) 0 fr).1) fr))).drop i).take 1) : Nat) : Int), .int .i64 0]) (by kernel_rfl) (by kernel_rfl) ?_
          refine st_val (.int .u32 ((valueOf (((unpack (payload ([] ++ bC ((tkB ((unpack l).take (endOf l)) 0 fr).1) fr))).drop i).take 1) : Nat) : Int)) (by kernel_rfl) (by kernel_rfl) ?_
          refine st_val (.int .i64 0) (by kernel_rfl) (by kernel_rfl) ?_
          refine st_val (.int .u32 ((valueOf (((unpack (payload ([] ++ bC ((tkB ((unpack l).take (endOf l)) 0 fr).1) fr))).drop i).take 1) : Nat) : Int)) (by kernel_rfl) (by kernel_rfl) ?_
          refine st_val (.int .i64 0) (by kernel_rfl) (by kernel_rfl) ?_
          refine wl_nil ?_
          refine hK111 _ _ ?_
          try clear hK111 K111
          refine wp_frame (a' := ⟨#[.slice A l.length c, .int .i64 fr, undef, undef, (u96 4), .pointer (some ⟨g18, 0, none⟩), .int .i64 0, .pointer (some ⟨g32, 0, none⟩), .int .i64 ((tkB ((unpack l).take (endOf l)) 0 fr).2.1), .pointer (some ⟨g45, 0, none⟩), .pointer (some ⟨g63, 0, none⟩), .int .i64 0, .pointer (some ⟨g83, 0, none⟩), .int .i64 0, .int .i64 ((i : Nat) : Int), .int .u32 ((valueOf (((unpack l).drop i).take 1) : Nat) : Int), .int .i64 0, .int .u32 ((valueOf (((unpack (payload ([] ++ bC ((tkB ((unpack l).take (endOf l)) 0 fr).1) fr))).drop i).take 1) : Nat) : Int), .int .i64 0, .slice A l.length c, .int .i64 ((l.length : Nat) : Int), .bool false, .tuple #[.pointer (some ⟨g18, 0, none⟩), .int .i64 0], .slice A l.length c, .tuple #[.pointer (some ⟨g18, 0, none⟩), .int .i64 0], .pointer (some ⟨g18, 0, none⟩), .int .i64 0, .int .i64 0, .bool false, undef, .tuple #[.agg (iv (tkB ((unpack l).take (endOf l)) 0 fr).1), .int .i64 ((tkB ((unpack l).take (endOf l)) 0 fr).2.1)], .pointer (some ⟨g18, 0, none⟩), .int .i64 fr, .tuple #[.agg (iv (tkB ((unpack l).take (endOf l)) 0 fr).1), .int .i64 ((tkB ((unpack l).take (endOf l)) 0 fr).2.1)], .agg (iv (tkB ((unpack l).take (endOf l)) 0 fr).1), .int .i64 ((tkB ((unpack l).take (endOf l)) 0 fr).2.1), .int .i64 ((tkB ((unpack l).take (endOf l)) 0 fr).2.1), .bool false, undef, .pointer (some ⟨g45, 0, none⟩), .pointer (some ⟨g45, 0, none⟩), .agg (iv ((tkB ((unpack l).take (endOf l)) 0 fr).1)), .int .i64 fr, .int .i64 (bE ((tkB ((unpack l).take (endOf l)) 0 fr).1) fr), .bool false, .bool false, .pointer (some ⟨g45, 0, none⟩), .int .i64 ((([] ++ bC ((tkB ((unpack l).take (endOf l)) 0 fr).1) fr).length : Nat) : Int), .pointer (some ⟨g18, 0, none⟩), .int .i64 (((tkB ((unpack l).take (endOf l)) 0 fr).2.2 : Nat) : Int), .bool false, .bool false, .tuple #[.pointer (some ⟨g63, 0, none⟩), .int .i64 0], .slice A l.length c, .tuple #[.pointer (some ⟨g63, 0, none⟩), .int .i64 0], .pointer (some ⟨g63, 0, none⟩), .int .i64 0, .tuple #[.pointer (some ⟨g83, 0, none⟩), .int .i64 0], .pointer (some ⟨g45, 0, none⟩), .slice A75 ((payload ([] ++ bC ((tkB ((unpack l).take (endOf l)) 0 fr).1) fr)).length) cq76, .tuple #[.pointer (some ⟨g83, 0, none⟩), .int .i64 0], .pointer (some ⟨g83, 0, none⟩), .int .i64 0, .int .i64 0, .bool false, .bool false, .int .i64 0, .bool false, .bool false, .int .i64 ((i : Nat) : Int), .pointer (some ⟨g45, 0, none⟩), .int .i64 ((([] ++ bC ((tkB ((unpack l).take (endOf l)) 0 fr).1) fr).length : Nat) : Int), .bool true, (u96 73), (u96 74), .tuple #[.int .u32 ((valueOf (((unpack l).drop i).take 1) : Nat) : Int), .int .i64 0], .pointer (some ⟨g63, 0, none⟩), .tuple #[.int .u32 ((valueOf (((unpack l).drop i).take 1) : Nat) : Int), .int .i64 0], .int .u32 ((valueOf (((unpack l).drop i).take 1) : Nat) : Int), .int .i64 0, .tuple #[.int .u32 ((valueOf (((unpack (payload ([] ++ bC ((tkB ((unpack l).take (endOf l)) 0 fr).1) fr))).drop i).take 1) : Nat) : Int), .int .i64 0], .pointer (some ⟨g83, 0, none⟩), .tuple #[.int .u32 ((valueOf (((unpack (payload ([] ++ bC ((tkB ((unpack l).take (endOf l)) 0 fr).1) fr))).drop i).take 1) : Nat) : Int), .int .i64 0], .int .u32 ((valueOf (((unpack (payload ([] ++ bC ((tkB ((unpack l).take (endOf l)) 0 fr).1) fr))).drop i).take 1) : Nat) : Int), .int .i64 0, (u96 85), (u96 86), (u96 87), undef], []⟩) (by kernel_rfl) ?_
          refine wp_seq_k (fun K119 hK119 => ?_)
          have hbit : ((valueOf (((unpack l).drop i).take 1) : Nat) : Int) = ((valueOf (((unpack (payload ([] ++ bC (tkB ((unpack l).take (endOf l)) 0 fr).1 fr))).drop i).take 1) : Nat) : Int) := by rw [F66.rbit (by omega), F86.rbit (by omega), hend, take_payload _ O54.bin, List.nil_append, hu2, List.drop_zero, take_getD ((unpack l).take (endOf l)) ((tkB ((unpack l).take (endOf l)) 0 fr).2.2 - 0) i 0 (by omega)]
          refine wl_region ?_
          refine st_val (.int .u32 ((valueOf (((unpack l).drop i).take 1) : Nat) : Int)) (by kernel_rfl) (by kernel_rfl) ?_
          refine st_val (.int .u32 ((valueOf (((unpack (payload ([] ++ bC ((tkB ((unpack l).take (endOf l)) 0 fr).1) fr))).drop i).take 1) : Nat) : Int)) (by kernel_rfl) (by kernel_rfl) ?_
          refine st_val (.bool false) (by kernel_rfl) (bool_of (neq_f (show (((valueOf (((unpack l).drop i).take 1) : Nat) : Int) : Int) = ((valueOf (((unpack (payload ([] ++ bC ((tkB ((unpack l).take (endOf l)) 0 fr).1) fr))).drop i).take 1) : Nat) : Int) from hbit)) (by kernel_rfl)) ?_
          refine wl_nil ?_
          refine hK119 _ _ ?_
          try clear hK119 K119
          refine wp_cond_false (by kernel_rfl) ?_
          refine wp_skip ?_
          refine blk_normal ?_
          refine hK102 _ _ ?_
          try clear hK102 K102
          refine wl_region ?_
          refine st_val (.int .i64 ((i : Nat) : Int)) (by kernel_rfl) (by kernel_rfl) ?_
          refine st_val (.int .i64 (((i : Nat) : Int) + 1)) (by kernel_rfl) (i64_of (by omega) (by kernel_rfl)) ?_
          refine st_val (.int .i64 (((i : Nat) : Int) + 1)) (by kernel_rfl) (by kernel_rfl) ?_
          refine wl_nil ?_
          refine th_normal ?_
          exact ⟨_, by omega, (i + 1), (fun zz => Array.getD #[.slice A l.length c, .int .i64 fr, undef, undef, (u96 4), .pointer (some ⟨g18, 0, none⟩), .int .i64 0, .pointer (some ⟨g32, 0, none⟩), .int .i64 ((tkB ((unpack l).take (endOf l)) 0 fr).2.1), .pointer (some ⟨g45, 0, none⟩), .pointer (some ⟨g63, 0, none⟩), .int .i64 0, .pointer (some ⟨g83, 0, none⟩), .int .i64 0, .int .i64 (((i : Nat) : Int) + 1), .int .u32 ((valueOf (((unpack l).drop i).take 1) : Nat) : Int), .int .i64 0, .int .u32 ((valueOf (((unpack (payload ([] ++ bC ((tkB ((unpack l).take (endOf l)) 0 fr).1) fr))).drop i).take 1) : Nat) : Int), .int .i64 0, .slice A l.length c, .int .i64 ((l.length : Nat) : Int), .bool false, .tuple #[.pointer (some ⟨g18, 0, none⟩), .int .i64 0], .slice A l.length c, .tuple #[.pointer (some ⟨g18, 0, none⟩), .int .i64 0], .pointer (some ⟨g18, 0, none⟩), .int .i64 0, .int .i64 0, .bool false, undef, .tuple #[.agg (iv (tkB ((unpack l).take (endOf l)) 0 fr).1), .int .i64 ((tkB ((unpack l).take (endOf l)) 0 fr).2.1)], .pointer (some ⟨g18, 0, none⟩), .int .i64 fr, .tuple #[.agg (iv (tkB ((unpack l).take (endOf l)) 0 fr).1), .int .i64 ((tkB ((unpack l).take (endOf l)) 0 fr).2.1)], .agg (iv (tkB ((unpack l).take (endOf l)) 0 fr).1), .int .i64 ((tkB ((unpack l).take (endOf l)) 0 fr).2.1), .int .i64 ((tkB ((unpack l).take (endOf l)) 0 fr).2.1), .bool false, undef, .pointer (some ⟨g45, 0, none⟩), .pointer (some ⟨g45, 0, none⟩), .agg (iv ((tkB ((unpack l).take (endOf l)) 0 fr).1)), .int .i64 fr, .int .i64 (bE ((tkB ((unpack l).take (endOf l)) 0 fr).1) fr), .bool false, .bool false, .pointer (some ⟨g45, 0, none⟩), .int .i64 ((([] ++ bC ((tkB ((unpack l).take (endOf l)) 0 fr).1) fr).length : Nat) : Int), .pointer (some ⟨g18, 0, none⟩), .int .i64 (((tkB ((unpack l).take (endOf l)) 0 fr).2.2 : Nat) : Int), .bool false, .bool false, .tuple #[.pointer (some ⟨g63, 0, none⟩), .int .i64 0], .slice A l.length c, .tuple #[.pointer (some ⟨g63, 0, none⟩), .int .i64 0], .pointer (some ⟨g63, 0, none⟩), .int .i64 0, .tuple #[.pointer (some ⟨g83, 0, none⟩), .int .i64 0], .pointer (some ⟨g45, 0, none⟩), .slice A75 ((payload ([] ++ bC ((tkB ((unpack l).take (endOf l)) 0 fr).1) fr)).length) cq76, .tuple #[.pointer (some ⟨g83, 0, none⟩), .int .i64 0], .pointer (some ⟨g83, 0, none⟩), .int .i64 0, .int .i64 0, .bool false, .bool false, .int .i64 0, .bool false, .bool false, .int .i64 ((i : Nat) : Int), .pointer (some ⟨g45, 0, none⟩), .int .i64 ((([] ++ bC ((tkB ((unpack l).take (endOf l)) 0 fr).1) fr).length : Nat) : Int), .bool true, .int .i64 ((i : Nat) : Int), .int .i64 (((i : Nat) : Int) + 1), .tuple #[.int .u32 ((valueOf (((unpack l).drop i).take 1) : Nat) : Int), .int .i64 0], .pointer (some ⟨g63, 0, none⟩), .tuple #[.int .u32 ((valueOf (((unpack l).drop i).take 1) : Nat) : Int), .int .i64 0], .int .u32 ((valueOf (((unpack l).drop i).take 1) : Nat) : Int), .int .i64 0, .tuple #[.int .u32 ((valueOf (((unpack (payload ([] ++ bC ((tkB ((unpack l).take (endOf l)) 0 fr).1) fr))).drop i).take 1) : Nat) : Int), .int .i64 0], .pointer (some ⟨g83, 0, none⟩), .tuple #[.int .u32 ((valueOf (((unpack (payload ([] ++ bC ((tkB ((unpack l).take (endOf l)) 0 fr).1) fr))).drop i).take 1) : Nat) : Int), .int .i64 0], .int .u32 ((valueOf (((unpack (payload ([] ++ bC ((tkB ((unpack l).take (endOf l)) 0 fr).1) fr))).drop i).take 1) : Nat) : Int), .int .i64 0, .int .u32 ((valueOf (((unpack l).drop i).take 1) : Nat) : Int), .int .u32 ((valueOf (((unpack (payload ([] ++ bC ((tkB ((unpack l).take (endOf l)) 0 fr).1) fr))).drop i).take 1) : Nat) : Int), .bool false, undef] zz undef), ⟨by omega, M118⟩, rfl, (by kernel_rfl)⟩
        ·
          refine st_val (.bool false) (by kernel_rfl) (bool_of (dec_f c72) (by kernel_rfl)) ?_
          refine wl_nil ?_
          refine hK100 _ _ ?_
          try clear hK100 K100
          refine wp_cond_false (by kernel_rfl) ?_
          refine wp_exit ?_
          refine th_exit ?_
          refine th_exit ?_
          refine blk_exit ?_
          refine hK90 _ _ ?_
          try clear hK90 K90
          refine wp_seq_k (fun K120 hK120 => ?_)
          refine wl_region ?_
          refine st_callB M101 (.bool true) (by kernel_rfl) (args := #[]) (run_value_call 12 #[] _ rfl Try.func12 (by kernel_rfl) (by kernel_rfl) _ (by kernel_rfl)) (awake_walk W97) ?_
          intro W121 M122
          refine st_val (.bool true) (by kernel_rfl) (by kernel_rfl) ?_
          refine wl_nil ?_
          refine hK120 _ _ ?_
          try clear hK120 K120
          refine wp_ret ?_
          exact done1 4 (.bool true) (by kernel_rfl) (by kernel_rfl) (by kernel_rfl) ⟨rfl, M122.toBelow⟩
      ·
        refine st_val (.bool true) (by kernel_rfl) (bool_of (neq_t c37) (by kernel_rfl)) ?_
        refine wl_nil ?_
        refine hK38 _ _ ?_
        try clear hK38 K38
        refine wp_cond_true (by kernel_rfl) ?_
        refine wp_seq_k (fun K123 hK123 => ?_)
        refine wl_region ?_
        refine st_callB M36 (.bool true) (by kernel_rfl) (args := #[]) (run_value_call 12 #[] _ rfl Try.func12 (by kernel_rfl) (by kernel_rfl) _ (by kernel_rfl)) (awake_walk W35) ?_
        intro W124 M125
        refine st_val (.bool true) (by kernel_rfl) (by kernel_rfl) ?_
        refine wl_nil ?_
        refine hK123 _ _ ?_
        try clear hK123 K123
        refine wp_ret ?_
        refine th_ret ?_
        exact done1 4 (.bool true) (by kernel_rfl) (by kernel_rfl) (by kernel_rfl) ⟨rfl, M125.toBelow⟩
end Go.Proofs.Ytmchfkkifeioeaa
