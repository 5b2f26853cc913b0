/- AudioDecodes. -/
import Derived.Test.YtmimljaniliecaaBk9
namespace Go.Proofs.Ytmimljaniliecaa
open Go.RowKit Bt
set_option maxHeartbeats 4000000 in
set_option maxRecDepth 100000 in
theorem AudioDecodes_walk (w : World) (v : Value) (l : List Nat) (hr : RdK w v l.length (u8s l)) (hb : ∀ x ∈ l, x < 256) : Calls Try.prog 7 #[v] w fun e w' => e = .returned (.bool true) ∧ Below w.heap.size w w' := by
  obtain ⟨A, c, rfl, hc⟩ := hr.shape
  refine calls_of_wp Try.func7 rfl ?_
  refine wp_frame (a' := ⟨#[.slice A l.length c, undef, undef, undef, undef, undef, undef, undef, undef, undef, undef, undef, undef, undef, undef, undef, undef, undef, undef, undef, undef, undef, undef, undef, undef, undef, undef, undef, undef, undef, undef, undef, undef, undef, undef, undef, undef, undef, undef, undef, undef, undef, undef, undef, undef, undef, undef, undef, undef, undef, undef], []⟩) (by kernel_rfl) ?_
  have M0 : Mem NoS w w [] := Mem.start _ _
  refine wp_seq_k (fun K1 hK1 => ?_)
  refine wl_region ?_
  refine st_val (.bool false) (by kernel_rfl) (by kernel_rfl) ?_
  refine wl_nil ?_
  refine hK1 _ _ ?_
  try clear hK1 K1
  refine wp_seq_k (fun K2 hK2 => ?_)
  refine wp_seq_k (fun K3 hK3 => ?_)
  refine wl_region ?_
  refine st_val (.slice A l.length c) (by kernel_rfl) (by kernel_rfl) ?_
  refine st_val (.int .i64 ((l.length : Nat) : Int)) (by kernel_rfl) (by kernel_rfl) ?_
  rcases Decidable.em ((((l.length : Nat) : Int) : Int) > 3000) with c11 | c11
  ·
    refine st_val (.bool true) (by kernel_rfl) (bool_of (dec_t c11) (by kernel_rfl)) ?_
    refine st_val (.bool true) (by kernel_rfl) (by kernel_rfl) ?_
    refine st_skip (by kernel_rfl) ?_
    refine st_skip (by kernel_rfl) ?_
    refine st_skip (by kernel_rfl) ?_
    refine st_skip (by kernel_rfl) ?_
    refine st_skip (by kernel_rfl) ?_
    refine st_skip (by kernel_rfl) ?_
    refine st_skip (by kernel_rfl) ?_
    refine st_skip (by kernel_rfl) ?_
    refine st_skip (by kernel_rfl) ?_
    refine st_val (.bool true) (by kernel_rfl) (by kernel_rfl) ?_
    refine wl_nil ?_
    refine hK3 _ _ ?_
    try clear hK3 K3
    refine wp_frame (a' := ⟨#[.slice A l.length c, undef, .bool false, undef, undef, undef, undef, undef, undef, .slice A l.length c, .int .i64 ((l.length : Nat) : Int), .bool true, .bool true, undef, undef, undef, undef, undef, undef, undef, undef, undef, .bool true, undef, undef, undef, undef, undef, undef, undef, undef, undef, undef, undef, undef, undef, undef, undef, undef, undef, undef, undef, undef, undef, undef, undef, undef, undef, undef, undef, undef], []⟩) (by kernel_rfl) ?_
    refine wp_cond_true (by kernel_rfl) ?_
    refine wp_seq_k (fun K4 hK4 => ?_)
    refine wl_region ?_
    refine st_val (.bool true) (by kernel_rfl) (by kernel_rfl) ?_
    refine wl_nil ?_
    refine hK4 _ _ ?_
    try clear hK4 K4
    refine wp_ret ?_
    refine th_ret ?_
    exact done1 2 (.bool true) (by kernel_rfl) (by kernel_rfl) (by kernel_rfl) ⟨rfl, M0.toBelow⟩
  ·
    refine st_val (.bool false) (by kernel_rfl) (bool_of (dec_f c11) (by kernel_rfl)) ?_
    refine st_val (.bool false) (by kernel_rfl) (by kernel_rfl) ?_
    refine st_val (.slice A l.length c) (by kernel_rfl) (by kernel_rfl) ?_
    refine st_val (.int .i64 ((l.length : Nat) : Int)) (by kernel_rfl) (by kernel_rfl) ?_
    rcases Decidable.em ((((l.length : Nat) : Int) : Int) > 7) with c15 | c15
    ·
      refine st_val (.bool true) (by kernel_rfl) (bool_of (dec_t c15) (by kernel_rfl)) ?_
      refine st_val (.bool true) (by kernel_rfl) (by kernel_rfl) ?_
      refine st_val (.slice A l.length c) (by kernel_rfl) (by kernel_rfl) ?_
      obtain ⟨b5, o6, eA7⟩ := RdK.addr (hr.keep M0.keep (fun _ _ h => h)) (j := 5 * 1) (by rw [u8s_length]; omega)
      refine st_val (.pointer (some ⟨b5, o6 + 5 * 1, none⟩)) (by kernel_rfl) (run_indexSliceA 22 (.tmp 17) _ rfl A ⟨b5, o6, none⟩ eA7 l.length c .i64 5 (by kernel_rfl) (by kernel_rfl) Try.underlying22 1 (by kernel_rfl) (by omega) ⟨b5, o6 + 5 * 1, none⟩ (addr_atK _ _ _ _)) ?_
      refine st_val (.int .u8 ((l.getD 5 0 : Nat) : Int)) (by kernel_rfl) (run_load_cell 5 (.tmp 18) rfl ⟨b5, o6 + 5 * 1, none⟩ (by kernel_rfl) _ ((hr.keep M0.keep (fun _ _ h => h)).cellF eA7 (f := 0) (u8s_get l 5 (by omega))) (by kernel_rfl)) ?_
      rcases Decidable.em ((((l.getD 5 0 : Nat) : Int) : Int) > 0) with c20 | c20
      ·
        refine st_val (.bool true) (by kernel_rfl) (bool_of (dec_t c20) (by kernel_rfl)) ?_
        refine st_val (.bool true) (by kernel_rfl) (by kernel_rfl) ?_
        refine st_val (.bool true) (by kernel_rfl) (by kernel_rfl) ?_
        refine wl_nil ?_
        refine hK3 _ _ ?_
        try clear hK3 K3
        refine wp_frame (a' := ⟨#[.slice A l.length c, undef, .bool false, undef, undef, undef, undef, undef, undef, .slice A l.length c, .int .i64 ((l.length : Nat) : Int), .bool false, .bool false, .slice A l.length c, .int .i64 ((l.length : Nat) : Int), .bool true, .bool true, .slice A l.length c, .pointer (some ⟨b5, o6 + 5 * 1, none⟩), .int .u8 ((l.getD 5 0 : Nat) : Int), .bool true, .bool true, .bool true, undef, undef, undef, undef, undef, undef, undef, undef, undef, undef, undef, undef, undef, undef, undef, undef, undef, undef, undef, undef, undef, undef, undef, undef, undef, undef, undef, undef], []⟩) (by kernel_rfl) ?_
        refine wp_cond_true (by kernel_rfl) ?_
        refine wp_seq_k (fun K8 hK8 => ?_)
        refine wl_region ?_
        refine st_val (.bool true) (by kernel_rfl) (by kernel_rfl) ?_
        refine wl_nil ?_
        refine hK8 _ _ ?_
        try clear hK8 K8
        refine wp_ret ?_
        refine th_ret ?_
        exact done1 2 (.bool true) (by kernel_rfl) (by kernel_rfl) (by kernel_rfl) ⟨rfl, M0.toBelow⟩
      ·
        refine st_val (.bool false) (by kernel_rfl) (bool_of (dec_f c20) (by kernel_rfl)) ?_
        refine st_val (.bool false) (by kernel_rfl) (by kernel_rfl) ?_
        refine st_val (.bool false) (by kernel_rfl) (by kernel_rfl) ?_
        refine wl_nil ?_
        refine hK3 _ _ ?_
        try clear hK3 K3
        refine wp_frame (a' := ⟨#[.slice A l.length c, undef, .bool false, undef, undef, undef, undef, undef, undef, .slice A l.length c, .int .i64 ((l.length : Nat) : Int), .bool false, .bool false, .slice A l.length c, .int .i64 ((l.length : Nat) : Int), .bool true, .bool true, .slice A l.length c, .pointer (some ⟨b5, o6 + 5 * 1, none⟩), .int .u8 ((l.getD 5 0 : Nat) : Int), .bool false, .bool false, .bool false, undef, undef, undef, undef, undef, undef, undef, undef, undef, undef, undef, undef, undef, undef, undef, undef, undef, undef, undef, undef, undef, undef, undef, undef, undef, undef, undef, undef], []⟩) (by kernel_rfl) ?_
        refine wp_cond_false (by kernel_rfl) ?_
        refine wp_skip ?_
        refine hK2 _ _ ?_
        try clear hK2 K2
        refine wp_seq_k (fun K9 hK9 => ?_)
        refine wl_region ?_
        refine st_val (.slice A l.length c) (by kernel_rfl) (by kernel_rfl) ?_
        refine st_callR (A := []) (B := []) M0 (by kernel_rfl) (run_value_call 28 #[(Operand.tmp 24)] _ rfl Try.func28 (by kernel_rfl) (by kernel_rfl) _ (by kernel_rfl)) (dec_walk w (.slice A l.length c) l (hr.keep M0.keep (fun _ _ h => h)) hb (by omega)) ?_
        intro v10 T11 W12 O13 M14
        have M14 : Mem NoS w W12 ((T11 ++ [])) := M14
        obtain ⟨v15, v16, T17, T18, m19, rfl, O20, hm21, O22, eT23⟩ := O13
        subst eT23
        obtain ⟨A24, cq25, rfl, hc26⟩ := O22.shape
        obtain ⟨As27, cs28, To29, Ts30, O31, OI32, eT33⟩ := O20
        obtain ⟨A34, cq35, rfl, hc36⟩ := O31.shape
        have M37 : Mem NoS w W12 ((T17 ++ (T18 ++ []))) := Mem.splitL (A := []) M14
        refine st_val (.tuple #[.slice A34 ((deR l).length) cq35, .slice A24 m19 cq25, .int .i64 (deE l)]) (by kernel_rfl) (by kernel_rfl) ?_
        refine st_val (.slice A34 ((deR l).length) cq35) (by kernel_rfl) (by kernel_rfl) ?_
        refine st_val (.slice A24 m19 cq25) (by kernel_rfl) (by kernel_rfl) ?_
        refine st_val (.int .i64 (deE l)) (by kernel_rfl) (by kernel_rfl) ?_
        refine st_val (.slice A34 ((deR l).length) cq35) (by kernel_rfl) (by kernel_rfl) ?_
        refine st_val (.slice A24 m19 cq25) (by kernel_rfl) (by kernel_rfl) ?_
        refine st_val (.int .i64 (deE l)) (by kernel_rfl) (by kernel_rfl) ?_
        refine wl_nil ?_
        refine hK9 _ _ ?_
        try clear hK9 K9
        refine wp_seq_k (fun K38 hK38 => ?_)
        refine wl_region ?_
        refine st_val (.slice A l.length c) (by kernel_rfl) (by kernel_rfl) ?_
        refine st_callR (A := []) (B := (T17 ++ (T18 ++ []))) M37 (by kernel_rfl) (run_value_call 29 #[(Operand.tmp 30)] _ rfl Try.func29 (by kernel_rfl) (by kernel_rfl) _ (by kernel_rfl)) (refDec_walk W12 (.slice A l.length c) l (hr.keep M37.keep (fun _ _ h => h)) hb (by omega)) ?_
        intro v39 T40 W41 O42 M43
        have M43 : Mem NoS w W41 ((T40 ++ (T17 ++ (T18 ++ [])))) := M43
        obtain ⟨v44, v45, T46, T47, m48, rfl, O49, hm50, O51, eT52⟩ := O42
        subst eT52
        obtain ⟨A53, cq54, rfl, hc55⟩ := O51.shape
        obtain ⟨As56, cs57, To58, Ts59, O60, OI61, eT62⟩ := O49
        obtain ⟨A63, cq64, rfl, hc65⟩ := O60.shape
        have M66 : Mem NoS w W41 ((T46 ++ (T47 ++ (T17 ++ (T18 ++ []))))) := Mem.splitL (A := []) M43
        refine st_val (.tuple #[.slice A63 ((deR l).length) cq64, .slice A53 m48 cq54, .int .i64 (deE l)]) (by kernel_rfl) (by kernel_rfl) ?_
        refine st_val (.slice A63 ((deR l).length) cq64) (by kernel_rfl) (by kernel_rfl) ?_
        refine st_val (.slice A53 m48 cq54) (by kernel_rfl) (by kernel_rfl) ?_
        refine st_val (.int .i64 (deE l)) (by kernel_rfl) (by kernel_rfl) ?_
        refine st_val (.slice A63 ((deR l).length) cq64) (by kernel_rfl) (by kernel_rfl) ?_
        refine st_val (.slice A53 m48 cq54) (by kernel_rfl) (by kernel_rfl) ?_
        refine st_val (.int .i64 (deE l)) (by kernel_rfl) (by kernel_rfl) ?_
        refine wl_nil ?_
        refine hK38 _ _ ?_
        try clear hK38 K38
        refine wp_frame (a' := ⟨#[.slice A l.length c, undef, .bool false, .slice A34 ((deR l).length) cq35, .slice A24 m19 cq25, .int .i64 (deE l), .slice A63 ((deR l).length) cq64, .slice A53 m48 cq54, .int .i64 (deE l), .slice A l.length c, .int .i64 ((l.length : Nat) : Int), .bool false, .bool false, .slice A l.length c, .int .i64 ((l.length : Nat) : Int), .bool true, .bool true, .slice A l.length c, .pointer (some ⟨b5, o6 + 5 * 1, none⟩), .int .u8 ((l.getD 5 0 : Nat) : Int), .bool false, .bool false, .bool false, .tuple #[.slice A34 ((deR l).length) cq35, .slice A24 m19 cq25, .int .i64 (deE l)], .slice A l.length c, .tuple #[.slice A34 ((deR l).length) cq35, .slice A24 m19 cq25, .int .i64 (deE l)], .slice A34 ((deR l).length) cq35, .slice A24 m19 cq25, .int .i64 (deE l), .tuple #[.slice A63 ((deR l).length) cq64, .slice A53 m48 cq54, .int .i64 (deE l)], .slice A l.length c, .tuple #[.slice A63 ((deR l).length) cq64, .slice A53 m48 cq54, .int .i64 (deE l)], .slice A63 ((deR l).length) cq64, .slice A53 m48 cq54, .int .i64 (deE l), undef, undef, undef, undef, undef, undef, undef, undef, undef, undef, undef, undef, undef, undef, undef, undef], []⟩) (by kernel_rfl) ?_
        refine wp_seq_k (fun K67 hK67 => ?_)
        refine wl_region ?_
        refine st_callB M66 (.bool true) (by kernel_rfl) (args := #[]) (run_value_call 12 #[] _ rfl Try.func12 (by kernel_rfl) (by kernel_rfl) _ (by kernel_rfl)) (awake_walk W41) ?_
        intro W68 M69
        refine st_val (.bool true) (by kernel_rfl) (by kernel_rfl) ?_
        refine st_val (.int .i64 (deE l)) (by kernel_rfl) (by kernel_rfl) ?_
        refine st_val (.int .i64 (deE l)) (by kernel_rfl) (by kernel_rfl) ?_
        refine st_val (.bool true) (by kernel_rfl) (bool_of (dec_t (show (deE l : Int) = deE l from rfl)) (by kernel_rfl)) ?_
        refine st_val (.bool true) (by kernel_rfl) (by kernel_rfl) ?_
        refine st_val (.bool true) (by kernel_rfl) (by kernel_rfl) ?_
        refine st_val (.slice A34 ((deR l).length) cq35) (by kernel_rfl) (by kernel_rfl) ?_
        refine st_val (.slice A63 ((deR l).length) cq64) (by kernel_rfl) (by kernel_rfl) ?_
        refine st_callB M69 (.bool true) (by kernel_rfl) (args := #[.slice A34 ((deR l).length) cq35, .slice A63 ((deR l).length) cq64]) (run_value_call 19 #[(Operand.tmp 42), (Operand.tmp 43)] _ rfl Try.func19 (by kernel_rfl) (by kernel_rfl) _ (by kernel_rfl)) ((by have := samePcm_walk W68 (.slice A34 ((deR l).length) cq35) (.slice A63 ((deR l).length) cq64) (deR l) As27 cs28 (deR l) As56 cs57 ((rdP_of O31 OI32 (fun p hp => M69.at_ p ((List.mem_append_right _ (List.mem_append_right _ (List.mem_append_left _ (by rw [eT33]; exact List.mem_append_left _ hp)))))) (fun p hp => M69.at_ p ((List.mem_append_right _ (List.mem_append_right _ (List.mem_append_left _ (by rw [eT33]; exact List.mem_append_right _ hp)))))))) ((rdP_of O60 OI61 (fun p hp => M69.at_ p ((List.mem_append_left _ (by rw [eT62]; exact List.mem_append_left _ hp)))) (fun p hp => M69.at_ p ((List.mem_append_left _ (by rw [eT62]; exact List.mem_append_right _ hp)))))) (deR_bd _); rw [decide_eq_true rfl] at this; exact this)) ?_
        intro W70 M71
        refine st_val (.bool true) (by kernel_rfl) (by kernel_rfl) ?_
        refine st_val (.bool true) (by kernel_rfl) (by kernel_rfl) ?_
        refine st_val (.slice A24 m19 cq25) (by kernel_rfl) (by kernel_rfl) ?_
        refine st_val (.slice A53 m48 cq54) (by kernel_rfl) (by kernel_rfl) ?_
        refine st_callB M71 (.bool true) (by kernel_rfl) (args := #[.slice A24 m19 cq25, .slice A53 m48 cq54]) (run_value_call 30 #[(Operand.tmp 47), (Operand.tmp 48)] _ rfl Try.func30 (by kernel_rfl) (by kernel_rfl) _ (by kernel_rfl)) ((by have := sameNum_walk W70 (.slice A24 m19 cq25) (.slice A53 m48 cq54) (deM l) (deM l) ((by rw [← hm21]; exact O22.rd (fun p hp => M71.at_ p (List.mem_append_right _ (List.mem_append_right _ (List.mem_append_right _ (List.mem_append_left _ hp))))))) ((by rw [← hm50]; exact O51.rd (fun p hp => M71.at_ p (List.mem_append_right _ (List.mem_append_left _ hp))))) (deM_bd _); rw [decide_eq_true rfl] at this; exact this)) ?_
        intro W72 M73
        refine st_val (.bool true) (by kernel_rfl) (by kernel_rfl) ?_
        refine st_val (.bool true) (by kernel_rfl) (by kernel_rfl) ?_
        refine wl_nil ?_
        refine hK67 _ _ ?_
        try clear hK67 K67
        refine wp_frame (a' := ⟨#[.slice A l.length c, undef, .bool true, .slice A34 ((deR l).length) cq35, .slice A24 m19 cq25, .int .i64 (deE l), .slice A63 ((deR l).length) cq64, .slice A53 m48 cq54, .int .i64 (deE l), .slice A l.length c, .int .i64 ((l.length : Nat) : Int), .bool false, .bool false, .slice A l.length c, .int .i64 ((l.length : Nat) : Int), .bool true, .bool true, .slice A l.length c, .pointer (some ⟨b5, o6 + 5 * 1, none⟩), .int .u8 ((l.getD 5 0 : Nat) : Int), .bool false, .bool false, .bool false, .tuple #[.slice A34 ((deR l).length) cq35, .slice A24 m19 cq25, .int .i64 (deE l)], .slice A l.length c, .tuple #[.slice A34 ((deR l).length) cq35, .slice A24 m19 cq25, .int .i64 (deE l)], .slice A34 ((deR l).length) cq35, .slice A24 m19 cq25, .int .i64 (deE l), .tuple #[.slice A63 ((deR l).length) cq64, .slice A53 m48 cq54, .int .i64 (deE l)], .slice A l.length c, .tuple #[.slice A63 ((deR l).length) cq64, .slice A53 m48 cq54, .int .i64 (deE l)], .slice A63 ((deR l).length) cq64, .slice A53 m48 cq54, .int .i64 (deE l), .bool true, .bool true, .int .i64 (deE l), .int .i64 (deE l), .bool true, .bool true, .bool true, .slice A34 ((deR l).length) cq35, .slice A63 ((deR l).length) cq64, .bool true, .bool true, .bool true, .slice A24 m19 cq25, .slice A53 m48 cq54, .bool true, .bool true], []⟩) (by kernel_rfl) ?_
        refine wp_ret ?_
        exact done1 2 (.bool true) (by kernel_rfl) (by kernel_rfl) (by kernel_rfl) ⟨rfl, M73.toBelow⟩
    ·
      refine st_val (.bool false) (by kernel_rfl) (bool_of (dec_f c15) (by kernel_rfl)) ?_
      refine st_val (.bool false) (by kernel_rfl) (by kernel_rfl) ?_
      refine st_skip (by kernel_rfl) ?_
      refine st_skip (by kernel_rfl) ?_
      refine st_skip (by kernel_rfl) ?_
      refine st_skip (by kernel_rfl) ?_
      refine st_val (.bool false) (by kernel_rfl) (by kernel_rfl) ?_
      refine st_val (.bool false) (by kernel_rfl) (by kernel_rfl) ?_
      refine wl_nil ?_
      refine hK3 _ _ ?_
      try clear hK3 K3
      refine wp_frame (a' := ⟨#[.slice A l.length c, undef, .bool false, undef, undef, undef, undef, undef, undef, .slice A l.length c, .int .i64 ((l.length : Nat) : Int), .bool false, .bool false, .slice A l.length c, .int .i64 ((l.length : Nat) : Int), .bool false, .bool false, undef, undef, undef, undef, .bool false, .bool false, undef, undef, undef, undef, undef, undef, undef, undef, undef, undef, undef, undef, undef, undef, undef, undef, undef, undef, undef, undef, undef, undef, undef, undef, undef, undef, undef, undef], []⟩) (by kernel_rfl) ?_
      refine wp_cond_false (by kernel_rfl) ?_
      refine wp_skip ?_
      refine hK2 _ _ ?_
      try clear hK2 K2
      refine wp_seq_k (fun K74 hK74 => ?_)
      refine wl_region ?_
      refine st_val (.slice A l.length c) (by kernel_rfl) (by kernel_rfl) ?_
      refine st_callR (A := []) (B := []) M0 (by kernel_rfl) (run_value_call 28 #[(Operand.tmp 24)] _ rfl Try.func28 (by kernel_rfl) (by kernel_rfl) _ (by kernel_rfl)) (dec_walk w (.slice A l.length c) l (hr.keep M0.keep (fun _ _ h => h)) hb (by omega)) ?_
      intro v75 T76 W77 O78 M79
      have M79 : Mem NoS w W77 ((T76 ++ [])) := M79
      obtain ⟨v80, v81, T82, T83, m84, rfl, O85, hm86, O87, eT88⟩ := O78
      subst eT88
      obtain ⟨A89, cq90, rfl, hc91⟩ := O87.shape
      obtain ⟨As92, cs93, To94, Ts95, O96, OI97, eT98⟩ := O85
      obtain ⟨A99, cq100, rfl, hc101⟩ := O96.shape
      have M102 : Mem NoS w W77 ((T82 ++ (T83 ++ []))) := Mem.splitL (A := []) M79
      refine st_val (.tuple #[.slice A99 ((deR l).length) cq100, .slice A89 m84 cq90, .int .i64 (deE l)]) (by kernel_rfl) (by kernel_rfl) ?_
      refine st_val (.slice A99 ((deR l).length) cq100) (by kernel_rfl) (by kernel_rfl) ?_
      refine st_val (.slice A89 m84 cq90) (by kernel_rfl) (by kernel_rfl) ?_
      refine st_val (.int .i64 (deE l)) (by kernel_rfl) (by kernel_rfl) ?_
      refine st_val (.slice A99 ((deR l).length) cq100) (by kernel_rfl) (by kernel_rfl) ?_
      refine st_val (.slice A89 m84 cq90) (by kernel_rfl) (by kernel_rfl) ?_
      refine st_val (.int .i64 (deE l)) (by kernel_rfl) (by kernel_rfl) ?_
      refine wl_nil ?_
      refine hK74 _ _ ?_
      try clear hK74 K74
      refine wp_seq_k (fun K103 hK103 => ?_)
      refine wl_region ?_
      refine st_val (.slice A l.length c) (by kernel_rfl) (by kernel_rfl) ?_
      refine st_callR (A := []) (B := (T82 ++ (T83 ++ []))) M102 (by kernel_rfl) (run_value_call 29 #[(Operand.tmp 30)] _ rfl Try.func29 (by kernel_rfl) (by kernel_rfl) _ (by kernel_rfl)) (refDec_walk W77 (.slice A l.length c) l (hr.keep M102.keep (fun _ _ h => h)) hb (by omega)) ?_
      intro v104 T105 W106 O107 M108
      have M108 : Mem NoS w W106 ((T105 ++ (T82 ++ (T83 ++ [])))) := M108
      obtain ⟨v109, v110, T111, T112, m113, rfl, O114, hm115, O116, eT117⟩ := O107
      subst eT117
      obtain ⟨A118, cq119, rfl, hc120⟩ := O116.shape
      obtain ⟨As121, cs122, To123, Ts124, O125, OI126, eT127⟩ := O114
      obtain ⟨A128, cq129, rfl, hc130⟩ := O125.shape
      have M131 : Mem NoS w W106 ((T111 ++ (T112 ++ (T82 ++ (T83 ++ []))))) := Mem.splitL (A := []) M108
      refine st_val (.tuple #[.slice A128 ((deR l).length) cq129, .slice A118 m113 cq119, .int .i64 (deE l)]) (by kernel_rfl) (by kernel_rfl) ?_
      refine st_val (.slice A128 ((deR l).length) cq129) (by kernel_rfl) (by kernel_rfl) ?_
      refine st_val (.slice A118 m113 cq119) (by kernel_rfl) (by kernel_rfl) ?_
      refine st_val (.int .i64 (deE l)) (by kernel_rfl) (by kernel_rfl) ?_
      refine st_val (.slice A128 ((deR l).length) cq129) (by kernel_rfl) (by kernel_rfl) ?_
      refine st_val (.slice A118 m113 cq119) (by kernel_rfl) (by kernel_rfl) ?_
      refine st_val (.int .i64 (deE l)) (by kernel_rfl) (by kernel_rfl) ?_
      refine wl_nil ?_
      refine hK103 _ _ ?_
      try clear hK103 K103
      refine wp_frame (a' := ⟨#[.slice A l.length c, undef, .bool false, .slice A99 ((deR l).length) cq100, .slice A89 m84 cq90, .int .i64 (deE l), .slice A128 ((deR l).length) cq129, .slice A118 m113 cq119, .int .i64 (deE l), .slice A l.length c, .int .i64 ((l.length : Nat) : Int), .bool false, .bool false, .slice A l.length c, .int .i64 ((l.length : Nat) : Int), .bool false, .bool false, undef, undef, undef, undef, .bool false, .bool false, .tuple #[.slice A99 ((deR l).length) cq100, .slice A89 m84 cq90, .int .i64 (deE l)], .slice A l.length c, .tuple #[.slice A99 ((deR l).length) cq100, .slice A89 m84 cq90, .int .i64 (deE l)], .slice A99 ((deR l).length) cq100, .slice A89 m84 cq90, .int .i64 (deE l), .tuple #[.slice A128 ((deR l).length) cq129, .slice A118 m113 cq119, .int .i64 (deE l)], .slice A l.length c, .tuple #[.slice A128 ((deR l).length) cq129, .slice A118 m113 cq119, .int .i64 (deE l)], .slice A128 ((deR l).length) cq129, .slice A118 m113 cq119, .int .i64 (deE l), undef, undef, undef, undef, undef, undef, undef, undef, undef, undef, undef, undef, undef, undef, undef, undef], []⟩) (by kernel_rfl) ?_
      refine wp_seq_k (fun K132 hK132 => ?_)
      refine wl_region ?_
      refine st_callB M131 (.bool true) (by kernel_rfl) (args := #[]) (run_value_call 12 #[] _ rfl Try.func12 (by kernel_rfl) (by kernel_rfl) _ (by kernel_rfl)) (awake_walk W106) ?_
      intro W133 M134
      refine st_val (.bool true) (by kernel_rfl) (by kernel_rfl) ?_
      refine st_val (.int .i64 (deE l)) (by kernel_rfl) (by kernel_rfl) ?_
      refine st_val (.int .i64 (deE l)) (by kernel_rfl) (by kernel_rfl) ?_
      refine st_val (.bool true) (by kernel_rfl) (bool_of (dec_t (show (deE l : Int) = deE l from rfl)) (by kernel_rfl)) ?_
      refine st_val (.bool true) (by kernel_rfl) (by kernel_rfl) ?_
      refine st_val (.bool true) (by kernel_rfl) (by kernel_rfl) ?_
      refine st_val (.slice A99 ((deR l).length) cq100) (by kernel_rfl) (by kernel_rfl) ?_
      refine st_val (.slice A128 ((deR l).length) cq129) (by kernel_rfl) (by kernel_rfl) ?_
      refine st_callB M134 (.bool true) (by kernel_rfl) (args := #[.slice A99 ((deR l).length) cq100, .slice A128 ((deR l).length) cq129]) (run_value_call 19 #[(Operand.tmp 42), (Operand.tmp 43)] _ rfl Try.func19 (by kernel_rfl) (by kernel_rfl) _ (by kernel_rfl)) ((by have := samePcm_walk W133 (.slice A99 ((deR l).length) cq100) (.slice A128 ((deR l).length) cq129) (deR l) As92 cs93 (deR l) As121 cs122 ((rdP_of O96 OI97 (fun p hp => M134.at_ p ((List.mem_append_right _ (List.mem_append_right _ (List.mem_append_left _ (by rw [eT98]; exact List.mem_append_left _ hp)))))) (fun p hp => M134.at_ p ((List.mem_append_right _ (List.mem_append_right _ (List.mem_append_left _ (by rw [eT98]; exact List.mem_append_right _ hp)))))))) ((rdP_of O125 OI126 (fun p hp => M134.at_ p ((List.mem_append_left _ (by rw [eT127]; exact List.mem_append_left _ hp)))) (fun p hp => M134.at_ p ((List.mem_append_left _ (by rw [eT127]; exact List.mem_append_right _ hp)))))) (deR_bd _); rw [decide_eq_true rfl] at this; exact this)) ?_
      intro W135 M136
      refine st_val (.bool true) (by kernel_rfl) (by kernel_rfl) ?_
      refine st_val (.bool true) (by kernel_rfl) (by kernel_rfl) ?_
      refine st_val (.slice A89 m84 cq90) (by kernel_rfl) (by kernel_rfl) ?_
      refine st_val (.slice A118 m113 cq119) (by kernel_rfl) (by kernel_rfl) ?_
      refine st_callB M136 (.bool true) (by kernel_rfl) (args := #[.slice A89 m84 cq90, .slice A118 m113 cq119]) (run_value_call 30 #[(Operand.tmp 47), (Operand.tmp 48)] _ rfl Try.func30 (by kernel_rfl) (by kernel_rfl) _ (by kernel_rfl)) ((by have := sameNum_walk W135 (.slice A89 m84 cq90) (.slice A118 m113 cq119) (deM l) (deM l) ((by rw [← hm86]; exact O87.rd (fun p hp => M136.at_ p (List.mem_append_right _ (List.mem_append_right _ (List.mem_append_right _ (List.mem_append_left _ hp))))))) ((by rw [← hm115]; exact O116.rd (fun p hp => M136.at_ p (List.mem_append_right _ (List.mem_append_left _ hp))))) (deM_bd _); rw [decide_eq_true rfl] at this; exact this)) ?_
      intro W137 M138
      refine st_val (.bool true) (by kernel_rfl) (by kernel_rfl) ?_
      refine st_val (.bool true) (by kernel_rfl) (by kernel_rfl) ?_
      refine wl_nil ?_
      refine hK132 _ _ ?_
      try clear hK132 K132
      refine wp_frame (a' := ⟨#[.slice A l.length c, undef, .bool true, .slice A99 ((deR l).length) cq100, .slice A89 m84 cq90, .int .i64 (deE l), .slice A128 ((deR l).length) cq129, .slice A118 m113 cq119, .int .i64 (deE l), .slice A l.length c, .int .i64 ((l.length : Nat) : Int), .bool false, .bool false, .slice A l.length c, .int .i64 ((l.length : Nat) : Int), .bool false, .bool false, undef, undef, undef, undef, .bool false, .bool false, .tuple #[.slice A99 ((deR l).length) cq100, .slice A89 m84 cq90, .int .i64 (deE l)], .slice A l.length c, .tuple #[.slice A99 ((deR l).length) cq100, .slice A89 m84 cq90, .int .i64 (deE l)], .slice A99 ((deR l).length) cq100, .slice A89 m84 cq90, .int .i64 (deE l), .tuple #[.slice A128 ((deR l).length) cq129, .slice A118 m113 cq119, .int .i64 (deE l)], .slice A l.length c, .tuple #[.slice A128 ((deR l).length) cq129, .slice A118 m113 cq119, .int .i64 (deE l)], .slice A128 ((deR l).length) cq129, .slice A118 m113 cq119, .int .i64 (deE l), .bool true, .bool true, .int .i64 (deE l), .int .i64 (deE l), .bool true, .bool true, .bool true, .slice A99 ((deR l).length) cq100, .slice A128 ((deR l).length) cq129, .bool true, .bool true, .bool true, .slice A89 m84 cq90, .slice A118 m113 cq119, .bool true, .bool true], []⟩) (by kernel_rfl) ?_
      refine wp_ret ?_
      exact done1 2 (.bool true) (by kernel_rfl) (by kernel_rfl) (by kernel_rfl) ⟨rfl, M138.toBelow⟩
end Go.Proofs.Ytmimljaniliecaa
