/- AudioShort. -/
import Derived.Test.YtmimljaniliecaaDc
import Derived.Test.YtmimljaniliecaaDd0
namespace Go.Proofs.Ytmimljaniliecaa
open Go.RowKit Bt
set_option maxHeartbeats 4000000 in
set_option maxRecDepth 100000 in
theorem AudioShort_walk (w : World) (v : Value) (ls : List (List Int)) (As : Nat → Option Addr) (cs : Nat → Nat) (hP : RdP w v ls As cs) (hsp : SP ls) (n : Int) (hn : -9223372036854775808 ≤ n ∧ n ≤ 9223372036854775807) : Calls Try.prog 10 #[v, .int .i64 n] w fun e w' => e = .returned (.bool true) ∧ Below w.heap.size w w' := by
  obtain ⟨A, c, rfl, hc⟩ := hP.rd.shape
  refine calls_of_wp Try.func10 rfl ?_
  refine wp_frame (a' := ⟨#[.slice A ls.length c, .int .i64 n, undef, undef, undef, undef, undef, undef, undef, undef, undef, undef, undef, undef, undef, undef, undef, undef, undef, undef, undef, undef, undef, undef, undef, undef, undef, undef, undef, undef, undef, undef, undef, undef, undef, undef, undef, undef, undef, undef, undef, undef, undef, undef, undef, undef, undef, undef, undef, undef, undef, undef, undef, undef, undef, undef, undef, undef, undef, undef, undef, undef, undef, undef, undef, undef, undef, undef, undef, undef, undef, undef, undef, undef, undef, undef, undef, undef, undef, undef, undef, undef, undef, undef, undef, undef, undef, undef, undef, undef, undef, undef, undef, undef, undef, undef, undef, undef, undef, undef, undef, undef, undef, undef, undef, undef, undef, undef, undef, undef, undef, undef, undef, undef, undef, undef, undef, undef, undef, undef, undef, undef, undef, undef, undef, undef, undef, undef, undef, undef, undef, undef, undef, undef, undef, undef, undef, undef, undef, undef, undef, undef, undef, undef], []⟩) (by kernel_rfl) ?_
  have M0 : Mem NoS w w [] := Mem.start _ _
  refine wp_seq_k (fun K1 hK1 => ?_)
  refine wl_region ?_
  refine st_val (.bool false) (by kernel_rfl) (by kernel_rfl) ?_
  refine wl_nil ?_
  refine hK1 _ _ ?_
  try clear hK1 K1
  refine wp_seq_k (fun K2 hK2 => ?_)
  refine wp_seq_k (fun K3 hK3 => ?_)
  refine wl_region ?_
  refine st_val (.slice A ls.length c) (by kernel_rfl) (by kernel_rfl) ?_
  rcases Bool.eq_false_or_eq_true (litB ls 400) with hlt | hlt
  ·
    obtain ⟨hl6, hlm⟩ := of_decide_eq_true hlt
    refine st_callB M0 (.bool true) (by kernel_rfl) (args := #[.slice A ls.length c, .int .i64 400]) (run_value_call 20 #[(Operand.tmp 17), (Operand.const (Value.int IntKind.i64 400))] _ rfl Try.func20 (by kernel_rfl) (by kernel_rfl) _ (by kernel_rfl)) ((by have := light_walk w (.slice A ls.length c) ls As cs (hP.keep M0.keep (fun _ h => h)) 400; rw [hlt] at this; exact this)) ?_
    intro W4 M5
    refine st_val (.bool false) (by kernel_rfl) (by kernel_rfl) ?_
    refine st_val (.bool false) (by kernel_rfl) (by kernel_rfl) ?_
    refine st_val (.slice A ls.length c) (by kernel_rfl) (by kernel_rfl) ?_
    rcases Bool.eq_false_or_eq_true (ppB ls) with hpp | hpp
    ·
      obtain ⟨hp1, hp2, hp3⟩ := ppB_of hpp
      refine st_callB M5 (.bool true) (by kernel_rfl) (args := #[.slice A ls.length c]) (run_value_call 31 #[(Operand.tmp 21)] _ rfl Try.func31 (by kernel_rfl) (by kernel_rfl) _ (by kernel_rfl)) ((by have := refProper_walk W4 (.slice A ls.length c) ls As cs (hP.keep M5.keep (fun _ h => h)) (by omega); rw [hpp] at this; exact this)) ?_
      intro W6 M7
      refine st_val (.bool false) (by kernel_rfl) (by kernel_rfl) ?_
      refine st_val (.bool false) (by kernel_rfl) (by kernel_rfl) ?_
      refine st_val (.bool false) (by kernel_rfl) (by kernel_rfl) ?_
      refine st_val (.int .i64 n) (by kernel_rfl) (by kernel_rfl) ?_
      rcases Decidable.em ((n : Int) < 0) with c27 | c27
      ·
        refine st_val (.bool true) (by kernel_rfl) (bool_of (dec_t c27) (by kernel_rfl)) ?_
        refine st_val (.bool true) (by kernel_rfl) (by kernel_rfl) ?_
        refine wl_nil ?_
        refine hK3 _ _ ?_
        try clear hK3 K3
        refine wp_frame (a' := ⟨#[.slice A ls.length c, .int .i64 n, undef, undef, .bool false, undef, undef, undef, undef, undef, undef, undef, undef, undef, undef, undef, undef, .slice A ls.length c, .bool true, .bool false, .bool false, .slice A ls.length c, .bool true, .bool false, .bool false, .bool false, .int .i64 n, .bool true, .bool true, undef, undef, undef, undef, undef, undef, undef, undef, undef, undef, undef, undef, undef, undef, undef, undef, undef, undef, undef, undef, undef, undef, undef, undef, undef, undef, undef, undef, undef, undef, undef, undef, undef, undef, undef, undef, undef, undef, undef, undef, undef, undef, undef, undef, undef, undef, undef, undef, undef, undef, undef, undef, undef, undef, undef, undef, undef, undef, undef, undef, undef, undef, undef, undef, undef, undef, undef, undef, undef, undef, undef, undef, undef, undef, undef, undef, undef, undef, undef, undef, undef, undef, undef, undef, undef, undef, undef, undef, undef, undef, undef, undef, undef, undef, undef, undef, undef, undef, undef, undef, undef, undef, undef, undef, undef, undef, undef, undef, undef, undef, undef, undef, undef, undef, undef], []⟩) (by kernel_rfl) ?_
        refine wp_cond_true (by kernel_rfl) ?_
        refine wp_seq_k (fun K8 hK8 => ?_)
        refine wl_region ?_
        refine st_callB M7 (.bool true) (by kernel_rfl) (args := #[]) (run_value_call 12 #[] _ rfl Try.func12 (by kernel_rfl) (by kernel_rfl) _ (by kernel_rfl)) (awake_walk W6) ?_
        intro W9 M10
        refine st_val (.bool true) (by kernel_rfl) (by kernel_rfl) ?_
        refine wl_nil ?_
        refine hK8 _ _ ?_
        try clear hK8 K8
        refine wp_ret ?_
        refine th_ret ?_
        exact done1 4 (.bool true) (by kernel_rfl) (by kernel_rfl) (by kernel_rfl) ⟨rfl, M10.toBelow⟩
      ·
        refine st_val (.bool false) (by kernel_rfl) (bool_of (dec_f c27) (by kernel_rfl)) ?_
        refine st_val (.bool false) (by kernel_rfl) (by kernel_rfl) ?_
        refine wl_nil ?_
        refine hK3 _ _ ?_
        try clear hK3 K3
        refine wp_frame (a' := ⟨#[.slice A ls.length c, .int .i64 n, undef, undef, .bool false, undef, undef, undef, undef, undef, undef, undef, undef, undef, undef, undef, undef, .slice A ls.length c, .bool true, .bool false, .bool false, .slice A ls.length c, .bool true, .bool false, .bool false, .bool false, .int .i64 n, .bool false, .bool false, undef, undef, undef, undef, undef, undef, undef, undef, undef, undef, undef, undef, undef, undef, undef, undef, undef, undef, undef, undef, undef, undef, undef, undef, undef, undef, undef, undef, undef, undef, undef, undef, undef, undef, undef, undef, undef, undef, undef, undef, undef, undef, undef, undef, undef, undef, undef, undef, undef, undef, undef, undef, undef, undef, undef, undef, undef, undef, undef, undef, undef, undef, undef, undef, undef, undef, undef, undef, undef, undef, undef, undef, undef, undef, undef, undef, undef, undef, undef, undef, undef, undef, undef, undef, undef, undef, undef, undef, undef, undef, undef, undef, undef, undef, undef, undef, undef, undef, undef, undef, undef, undef, undef, undef, undef, undef, undef, undef, undef, undef, undef, undef, undef, undef, undef], []⟩) (by kernel_rfl) ?_
        refine wp_cond_false (by kernel_rfl) ?_
        refine wp_skip ?_
        refine hK2 _ _ ?_
        try clear hK2 K2
        refine wp_seq_k (fun K11 hK11 => ?_)
        have hPP : PP ls := ⟨hp1, hp2, hp3⟩
        have hel := enL_le ls
        have hlm0 := hlm 0 (by omega)
        obtain ⟨nn, rfl⟩ : ∃ z : Nat, n = (z : Int) := ⟨n.toNat, by omega⟩
        refine wl_region ?_
        refine st_val (.slice A ls.length c) (by kernel_rfl) (by kernel_rfl) ?_
        refine st_callR (A := []) (B := []) M7 (by kernel_rfl) (run_value_call 26 #[(Operand.tmp 31)] _ rfl Try.func26 (by kernel_rfl) (by kernel_rfl) _ (by kernel_rfl)) (enc_walk W6 (.slice A ls.length c) ls As cs (hP.keep M7.keep (fun _ h => h)) hsp (by omega)) ?_
        intro v12 T13 W14 O15 M16
        have M16 : Mem NoS w W14 ((T13 ++ [])) := M16
        obtain ⟨v17, m18, rfl, hm19, O20⟩ := O15
        obtain ⟨A21, cq22, rfl, hc23⟩ := O20.shape
        refine st_val (.tuple #[.slice A21 m18 cq22, .int .i64 (enE ls)]) (by kernel_rfl) (by kernel_rfl) ?_
        refine st_val (.slice A21 m18 cq22) (by kernel_rfl) (by kernel_rfl) ?_
        refine st_val (.int .i64 (enE ls)) (by kernel_rfl) (by kernel_rfl) ?_
        refine st_val (.slice A21 m18 cq22) (by kernel_rfl) (by kernel_rfl) ?_
        refine st_val (.int .i64 (enE ls)) (by kernel_rfl) (by kernel_rfl) ?_
        refine wl_nil ?_
        refine hK11 _ _ ?_
        try clear hK11 K11
        refine wp_seq_k (fun K24 hK24 => ?_)
        obtain ⟨hbE, hbC, hbN, hbb, hbM⟩ := back_facts hPP hsp
        obtain ⟨hrl, hrr⟩ := back_len hPP hsp
        have hlong := (en_long hPP).1
        refine wl_region ?_
        refine st_val (.slice A21 m18 cq22) (by kernel_rfl) (by kernel_rfl) ?_
        refine st_callR (A := []) (B := (T13 ++ [])) M16 (by kernel_rfl) (run_value_call 28 #[(Operand.tmp 36)] _ rfl Try.func28 (by kernel_rfl) (by kernel_rfl) _ (by kernel_rfl)) (dec_walk W14 (.slice A21 m18 cq22) (enL ls) ((by rw [← hm19]; exact O20.rd (fun p hp => M16.at_ p (List.mem_append_left _ hp)))) (enL_lt _) (by omega)) ?_
        intro v25 T26 W27 O28 M29
        have M29 : Mem NoS w W27 ((T26 ++ (T13 ++ []))) := M29
        obtain ⟨v30, v31, T32, T33, m34, rfl, O35, hm36, O37, eT38⟩ := O28
        subst eT38
        obtain ⟨A39, cq40, rfl, hc41⟩ := O37.shape
        obtain ⟨As42, cs43, To44, Ts45, O46, OI47, eT48⟩ := O35
        obtain ⟨A49, cq50, rfl, hc51⟩ := O46.shape
        have M52 : Mem NoS w W27 ((T32 ++ (T33 ++ (T13 ++ [])))) := Mem.splitL (A := []) M29
        refine st_val (.tuple #[.slice A49 ((deR (enL ls)).length) cq50, .slice A39 m34 cq40, .int .i64 (deE (enL ls))]) (by kernel_rfl) (by kernel_rfl) ?_
        refine st_val (.slice A49 ((deR (enL ls)).length) cq50) (by kernel_rfl) (by kernel_rfl) ?_
        refine st_val (.slice A39 m34 cq40) (by kernel_rfl) (by kernel_rfl) ?_
        refine st_val (.int .i64 (deE (enL ls))) (by kernel_rfl) (by kernel_rfl) ?_
        refine st_val (.slice A49 ((deR (enL ls)).length) cq50) (by kernel_rfl) (by kernel_rfl) ?_
        refine st_val (.slice A39 m34 cq40) (by kernel_rfl) (by kernel_rfl) ?_
        refine st_val (.int .i64 (deE (enL ls))) (by kernel_rfl) (by kernel_rfl) ?_
        refine wl_nil ?_
        refine hK24 _ _ ?_
        try clear hK24 K24
        refine wp_frame (a' := ⟨#[.slice A ls.length c, .int .i64 ((nn : Nat) : Int), undef, undef, .bool false, .slice A21 m18 cq22, .int .i64 (enE ls), .slice A49 ((deR (enL ls)).length) cq50, .slice A39 m34 cq40, .int .i64 (deE (enL ls)), undef, undef, undef, undef, undef, undef, undef, .slice A ls.length c, .bool true, .bool false, .bool false, .slice A ls.length c, .bool true, .bool false, .bool false, .bool false, .int .i64 ((nn : Nat) : Int), .bool false, .bool false, undef, .tuple #[.slice A21 m18 cq22, .int .i64 (enE ls)], .slice A ls.length c, .tuple #[.slice A21 m18 cq22, .int .i64 (enE ls)], .slice A21 m18 cq22, .int .i64 (enE ls), .tuple #[.slice A49 ((deR (enL ls)).length) cq50, .slice A39 m34 cq40, .int .i64 (deE (enL ls))], .slice A21 m18 cq22, .tuple #[.slice A49 ((deR (enL ls)).length) cq50, .slice A39 m34 cq40, .int .i64 (deE (enL ls))], .slice A49 ((deR (enL ls)).length) cq50, .slice A39 m34 cq40, .int .i64 (deE (enL ls)), undef, undef, undef, undef, undef, undef, undef, undef, undef, undef, undef, undef, undef, undef, undef, undef, undef, undef, undef, undef, undef, undef, undef, undef, undef, undef, undef, undef, undef, undef, undef, undef, undef, undef, undef, undef, undef, undef, undef, undef, undef, undef, undef, undef, undef, undef, undef, undef, undef, undef, undef, undef, undef, undef, undef, undef, undef, undef, undef, undef, undef, undef, undef, undef, undef, undef, undef, undef, undef, undef, undef, undef, undef, undef, undef, undef, undef, undef, undef, undef, undef, undef, undef, undef, undef, undef, undef, undef, undef, undef, undef, undef, undef, undef, undef, undef, undef, undef, undef, undef, undef, undef, undef], []⟩) (by kernel_rfl) ?_
        refine wp_seq_k (fun K53 hK53 => ?_)
        refine wp_seq_k (fun K54 hK54 => ?_)
        refine wl_region ?_
        refine st_val (.int .i64 (enE ls)) (by kernel_rfl) (by kernel_rfl) ?_
        refine st_val (.bool false) (by kernel_rfl) (bool_of (neq_f (show (enE ls : Int) = 0 from (en_t hPP).2)) (by kernel_rfl)) ?_
        refine st_val (.bool false) (by kernel_rfl) (by kernel_rfl) ?_
        refine st_val (.int .i64 (deE (enL ls))) (by kernel_rfl) (by kernel_rfl) ?_
        refine st_val (.bool false) (by kernel_rfl) (bool_of (neq_f (show (deE (enL ls) : Int) = 0 from hbE)) (by kernel_rfl)) ?_
        refine st_val (.bool false) (by kernel_rfl) (by kernel_rfl) ?_
        refine st_val (.bool false) (by kernel_rfl) (by kernel_rfl) ?_
        refine st_val (.slice A21 m18 cq22) (by kernel_rfl) (by kernel_rfl) ?_
        refine st_val (.int .i64 ((m18 : Nat) : Int)) (by kernel_rfl) (by kernel_rfl) ?_
        refine st_val (.bool false) (by kernel_rfl) (bool_of (dec_f (show ¬ ((((m18 : Nat) : Int) : Int) < 10) by omega)) (by kernel_rfl)) ?_
        refine st_val (.bool false) (by kernel_rfl) (by kernel_rfl) ?_
        refine st_val (.bool false) (by kernel_rfl) (by kernel_rfl) ?_
        refine st_val (.slice A49 ((deR (enL ls)).length) cq50) (by kernel_rfl) (by kernel_rfl) ?_
        refine st_val (.int .i64 (((deR (enL ls)).length : Nat) : Int)) (by kernel_rfl) (by kernel_rfl) ?_
        refine st_val (.slice A ls.length c) (by kernel_rfl) (by kernel_rfl) ?_
        refine st_val (.int .i64 ((ls.length : Nat) : Int)) (by kernel_rfl) (by kernel_rfl) ?_
        refine st_val (.bool false) (by kernel_rfl) (bool_of (neq_f (show ((((deR (enL ls)).length : Nat) : Int) : Int) = ((ls.length : Nat) : Int) by omega)) (by kernel_rfl)) ?_
        refine st_val (.bool false) (by kernel_rfl) (by kernel_rfl) ?_
        refine wl_nil ?_
        refine hK54 _ _ ?_
        try clear hK54 K54
        refine wp_frame (a' := ⟨#[.slice A ls.length c, .int .i64 ((nn : Nat) : Int), undef, undef, .bool false, .slice A21 m18 cq22, .int .i64 (enE ls), .slice A49 ((deR (enL ls)).length) cq50, .slice A39 m34 cq40, .int .i64 (deE (enL ls)), undef, undef, undef, undef, undef, undef, undef, .slice A ls.length c, .bool true, .bool false, .bool false, .slice A ls.length c, .bool true, .bool false, .bool false, .bool false, .int .i64 ((nn : Nat) : Int), .bool false, .bool false, undef, .tuple #[.slice A21 m18 cq22, .int .i64 (enE ls)], .slice A ls.length c, .tuple #[.slice A21 m18 cq22, .int .i64 (enE ls)], .slice A21 m18 cq22, .int .i64 (enE ls), .tuple #[.slice A49 ((deR (enL ls)).length) cq50, .slice A39 m34 cq40, .int .i64 (deE (enL ls))], .slice A21 m18 cq22, .tuple #[.slice A49 ((deR (enL ls)).length) cq50, .slice A39 m34 cq40, .int .i64 (deE (enL ls))], .slice A49 ((deR (enL ls)).length) cq50, .slice A39 m34 cq40, .int .i64 (deE (enL ls)), .int .i64 (enE ls), .bool false, .bool false, .int .i64 (deE (enL ls)), .bool false, .bool false, .bool false, .slice A21 m18 cq22, .int .i64 ((m18 : Nat) : Int), .bool false, .bool false, .bool false, .slice A49 ((deR (enL ls)).length) cq50, .int .i64 (((deR (enL ls)).length : Nat) : Int), .slice A ls.length c, .int .i64 ((ls.length : Nat) : Int), .bool false, .bool false, undef, undef, undef, undef, undef, undef, undef, undef, undef, undef, undef, undef, undef, undef, undef, undef, undef, undef, undef, undef, undef, undef, undef, undef, undef, undef, undef, undef, undef, undef, undef, undef, undef, undef, undef, undef, undef, undef, undef, undef, undef, undef, undef, undef, undef, undef, undef, undef, undef, undef, undef, undef, undef, undef, undef, undef, undef, undef, undef, undef, undef, undef, undef, undef, undef, undef, undef, undef, undef, undef, undef, undef, undef, undef, undef, undef, undef, undef, undef, undef, undef, undef, undef, undef, undef], []⟩) (by kernel_rfl) ?_
        refine wp_cond_false (by kernel_rfl) ?_
        refine wp_skip ?_
        refine hK53 _ _ ?_
        try clear hK53 K53
        refine wp_seq_k (fun K55 hK55 => ?_)
        refine wl_region ?_
        refine st_val (.slice A ls.length c) (by kernel_rfl) (by kernel_rfl) ?_
        refine st_val (.int .i64 ((ls.length : Nat) : Int)) (by kernel_rfl) (by kernel_rfl) ?_
        refine st_callB M52 (.int .i64 ((292 * ls.length / 8 + 5 : Nat) : Int)) (by kernel_rfl) (args := #[.int .i64 ((ls.length : Nat) : Int)]) (run_value_call 15 #[(Operand.tmp 60)] _ rfl Try.func15 (by kernel_rfl) (by kernel_rfl) _ (by kernel_rfl)) ((by have := bsz_walk W27 ((ls.length : Nat) : Int); rw [bsz_n hPP.1] at this; exact this)) ?_
        intro W56 M57
        refine st_val (.int .i64 ((292 * ls.length / 8 + 5 : Nat) : Int)) (by kernel_rfl) (by kernel_rfl) ?_
        refine wl_nil ?_
        refine hK55 _ _ ?_
        try clear hK55 K55
        refine wp_seq_k (fun K58 hK58 => ?_)
        have hmod := Nat.mod_lt nn (show 0 < m18 - 9 by omega)
        refine wl_region ?_
        refine st_val (.slice A21 m18 cq22) (by kernel_rfl) (by kernel_rfl) ?_
        refine st_val (.int .i64 ((m18 : Nat) : Int)) (by kernel_rfl) (by kernel_rfl) ?_
        refine st_val (.int .i64 ((nn : Nat) : Int)) (by kernel_rfl) (by kernel_rfl) ?_
        refine st_val (.slice A21 m18 cq22) (by kernel_rfl) (by kernel_rfl) ?_
        refine st_val (.int .i64 ((m18 : Nat) : Int)) (by kernel_rfl) (by kernel_rfl) ?_
        refine st_val (.int .i64 ((m18 - 9 : Nat) : Int)) (by kernel_rfl) (int_of (show ((m18 : Nat) : Int) - 9 = ((m18 - 9 : Nat) : Int) by omega) (i64_of (by omega) (by kernel_rfl))) ?_
        refine st_val (.int .i64 ((nn % (m18 - 9) : Nat) : Int)) (by kernel_rfl) (run_value_bin .rem 3 3 (.tmp 64) (.tmp 67) rfl (.int .i64 ((nn : Nat) : Int)) (.int .i64 ((m18 - 9 : Nat) : Int)) _ (by kernel_rfl) (by kernel_rfl) (by kernel_rfl) (bin_remN (by omega))) ?_
        refine st_val (.int .i64 ((m18 - nn % (m18 - 9) : Nat) : Int)) (by kernel_rfl) (int_of (show ((m18 : Nat) : Int) - ((nn % (m18 - 9) : Nat) : Int) = ((m18 - nn % (m18 - 9) : Nat) : Int) by omega) (i64_of (by omega) (by kernel_rfl))) ?_
        refine st_val (.int .i64 ((m18 - nn % (m18 - 9) : Nat) : Int)) (by kernel_rfl) (by kernel_rfl) ?_
        refine wl_nil ?_
        refine hK58 _ _ ?_
        try clear hK58 K58
        refine wp_frame (a' := ⟨#[.slice A ls.length c, .int .i64 ((nn : Nat) : Int), undef, undef, .bool false, .slice A21 m18 cq22, .int .i64 (enE ls), .slice A49 ((deR (enL ls)).length) cq50, .slice A39 m34 cq40, .int .i64 (deE (enL ls)), .int .i64 ((292 * ls.length / 8 + 5 : Nat) : Int), .int .i64 ((m18 - nn % (m18 - 9) : Nat) : Int), undef, undef, undef, undef, undef, .slice A ls.length c, .bool true, .bool false, .bool false, .slice A ls.length c, .bool true, .bool false, .bool false, .bool false, .int .i64 ((nn : Nat) : Int), .bool false, .bool false, undef, .tuple #[.slice A21 m18 cq22, .int .i64 (enE ls)], .slice A ls.length c, .tuple #[.slice A21 m18 cq22, .int .i64 (enE ls)], .slice A21 m18 cq22, .int .i64 (enE ls), .tuple #[.slice A49 ((deR (enL ls)).length) cq50, .slice A39 m34 cq40, .int .i64 (deE (enL ls))], .slice A21 m18 cq22, .tuple #[.slice A49 ((deR (enL ls)).length) cq50, .slice A39 m34 cq40, .int .i64 (deE (enL ls))], .slice A49 ((deR (enL ls)).length) cq50, .slice A39 m34 cq40, .int .i64 (deE (enL ls)), .int .i64 (enE ls), .bool false, .bool false, .int .i64 (deE (enL ls)), .bool false, .bool false, .bool false, .slice A21 m18 cq22, .int .i64 ((m18 : Nat) : Int), .bool false, .bool false, .bool false, .slice A49 ((deR (enL ls)).length) cq50, .int .i64 (((deR (enL ls)).length : Nat) : Int), .slice A ls.length c, .int .i64 ((ls.length : Nat) : Int), .bool false, .bool false, .slice A ls.length c, .int .i64 ((ls.length : Nat) : Int), .int .i64 ((292 * ls.length / 8 + 5 : Nat) : Int), .slice A21 m18 cq22, .int .i64 ((m18 : Nat) : Int), .int .i64 ((nn : Nat) : Int), .slice A21 m18 cq22, .int .i64 ((m18 : Nat) : Int), .int .i64 ((m18 - 9 : Nat) : Int), .int .i64 ((nn % (m18 - 9) : Nat) : Int), .int .i64 ((m18 - nn % (m18 - 9) : Nat) : Int), undef, undef, undef, undef, undef, undef, undef, undef, undef, undef, undef, undef, undef, undef, undef, undef, undef, undef, undef, undef, undef, undef, undef, undef, undef, undef, undef, undef, undef, undef, undef, undef, undef, undef, undef, undef, undef, undef, undef, undef, undef, undef, undef, undef, undef, undef, undef, undef, undef, undef, undef, undef, undef, undef, undef, undef, undef, undef, undef, undef, undef, undef, undef, undef, undef, undef, undef, undef, undef, undef, undef, undef, undef, undef], []⟩) (by kernel_rfl) ?_
        refine wp_seq_k (fun K59 hK59 => ?_)
        refine wp_seq_k (fun K60 hK60 => ?_)
        obtain ⟨lf, hlf⟩ : ∃ lf, lf = m18 - nn % (m18 - 9) := ⟨_, rfl⟩
        refine wp_frame (a' := ⟨#[.slice A ls.length c, .int .i64 ((nn : Nat) : Int), undef, undef, .bool false, .slice A21 m18 cq22, .int .i64 (enE ls), .slice A49 ((deR (enL ls)).length) cq50, .slice A39 m34 cq40, .int .i64 (deE (enL ls)), .int .i64 ((292 * ls.length / 8 + 5 : Nat) : Int), .int .i64 ((lf : Nat) : Int), undef, undef, undef, undef, undef, .slice A ls.length c, .bool true, .bool false, .bool false, .slice A ls.length c, .bool true, .bool false, .bool false, .bool false, .int .i64 ((nn : Nat) : Int), .bool false, .bool false, undef, .tuple #[.slice A21 m18 cq22, .int .i64 (enE ls)], .slice A ls.length c, .tuple #[.slice A21 m18 cq22, .int .i64 (enE ls)], .slice A21 m18 cq22, .int .i64 (enE ls), .tuple #[.slice A49 ((deR (enL ls)).length) cq50, .slice A39 m34 cq40, .int .i64 (deE (enL ls))], .slice A21 m18 cq22, .tuple #[.slice A49 ((deR (enL ls)).length) cq50, .slice A39 m34 cq40, .int .i64 (deE (enL ls))], .slice A49 ((deR (enL ls)).length) cq50, .slice A39 m34 cq40, .int .i64 (deE (enL ls)), .int .i64 (enE ls), .bool false, .bool false, .int .i64 (deE (enL ls)), .bool false, .bool false, .bool false, .slice A21 m18 cq22, .int .i64 ((m18 : Nat) : Int), .bool false, .bool false, .bool false, .slice A49 ((deR (enL ls)).length) cq50, .int .i64 (((deR (enL ls)).length : Nat) : Int), .slice A ls.length c, .int .i64 ((ls.length : Nat) : Int), .bool false, .bool false, .slice A ls.length c, .int .i64 ((ls.length : Nat) : Int), .int .i64 ((292 * ls.length / 8 + 5 : Nat) : Int), .slice A21 m18 cq22, .int .i64 ((m18 : Nat) : Int), .int .i64 ((nn : Nat) : Int), .slice A21 m18 cq22, .int .i64 ((m18 : Nat) : Int), .int .i64 ((m18 - 9 : Nat) : Int), .int .i64 ((nn % (m18 - 9) : Nat) : Int), .int .i64 ((m18 - nn % (m18 - 9) : Nat) : Int), undef, undef, undef, undef, undef, undef, undef, undef, undef, undef, undef, undef, undef, undef, undef, undef, undef, undef, undef, undef, undef, undef, undef, undef, undef, undef, undef, undef, undef, undef, undef, undef, undef, undef, undef, undef, undef, undef, undef, undef, undef, undef, undef, undef, undef, undef, undef, undef, undef, undef, undef, undef, undef, undef, undef, undef, undef, undef, undef, undef, undef, undef, undef, undef, undef, undef, undef, undef, undef, undef, undef, undef, undef, undef], []⟩) (by subst hlf; kernel_rfl) ?_
        have hl10 : 10 ≤ lf ∧ lf ≤ m18 := (by omega)
        refine wl_region ?_
        refine st_val (.int .i64 ((292 * ls.length / 8 + 5 : Nat) : Int)) (by kernel_rfl) (by kernel_rfl) ?_
        refine st_val (.bool false) (by kernel_rfl) (bool_of (dec_f (show ¬ ((((292 * ls.length / 8 + 5 : Nat) : Int) : Int) < 1) by omega)) (by kernel_rfl)) ?_
        refine st_val (.bool false) (by kernel_rfl) (by kernel_rfl) ?_
        refine st_val (.int .i64 ((lf : Nat) : Int)) (by kernel_rfl) (by kernel_rfl) ?_
        refine st_val (.bool false) (by kernel_rfl) (bool_of (dec_f (show ¬ ((((lf : Nat) : Int) : Int) < 10) by omega)) (by kernel_rfl)) ?_
        refine st_val (.bool false) (by kernel_rfl) (by kernel_rfl) ?_
        refine wl_nil ?_
        refine hK60 _ _ ?_
        try clear hK60 K60
        refine wp_cond_false (by kernel_rfl) ?_
        refine wp_skip ?_
        refine hK59 _ _ ?_
        try clear hK59 K59
        refine wp_seq_k (fun K61 hK61 => ?_)
        have hlx : lf ≤ (enL ls).length := (by omega)
        obtain ⟨hsE, hsC, hsN, hsf⟩ := short_facts (l := sl (enL ls) 0 (lf - 0)) hPP hsp (sl_zero _ _) hl10.1 hlx
        obtain ⟨hyl, hyr⟩ := deR_len hsE
        refine wl_region ?_
        refine st_val (.slice A21 m18 cq22) (by kernel_rfl) (by kernel_rfl) ?_
        refine st_val (.int .i64 ((lf : Nat) : Int)) (by kernel_rfl) (by kernel_rfl) ?_
        refine st_val (.slice (subA A21 cq22 0) (lf - 0) (cq22 - 0)) (by kernel_rfl) (run_sub_hi 22 5 (.tmp 77) (.tmp 78) rfl Try.underlying22 (by kernel_rfl) A21 m18 cq22 (by kernel_rfl) .i64 lf (by kernel_rfl) (by omega)) ?_
        refine st_callR (A := []) (B := (T32 ++ (T33 ++ (T13 ++ [])))) M57 (by kernel_rfl) (run_value_call 28 #[(Operand.tmp 79)] _ rfl Try.func28 (by kernel_rfl) (by kernel_rfl) _ (by kernel_rfl)) (dec_walk W56 (.slice (subA A21 cq22 0) (lf - 0) (cq22 - 0)) (sl (enL ls) 0 (lf - 0)) ((by rw [sl_len (by omega)]; exact (rdk_sl (O20.rd (fun p hp => M57.at_ p (List.mem_append_right _ (List.mem_append_right _ (List.mem_append_left _ hp))))) hm19.symm (by omega) (lo := 0) (hi := lf) (by omega) (by omega)))) (sl_lt (enL_lt _) _ _) (by rw [sl_len (by omega)]; omega)) ?_
        intro v62 T63 W64 O65 M66
        have M66 : Mem NoS w W64 ((T63 ++ (T32 ++ (T33 ++ (T13 ++ []))))) := M66
        obtain ⟨v67, v68, T69, T70, m71, rfl, O72, hm73, O74, eT75⟩ := O65
        subst eT75
        obtain ⟨A76, cq77, rfl, hc78⟩ := O74.shape
        obtain ⟨As79, cs80, To81, Ts82, O83, OI84, eT85⟩ := O72
        obtain ⟨A86, cq87, rfl, hc88⟩ := O83.shape
        have M89 : Mem NoS w W64 ((T69 ++ (T70 ++ (T32 ++ (T33 ++ (T13 ++ [])))))) := Mem.splitL (A := []) M66
        refine st_val (.tuple #[.slice A86 ((deR (sl (enL ls) 0 (lf - 0))).length) cq87, .slice A76 m71 cq77, .int .i64 (deE (sl (enL ls) 0 (lf - 0)))]) (by kernel_rfl) (by kernel_rfl) ?_
        refine st_val (.slice A86 ((deR (sl (enL ls) 0 (lf - 0))).length) cq87) (by kernel_rfl) (by kernel_rfl) ?_
        refine st_val (.slice A76 m71 cq77) (by kernel_rfl) (by kernel_rfl) ?_
        refine st_val (.int .i64 (deE (sl (enL ls) 0 (lf - 0)))) (by kernel_rfl) (by kernel_rfl) ?_
        refine st_val (.slice A86 ((deR (sl (enL ls) 0 (lf - 0))).length) cq87) (by kernel_rfl) (by kernel_rfl) ?_
        refine st_val (.slice A76 m71 cq77) (by kernel_rfl) (by kernel_rfl) ?_
        refine st_val (.int .i64 (deE (sl (enL ls) 0 (lf - 0)))) (by kernel_rfl) (by kernel_rfl) ?_
        refine wl_nil ?_
        refine hK61 _ _ ?_
        try clear hK61 K61
        refine wp_frame (a' := ⟨#[.slice A ls.length c, .int .i64 ((nn : Nat) : Int), undef, undef, .bool false, .slice A21 m18 cq22, .int .i64 (enE ls), .slice A49 ((deR (enL ls)).length) cq50, .slice A39 m34 cq40, .int .i64 (deE (enL ls)), .int .i64 ((292 * ls.length / 8 + 5 : Nat) : Int), .int .i64 ((lf : Nat) : Int), .slice A86 ((deR (sl (enL ls) 0 (lf - 0))).length) cq87, .slice A76 m71 cq77, .int .i64 (deE (sl (enL ls) 0 (lf - 0))), undef, undef, .slice A ls.length c, .bool true, .bool false, .bool false, .slice A ls.length c, .bool true, .bool false, .bool false, .bool false, .int .i64 ((nn : Nat) : Int), .bool false, .bool false, undef, .tuple #[.slice A21 m18 cq22, .int .i64 (enE ls)], .slice A ls.length c, .tuple #[.slice A21 m18 cq22, .int .i64 (enE ls)], .slice A21 m18 cq22, .int .i64 (enE ls), .tuple #[.slice A49 ((deR (enL ls)).length) cq50, .slice A39 m34 cq40, .int .i64 (deE (enL ls))], .slice A21 m18 cq22, .tuple #[.slice A49 ((deR (enL ls)).length) cq50, .slice A39 m34 cq40, .int .i64 (deE (enL ls))], .slice A49 ((deR (enL ls)).length) cq50, .slice A39 m34 cq40, .int .i64 (deE (enL ls)), .int .i64 (enE ls), .bool false, .bool false, .int .i64 (deE (enL ls)), .bool false, .bool false, .bool false, .slice A21 m18 cq22, .int .i64 ((m18 : Nat) : Int), .bool false, .bool false, .bool false, .slice A49 ((deR (enL ls)).length) cq50, .int .i64 (((deR (enL ls)).length : Nat) : Int), .slice A ls.length c, .int .i64 ((ls.length : Nat) : Int), .bool false, .bool false, .slice A ls.length c, .int .i64 ((ls.length : Nat) : Int), .int .i64 ((292 * ls.length / 8 + 5 : Nat) : Int), .slice A21 m18 cq22, .int .i64 ((m18 : Nat) : Int), .int .i64 ((nn : Nat) : Int), .slice A21 m18 cq22, .int .i64 ((m18 : Nat) : Int), .int .i64 ((m18 - 9 : Nat) : Int), .int .i64 ((nn % (m18 - 9) : Nat) : Int), .int .i64 ((m18 - nn % (m18 - 9) : Nat) : Int), .int .i64 ((292 * ls.length / 8 + 5 : Nat) : Int), .bool false, .bool false, .int .i64 ((lf : Nat) : Int), .bool false, .bool false, .tuple #[.slice A86 ((deR (sl (enL ls) 0 (lf - 0))).length) cq87, .slice A76 m71 cq77, .int .i64 (deE (sl (enL ls) 0 (lf - 0)))], .slice A21 m18 cq22, .int .i64 ((lf : Nat) : Int), .slice (subA A21 cq22 0) (lf - 0) (cq22 - 0), .tuple #[.slice A86 ((deR (sl (enL ls) 0 (lf - 0))).length) cq87, .slice A76 m71 cq77, .int .i64 (deE (sl (enL ls) 0 (lf - 0)))], .slice A86 ((deR (sl (enL ls) 0 (lf - 0))).length) cq87, .slice A76 m71 cq77, .int .i64 (deE (sl (enL ls) 0 (lf - 0))), undef, undef, undef, undef, undef, undef, undef, undef, undef, undef, undef, undef, undef, undef, undef, undef, undef, undef, undef, undef, undef, undef, undef, undef, undef, undef, undef, undef, undef, undef, undef, undef, undef, undef, undef, undef, undef, undef, undef, undef, undef, undef, undef, undef, undef, undef, undef, undef, undef, undef, undef, undef, undef, undef, undef, undef, undef, undef, undef, undef], []⟩) (by kernel_rfl) ?_
        refine wp_seq_k (fun K90 hK90 => ?_)
        refine wp_seq_k (fun K91 hK91 => ?_)
        refine wl_region ?_
        refine st_val (.int .i64 (deE (sl (enL ls) 0 (lf - 0)))) (by kernel_rfl) (by kernel_rfl) ?_
        refine st_val (.bool false) (by kernel_rfl) (bool_of (neq_f (show (deE (sl (enL ls) 0 (lf - 0)) : Int) = 0 from hsE)) (by kernel_rfl)) ?_
        refine st_val (.bool false) (by kernel_rfl) (by kernel_rfl) ?_
        refine st_val (.slice A86 ((deR (sl (enL ls) 0 (lf - 0))).length) cq87) (by kernel_rfl) (by kernel_rfl) ?_
        refine st_val (.int .i64 (((deR (sl (enL ls) 0 (lf - 0))).length : Nat) : Int)) (by kernel_rfl) (by kernel_rfl) ?_
        refine st_val (.slice A49 ((deR (enL ls)).length) cq50) (by kernel_rfl) (by kernel_rfl) ?_
        refine st_val (.int .i64 (((deR (enL ls)).length : Nat) : Int)) (by kernel_rfl) (by kernel_rfl) ?_
        refine st_val (.bool false) (by kernel_rfl) (bool_of (neq_f (show ((((deR (sl (enL ls) 0 (lf - 0))).length : Nat) : Int) : Int) = (((deR (enL ls)).length : Nat) : Int) by omega)) (by kernel_rfl)) ?_
        refine st_val (.bool false) (by kernel_rfl) (by kernel_rfl) ?_
        refine wl_nil ?_
        refine hK91 _ _ ?_
        try clear hK91 K91
        refine wp_cond_false (by kernel_rfl) ?_
        refine wp_skip ?_
        refine hK90 _ _ ?_
        try clear hK90 K90
        refine wp_seq_k (fun K92 hK92 => ?_)
        refine wp_seq_k (fun K93 hK93 => ?_)
        refine wl_region ?_
        refine st_val (.int .i64 0) (by kernel_rfl) (by kernel_rfl) ?_
        refine wl_nil ?_
        refine hK93 _ _ ?_
        try clear hK93 K93
        refine wp_block ?_
        refine wp_loop_ghost (fun gn a' w' => ∃ (jc : Nat) (u94 : Nat → Value), ((jc ≤ ls.length) ∧ Mem NoS w w' ((T69 ++ (T70 ++ (T32 ++ (T33 ++ (T13 ++ []))))))) ∧ gn = ls.length - jc ∧ a' = ⟨#[.slice A ls.length c, .int .i64 ((nn : Nat) : Int), undef, undef, (u94 4), .slice A21 m18 cq22, .int .i64 (enE ls), .slice A49 ((deR (enL ls)).length) cq50, .slice A39 m34 cq40, .int .i64 (deE (enL ls)), .int .i64 ((292 * ls.length / 8 + 5 : Nat) : Int), .int .i64 ((lf : Nat) : Int), .slice A86 ((deR (sl (enL ls) 0 (lf - 0))).length) cq87, .slice A76 m71 cq77, .int .i64 (deE (sl (enL ls) 0 (lf - 0))), .int .i64 ((jc : Nat) : Int), (u94 16), .slice A ls.length c, .bool true, .bool false, .bool false, .slice A ls.length c, .bool true, .bool false, .bool false, .bool false, .int .i64 ((nn : Nat) : Int), .bool false, .bool false, undef, .tuple #[.slice A21 m18 cq22, .int .i64 (enE ls)], .slice A ls.length c, .tuple #[.slice A21 m18 cq22, .int .i64 (enE ls)], .slice A21 m18 cq22, .int .i64 (enE ls), .tuple #[.slice A49 ((deR (enL ls)).length) cq50, .slice A39 m34 cq40, .int .i64 (deE (enL ls))], .slice A21 m18 cq22, .tuple #[.slice A49 ((deR (enL ls)).length) cq50, .slice A39 m34 cq40, .int .i64 (deE (enL ls))], .slice A49 ((deR (enL ls)).length) cq50, .slice A39 m34 cq40, .int .i64 (deE (enL ls)), .int .i64 (enE ls), .bool false, .bool false, .int .i64 (deE (enL ls)), .bool false, .bool false, .bool false, .slice A21 m18 cq22, .int .i64 ((m18 : Nat) : Int), .bool false, .bool false, .bool false, .slice A49 ((deR (enL ls)).length) cq50, .int .i64 (((deR (enL ls)).length : Nat) : Int), .slice A ls.length c, .int .i64 ((ls.length : Nat) : Int), .bool false, .bool false, .slice A ls.length c, .int .i64 ((ls.length : Nat) : Int), .int .i64 ((292 * ls.length / 8 + 5 : Nat) : Int), .slice A21 m18 cq22, .int .i64 ((m18 : Nat) : Int), .int .i64 ((nn : Nat) : Int), .slice A21 m18 cq22, .int .i64 ((m18 : Nat) : Int), .int .i64 ((m18 - 9 : Nat) : Int), .int .i64 ((nn % (m18 - 9) : Nat) : Int), .int .i64 ((m18 - nn % (m18 - 9) : Nat) : Int), .int .i64 ((292 * ls.length / 8 + 5 : Nat) : Int), .bool false, .bool false, .int .i64 ((lf : Nat) : Int), .bool false, .bool false, .tuple #[.slice A86 ((deR (sl (enL ls) 0 (lf - 0))).length) cq87, .slice A76 m71 cq77, .int .i64 (deE (sl (enL ls) 0 (lf - 0)))], .slice A21 m18 cq22, .int .i64 ((lf : Nat) : Int), .slice (subA A21 cq22 0) (lf - 0) (cq22 - 0), .tuple #[.slice A86 ((deR (sl (enL ls) 0 (lf - 0))).length) cq87, .slice A76 m71 cq77, .int .i64 (deE (sl (enL ls) 0 (lf - 0)))], .slice A86 ((deR (sl (enL ls) 0 (lf - 0))).length) cq87, .slice A76 m71 cq77, .int .i64 (deE (sl (enL ls) 0 (lf - 0))), .int .i64 (deE (sl (enL ls) 0 (lf - 0))), .bool false, .bool false, .slice A86 ((deR (sl (enL ls) 0 (lf - 0))).length) cq87, .int .i64 (((deR (sl (enL ls) 0 (lf - 0))).length : Nat) : Int), .slice A49 ((deR (enL ls)).length) cq50, .int .i64 (((deR (enL ls)).length : Nat) : Int), .bool false, .bool false, (u94 93), (u94 94), (u94 95), (u94 96), (u94 97), (u94 98), (u94 99), (u94 100), (u94 101), (u94 102), (u94 103), (u94 104), (u94 105), (u94 106), (u94 107), (u94 108), (u94 109), (u94 110), (u94 111), (u94 112), (u94 113), (u94 114), (u94 115), (u94 116), (u94 117), (u94 118), (u94 119), (u94 120), (u94 121), (u94 122), (u94 123), (u94 124), (u94 125), (u94 126), (u94 127), (u94 128), (u94 129), (u94 130), (u94 131), (u94 132), (u94 133), (u94 134), (u94 135), (u94 136), (u94 137), (u94 138), (u94 139), (u94 140), (u94 141), (u94 142), undef], []⟩) _ ⟨0, (fun zz => Array.getD #[undef, undef, undef, undef, .bool false, undef, undef, undef, undef, undef, undef, undef, undef, undef, undef, undef, undef, undef, undef, undef, undef, undef, undef, undef, undef, undef, undef, undef, undef, undef, undef, undef, undef, undef, undef, undef, undef, undef, undef, undef, undef, undef, undef, undef, undef, undef, undef, undef, undef, undef, undef, undef, undef, undef, undef, undef, undef, undef, undef, undef, undef, undef, undef, undef, undef, undef, undef, undef, undef, undef, undef, undef, undef, undef, undef, undef, undef, undef, undef, undef, undef, undef, undef, undef, undef, undef, undef, undef, undef, undef, undef, undef, undef, undef, undef, undef, undef, undef, undef, undef, undef, undef, undef, undef, undef, undef, undef, undef, undef, undef, undef, undef, undef, undef, undef, undef, undef, undef, undef, undef, undef, undef, undef, undef, undef, undef, undef, undef, undef, undef, undef, undef, undef, undef, undef, undef, undef, undef, undef, undef, undef, undef, undef] zz undef), ⟨by omega, M89⟩, rfl, (by kernel_rfl)⟩ ?_
        rintro gn _ W95 ⟨jc, u94, ⟨rc, M96⟩, rfl, rfl⟩
        refine wp_seq_k (fun K97 hK97 => ?_)
        refine wp_seq_k (fun K98 hK98 => ?_)
        refine wl_region ?_
        refine st_val (.int .i64 ((jc : Nat) : Int)) (by kernel_rfl) (by kernel_rfl) ?_
        refine st_val (.slice A49 ((deR (enL ls)).length) cq50) (by kernel_rfl) (by kernel_rfl) ?_
        refine st_val (.int .i64 (((deR (enL ls)).length : Nat) : Int)) (by kernel_rfl) (by kernel_rfl) ?_
        rcases Decidable.em ((((jc : Nat) : Int) : Int) < (((deR (enL ls)).length : Nat) : Int)) with c96 | c96
        ·
          refine st_val (.bool true) (by kernel_rfl) (bool_of (dec_t c96) (by kernel_rfl)) ?_
          refine wl_nil ?_
          refine hK98 _ _ ?_
          try clear hK98 K98
          refine wp_cond_true (by kernel_rfl) ?_
          refine wp_skip ?_
          refine hK97 _ _ ?_
          try clear hK97 K97
          refine wp_seq_k (fun K99 hK99 => ?_)
          refine wp_block ?_
          refine wp_seq_k (fun K100 hK100 => ?_)
          refine wp_seq_k (fun K101 hK101 => ?_)
          have hlj := hp3 jc (by omega)
          have hrj := hrr jc (by omega)
          have hlmj := hlm jc (by omega)
          have hyj := hyr jc (by omega)
          refine wl_seq 11 (fun w' => Mem NoS w w' ((T69 ++ (T70 ++ (T32 ++ (T33 ++ (T13 ++ []))))))) (by decide) (by kernel_rfl) (by kernel_rfl) M96.drew ?_
          refine seq_run (v := .slice A86 ((deR (sl (enL ls) 0 (lf - 0))).length) cq87) (by decide) (by kernel_rfl) (fun w' M' => (by kernel_rfl)) ?_
          refine seq_run (v := .int .i64 ((jc : Nat) : Int)) (by decide) (by kernel_rfl) (fun w' M' => (by kernel_rfl)) ?_
          obtain ⟨b102, o103, eA104⟩ := RdK.addr ((rdP_of O83 OI84 (fun p hp => M96.at_ p ((List.mem_append_left _ (by rw [eT85]; exact List.mem_append_left _ hp)))) (fun p hp => M96.at_ p ((List.mem_append_left _ (by rw [eT85]; exact List.mem_append_right _ hp))))).rd) (j := jc * 1) (by rw [pvs_length]; omega)
          refine seq_run (v := .pointer (some ⟨b102, o103 + jc * 1, none⟩)) (by decide) (by kernel_rfl) (fun w' M' => (run_indexSliceA 28 (.tmp 99) (.tmp 100) rfl A86 ⟨b102, o103, none⟩ eA104 ((deR (sl (enL ls) 0 (lf - 0))).length) cq87 .i64 jc (by kernel_rfl) (by kernel_rfl) Try.underlying28 1 (by kernel_rfl) (by omega) ⟨b102, o103 + jc * 1, none⟩ (addr_atK _ _ _ _))) ?_
          refine seq_run (v := .slice (As79 jc) (((deR (sl (enL ls) 0 (lf - 0))).getD jc []).length) (cs80 jc)) (by decide) (by kernel_rfl) (fun w' M' => (run_load_cell 39 (.tmp 101) rfl ⟨b102, o103 + jc * 1, none⟩ (by kernel_rfl) _ (((rdP_of O83 OI84 (fun p hp => M'.at_ p ((List.mem_append_left _ (by rw [eT85]; exact List.mem_append_left _ hp)))) (fun p hp => M'.at_ p ((List.mem_append_left _ (by rw [eT85]; exact List.mem_append_right _ hp))))).rd).cellF eA104 (f := 0) (pvs_get (deR (sl (enL ls) 0 (lf - 0))) As79 cs80 jc (by omega))) (by kernel_rfl))) ?_
          refine seq_run (v := .int .i64 ((((deR (sl (enL ls) 0 (lf - 0))).getD jc []).length : Nat) : Int)) (by decide) (by kernel_rfl) (fun w' M' => (by kernel_rfl)) ?_
          refine seq_run (v := .slice A49 ((deR (enL ls)).length) cq50) (by decide) (by kernel_rfl) (fun w' M' => (by kernel_rfl)) ?_
          refine seq_run (v := .int .i64 ((jc : Nat) : Int)) (by decide) (by kernel_rfl) (fun w' M' => (by kernel_rfl)) ?_
          obtain ⟨b105, o106, eA107⟩ := RdK.addr ((rdP_of O46 OI47 (fun p hp => M96.at_ p ((List.mem_append_right _ (List.mem_append_right _ (List.mem_append_left _ (by rw [eT48]; exact List.mem_append_left _ hp)))))) (fun p hp => M96.at_ p ((List.mem_append_right _ (List.mem_append_right _ (List.mem_append_left _ (by rw [eT48]; exact List.mem_append_right _ hp))))))).rd) (j := jc * 1) (by rw [pvs_length]; omega)
          refine seq_run (v := .pointer (some ⟨b105, o106 + jc * 1, none⟩)) (by decide) (by kernel_rfl) (fun w' M' => (run_indexSliceA 28 (.tmp 104) (.tmp 105) rfl A49 ⟨b105, o106, none⟩ eA107 ((deR (enL ls)).length) cq50 .i64 jc (by kernel_rfl) (by kernel_rfl) Try.underlying28 1 (by kernel_rfl) (by omega) ⟨b105, o106 + jc * 1, none⟩ (addr_atK _ _ _ _))) ?_
          refine seq_run (v := .slice (As42 jc) (((deR (enL ls)).getD jc []).length) (cs43 jc)) (by decide) (by kernel_rfl) (fun w' M' => (run_load_cell 39 (.tmp 106) rfl ⟨b105, o106 + jc * 1, none⟩ (by kernel_rfl) _ (((rdP_of O46 OI47 (fun p hp => M'.at_ p ((List.mem_append_right _ (List.mem_append_right _ (List.mem_append_left _ (by rw [eT48]; exact List.mem_append_left _ hp)))))) (fun p hp => M'.at_ p ((List.mem_append_right _ (List.mem_append_right _ (List.mem_append_left _ (by rw [eT48]; exact List.mem_append_right _ hp))))))).rd).cellF eA107 (f := 0) (pvs_get (deR (enL ls)) As42 cs43 jc (by omega))) (by kernel_rfl))) ?_
          refine seq_run (v := .int .i64 ((((deR (enL ls)).getD jc []).length : Nat) : Int)) (by decide) (by kernel_rfl) (fun w' M' => (by kernel_rfl)) ?_
          refine seq_run (v := .bool false) (by decide) (by kernel_rfl) (fun w' M' => (bool_of (neq_f (show (((((deR (sl (enL ls) 0 (lf - 0))).getD jc []).length : Nat) : Int) : Int) = ((((deR (enL ls)).getD jc []).length : Nat) : Int) by omega)) (by kernel_rfl))) ?_
          refine seq_end (by decide) ?_
          intro W108 M109
          refine wl_nil ?_
          refine hK101 _ _ ?_
          try clear hK101 K101
          refine wp_frame (a' := ⟨#[.slice A ls.length c, .int .i64 ((nn : Nat) : Int), undef, undef, (u94 4), .slice A21 m18 cq22, .int .i64 (enE ls), .slice A49 ((deR (enL ls)).length) cq50, .slice A39 m34 cq40, .int .i64 (deE (enL ls)), .int .i64 ((292 * ls.length / 8 + 5 : Nat) : Int), .int .i64 ((lf : Nat) : Int), .slice A86 ((deR (sl (enL ls) 0 (lf - 0))).length) cq87, .slice A76 m71 cq77, .int .i64 (deE (sl (enL ls) 0 (lf - 0))), .int .i64 ((jc : Nat) : Int), (u94 16), .slice A ls.length c, .bool true, .bool false, .bool false, .slice A ls.length c, .bool true, .bool false, .bool false, .bool false, .int .i64 ((nn : Nat) : Int), .bool false, .bool false, undef, .tuple #[.slice A21 m18 cq22, .int .i64 (enE ls)], .slice A ls.length c, .tuple #[.slice A21 m18 cq22, .int .i64 (enE ls)], .slice A21 m18 cq22, .int .i64 (enE ls), .tuple #[.slice A49 ((deR (enL ls)).length) cq50, .slice A39 m34 cq40, .int .i64 (deE (enL ls))], .slice A21 m18 cq22, .tuple #[.slice A49 ((deR (enL ls)).length) cq50, .slice A39 m34 cq40, .int .i64 (deE (enL ls))], .slice A49 ((deR (enL ls)).length) cq50, .slice A39 m34 cq40, .int .i64 (deE (enL ls)), .int .i64 (enE ls), .bool false, .bool false, .int .i64 (deE (enL ls)), .bool false, .bool false, .bool false, .slice A21 m18 cq22, .int .i64 ((m18 : Nat) : Int), .bool false, .bool false, .bool false, .slice A49 ((deR (enL ls)).length) cq50, .int .i64 (((deR (enL ls)).length : Nat) : Int), .slice A ls.length c, .int .i64 ((ls.length : Nat) : Int), .bool false, .bool false, .slice A ls.length c, .int .i64 ((ls.length : Nat) : Int), .int .i64 ((292 * ls.length / 8 + 5 : Nat) : Int), .slice A21 m18 cq22, .int .i64 ((m18 : Nat) : Int), .int .i64 ((nn : Nat) : Int), .slice A21 m18 cq22, .int .i64 ((m18 : Nat) : Int), .int .i64 ((m18 - 9 : Nat) : Int), .int .i64 ((nn % (m18 - 9) : Nat) : Int), .int .i64 ((m18 - nn % (m18 - 9) : Nat) : Int), .int .i64 ((292 * ls.length / 8 + 5 : Nat) : Int), .bool false, .bool false, .int .i64 ((lf : Nat) : Int), .bool false, .bool false, .tuple #[.slice A86 ((deR (sl (enL ls) 0 (lf - 0))).length) cq87, .slice A76 m71 cq77, .int .i64 (deE (sl (enL ls) 0 (lf - 0)))], .slice A21 m18 cq22, .int .i64 ((lf : Nat) : Int), .slice (subA A21 cq22 0) (lf - 0) (cq22 - 0), .tuple #[.slice A86 ((deR (sl (enL ls) 0 (lf - 0))).length) cq87, .slice A76 m71 cq77, .int .i64 (deE (sl (enL ls) 0 (lf - 0)))], .slice A86 ((deR (sl (enL ls) 0 (lf - 0))).length) cq87, .slice A76 m71 cq77, .int .i64 (deE (sl (enL ls) 0 (lf - 0))), .int .i64 (deE (sl (enL ls) 0 (lf - 0))), .bool false, .bool false, .slice A86 ((deR (sl (enL ls) 0 (lf - 0))).length) cq87, .int .i64 (((deR (sl (enL ls) 0 (lf - 0))).length : Nat) : Int), .slice A49 ((deR (enL ls)).length) cq50, .int .i64 (((deR (enL ls)).length : Nat) : Int), .bool false, .bool false, .int .i64 ((jc : Nat) : Int), .slice A49 ((deR (enL ls)).length) cq50, .int .i64 (((deR (enL ls)).length : Nat) : Int), .bool true, (u94 97), (u94 98), .slice A86 ((deR (sl (enL ls) 0 (lf - 0))).length) cq87, .int .i64 ((jc : Nat) : Int), .pointer (some ⟨b102, o103 + jc * 1, none⟩), .slice (As79 jc) (((deR (sl (enL ls) 0 (lf - 0))).getD jc []).length) (cs80 jc), .int .i64 ((((deR (sl (enL ls) 0 (lf - 0))).getD jc []).length : Nat) : Int), .slice A49 ((deR (enL ls)).length) cq50, .int .i64 ((jc : Nat) : Int), .pointer (some ⟨b105, o106 + jc * 1, none⟩), .slice (As42 jc) (((deR (enL ls)).getD jc []).length) (cs43 jc), .int .i64 ((((deR (enL ls)).getD jc []).length : Nat) : Int), .bool false, (u94 110), (u94 111), (u94 112), (u94 113), (u94 114), (u94 115), (u94 116), (u94 117), (u94 118), (u94 119), (u94 120), (u94 121), (u94 122), (u94 123), (u94 124), (u94 125), (u94 126), (u94 127), (u94 128), (u94 129), (u94 130), (u94 131), (u94 132), (u94 133), (u94 134), (u94 135), (u94 136), (u94 137), (u94 138), (u94 139), (u94 140), (u94 141), (u94 142), undef], []⟩) (by kernel_rfl) ?_
          refine wp_cond_false (by kernel_rfl) ?_
          refine wp_skip ?_
          refine hK100 _ _ ?_
          try clear hK100 K100
          refine wp_seq_k (fun K110 hK110 => ?_)
          refine wl_region ?_
          refine st_val (.int .i64 0) (by kernel_rfl) (by kernel_rfl) ?_
          refine wl_nil ?_
          refine hK110 _ _ ?_
          try clear hK110 K110
          refine wp_block ?_
          refine wp_loop_ghost (fun gn a' w' => ∃ (i : Nat) (u111 : Nat → Value), ((i ≤ (ls.getD jc []).length) ∧ Mem NoS w w' ((T69 ++ (T70 ++ (T32 ++ (T33 ++ (T13 ++ []))))))) ∧ gn = (ls.getD jc []).length - i ∧ a' = ⟨#[.slice A ls.length c, .int .i64 ((nn : Nat) : Int), undef, undef, (u111 4), .slice A21 m18 cq22, .int .i64 (enE ls), .slice A49 ((deR (enL ls)).length) cq50, .slice A39 m34 cq40, .int .i64 (deE (enL ls)), .int .i64 ((292 * ls.length / 8 + 5 : Nat) : Int), .int .i64 ((lf : Nat) : Int), .slice A86 ((deR (sl (enL ls) 0 (lf - 0))).length) cq87, .slice A76 m71 cq77, .int .i64 (deE (sl (enL ls) 0 (lf - 0))), .int .i64 ((jc : Nat) : Int), .int .i64 ((i : Nat) : Int), .slice A ls.length c, .bool true, .bool false, .bool false, .slice A ls.length c, .bool true, .bool false, .bool false, .bool false, .int .i64 ((nn : Nat) : Int), .bool false, .bool false, undef, .tuple #[.slice A21 m18 cq22, .int .i64 (enE ls)], .slice A ls.length c, .tuple #[.slice A21 m18 cq22, .int .i64 (enE ls)], .slice A21 m18 cq22, .int .i64 (enE ls), .tuple #[.slice A49 ((deR (enL ls)).length) cq50, .slice A39 m34 cq40, .int .i64 (deE (enL ls))], .slice A21 m18 cq22, .tuple #[.slice A49 ((deR (enL ls)).length) cq50, .slice A39 m34 cq40, .int .i64 (deE (enL ls))], .slice A49 ((deR (enL ls)).length) cq50, .slice A39 m34 cq40, .int .i64 (deE (enL ls)), .int .i64 (enE ls), .bool false, .bool false, .int .i64 (deE (enL ls)), .bool false, .bool false, .bool false, .slice A21 m18 cq22, .int .i64 ((m18 : Nat) : Int), .bool false, .bool false, .bool false, .slice A49 ((deR (enL ls)).length) cq50, .int .i64 (((deR (enL ls)).length : Nat) : Int), .slice A ls.length c, .int .i64 ((ls.length : Nat) : Int), .bool false, .bool false, .slice A ls.length c, .int .i64 ((ls.length : Nat) : Int), .int .i64 ((292 * ls.length / 8 + 5 : Nat) : Int), .slice A21 m18 cq22, .int .i64 ((m18 : Nat) : Int), .int .i64 ((nn : Nat) : Int), .slice A21 m18 cq22, .int .i64 ((m18 : Nat) : Int), .int .i64 ((m18 - 9 : Nat) : Int), .int .i64 ((nn % (m18 - 9) : Nat) : Int), .int .i64 ((m18 - nn % (m18 - 9) : Nat) : Int), .int .i64 ((292 * ls.length / 8 + 5 : Nat) : Int), .bool false, .bool false, .int .i64 ((lf : Nat) : Int), .bool false, .bool false, .tuple #[.slice A86 ((deR (sl (enL ls) 0 (lf - 0))).length) cq87, .slice A76 m71 cq77, .int .i64 (deE (sl (enL ls) 0 (lf - 0)))], .slice A21 m18 cq22, .int .i64 ((lf : Nat) : Int), .slice (subA A21 cq22 0) (lf - 0) (cq22 - 0), .tuple #[.slice A86 ((deR (sl (enL ls) 0 (lf - 0))).length) cq87, .slice A76 m71 cq77, .int .i64 (deE (sl (enL ls) 0 (lf - 0)))], .slice A86 ((deR (sl (enL ls) 0 (lf - 0))).length) cq87, .slice A76 m71 cq77, .int .i64 (deE (sl (enL ls) 0 (lf - 0))), .int .i64 (deE (sl (enL ls) 0 (lf - 0))), .bool false, .bool false, .slice A86 ((deR (sl (enL ls) 0 (lf - 0))).length) cq87, .int .i64 (((deR (sl (enL ls) 0 (lf - 0))).length : Nat) : Int), .slice A49 ((deR (enL ls)).length) cq50, .int .i64 (((deR (enL ls)).length : Nat) : Int), .bool false, .bool false, .int .i64 ((jc : Nat) : Int), .slice A49 ((deR (enL ls)).length) cq50, .int .i64 (((deR (enL ls)).length : Nat) : Int), .bool true, (u94 97), (u94 98), .slice A86 ((deR (sl (enL ls) 0 (lf - 0))).length) cq87, .int .i64 ((jc : Nat) : Int), .pointer (some ⟨b102, o103 + jc * 1, none⟩), .slice (As79 jc) (((deR (sl (enL ls) 0 (lf - 0))).getD jc []).length) (cs80 jc), .int .i64 ((((deR (sl (enL ls) 0 (lf - 0))).getD jc []).length : Nat) : Int), .slice A49 ((deR (enL ls)).length) cq50, .int .i64 ((jc : Nat) : Int), .pointer (some ⟨b105, o106 + jc * 1, none⟩), .slice (As42 jc) (((deR (enL ls)).getD jc []).length) (cs43 jc), .int .i64 ((((deR (enL ls)).getD jc []).length : Nat) : Int), .bool false, (u111 110), (u111 111), (u111 112), (u111 113), (u111 114), (u111 115), (u111 116), (u111 117), (u111 118), (u111 119), (u111 120), (u111 121), (u111 122), (u111 123), (u111 124), (u111 125), (u111 126), (u111 127), (u111 128), (u111 129), (u111 130), (u111 131), (u111 132), (u111 133), (u111 134), (u111 135), (u111 136), (u111 137), (u111 138), (u111 139), (u111 140), (u111 141), (u111 142), undef], []⟩) _ ⟨0, (fun zz => Array.getD #[undef, undef, undef, undef, (u94 4), undef, undef, undef, undef, undef, undef, undef, undef, undef, undef, undef, undef, undef, undef, undef, undef, undef, undef, undef, undef, undef, undef, undef, undef, undef, undef, undef, undef, undef, undef, undef, undef, undef, undef, undef, undef, undef, undef, undef, undef, undef, undef, undef, undef, undef, undef, undef, undef, undef, undef, undef, undef, undef, undef, undef, undef, undef, undef, undef, undef, undef, undef, undef, undef, undef, undef, undef, undef, undef, undef, undef, undef, undef, undef, undef, undef, undef, undef, undef, undef, undef, undef, undef, undef, undef, undef, undef, undef, undef, undef, undef, undef, undef, undef, undef, undef, undef, undef, undef, undef, undef, undef, undef, undef, undef, (u94 110), (u94 111), (u94 112), (u94 113), (u94 114), (u94 115), (u94 116), (u94 117), (u94 118), (u94 119), (u94 120), (u94 121), (u94 122), (u94 123), (u94 124), (u94 125), (u94 126), (u94 127), (u94 128), (u94 129), (u94 130), (u94 131), (u94 132), (u94 133), (u94 134), (u94 135), (u94 136), (u94 137), (u94 138), (u94 139), (u94 140), (u94 141), (u94 142)] zz undef), ⟨by omega, M109⟩, rfl, (by kernel_rfl)⟩ ?_
          rintro gn _ W112 ⟨i, u111, ⟨ri, M113⟩, rfl, rfl⟩
          refine wp_seq_k (fun K114 hK114 => ?_)
          refine wp_seq_k (fun K115 hK115 => ?_)
          refine wl_region ?_
          refine st_val (.int .i64 ((i : Nat) : Int)) (by kernel_rfl) (by kernel_rfl) ?_
          refine st_val (.slice A49 ((deR (enL ls)).length) cq50) (by kernel_rfl) (by kernel_rfl) ?_
          refine st_val (.int .i64 ((jc : Nat) : Int)) (by kernel_rfl) (by kernel_rfl) ?_
          obtain ⟨b116, o117, eA118⟩ := RdK.addr ((rdP_of O46 OI47 (fun p hp => M113.at_ p ((List.mem_append_right _ (List.mem_append_right _ (List.mem_append_left _ (by rw [eT48]; exact List.mem_append_left _ hp)))))) (fun p hp => M113.at_ p ((List.mem_append_right _ (List.mem_append_right _ (List.mem_append_left _ (by rw [eT48]; exact List.mem_append_right _ hp))))))).rd) (j := jc * 1) (by rw [pvs_length]; omega)
          refine st_val (.pointer (some ⟨b116, o117 + jc * 1, none⟩)) (by kernel_rfl) (run_indexSliceA 28 (.tmp 111) (.tmp 112) rfl A49 ⟨b116, o117, none⟩ eA118 ((deR (enL ls)).length) cq50 .i64 jc (by kernel_rfl) (by kernel_rfl) Try.underlying28 1 (by kernel_rfl) (by omega) ⟨b116, o117 + jc * 1, none⟩ (addr_atK _ _ _ _)) ?_
          refine st_val (.slice (As42 jc) (((deR (enL ls)).getD jc []).length) (cs43 jc)) (by kernel_rfl) (run_load_cell 39 (.tmp 113) rfl ⟨b116, o117 + jc * 1, none⟩ (by kernel_rfl) _ (((rdP_of O46 OI47 (fun p hp => M113.at_ p ((List.mem_append_right _ (List.mem_append_right _ (List.mem_append_left _ (by rw [eT48]; exact List.mem_append_left _ hp)))))) (fun p hp => M113.at_ p ((List.mem_append_right _ (List.mem_append_right _ (List.mem_append_left _ (by rw [eT48]; exact List.mem_append_right _ hp))))))).rd).cellF eA118 (f := 0) (pvs_get (deR (enL ls)) As42 cs43 jc (by omega))) (by kernel_rfl)) ?_
          refine st_val (.int .i64 ((((deR (enL ls)).getD jc []).length : Nat) : Int)) (by kernel_rfl) (by kernel_rfl) ?_
          rcases Decidable.em ((((i : Nat) : Int) : Int) < ((((deR (enL ls)).getD jc []).length : Nat) : Int)) with c116 | c116
          ·
            refine st_val (.bool true) (by kernel_rfl) (bool_of (dec_t c116) (by kernel_rfl)) ?_
            refine wl_nil ?_
            refine hK115 _ _ ?_
            try clear hK115 K115
            refine wp_cond_true (by kernel_rfl) ?_
            refine wp_skip ?_
            refine hK114 _ _ ?_
            try clear hK114 K114
            refine wp_seq_k (fun K119 hK119 => ?_)
            refine wp_block ?_
            refine wp_seq_k (fun K120 hK120 => ?_)
            refine wl_seq 24 (fun w' => Mem NoS w w' ((T69 ++ (T70 ++ (T32 ++ (T33 ++ (T13 ++ []))))))) (by decide) (by kernel_rfl) (by kernel_rfl) M113.drew ?_
            refine seq_run (v := .int .i64 ((i : Nat) : Int)) (by decide) (by kernel_rfl) (fun w' M' => (by kernel_rfl)) ?_
            refine seq_run (v := .int .i64 ((i / 32 : Nat) : Int)) (by decide) (by kernel_rfl) (fun w' M' => (int_of (show ((i : Nat) : Int) / 32 = ((i / 32 : Nat) : Int) by omega) (int_of (quo_of ((i : Nat) : Int) 32 (by omega) (by omega) (by omega)) (by kernel_rfl)))) ?_
            refine seq_run (v := .int .i64 ((lf : Nat) : Int)) (by decide) (by kernel_rfl) (fun w' M' => (by kernel_rfl)) ?_
            refine seq_run (v := .int .i64 ((lf - 10 : Nat) : Int)) (by decide) (by kernel_rfl) (fun w' M' => (int_of (show ((lf : Nat) : Int) - 10 = ((lf - 10 : Nat) : Int) by omega) (i64_of (by omega) (by kernel_rfl)))) ?_
            refine seq_run (v := .int .i64 ((292 * ls.length / 8 + 5 : Nat) : Int)) (by decide) (by kernel_rfl) (fun w' M' => (by kernel_rfl)) ?_
            refine seq_run (v := .int .i64 (((lf - 10) / (292 * ls.length / 8 + 5) : Nat) : Int)) (by decide) (by kernel_rfl) (fun w' M' => (run_value_bin .quo 3 3 (.tmp 122) (.tmp 123) rfl (.int .i64 ((lf - 10 : Nat) : Int)) (.int .i64 ((292 * ls.length / 8 + 5 : Nat) : Int)) _ (by kernel_rfl) (by kernel_rfl) (by kernel_rfl) (bin_quoN (by omega) (by omega)))) ?_
            rcases Decidable.em ((((i / 32 : Nat) : Int) : Int) < (((lf - 10) / (292 * ls.length / 8 + 5) : Nat) : Int)) with c125 | c125
            ·
              refine seq_run (v := .bool true) (by decide) (by kernel_rfl) (fun w' M' => (bool_of (dec_t c125) (by kernel_rfl))) ?_
              refine seq_run (v := .bool true) (by decide) (by kernel_rfl) (fun w' M' => (by kernel_rfl)) ?_
              refine seq_run (v := .slice A86 ((deR (sl (enL ls) 0 (lf - 0))).length) cq87) (by decide) (by kernel_rfl) (fun w' M' => (by kernel_rfl)) ?_
              refine seq_run (v := .int .i64 ((jc : Nat) : Int)) (by decide) (by kernel_rfl) (fun w' M' => (by kernel_rfl)) ?_
              obtain ⟨b121, o122, eA123⟩ := RdK.addr ((rdP_of O83 OI84 (fun p hp => M113.at_ p ((List.mem_append_left _ (by rw [eT85]; exact List.mem_append_left _ hp)))) (fun p hp => M113.at_ p ((List.mem_append_left _ (by rw [eT85]; exact List.mem_append_right _ hp))))).rd) (j := jc * 1) (by rw [pvs_length]; omega)
              refine seq_run (v := .pointer (some ⟨b121, o122 + jc * 1, none⟩)) (by decide) (by kernel_rfl) (fun w' M' => (run_indexSliceA 28 (.tmp 127) (.tmp 128) rfl A86 ⟨b121, o122, none⟩ eA123 ((deR (sl (enL ls) 0 (lf - 0))).length) cq87 .i64 jc (by kernel_rfl) (by kernel_rfl) Try.underlying28 1 (by kernel_rfl) (by omega) ⟨b121, o122 + jc * 1, none⟩ (addr_atK _ _ _ _))) ?_
              refine seq_run (v := .slice (As79 jc) (((deR (sl (enL ls) 0 (lf - 0))).getD jc []).length) (cs80 jc)) (by decide) (by kernel_rfl) (fun w' M' => (run_load_cell 39 (.tmp 129) rfl ⟨b121, o122 + jc * 1, none⟩ (by kernel_rfl) _ (((rdP_of O83 OI84 (fun p hp => M'.at_ p ((List.mem_append_left _ (by rw [eT85]; exact List.mem_append_left _ hp)))) (fun p hp => M'.at_ p ((List.mem_append_left _ (by rw [eT85]; exact List.mem_append_right _ hp))))).rd).cellF eA123 (f := 0) (pvs_get (deR (sl (enL ls) 0 (lf - 0))) As79 cs80 jc (by omega))) (by kernel_rfl))) ?_
              refine seq_run (v := .int .i64 ((i : Nat) : Int)) (by decide) (by kernel_rfl) (fun w' M' => (by kernel_rfl)) ?_
              obtain ⟨b124, o125, eA126⟩ := RdK.addr (((rdP_of O83 OI84 (fun p hp => M113.at_ p ((List.mem_append_left _ (by rw [eT85]; exact List.mem_append_left _ hp)))) (fun p hp => M113.at_ p ((List.mem_append_left _ (by rw [eT85]; exact List.mem_append_right _ hp))))).ch jc (by omega) (by omega))) (j := i * 1) (by rw [i16s_length]; omega)
              refine seq_run (v := .pointer (some ⟨b124, o125 + i * 1, none⟩)) (by decide) (by kernel_rfl) (fun w' M' => (run_indexSliceA 39 (.tmp 130) (.tmp 131) rfl (As79 jc) ⟨b124, o125, none⟩ eA126 (((deR (sl (enL ls) 0 (lf - 0))).getD jc []).length) (cs80 jc) .i64 i (by kernel_rfl) (by kernel_rfl) Try.underlying39 1 (by kernel_rfl) (by omega) ⟨b124, o125 + i * 1, none⟩ (addr_atK _ _ _ _))) ?_
              refine seq_run (v := .int .i16 (((deR (sl (enL ls) 0 (lf - 0))).getD jc []).getD i 0)) (by decide) (by kernel_rfl) (fun w' M' => (run_load_cell 45 (.tmp 132) rfl ⟨b124, o125 + i * 1, none⟩ (by kernel_rfl) _ ((((rdP_of O83 OI84 (fun p hp => M'.at_ p ((List.mem_append_left _ (by rw [eT85]; exact List.mem_append_left _ hp)))) (fun p hp => M'.at_ p ((List.mem_append_left _ (by rw [eT85]; exact List.mem_append_right _ hp))))).ch jc (by omega) (by omega))).cellF eA126 (f := 0) (i16s_get ((deR (sl (enL ls) 0 (lf - 0))).getD jc []) i (by omega))) (by kernel_rfl))) ?_
              refine seq_run (v := .slice A49 ((deR (enL ls)).length) cq50) (by decide) (by kernel_rfl) (fun w' M' => (by kernel_rfl)) ?_
              refine seq_run (v := .int .i64 ((jc : Nat) : Int)) (by decide) (by kernel_rfl) (fun w' M' => (by kernel_rfl)) ?_
              obtain ⟨b127, o128, eA129⟩ := RdK.addr ((rdP_of O46 OI47 (fun p hp => M113.at_ p ((List.mem_append_right _ (List.mem_append_right _ (List.mem_append_left _ (by rw [eT48]; exact List.mem_append_left _ hp)))))) (fun p hp => M113.at_ p ((List.mem_append_right _ (List.mem_append_right _ (List.mem_append_left _ (by rw [eT48]; exact List.mem_append_right _ hp))))))).rd) (j := jc * 1) (by rw [pvs_length]; omega)
              refine seq_run (v := .pointer (some ⟨b127, o128 + jc * 1, none⟩)) (by decide) (by kernel_rfl) (fun w' M' => (run_indexSliceA 28 (.tmp 134) (.tmp 135) rfl A49 ⟨b127, o128, none⟩ eA129 ((deR (enL ls)).length) cq50 .i64 jc (by kernel_rfl) (by kernel_rfl) Try.underlying28 1 (by kernel_rfl) (by omega) ⟨b127, o128 + jc * 1, none⟩ (addr_atK _ _ _ _))) ?_
              refine seq_run (v := .slice (As42 jc) (((deR (enL ls)).getD jc []).length) (cs43 jc)) (by decide) (by kernel_rfl) (fun w' M' => (run_load_cell 39 (.tmp 136) rfl ⟨b127, o128 + jc * 1, none⟩ (by kernel_rfl) _ (((rdP_of O46 OI47 (fun p hp => M'.at_ p ((List.mem_append_right _ (List.mem_append_right _ (List.mem_append_left _ (by rw [eT48]; exact List.mem_append_left _ hp)))))) (fun p hp => M'.at_ p ((List.mem_append_right _ (List.mem_append_right _ (List.mem_append_left _ (by rw [eT48]; exact List.mem_append_right _ hp))))))).rd).cellF eA129 (f := 0) (pvs_get (deR (enL ls)) As42 cs43 jc (by omega))) (by kernel_rfl))) ?_
              refine seq_run (v := .int .i64 ((i : Nat) : Int)) (by decide) (by kernel_rfl) (fun w' M' => (by kernel_rfl)) ?_
              obtain ⟨b130, o131, eA132⟩ := RdK.addr (((rdP_of O46 OI47 (fun p hp => M113.at_ p ((List.mem_append_right _ (List.mem_append_right _ (List.mem_append_left _ (by rw [eT48]; exact List.mem_append_left _ hp)))))) (fun p hp => M113.at_ p ((List.mem_append_right _ (List.mem_append_right _ (List.mem_append_left _ (by rw [eT48]; exact List.mem_append_right _ hp))))))).ch jc (by omega) (by omega))) (j := i * 1) (by rw [i16s_length]; omega)
              refine seq_run (v := .pointer (some ⟨b130, o131 + i * 1, none⟩)) (by decide) (by kernel_rfl) (fun w' M' => (run_indexSliceA 39 (.tmp 137) (.tmp 138) rfl (As42 jc) ⟨b130, o131, none⟩ eA132 (((deR (enL ls)).getD jc []).length) (cs43 jc) .i64 i (by kernel_rfl) (by kernel_rfl) Try.underlying39 1 (by kernel_rfl) (by omega) ⟨b130, o131 + i * 1, none⟩ (addr_atK _ _ _ _))) ?_
              refine seq_run (v := .int .i16 (((deR (enL ls)).getD jc []).getD i 0)) (by decide) (by kernel_rfl) (fun w' M' => (run_load_cell 45 (.tmp 139) rfl ⟨b130, o131 + i * 1, none⟩ (by kernel_rfl) _ ((((rdP_of O46 OI47 (fun p hp => M'.at_ p ((List.mem_append_right _ (List.mem_append_right _ (List.mem_append_left _ (by rw [eT48]; exact List.mem_append_left _ hp)))))) (fun p hp => M'.at_ p ((List.mem_append_right _ (List.mem_append_right _ (List.mem_append_left _ (by rw [eT48]; exact List.mem_append_right _ hp))))))).ch jc (by omega) (by omega))).cellF eA132 (f := 0) (i16s_get ((deR (enL ls)).getD jc []) i (by omega))) (by kernel_rfl))) ?_
              refine seq_run (v := .bool false) (by decide) (by kernel_rfl) (fun w' M' => (bool_of (neq_f (show (((deR (sl (enL ls) 0 (lf - 0))).getD jc []).getD i 0 : Int) = ((deR (enL ls)).getD jc []).getD i 0 from (hsf jc i (by omega) (by omega) (Int.ofNat_lt.1 c125)))) (by kernel_rfl))) ?_
              refine seq_run (v := .bool false) (by decide) (by kernel_rfl) (fun w' M' => (by kernel_rfl)) ?_
              refine seq_end (by decide) ?_
              intro W133 M134
              refine wl_nil ?_
              refine hK120 _ _ ?_
              try clear hK120 K120
              refine wp_frame (a' := ⟨#[.slice A ls.length c, .int .i64 ((nn : Nat) : Int), undef, undef, (u111 4), .slice A21 m18 cq22, .int .i64 (enE ls), .slice A49 ((deR (enL ls)).length) cq50, .slice A39 m34 cq40, .int .i64 (deE (enL ls)), .int .i64 ((292 * ls.length / 8 + 5 : Nat) : Int), .int .i64 ((lf : Nat) : Int), .slice A86 ((deR (sl (enL ls) 0 (lf - 0))).length) cq87, .slice A76 m71 cq77, .int .i64 (deE (sl (enL ls) 0 (lf - 0))), .int .i64 ((jc : Nat) : Int), .int .i64 ((i : Nat) : Int), .slice A ls.length c, .bool true, .bool false, .bool false, .slice A ls.length c, .bool true, .bool false, .bool false, .bool false, .int .i64 ((nn : Nat) : Int), .bool false, .bool false, undef, .tuple #[.slice A21 m18 cq22, .int .i64 (enE ls)], .slice A ls.length c, .tuple #[.slice A21 m18 cq22, .int .i64 (enE ls)], .slice A21 m18 cq22, .int .i64 (enE ls), .tuple #[.slice A49 ((deR (enL ls)).length) cq50, .slice A39 m34 cq40, .int .i64 (deE (enL ls))], .slice A21 m18 cq22, .tuple #[.slice A49 ((deR (enL ls)).length) cq50, .slice A39 m34 cq40, .int .i64 (deE (enL ls))], .slice A49 ((deR (enL ls)).length) cq50, .slice A39 m34 cq40, .int .i64 (deE (enL ls)), .int .i64 (enE ls), .bool false, .bool false, .int .i64 (deE (enL ls)), .bool false, .bool false, .bool false, .slice A21 m18 cq22, .int .i64 ((m18 : Nat) : Int), .bool false, .bool false, .bool false, .slice A49 ((deR (enL ls)).length) cq50, .int .i64 (((deR (enL ls)).length : Nat) : Int), .slice A ls.length c, .int .i64 ((ls.length : Nat) : Int), .bool false, .bool false, .slice A ls.length c, .int .i64 ((ls.length : Nat) : Int), .int .i64 ((292 * ls.length / 8 + 5 : Nat) : Int), .slice A21 m18 cq22, .int .i64 ((m18 : Nat) : Int), .int .i64 ((nn : Nat) : Int), .slice A21 m18 cq22, .int .i64 ((m18 : Nat) : Int), .int .i64 ((m18 - 9 : Nat) : Int), .int .i64 ((nn % (m18 - 9) : Nat) : Int), .int .i64 ((m18 - nn % (m18 - 9) : Nat) : Int), .int .i64 ((292 * ls.length / 8 + 5 : Nat) : Int), .bool false, .bool false, .int .i64 ((lf : Nat) : Int), .bool false, .bool false, .tuple #[.slice A86 ((deR (sl (enL ls) 0 (lf - 0))).length) cq87, .slice A76 m71 cq77, .int .i64 (deE (sl (enL ls) 0 (lf - 0)))], .slice A21 m18 cq22, .int .i64 ((lf : Nat) : Int), .slice (subA A21 cq22 0) (lf - 0) (cq22 - 0), .tuple #[.slice A86 ((deR (sl (enL ls) 0 (lf - 0))).length) cq87, .slice A76 m71 cq77, .int .i64 (deE (sl (enL ls) 0 (lf - 0)))], .slice A86 ((deR (sl (enL ls) 0 (lf - 0))).length) cq87, .slice A76 m71 cq77, .int .i64 (deE (sl (enL ls) 0 (lf - 0))), .int .i64 (deE (sl (enL ls) 0 (lf - 0))), .bool false, .bool false, .slice A86 ((deR (sl (enL ls) 0 (lf - 0))).length) cq87, .int .i64 (((deR (sl (enL ls) 0 (lf - 0))).length : Nat) : Int), .slice A49 ((deR (enL ls)).length) cq50, .int .i64 (((deR (enL ls)).length : Nat) : Int), .bool false, .bool false, .int .i64 ((jc : Nat) : Int), .slice A49 ((deR (enL ls)).length) cq50, .int .i64 (((deR (enL ls)).length : Nat) : Int), .bool true, (u94 97), (u94 98), .slice A86 ((deR (sl (enL ls) 0 (lf - 0))).length) cq87, .int .i64 ((jc : Nat) : Int), .pointer (some ⟨b102, o103 + jc * 1, none⟩), .slice (As79 jc) (((deR (sl (enL ls) 0 (lf - 0))).getD jc []).length) (cs80 jc), .int .i64 ((((deR (sl (enL ls) 0 (lf - 0))).getD jc []).length : Nat) : Int), .slice A49 ((deR (enL ls)).length) cq50, .int .i64 ((jc : Nat) : Int), .pointer (some ⟨b105, o106 + jc * 1, none⟩), .slice (As42 jc) (((deR (enL ls)).getD jc []).length) (cs43 jc), .int .i64 ((((deR (enL ls)).getD jc []).length : Nat) : Int), .bool false, .int .i64 ((i : Nat) : Int), .slice A49 ((deR (enL ls)).length) cq50, .int .i64 ((jc : Nat) : Int), .pointer (some ⟨b116, o117 + jc * 1, none⟩), .slice (As42 jc) (((deR (enL ls)).getD jc []).length) (cs43 jc), .int .i64 ((((deR (enL ls)).getD jc []).length : Nat) : Int), .bool true, (u111 117), (u111 118), .int .i64 ((i : Nat) : Int), .int .i64 ((i / 32 : Nat) : Int), .int .i64 ((lf : Nat) : Int), .int .i64 ((lf - 10 : Nat) : Int), .int .i64 ((292 * ls.length / 8 + 5 : Nat) : Int), .int .i64 (((lf - 10) / (292 * ls.length / 8 + 5) : Nat) : Int), .bool true, .bool true, .slice A86 ((deR (sl (enL ls) 0 (lf - 0))).length) cq87, .int .i64 ((jc : Nat) : Int), .pointer (some ⟨b121, o122 + jc * 1, none⟩), .slice (As79 jc) (((deR (sl (enL ls) 0 (lf - 0))).getD jc []).length) (cs80 jc), .int .i64 ((i : Nat) : Int), .pointer (some ⟨b124, o125 + i * 1, none⟩), .int .i16 (((deR (sl (enL ls) 0 (lf - 0))).getD jc []).getD i 0), .slice A49 ((deR (enL ls)).length) cq50, .int .i64 ((jc : Nat) : Int), .pointer (some ⟨b127, o128 + jc * 1, none⟩), .slice (As42 jc) (((deR (enL ls)).getD jc []).length) (cs43 jc), .int .i64 ((i : Nat) : Int), .pointer (some ⟨b130, o131 + i * 1, none⟩), .int .i16 (((deR (enL ls)).getD jc []).getD i 0), .bool false, .bool false, undef], []⟩) (by kernel_rfl) ?_
              refine wp_cond_false (by kernel_rfl) ?_
              refine wp_skip ?_
              refine blk_normal ?_
              refine hK119 _ _ ?_
              try clear hK119 K119
              refine wl_region ?_
              refine st_val (.int .i64 ((i : Nat) : Int)) (by kernel_rfl) (by kernel_rfl) ?_
              refine st_val (.int .i64 (((i : Nat) : Int) + 1)) (by kernel_rfl) (i64_of (by omega) (by kernel_rfl)) ?_
              refine st_val (.int .i64 (((i : Nat) : Int) + 1)) (by kernel_rfl) (by kernel_rfl) ?_
              refine wl_nil ?_
              refine th_normal ?_
              exact ⟨_, by omega, (i + 1), (fun zz => Array.getD #[undef, undef, undef, undef, (u111 4), undef, undef, undef, undef, undef, undef, undef, undef, undef, undef, undef, undef, undef, undef, undef, undef, undef, undef, undef, undef, undef, undef, undef, undef, undef, undef, undef, undef, undef, undef, undef, undef, undef, undef, undef, undef, undef, undef, undef, undef, undef, undef, undef, undef, undef, undef, undef, undef, undef, undef, undef, undef, undef, undef, undef, undef, undef, undef, undef, undef, undef, undef, undef, undef, undef, undef, undef, undef, undef, undef, undef, undef, undef, undef, undef, undef, undef, undef, undef, undef, undef, undef, undef, undef, undef, undef, undef, undef, undef, undef, undef, undef, undef, undef, undef, undef, undef, undef, undef, undef, undef, undef, undef, undef, undef, .int .i64 ((i : Nat) : Int), .slice A49 ((deR (enL ls)).length) cq50, .int .i64 ((jc : Nat) : Int), .pointer (some ⟨b116, o117 + jc * 1, none⟩), .slice (As42 jc) (((deR (enL ls)).getD jc []).length) (cs43 jc), .int .i64 ((((deR (enL ls)).getD jc []).length : Nat) : Int), .bool true, .int .i64 ((i : Nat) : Int), .int .i64 (((i : Nat) : Int) + 1), .int .i64 ((i : Nat) : Int), .int .i64 ((i / 32 : Nat) : Int), .int .i64 ((lf : Nat) : Int), .int .i64 ((lf - 10 : Nat) : Int), .int .i64 ((292 * ls.length / 8 + 5 : Nat) : Int), .int .i64 (((lf - 10) / (292 * ls.length / 8 + 5) : Nat) : Int), .bool true, .bool true, .slice A86 ((deR (sl (enL ls) 0 (lf - 0))).length) cq87, .int .i64 ((jc : Nat) : Int), .pointer (some ⟨b121, o122 + jc * 1, none⟩), .slice (As79 jc) (((deR (sl (enL ls) 0 (lf - 0))).getD jc []).length) (cs80 jc), .int .i64 ((i : Nat) : Int), .pointer (some ⟨b124, o125 + i * 1, none⟩), .int .i16 (((deR (sl (enL ls) 0 (lf - 0))).getD jc []).getD i 0), .slice A49 ((deR (enL ls)).length) cq50, .int .i64 ((jc : Nat) : Int), .pointer (some ⟨b127, o128 + jc * 1, none⟩), .slice (As42 jc) (((deR (enL ls)).getD jc []).length) (cs43 jc), .int .i64 ((i : Nat) : Int), .pointer (some ⟨b130, o131 + i * 1, none⟩), .int .i16 (((deR (enL ls)).getD jc []).getD i 0), .bool false, .bool false] zz undef), ⟨by omega, M134⟩, rfl, (by kernel_rfl)⟩
            ·
              refine seq_run (v := .bool false) (by decide) (by kernel_rfl) (fun w' M' => (bool_of (dec_f c125) (by kernel_rfl))) ?_
              refine seq_run (v := .bool false) (by decide) (by kernel_rfl) (fun w' M' => (by kernel_rfl)) ?_
              refine seq_skip (by decide) (by kernel_rfl) ?_
              refine seq_skip (by decide) (by kernel_rfl) ?_
              refine seq_skip (by decide) (by kernel_rfl) ?_
              refine seq_skip (by decide) (by kernel_rfl) ?_
              refine seq_skip (by decide) (by kernel_rfl) ?_
              refine seq_skip (by decide) (by kernel_rfl) ?_
              refine seq_skip (by decide) (by kernel_rfl) ?_
              refine seq_skip (by decide) (by kernel_rfl) ?_
              refine seq_skip (by decide) (by kernel_rfl) ?_
              refine seq_skip (by decide) (by kernel_rfl) ?_
              refine seq_skip (by decide) (by kernel_rfl) ?_
              refine seq_skip (by decide) (by kernel_rfl) ?_
              refine seq_skip (by decide) (by kernel_rfl) ?_
              refine seq_skip (by decide) (by kernel_rfl) ?_
              refine seq_skip (by decide) (by kernel_rfl) ?_
              refine seq_run (v := .bool false) (by decide) (by kernel_rfl) (fun w' M' => (by kernel_rfl)) ?_
              refine seq_end (by decide) ?_
              intro W135 M136
              refine wl_nil ?_
              refine hK120 _ _ ?_
              try clear hK120 K120
              refine wp_frame (a' := ⟨#[.slice A ls.length c, .int .i64 ((nn : Nat) : Int), undef, undef, (u111 4), .slice A21 m18 cq22, .int .i64 (enE ls), .slice A49 ((deR (enL ls)).length) cq50, .slice A39 m34 cq40, .int .i64 (deE (enL ls)), .int .i64 ((292 * ls.length / 8 + 5 : Nat) : Int), .int .i64 ((lf : Nat) : Int), .slice A86 ((deR (sl (enL ls) 0 (lf - 0))).length) cq87, .slice A76 m71 cq77, .int .i64 (deE (sl (enL ls) 0 (lf - 0))), .int .i64 ((jc : Nat) : Int), .int .i64 ((i : Nat) : Int), .slice A ls.length c, .bool true, .bool false, .bool false, .slice A ls.length c, .bool true, .bool false, .bool false, .bool false, .int .i64 ((nn : Nat) : Int), .bool false, .bool false, undef, .tuple #[.slice A21 m18 cq22, .int .i64 (enE ls)], .slice A ls.length c, .tuple #[.slice A21 m18 cq22, .int .i64 (enE ls)], .slice A21 m18 cq22, .int .i64 (enE ls), .tuple #[.slice A49 ((deR (enL ls)).length) cq50, .slice A39 m34 cq40, .int .i64 (deE (enL ls))], .slice A21 m18 cq22, .tuple #[.slice A49 ((deR (enL ls)).length) cq50, .slice A39 m34 cq40, .int .i64 (deE (enL ls))], .slice A49 ((deR (enL ls)).length) cq50, .slice A39 m34 cq40, .int .i64 (deE (enL ls)), .int .i64 (enE ls), .bool false, .bool false, .int .i64 (deE (enL ls)), .bool false, .bool false, .bool false, .slice A21 m18 cq22, .int .i64 ((m18 : Nat) : Int), .bool false, .bool false, .bool false, .slice A49 ((deR (enL ls)).length) cq50, .int .i64 (((deR (enL ls)).length : Nat) : Int), .slice A ls.length c, .int .i64 ((ls.length : Nat) : Int), .bool false, .bool false, .slice A ls.length c, .int .i64 ((ls.length : Nat) : Int), .int .i64 ((292 * ls.length / 8 + 5 : Nat) : Int), .slice A21 m18 cq22, .int .i64 ((m18 : Nat) : Int), .int .i64 ((nn : Nat) : Int), .slice A21 m18 cq22, .int .i64 ((m18 : Nat) : Int), .int .i64 ((m18 - 9 : Nat) : Int), .int .i64 ((nn % (m18 - 9) : Nat) : Int), .int .i64 ((m18 - nn % (m18 - 9) : Nat) : Int), .int .i64 ((292 * ls.length / 8 + 5 : Nat) : Int), .bool false, .bool false, .int .i64 ((lf : Nat) : Int), .bool false, .bool false, .tuple #[.slice A86 ((deR (sl (enL ls) 0 (lf - 0))).length) cq87, .slice A76 m71 cq77, .int .i64 (deE (sl (enL ls) 0 (lf - 0)))], .slice A21 m18 cq22, .int .i64 ((lf : Nat) : Int), .slice (subA A21 cq22 0) (lf - 0) (cq22 - 0), .tuple #[.slice A86 ((deR (sl (enL ls) 0 (lf - 0))).length) cq87, .slice A76 m71 cq77, .int .i64 (deE (sl (enL ls) 0 (lf - 0)))], .slice A86 ((deR (sl (enL ls) 0 (lf - 0))).length) cq87, .slice A76 m71 cq77, .int .i64 (deE (sl (enL ls) 0 (lf - 0))), .int .i64 (deE (sl (enL ls) 0 (lf - 0))), .bool false, .bool false, .slice A86 ((deR (sl (enL ls) 0 (lf - 0))).length) cq87, .int .i64 (((deR (sl (enL ls) 0 (lf - 0))).length : Nat) : Int), .slice A49 ((deR (enL ls)).length) cq50, .int .i64 (((deR (enL ls)).length : Nat) : Int), .bool false, .bool false, .int .i64 ((jc : Nat) : Int), .slice A49 ((deR (enL ls)).length) cq50, .int .i64 (((deR (enL ls)).length : Nat) : Int), .bool true, (u94 97), (u94 98), .slice A86 ((deR (sl (enL ls) 0 (lf - 0))).length) cq87, .int .i64 ((jc : Nat) : Int), .pointer (some ⟨b102, o103 + jc * 1, none⟩), .slice (As79 jc) (((deR (sl (enL ls) 0 (lf - 0))).getD jc []).length) (cs80 jc), .int .i64 ((((deR (sl (enL ls) 0 (lf - 0))).getD jc []).length : Nat) : Int), .slice A49 ((deR (enL ls)).length) cq50, .int .i64 ((jc : Nat) : Int), .pointer (some ⟨b105, o106 + jc * 1, none⟩), .slice (As42 jc) (((deR (enL ls)).getD jc []).length) (cs43 jc), .int .i64 ((((deR (enL ls)).getD jc []).length : Nat) : Int), .bool false, .int .i64 ((i : Nat) : Int), .slice A49 ((deR (enL ls)).length) cq50, .int .i64 ((jc : Nat) : Int), .pointer (some ⟨b116, o117 + jc * 1, none⟩), .slice (As42 jc) (((deR (enL ls)).getD jc []).length) (cs43 jc), .int .i64 ((((deR (enL ls)).getD jc []).length : Nat) : Int), .bool true, (u111 117), (u111 118), .int .i64 ((i : Nat) : Int), .int .i64 ((i / 32 : Nat) : Int), .int .i64 ((lf : Nat) : Int), .int .i64 ((lf - 10 : Nat) : Int), .int .i64 ((292 * ls.length / 8 + 5 : Nat) : Int), .int .i64 (((lf - 10) / (292 * ls.length / 8 + 5) : Nat) : Int), .bool false, .bool false, undef, undef, undef, undef, undef, undef, undef, undef, undef, undef, undef, undef, undef, undef, undef, .bool false, undef], []⟩) (by kernel_rfl) ?_
              refine wp_cond_false (by kernel_rfl) ?_
              refine wp_skip ?_
              refine blk_normal ?_
              refine hK119 _ _ ?_
              try clear hK119 K119
              refine wl_region ?_
              refine st_val (.int .i64 ((i : Nat) : Int)) (by kernel_rfl) (by kernel_rfl) ?_
              refine st_val (.int .i64 (((i : Nat) : Int) + 1)) (by kernel_rfl) (i64_of (by omega) (by kernel_rfl)) ?_
              refine st_val (.int .i64 (((i : Nat) : Int) + 1)) (by kernel_rfl) (by kernel_rfl) ?_
              refine wl_nil ?_
              refine th_normal ?_
              exact ⟨_, by omega, (i + 1), (fun zz => Array.getD #[undef, undef, undef, undef, (u111 4), undef, undef, undef, undef, undef, undef, undef, undef, undef, undef, undef, undef, undef, undef, undef, undef, undef, undef, undef, undef, undef, undef, undef, undef, undef, undef, undef, undef, undef, undef, undef, undef, undef, undef, undef, undef, undef, undef, undef, undef, undef, undef, undef, undef, undef, undef, undef, undef, undef, undef, undef, undef, undef, undef, undef, undef, undef, undef, undef, undef, undef, undef, undef, undef, undef, undef, undef, undef, undef, undef, undef, undef, undef, undef, undef, undef, undef, undef, undef, undef, undef, undef, undef, undef, undef, undef, undef, undef, undef, undef, undef, undef, undef, undef, undef, undef, undef, undef, undef, undef, undef, undef, undef, undef, undef, .int .i64 ((i : Nat) : Int), .slice A49 ((deR (enL ls)).length) cq50, .int .i64 ((jc : Nat) : Int), .pointer (some ⟨b116, o117 + jc * 1, none⟩), .slice (As42 jc) (((deR (enL ls)).getD jc []).length) (cs43 jc), .int .i64 ((((deR (enL ls)).getD jc []).length : Nat) : Int), .bool true, .int .i64 ((i : Nat) : Int), .int .i64 (((i : Nat) : Int) + 1), .int .i64 ((i : Nat) : Int), .int .i64 ((i / 32 : Nat) : Int), .int .i64 ((lf : Nat) : Int), .int .i64 ((lf - 10 : Nat) : Int), .int .i64 ((292 * ls.length / 8 + 5 : Nat) : Int), .int .i64 (((lf - 10) / (292 * ls.length / 8 + 5) : Nat) : Int), .bool false, .bool false, undef, undef, undef, undef, undef, undef, undef, undef, undef, undef, undef, undef, undef, undef, undef, .bool false] zz undef), ⟨by omega, M136⟩, rfl, (by kernel_rfl)⟩
          ·
            refine st_val (.bool false) (by kernel_rfl) (bool_of (dec_f c116) (by kernel_rfl)) ?_
            refine wl_nil ?_
            refine hK115 _ _ ?_
            try clear hK115 K115
            refine wp_cond_false (by kernel_rfl) ?_
            refine wp_exit ?_
            refine th_exit ?_
            refine th_exit ?_
            refine blk_exit ?_
            refine blk_normal ?_
            refine hK99 _ _ ?_
            try clear hK99 K99
            refine wl_region ?_
            refine st_val (.int .i64 ((jc : Nat) : Int)) (by kernel_rfl) (by kernel_rfl) ?_
            refine st_val (.int .i64 (((jc : Nat) : Int) + 1)) (by kernel_rfl) (i64_of (by omega) (by kernel_rfl)) ?_
            refine st_val (.int .i64 (((jc : Nat) : Int) + 1)) (by kernel_rfl) (by kernel_rfl) ?_
            refine wl_nil ?_
            refine th_normal ?_
            exact ⟨_, by omega, (jc + 1), (fun zz => Array.getD #[undef, undef, undef, undef, (u111 4), undef, undef, undef, undef, undef, undef, undef, undef, undef, undef, undef, .int .i64 ((i : Nat) : Int), undef, undef, undef, undef, undef, undef, undef, undef, undef, undef, undef, undef, undef, undef, undef, undef, undef, undef, undef, undef, undef, undef, undef, undef, undef, undef, undef, undef, undef, undef, undef, undef, undef, undef, undef, undef, undef, undef, undef, undef, undef, undef, undef, undef, undef, undef, undef, undef, undef, undef, undef, undef, undef, undef, undef, undef, undef, undef, undef, undef, undef, undef, undef, undef, undef, undef, undef, undef, undef, undef, undef, undef, undef, undef, undef, undef, .int .i64 ((jc : Nat) : Int), .slice A49 ((deR (enL ls)).length) cq50, .int .i64 (((deR (enL ls)).length : Nat) : Int), .bool true, .int .i64 ((jc : Nat) : Int), .int .i64 (((jc : Nat) : Int) + 1), .slice A86 ((deR (sl (enL ls) 0 (lf - 0))).length) cq87, .int .i64 ((jc : Nat) : Int), .pointer (some ⟨b102, o103 + jc * 1, none⟩), .slice (As79 jc) (((deR (sl (enL ls) 0 (lf - 0))).getD jc []).length) (cs80 jc), .int .i64 ((((deR (sl (enL ls) 0 (lf - 0))).getD jc []).length : Nat) : Int), .slice A49 ((deR (enL ls)).length) cq50, .int .i64 ((jc : Nat) : Int), .pointer (some ⟨b105, o106 + jc * 1, none⟩), .slice (As42 jc) (((deR (enL ls)).getD jc []).length) (cs43 jc), .int .i64 ((((deR (enL ls)).getD jc []).length : Nat) : Int), .bool false, .int .i64 ((i : Nat) : Int), .slice A49 ((deR (enL ls)).length) cq50, .int .i64 ((jc : Nat) : Int), .pointer (some ⟨b116, o117 + jc * 1, none⟩), .slice (As42 jc) (((deR (enL ls)).getD jc []).length) (cs43 jc), .int .i64 ((((deR (enL ls)).getD jc []).length : Nat) : Int), .bool false, (u111 117), (u111 118), (u111 119), (u111 120), (u111 121), (u111 122), (u111 123), (u111 124), (u111 125), (u111 126), (u111 127), (u111 128), (u111 129), (u111 130), (u111 131), (u111 132), (u111 133), (u111 134), (u111 135), (u111 136), (u111 137), (u111 138), (u111 139), (u111 140), (u111 141), (u111 142)] zz undef), ⟨by omega, M113⟩, rfl, (by kernel_rfl)⟩
        ·
          refine st_val (.bool false) (by kernel_rfl) (bool_of (dec_f c96) (by kernel_rfl)) ?_
          refine wl_nil ?_
          refine hK98 _ _ ?_
          try clear hK98 K98
          refine wp_cond_false (by kernel_rfl) ?_
          refine wp_exit ?_
          refine th_exit ?_
          refine th_exit ?_
          refine blk_exit ?_
          refine hK92 _ _ ?_
          try clear hK92 K92
          refine wp_seq_k (fun K137 hK137 => ?_)
          refine wl_region ?_
          refine st_callB M96 (.bool true) (by kernel_rfl) (args := #[]) (run_value_call 12 #[] _ rfl Try.func12 (by kernel_rfl) (by kernel_rfl) _ (by kernel_rfl)) (awake_walk W95) ?_
          intro W138 M139
          refine st_val (.bool true) (by kernel_rfl) (by kernel_rfl) ?_
          refine wl_nil ?_
          refine hK137 _ _ ?_
          try clear hK137 K137
          refine wp_ret ?_
          exact done1 4 (.bool true) (by kernel_rfl) (by kernel_rfl) (by kernel_rfl) ⟨rfl, M139.toBelow⟩
    ·
      have hpn := ppB_not hpp
      refine st_callB M5 (.bool false) (by kernel_rfl) (args := #[.slice A ls.length c]) (run_value_call 31 #[(Operand.tmp 21)] _ rfl Try.func31 (by kernel_rfl) (by kernel_rfl) _ (by kernel_rfl)) ((by have := refProper_walk W4 (.slice A ls.length c) ls As cs (hP.keep M5.keep (fun _ h => h)) (by omega); rw [hpp] at this; exact this)) ?_
      intro W140 M141
      refine st_val (.bool true) (by kernel_rfl) (by kernel_rfl) ?_
      refine st_val (.bool true) (by kernel_rfl) (by kernel_rfl) ?_
      refine st_val (.bool true) (by kernel_rfl) (by kernel_rfl) ?_
      refine st_skip (by kernel_rfl) ?_
      refine st_skip (by kernel_rfl) ?_
      refine st_val (.bool true) (by kernel_rfl) (by kernel_rfl) ?_
      refine wl_nil ?_
      refine hK3 _ _ ?_
      try clear hK3 K3
      refine wp_frame (a' := ⟨#[.slice A ls.length c, .int .i64 n, undef, undef, .bool false, undef, undef, undef, undef, undef, undef, undef, undef, undef, undef, undef, undef, .slice A ls.length c, .bool true, .bool false, .bool false, .slice A ls.length c, .bool false, .bool true, .bool true, .bool true, undef, undef, .bool true, undef, undef, undef, undef, undef, undef, undef, undef, undef, undef, undef, undef, undef, undef, undef, undef, undef, undef, undef, undef, undef, undef, undef, undef, undef, undef, undef, undef, undef, undef, undef, undef, undef, undef, undef, undef, undef, undef, undef, undef, undef, undef, undef, undef, undef, undef, undef, undef, undef, undef, undef, undef, undef, undef, undef, undef, undef, undef, undef, undef, undef, undef, undef, undef, undef, undef, undef, undef, undef, undef, undef, undef, undef, undef, undef, undef, undef, undef, undef, undef, undef, undef, undef, undef, undef, undef, undef, undef, undef, undef, undef, undef, undef, undef, undef, undef, undef, undef, undef, undef, undef, undef, undef, undef, undef, undef, undef, undef, undef, undef, undef, undef, undef, undef, undef], []⟩) (by kernel_rfl) ?_
      refine wp_cond_true (by kernel_rfl) ?_
      refine wp_seq_k (fun K142 hK142 => ?_)
      refine wl_region ?_
      refine st_callB M141 (.bool true) (by kernel_rfl) (args := #[]) (run_value_call 12 #[] _ rfl Try.func12 (by kernel_rfl) (by kernel_rfl) _ (by kernel_rfl)) (awake_walk W140) ?_
      intro W143 M144
      refine st_val (.bool true) (by kernel_rfl) (by kernel_rfl) ?_
      refine wl_nil ?_
      refine hK142 _ _ ?_
      try clear hK142 K142
      refine wp_ret ?_
      refine th_ret ?_
      exact done1 4 (.bool true) (by kernel_rfl) (by kernel_rfl) (by kernel_rfl) ⟨rfl, M144.toBelow⟩
  ·
    refine st_callB M0 (.bool false) (by kernel_rfl) (args := #[.slice A ls.length c, .int .i64 400]) (run_value_call 20 #[(Operand.tmp 17), (Operand.const (Value.int IntKind.i64 400))] _ rfl Try.func20 (by kernel_rfl) (by kernel_rfl) _ (by kernel_rfl)) ((by have := light_walk w (.slice A ls.length c) ls As cs (hP.keep M0.keep (fun _ h => h)) 400; rw [hlt] at this; exact this)) ?_
    intro W145 M146
    refine st_val (.bool true) (by kernel_rfl) (by kernel_rfl) ?_
    refine st_val (.bool true) (by kernel_rfl) (by kernel_rfl) ?_
    refine st_skip (by kernel_rfl) ?_
    refine st_skip (by kernel_rfl) ?_
    refine st_skip (by kernel_rfl) ?_
    refine st_val (.bool true) (by kernel_rfl) (by kernel_rfl) ?_
    refine st_val (.bool true) (by kernel_rfl) (by kernel_rfl) ?_
    refine st_skip (by kernel_rfl) ?_
    refine st_skip (by kernel_rfl) ?_
    refine st_val (.bool true) (by kernel_rfl) (by kernel_rfl) ?_
    refine wl_nil ?_
    refine hK3 _ _ ?_
    try clear hK3 K3
    refine wp_frame (a' := ⟨#[.slice A ls.length c, .int .i64 n, undef, undef, .bool false, undef, undef, undef, undef, undef, undef, undef, undef, undef, undef, undef, undef, .slice A ls.length c, .bool false, .bool true, .bool true, undef, undef, undef, .bool true, .bool true, undef, undef, .bool true, undef, undef, undef, undef, undef, undef, undef, undef, undef, undef, undef, undef, undef, undef, undef, undef, undef, undef, undef, undef, undef, undef, undef, undef, undef, undef, undef, undef, undef, undef, undef, undef, undef, undef, undef, undef, undef, undef, undef, undef, undef, undef, undef, undef, undef, undef, undef, undef, undef, undef, undef, undef, undef, undef, undef, undef, undef, undef, undef, undef, undef, undef, undef, undef, undef, undef, undef, undef, undef, undef, undef, undef, undef, undef, undef, undef, undef, undef, undef, undef, undef, undef, undef, undef, undef, undef, undef, undef, undef, undef, undef, undef, undef, undef, undef, undef, undef, undef, undef, undef, undef, undef, undef, undef, undef, undef, undef, undef, undef, undef, undef, undef, undef, undef, undef], []⟩) (by kernel_rfl) ?_
    refine wp_cond_true (by kernel_rfl) ?_
    refine wp_seq_k (fun K147 hK147 => ?_)
    refine wl_region ?_
    refine st_callB M146 (.bool true) (by kernel_rfl) (args := #[]) (run_value_call 12 #[] _ rfl Try.func12 (by kernel_rfl) (by kernel_rfl) _ (by kernel_rfl)) (awake_walk W145) ?_
    intro W148 M149
    refine st_val (.bool true) (by kernel_rfl) (by kernel_rfl) ?_
    refine wl_nil ?_
    refine hK147 _ _ ?_
    try clear hK147 K147
    refine wp_ret ?_
    refine th_ret ?_
    exact done1 4 (.bool true) (by kernel_rfl) (by kernel_rfl) (by kernel_rfl) ⟨rfl, M149.toBelow⟩
end Go.Proofs.Ytmimljaniliecaa
