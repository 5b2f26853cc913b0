/- AudioDamage. -/
import Derived.Test.YtmimljaniliecaaDc
import Derived.Test.YtmimljaniliecaaDd0
namespace Go.Proofs.Ytmimljaniliecaa
open Go.RowKit Bt
set_option maxHeartbeats 4000000 in
set_option maxRecDepth 100000 in
theorem AudioDamage_walk (w : World) (v : Value) (ls : List (List Int)) (As : Nat → Option Addr) (cs : Nat → Nat) (hP : RdP w v ls As cs) (hsp : SP ls) (n : Int) (hn : -9223372036854775808 ≤ n ∧ n ≤ 9223372036854775807) (b : Int) (hb8 : 0 ≤ b ∧ b ≤ 255) : Calls Try.prog 9 #[v, .int .i64 n, .int .u8 b] w fun e w' => e = .returned (.bool true) ∧ Below w.heap.size w w' := by
  obtain ⟨A, c, rfl, hc⟩ := hP.rd.shape
  refine calls_of_wp Try.func9 rfl ?_
  refine wp_frame (a' := ⟨#[.slice A ls.length c, .int .i64 n, .int .u8 b, undef, undef, undef, undef, undef, undef, undef, undef, undef, undef, undef, undef, undef, undef, undef, undef, undef, undef, undef, undef, undef, undef, undef, undef, undef, undef, undef, undef, undef, undef, undef, undef, undef, undef, undef, undef, undef, undef, undef, undef, undef, undef, undef, undef, undef, undef, undef, undef, undef, undef, undef, undef, undef, undef, undef, undef, undef, undef, undef, undef, undef, undef, undef, undef, undef, undef, undef, undef, undef, undef, undef, undef, undef, undef, undef, undef, undef, undef, undef, undef, undef, undef, undef, undef, undef, undef, undef, undef, undef, undef, undef, undef, undef, undef, undef, undef, undef, undef, undef, undef, undef, undef, undef, undef, undef, undef, undef, undef, undef, undef, undef, undef, undef, undef, undef, undef, undef, undef, undef, undef, undef, undef, undef, undef, undef, undef, undef, undef, undef, undef, undef, undef, undef, undef, undef, undef, undef, undef, undef, undef, undef, undef, undef, undef, undef, undef, undef, undef, undef, undef, undef, undef, undef, undef, undef, undef, undef, undef, undef, undef, undef, undef, undef, undef, undef, undef, undef], []⟩) (by kernel_rfl) ?_
  have M0 : Mem NoS w w [] := Mem.start _ _
  refine wp_seq_k (fun K1 hK1 => ?_)
  refine wl_region ?_
  refine st_val (.bool false) (by kernel_rfl) (by kernel_rfl) ?_
  refine wl_nil ?_
  refine hK1 _ _ ?_
  try clear hK1 K1
  refine wp_seq_k (fun K2 hK2 => ?_)
  refine wp_seq_k (fun K3 hK3 => ?_)
  refine wl_region ?_
  refine st_val (.slice A ls.length c) (by kernel_rfl) (by kernel_rfl) ?_
  rcases Bool.eq_false_or_eq_true (litB ls 400) with hlt | hlt
  ·
    obtain ⟨hl6, hlm⟩ := of_decide_eq_true hlt
    refine st_callB M0 (.bool true) (by kernel_rfl) (args := #[.slice A ls.length c, .int .i64 400]) (run_value_call 20 #[(Operand.tmp 21), (Operand.const (Value.int IntKind.i64 400))] _ rfl Try.func20 (by kernel_rfl) (by kernel_rfl) _ (by kernel_rfl)) ((by have := light_walk w (.slice A ls.length c) ls As cs (hP.keep M0.keep (fun _ h => h)) 400; rw [hlt] at this; exact this)) ?_
    intro W4 M5
    refine st_val (.bool false) (by kernel_rfl) (by kernel_rfl) ?_
    refine st_val (.bool false) (by kernel_rfl) (by kernel_rfl) ?_
    refine st_val (.slice A ls.length c) (by kernel_rfl) (by kernel_rfl) ?_
    rcases Bool.eq_false_or_eq_true (ppB ls) with hpp | hpp
    ·
      obtain ⟨hp1, hp2, hp3⟩ := ppB_of hpp
      refine st_callB M5 (.bool true) (by kernel_rfl) (args := #[.slice A ls.length c]) (run_value_call 31 #[(Operand.tmp 25)] _ rfl Try.func31 (by kernel_rfl) (by kernel_rfl) _ (by kernel_rfl)) ((by have := refProper_walk W4 (.slice A ls.length c) ls As cs (hP.keep M5.keep (fun _ h => h)) (by omega); rw [hpp] at this; exact this)) ?_
      intro W6 M7
      refine st_val (.bool false) (by kernel_rfl) (by kernel_rfl) ?_
      refine st_val (.bool false) (by kernel_rfl) (by kernel_rfl) ?_
      refine st_val (.bool false) (by kernel_rfl) (by kernel_rfl) ?_
      refine st_val (.slice A ls.length c) (by kernel_rfl) (by kernel_rfl) ?_
      obtain ⟨b8, o9, eA10⟩ := RdK.addr (hP.rd.keep M7.keep (fun _ _ h => h)) (j := 0 * 1) (by rw [pvs_length]; omega)
      refine st_val (.pointer (some ⟨b8, o9 + 0 * 1, none⟩)) (by kernel_rfl) (run_indexSliceA 28 (.tmp 30) _ rfl A ⟨b8, o9, none⟩ eA10 ls.length c .i64 0 (by kernel_rfl) (by kernel_rfl) Try.underlying28 1 (by kernel_rfl) (by omega) ⟨b8, o9 + 0 * 1, none⟩ (addr_atK _ _ _ _)) ?_
      refine st_val (.slice (As 0) ((ls.getD 0 []).length) (cs 0)) (by kernel_rfl) (run_load_cell 39 (.tmp 31) rfl ⟨b8, o9 + 0 * 1, none⟩ (by kernel_rfl) _ ((hP.rd.keep M7.keep (fun _ _ h => h)).cellF eA10 (f := 0) (pvs_get ls As cs 0 (by omega))) (by kernel_rfl)) ?_
      refine st_val (.int .i64 (((ls.getD 0 []).length : Nat) : Int)) (by kernel_rfl) (by kernel_rfl) ?_
      rcases Decidable.em (((((ls.getD 0 []).length : Nat) : Int) : Int) = 0) with c34 | c34
      ·
        refine st_val (.bool true) (by kernel_rfl) (bool_of (dec_t c34) (by kernel_rfl)) ?_
        refine st_val (.bool true) (by kernel_rfl) (by kernel_rfl) ?_
        refine st_val (.bool true) (by kernel_rfl) (by kernel_rfl) ?_
        refine st_skip (by kernel_rfl) ?_
        refine st_skip (by kernel_rfl) ?_
        refine st_val (.bool true) (by kernel_rfl) (by kernel_rfl) ?_
        refine st_val (.bool true) (by kernel_rfl) (by kernel_rfl) ?_
        refine st_skip (by kernel_rfl) ?_
        refine st_skip (by kernel_rfl) ?_
        refine st_val (.bool true) (by kernel_rfl) (by kernel_rfl) ?_
        refine wl_nil ?_
        refine hK3 _ _ ?_
        try clear hK3 K3
        refine wp_frame (a' := ⟨#[.slice A ls.length c, .int .i64 n, .int .u8 b, undef, undef, undef, .bool false, undef, undef, undef, undef, undef, undef, undef, undef, undef, undef, undef, undef, undef, undef, .slice A ls.length c, .bool true, .bool false, .bool false, .slice A ls.length c, .bool true, .bool false, .bool false, .bool false, .slice A ls.length c, .pointer (some ⟨b8, o9 + 0 * 1, none⟩), .slice (As 0) ((ls.getD 0 []).length) (cs 0), .int .i64 (((ls.getD 0 []).length : Nat) : Int), .bool true, .bool true, .bool true, undef, undef, .bool true, .bool true, undef, undef, .bool true, undef, undef, undef, undef, undef, undef, undef, undef, undef, undef, undef, undef, undef, undef, undef, undef, undef, undef, undef, undef, undef, undef, undef, undef, undef, undef, undef, undef, undef, undef, undef, undef, undef, undef, undef, undef, undef, undef, undef, undef, undef, undef, undef, undef, undef, undef, undef, undef, undef, undef, undef, undef, undef, undef, undef, undef, undef, undef, undef, undef, undef, undef, undef, undef, undef, undef, undef, undef, undef, undef, undef, undef, undef, undef, undef, undef, undef, undef, undef, undef, undef, undef, undef, undef, undef, undef, undef, undef, undef, undef, undef, undef, undef, undef, undef, undef, undef, undef, undef, undef, undef, undef, undef, undef, undef, undef, undef, undef, undef, undef, undef, undef, undef, undef, undef, undef, undef, undef, undef, undef, undef, undef, undef, undef, undef, undef], []⟩) (by kernel_rfl) ?_
        refine wp_cond_true (by kernel_rfl) ?_
        refine wp_seq_k (fun K11 hK11 => ?_)
        refine wl_region ?_
        refine st_callB M7 (.bool true) (by kernel_rfl) (args := #[]) (run_value_call 12 #[] _ rfl Try.func12 (by kernel_rfl) (by kernel_rfl) _ (by kernel_rfl)) (awake_walk W6) ?_
        intro W12 M13
        refine st_val (.bool true) (by kernel_rfl) (by kernel_rfl) ?_
        refine wl_nil ?_
        refine hK11 _ _ ?_
        try clear hK11 K11
        refine wp_ret ?_
        refine th_ret ?_
        exact done1 6 (.bool true) (by kernel_rfl) (by kernel_rfl) (by kernel_rfl) ⟨rfl, M13.toBelow⟩
      ·
        refine st_val (.bool false) (by kernel_rfl) (bool_of (dec_f c34) (by kernel_rfl)) ?_
        refine st_val (.bool false) (by kernel_rfl) (by kernel_rfl) ?_
        refine st_val (.bool false) (by kernel_rfl) (by kernel_rfl) ?_
        refine st_val (.int .i64 n) (by kernel_rfl) (by kernel_rfl) ?_
        rcases Decidable.em ((n : Int) < 0) with c38 | c38
        ·
          refine st_val (.bool true) (by kernel_rfl) (bool_of (dec_t c38) (by kernel_rfl)) ?_
          refine st_val (.bool true) (by kernel_rfl) (by kernel_rfl) ?_
          refine st_val (.bool true) (by kernel_rfl) (by kernel_rfl) ?_
          refine st_skip (by kernel_rfl) ?_
          refine st_skip (by kernel_rfl) ?_
          refine st_val (.bool true) (by kernel_rfl) (by kernel_rfl) ?_
          refine wl_nil ?_
          refine hK3 _ _ ?_
          try clear hK3 K3
          refine wp_frame (a' := ⟨#[.slice A ls.length c, .int .i64 n, .int .u8 b, undef, undef, undef, .bool false, undef, undef, undef, undef, undef, undef, undef, undef, undef, undef, undef, undef, undef, undef, .slice A ls.length c, .bool true, .bool false, .bool false, .slice A ls.length c, .bool true, .bool false, .bool false, .bool false, .slice A ls.length c, .pointer (some ⟨b8, o9 + 0 * 1, none⟩), .slice (As 0) ((ls.getD 0 []).length) (cs 0), .int .i64 (((ls.getD 0 []).length : Nat) : Int), .bool false, .bool false, .bool false, .int .i64 n, .bool true, .bool true, .bool true, undef, undef, .bool true, undef, undef, undef, undef, undef, undef, undef, undef, undef, undef, undef, undef, undef, undef, undef, undef, undef, undef, undef, undef, undef, undef, undef, undef, undef, undef, undef, undef, undef, undef, undef, undef, undef, undef, undef, undef, undef, undef, undef, undef, undef, undef, undef, undef, undef, undef, undef, undef, undef, undef, undef, undef, undef, undef, undef, undef, undef, undef, undef, undef, undef, undef, undef, undef, undef, undef, undef, undef, undef, undef, undef, undef, undef, undef, undef, undef, undef, undef, undef, undef, undef, undef, undef, undef, undef, undef, undef, undef, undef, undef, undef, undef, undef, undef, undef, undef, undef, undef, undef, undef, undef, undef, undef, undef, undef, undef, undef, undef, undef, undef, undef, undef, undef, undef, undef, undef, undef, undef, undef, undef, undef, undef, undef, undef, undef, undef], []⟩) (by kernel_rfl) ?_
          refine wp_cond_true (by kernel_rfl) ?_
          refine wp_seq_k (fun K14 hK14 => ?_)
          refine wl_region ?_
          refine st_callB M7 (.bool true) (by kernel_rfl) (args := #[]) (run_value_call 12 #[] _ rfl Try.func12 (by kernel_rfl) (by kernel_rfl) _ (by kernel_rfl)) (awake_walk W6) ?_
          intro W15 M16
          refine st_val (.bool true) (by kernel_rfl) (by kernel_rfl) ?_
          refine wl_nil ?_
          refine hK14 _ _ ?_
          try clear hK14 K14
          refine wp_ret ?_
          refine th_ret ?_
          exact done1 6 (.bool true) (by kernel_rfl) (by kernel_rfl) (by kernel_rfl) ⟨rfl, M16.toBelow⟩
        ·
          refine st_val (.bool false) (by kernel_rfl) (bool_of (dec_f c38) (by kernel_rfl)) ?_
          refine st_val (.bool false) (by kernel_rfl) (by kernel_rfl) ?_
          refine st_val (.bool false) (by kernel_rfl) (by kernel_rfl) ?_
          refine st_val (.int .u8 b) (by kernel_rfl) (by kernel_rfl) ?_
          rcases Decidable.em ((b : Int) = 0) with c42 | c42
          ·
            refine st_val (.bool true) (by kernel_rfl) (bool_of (dec_t c42) (by kernel_rfl)) ?_
            refine st_val (.bool true) (by kernel_rfl) (by kernel_rfl) ?_
            refine wl_nil ?_
            refine hK3 _ _ ?_
            try clear hK3 K3
            refine wp_frame (a' := ⟨#[.slice A ls.length c, .int .i64 n, .int .u8 b, undef, undef, undef, .bool false, undef, undef, undef, undef, undef, undef, undef, undef, undef, undef, undef, undef, undef, undef, .slice A ls.length c, .bool true, .bool false, .bool false, .slice A ls.length c, .bool true, .bool false, .bool false, .bool false, .slice A ls.length c, .pointer (some ⟨b8, o9 + 0 * 1, none⟩), .slice (As 0) ((ls.getD 0 []).length) (cs 0), .int .i64 (((ls.getD 0 []).length : Nat) : Int), .bool false, .bool false, .bool false, .int .i64 n, .bool false, .bool false, .bool false, .int .u8 b, .bool true, .bool true, undef, undef, undef, undef, undef, undef, undef, undef, undef, undef, undef, undef, undef, undef, undef, undef, undef, undef, undef, undef, undef, undef, undef, undef, undef, undef, undef, undef, undef, undef, undef, undef, undef, undef, undef, undef, undef, undef, undef, undef, undef, undef, undef, undef, undef, undef, undef, undef, undef, undef, undef, undef, undef, undef, undef, undef, undef, undef, undef, undef, undef, undef, undef, undef, undef, undef, undef, undef, undef, undef, undef, undef, undef, undef, undef, undef, undef, undef, undef, undef, undef, undef, undef, undef, undef, undef, undef, undef, undef, undef, undef, undef, undef, undef, undef, undef, undef, undef, undef, undef, undef, undef, undef, undef, undef, undef, undef, undef, undef, undef, undef, undef, undef, undef, undef, undef, undef, undef, undef, undef, undef, undef, undef, undef, undef, undef], []⟩) (by kernel_rfl) ?_
            refine wp_cond_true (by kernel_rfl) ?_
            refine wp_seq_k (fun K17 hK17 => ?_)
            refine wl_region ?_
            refine st_callB M7 (.bool true) (by kernel_rfl) (args := #[]) (run_value_call 12 #[] _ rfl Try.func12 (by kernel_rfl) (by kernel_rfl) _ (by kernel_rfl)) (awake_walk W6) ?_
            intro W18 M19
            refine st_val (.bool true) (by kernel_rfl) (by kernel_rfl) ?_
            refine wl_nil ?_
            refine hK17 _ _ ?_
            try clear hK17 K17
            refine wp_ret ?_
            refine th_ret ?_
            exact done1 6 (.bool true) (by kernel_rfl) (by kernel_rfl) (by kernel_rfl) ⟨rfl, M19.toBelow⟩
          ·
            refine st_val (.bool false) (by kernel_rfl) (bool_of (dec_f c42) (by kernel_rfl)) ?_
            refine st_val (.bool false) (by kernel_rfl) (by kernel_rfl) ?_
            refine wl_nil ?_
            refine hK3 _ _ ?_
            try clear hK3 K3
            refine wp_frame (a' := ⟨#[.slice A ls.length c, .int .i64 n, .int .u8 b, undef, undef, undef, .bool false, undef, undef, undef, undef, undef, undef, undef, undef, undef, undef, undef, undef, undef, undef, .slice A ls.length c, .bool true, .bool false, .bool false, .slice A ls.length c, .bool true, .bool false, .bool false, .bool false, .slice A ls.length c, .pointer (some ⟨b8, o9 + 0 * 1, none⟩), .slice (As 0) ((ls.getD 0 []).length) (cs 0), .int .i64 (((ls.getD 0 []).length : Nat) : Int), .bool false, .bool false, .bool false, .int .i64 n, .bool false, .bool false, .bool false, .int .u8 b, .bool false, .bool false, undef, undef, undef, undef, undef, undef, undef, undef, undef, undef, undef, undef, undef, undef, undef, undef, undef, undef, undef, undef, undef, undef, undef, undef, undef, undef, undef, undef, undef, undef, undef, undef, undef, undef, undef, undef, undef, undef, undef, undef, undef, undef, undef, undef, undef, undef, undef, undef, undef, undef, undef, undef, undef, undef, undef, undef, undef, undef, undef, undef, undef, undef, undef, undef, undef, undef, undef, undef, undef, undef, undef, undef, undef, undef, undef, undef, undef, undef, undef, undef, undef, undef, undef, undef, undef, undef, undef, undef, undef, undef, undef, undef, undef, undef, undef, undef, undef, undef, undef, undef, undef, undef, undef, undef, undef, undef, undef, undef, undef, undef, undef, undef, undef, undef, undef, undef, undef, undef, undef, undef, undef, undef, undef, undef, undef, undef], []⟩) (by kernel_rfl) ?_
            refine wp_cond_false (by kernel_rfl) ?_
            refine wp_skip ?_
            refine hK2 _ _ ?_
            try clear hK2 K2
            refine wp_seq_k (fun K20 hK20 => ?_)
            have hPP : PP ls := ⟨hp1, hp2, hp3⟩
            have hel := enL_le ls
            have hlm0 := hlm 0 (by omega)
            obtain ⟨nn, rfl⟩ : ∃ z : Nat, n = (z : Int) := ⟨n.toNat, by omega⟩
            obtain ⟨bb, rfl⟩ : ∃ z : Nat, b = (z : Int) := ⟨b.toNat, by omega⟩
            refine wl_region ?_
            refine st_val (.slice A ls.length c) (by kernel_rfl) (by kernel_rfl) ?_
            refine st_callR (A := []) (B := []) M7 (by kernel_rfl) (run_value_call 26 #[(Operand.tmp 46)] _ rfl Try.func26 (by kernel_rfl) (by kernel_rfl) _ (by kernel_rfl)) (enc_walk W6 (.slice A ls.length c) ls As cs (hP.keep M7.keep (fun _ h => h)) hsp (by omega)) ?_
            intro v21 T22 W23 O24 M25
            have M25 : Mem NoS w W23 ((T22 ++ [])) := M25
            obtain ⟨v26, m27, rfl, hm28, O29⟩ := O24
            obtain ⟨A30, cq31, rfl, hc32⟩ := O29.shape
            refine st_val (.tuple #[.slice A30 m27 cq31, .int .i64 (enE ls)]) (by kernel_rfl) (by kernel_rfl) ?_
            refine st_val (.slice A30 m27 cq31) (by kernel_rfl) (by kernel_rfl) ?_
            refine st_val (.int .i64 (enE ls)) (by kernel_rfl) (by kernel_rfl) ?_
            refine st_val (.slice A30 m27 cq31) (by kernel_rfl) (by kernel_rfl) ?_
            refine st_val (.int .i64 (enE ls)) (by kernel_rfl) (by kernel_rfl) ?_
            refine wl_nil ?_
            refine hK20 _ _ ?_
            try clear hK20 K20
            refine wp_seq_k (fun K33 hK33 => ?_)
            obtain ⟨hbE, hbC, hbN, hbb, hbM⟩ := back_facts hPP hsp
            obtain ⟨hrl, hrr⟩ := back_len hPP hsp
            have hlong := (en_long hPP).2 (by omega)
            refine wl_region ?_
            refine st_val (.slice A30 m27 cq31) (by kernel_rfl) (by kernel_rfl) ?_
            refine st_callR (A := []) (B := (T22 ++ [])) M25 (by kernel_rfl) (run_value_call 28 #[(Operand.tmp 51)] _ rfl Try.func28 (by kernel_rfl) (by kernel_rfl) _ (by kernel_rfl)) (dec_walk W23 (.slice A30 m27 cq31) (enL ls) ((by rw [← hm28]; exact O29.rd (fun p hp => M25.at_ p (List.mem_append_left _ hp)))) (enL_lt _) (by omega)) ?_
            intro v34 T35 W36 O37 M38
            have M38 : Mem NoS w W36 ((T35 ++ (T22 ++ []))) := M38
            obtain ⟨v39, v40, T41, T42, m43, rfl, O44, hm45, O46, eT47⟩ := O37
            subst eT47
            obtain ⟨A48, cq49, rfl, hc50⟩ := O46.shape
            obtain ⟨As51, cs52, To53, Ts54, O55, OI56, eT57⟩ := O44
            obtain ⟨A58, cq59, rfl, hc60⟩ := O55.shape
            have M61 : Mem NoS w W36 ((T41 ++ (T42 ++ (T22 ++ [])))) := Mem.splitL (A := []) M38
            refine st_val (.tuple #[.slice A58 ((deR (enL ls)).length) cq59, .slice A48 m43 cq49, .int .i64 (deE (enL ls))]) (by kernel_rfl) (by kernel_rfl) ?_
            refine st_val (.slice A58 ((deR (enL ls)).length) cq59) (by kernel_rfl) (by kernel_rfl) ?_
            refine st_val (.slice A48 m43 cq49) (by kernel_rfl) (by kernel_rfl) ?_
            refine st_val (.int .i64 (deE (enL ls))) (by kernel_rfl) (by kernel_rfl) ?_
            refine st_val (.slice A58 ((deR (enL ls)).length) cq59) (by kernel_rfl) (by kernel_rfl) ?_
            refine st_val (.slice A48 m43 cq49) (by kernel_rfl) (by kernel_rfl) ?_
            refine st_val (.int .i64 (deE (enL ls))) (by kernel_rfl) (by kernel_rfl) ?_
            refine wl_nil ?_
            refine hK33 _ _ ?_
            try clear hK33 K33
            refine wp_frame (a' := ⟨#[.slice A ls.length c, .int .i64 ((nn : Nat) : Int), .int .u8 ((bb : Nat) : Int), undef, undef, undef, .bool false, .slice A30 m27 cq31, .int .i64 (enE ls), .slice A58 ((deR (enL ls)).length) cq59, .slice A48 m43 cq49, .int .i64 (deE (enL ls)), undef, undef, undef, undef, undef, undef, undef, undef, undef, .slice A ls.length c, .bool true, .bool false, .bool false, .slice A ls.length c, .bool true, .bool false, .bool false, .bool false, .slice A ls.length c, .pointer (some ⟨b8, o9 + 0 * 1, none⟩), .slice (As 0) ((ls.getD 0 []).length) (cs 0), .int .i64 (((ls.getD 0 []).length : Nat) : Int), .bool false, .bool false, .bool false, .int .i64 ((nn : Nat) : Int), .bool false, .bool false, .bool false, .int .u8 ((bb : Nat) : Int), .bool false, .bool false, undef, .tuple #[.slice A30 m27 cq31, .int .i64 (enE ls)], .slice A ls.length c, .tuple #[.slice A30 m27 cq31, .int .i64 (enE ls)], .slice A30 m27 cq31, .int .i64 (enE ls), .tuple #[.slice A58 ((deR (enL ls)).length) cq59, .slice A48 m43 cq49, .int .i64 (deE (enL ls))], .slice A30 m27 cq31, .tuple #[.slice A58 ((deR (enL ls)).length) cq59, .slice A48 m43 cq49, .int .i64 (deE (enL ls))], .slice A58 ((deR (enL ls)).length) cq59, .slice A48 m43 cq49, .int .i64 (deE (enL ls)), undef, undef, undef, undef, undef, undef, undef, undef, undef, undef, undef, undef, undef, undef, undef, undef, undef, undef, undef, undef, undef, undef, undef, undef, undef, undef, undef, undef, undef, undef, undef, undef, undef, undef, undef, undef, undef, undef, undef, undef, undef, undef, undef, undef, undef, undef, undef, undef, undef, undef, undef, undef, undef, undef, undef, undef, undef, undef, undef, undef, undef, undef, undef, undef, undef, undef, undef, undef, undef, undef, undef, undef, undef, undef, undef, undef, undef, undef, undef, undef, undef, undef, undef, undef, undef, undef, undef, undef, undef, undef, undef, undef, undef, undef, undef, undef, undef, undef, undef, undef, undef, undef, undef, undef, undef, undef, undef, undef, undef, undef, undef, undef, undef, undef], []⟩) (by kernel_rfl) ?_
            refine wp_seq_k (fun K62 hK62 => ?_)
            refine wl_region ?_
            refine st_val (.slice A ls.length c) (by kernel_rfl) (by kernel_rfl) ?_
            refine st_val (.int .i64 ((ls.length : Nat) : Int)) (by kernel_rfl) (by kernel_rfl) ?_
            refine st_callB M61 (.int .i64 ((292 * ls.length / 8 + 5 : Nat) : Int)) (by kernel_rfl) (args := #[.int .i64 ((ls.length : Nat) : Int)]) (run_value_call 15 #[(Operand.tmp 57)] _ rfl Try.func15 (by kernel_rfl) (by kernel_rfl) _ (by kernel_rfl)) ((by have := bsz_walk W36 ((ls.length : Nat) : Int); rw [bsz_n hPP.1] at this; exact this)) ?_
            intro W63 M64
            refine st_val (.int .i64 ((292 * ls.length / 8 + 5 : Nat) : Int)) (by kernel_rfl) (by kernel_rfl) ?_
            refine wl_nil ?_
            refine hK62 _ _ ?_
            try clear hK62 K62
            refine wp_seq_k (fun K65 hK65 => ?_)
            refine wp_seq_k (fun K66 hK66 => ?_)
            refine wl_region ?_
            refine st_val (.int .i64 (enE ls)) (by kernel_rfl) (by kernel_rfl) ?_
            refine st_val (.bool false) (by kernel_rfl) (bool_of (neq_f (show (enE ls : Int) = 0 from (en_t hPP).2)) (by kernel_rfl)) ?_
            refine st_val (.bool false) (by kernel_rfl) (by kernel_rfl) ?_
            refine st_val (.int .i64 (deE (enL ls))) (by kernel_rfl) (by kernel_rfl) ?_
            refine st_val (.bool false) (by kernel_rfl) (bool_of (neq_f (show (deE (enL ls) : Int) = 0 from hbE)) (by kernel_rfl)) ?_
            refine st_val (.bool false) (by kernel_rfl) (by kernel_rfl) ?_
            refine st_val (.bool false) (by kernel_rfl) (by kernel_rfl) ?_
            refine st_val (.int .i64 ((292 * ls.length / 8 + 5 : Nat) : Int)) (by kernel_rfl) (by kernel_rfl) ?_
            refine st_val (.bool false) (by kernel_rfl) (bool_of (dec_f (show ¬ ((((292 * ls.length / 8 + 5 : Nat) : Int) : Int) < 1) by omega)) (by kernel_rfl)) ?_
            refine st_val (.bool false) (by kernel_rfl) (by kernel_rfl) ?_
            refine st_val (.bool false) (by kernel_rfl) (by kernel_rfl) ?_
            refine st_val (.slice A30 m27 cq31) (by kernel_rfl) (by kernel_rfl) ?_
            refine st_val (.int .i64 ((m27 : Nat) : Int)) (by kernel_rfl) (by kernel_rfl) ?_
            refine st_val (.bool false) (by kernel_rfl) (bool_of (dec_f (show ¬ ((((m27 : Nat) : Int) : Int) ≤ 10) by omega)) (by kernel_rfl)) ?_
            refine st_val (.bool false) (by kernel_rfl) (by kernel_rfl) ?_
            refine st_val (.bool false) (by kernel_rfl) (by kernel_rfl) ?_
            refine st_val (.slice A58 ((deR (enL ls)).length) cq59) (by kernel_rfl) (by kernel_rfl) ?_
            refine st_val (.int .i64 (((deR (enL ls)).length : Nat) : Int)) (by kernel_rfl) (by kernel_rfl) ?_
            refine st_val (.slice A ls.length c) (by kernel_rfl) (by kernel_rfl) ?_
            refine st_val (.int .i64 ((ls.length : Nat) : Int)) (by kernel_rfl) (by kernel_rfl) ?_
            refine st_val (.bool false) (by kernel_rfl) (bool_of (neq_f (show ((((deR (enL ls)).length : Nat) : Int) : Int) = ((ls.length : Nat) : Int) by omega)) (by kernel_rfl)) ?_
            refine st_val (.bool false) (by kernel_rfl) (by kernel_rfl) ?_
            refine wl_nil ?_
            refine hK66 _ _ ?_
            try clear hK66 K66
            refine wp_frame (a' := ⟨#[.slice A ls.length c, .int .i64 ((nn : Nat) : Int), .int .u8 ((bb : Nat) : Int), undef, undef, undef, .bool false, .slice A30 m27 cq31, .int .i64 (enE ls), .slice A58 ((deR (enL ls)).length) cq59, .slice A48 m43 cq49, .int .i64 (deE (enL ls)), .int .i64 ((292 * ls.length / 8 + 5 : Nat) : Int), undef, undef, undef, undef, undef, undef, undef, undef, .slice A ls.length c, .bool true, .bool false, .bool false, .slice A ls.length c, .bool true, .bool false, .bool false, .bool false, .slice A ls.length c, .pointer (some ⟨b8, o9 + 0 * 1, none⟩), .slice (As 0) ((ls.getD 0 []).length) (cs 0), .int .i64 (((ls.getD 0 []).length : Nat) : Int), .bool false, .bool false, .bool false, .int .i64 ((nn : Nat) : Int), .bool false, .bool false, .bool false, .int .u8 ((bb : Nat) : Int), .bool false, .bool false, undef, .tuple #[.slice A30 m27 cq31, .int .i64 (enE ls)], .slice A ls.length c, .tuple #[.slice A30 m27 cq31, .int .i64 (enE ls)], .slice A30 m27 cq31, .int .i64 (enE ls), .tuple #[.slice A58 ((deR (enL ls)).length) cq59, .slice A48 m43 cq49, .int .i64 (deE (enL ls))], .slice A30 m27 cq31, .tuple #[.slice A58 ((deR (enL ls)).length) cq59, .slice A48 m43 cq49, .int .i64 (deE (enL ls))], .slice A58 ((deR (enL ls)).length) cq59, .slice A48 m43 cq49, .int .i64 (deE (enL ls)), .slice A ls.length c, .int .i64 ((ls.length : Nat) : Int), .int .i64 ((292 * ls.length / 8 + 5 : Nat) : Int), .int .i64 (enE ls), .bool false, .bool false, .int .i64 (deE (enL ls)), .bool false, .bool false, .bool false, .int .i64 ((292 * ls.length / 8 + 5 : Nat) : Int), .bool false, .bool false, .bool false, .slice A30 m27 cq31, .int .i64 ((m27 : Nat) : Int), .bool false, .bool false, .bool false, .slice A58 ((deR (enL ls)).length) cq59, .int .i64 (((deR (enL ls)).length : Nat) : Int), .slice A ls.length c, .int .i64 ((ls.length : Nat) : Int), .bool false, .bool false, undef, undef, undef, undef, undef, undef, undef, undef, undef, undef, undef, undef, undef, undef, undef, undef, undef, undef, undef, undef, undef, undef, undef, undef, undef, undef, undef, undef, undef, undef, undef, undef, undef, undef, undef, undef, undef, undef, undef, undef, undef, undef, undef, undef, undef, undef, undef, undef, undef, undef, undef, undef, undef, undef, undef, undef, undef, undef, undef, undef, undef, undef, undef, undef, undef, undef, undef, undef, undef, undef, undef, undef, undef, undef, undef, undef, undef, undef, undef, undef, undef, undef, undef, undef, undef, undef, undef, undef, undef], []⟩) (by kernel_rfl) ?_
            refine wp_cond_false (by kernel_rfl) ?_
            refine wp_skip ?_
            refine hK65 _ _ ?_
            try clear hK65 K65
            refine wp_seq_k (fun K67 hK67 => ?_)
            refine wl_region ?_
            refine st_val (.int .i64 ((nn : Nat) : Int)) (by kernel_rfl) (by kernel_rfl) ?_
            refine st_val (.slice A30 m27 cq31) (by kernel_rfl) (by kernel_rfl) ?_
            refine st_val (.int .i64 ((m27 : Nat) : Int)) (by kernel_rfl) (by kernel_rfl) ?_
            refine st_val (.int .i64 ((m27 - 10 : Nat) : Int)) (by kernel_rfl) (int_of (show ((m27 : Nat) : Int) - 10 = ((m27 - 10 : Nat) : Int) by omega) (i64_of (by omega) (by kernel_rfl))) ?_
            refine st_val (.int .i64 ((nn % (m27 - 10) : Nat) : Int)) (by kernel_rfl) (run_value_bin .rem 3 3 (.tmp 81) (.tmp 84) rfl (.int .i64 ((nn : Nat) : Int)) (.int .i64 ((m27 - 10 : Nat) : Int)) _ (by kernel_rfl) (by kernel_rfl) (by kernel_rfl) (bin_remN (by omega))) ?_
            refine st_val (.int .i64 ((nn % (m27 - 10) : Nat) : Int)) (by kernel_rfl) (by kernel_rfl) ?_
            refine wl_nil ?_
            refine hK67 _ _ ?_
            try clear hK67 K67
            refine wp_seq_k (fun K68 hK68 => ?_)
            obtain ⟨pp, hpp9⟩ : ∃ pp, pp = nn % (m27 - 10) := ⟨_, rfl⟩
            have hppl : pp < m27 - 10 := (by rw [hpp9]; exact Nat.mod_lt _ (by omega))
            refine wp_frame (a' := ⟨#[.slice A ls.length c, .int .i64 ((nn : Nat) : Int), .int .u8 ((bb : Nat) : Int), undef, undef, undef, .bool false, .slice A30 m27 cq31, .int .i64 (enE ls), .slice A58 ((deR (enL ls)).length) cq59, .slice A48 m43 cq49, .int .i64 (deE (enL ls)), .int .i64 ((292 * ls.length / 8 + 5 : Nat) : Int), .int .i64 ((pp : Nat) : Int), undef, undef, undef, undef, undef, undef, undef, .slice A ls.length c, .bool true, .bool false, .bool false, .slice A ls.length c, .bool true, .bool false, .bool false, .bool false, .slice A ls.length c, .pointer (some ⟨b8, o9 + 0 * 1, none⟩), .slice (As 0) ((ls.getD 0 []).length) (cs 0), .int .i64 (((ls.getD 0 []).length : Nat) : Int), .bool false, .bool false, .bool false, .int .i64 ((nn : Nat) : Int), .bool false, .bool false, .bool false, .int .u8 ((bb : Nat) : Int), .bool false, .bool false, undef, .tuple #[.slice A30 m27 cq31, .int .i64 (enE ls)], .slice A ls.length c, .tuple #[.slice A30 m27 cq31, .int .i64 (enE ls)], .slice A30 m27 cq31, .int .i64 (enE ls), .tuple #[.slice A58 ((deR (enL ls)).length) cq59, .slice A48 m43 cq49, .int .i64 (deE (enL ls))], .slice A30 m27 cq31, .tuple #[.slice A58 ((deR (enL ls)).length) cq59, .slice A48 m43 cq49, .int .i64 (deE (enL ls))], .slice A58 ((deR (enL ls)).length) cq59, .slice A48 m43 cq49, .int .i64 (deE (enL ls)), .slice A ls.length c, .int .i64 ((ls.length : Nat) : Int), .int .i64 ((292 * ls.length / 8 + 5 : Nat) : Int), .int .i64 (enE ls), .bool false, .bool false, .int .i64 (deE (enL ls)), .bool false, .bool false, .bool false, .int .i64 ((292 * ls.length / 8 + 5 : Nat) : Int), .bool false, .bool false, .bool false, .slice A30 m27 cq31, .int .i64 ((m27 : Nat) : Int), .bool false, .bool false, .bool false, .slice A58 ((deR (enL ls)).length) cq59, .int .i64 (((deR (enL ls)).length : Nat) : Int), .slice A ls.length c, .int .i64 ((ls.length : Nat) : Int), .bool false, .bool false, .int .i64 ((nn : Nat) : Int), .slice A30 m27 cq31, .int .i64 ((m27 : Nat) : Int), .int .i64 ((m27 - 10 : Nat) : Int), .int .i64 ((nn % (m27 - 10) : Nat) : Int), undef, undef, undef, undef, undef, undef, undef, undef, undef, undef, undef, undef, undef, undef, undef, undef, undef, undef, undef, undef, undef, undef, undef, undef, undef, undef, undef, undef, undef, undef, undef, undef, undef, undef, undef, undef, undef, undef, undef, undef, undef, undef, undef, undef, undef, undef, undef, undef, undef, undef, undef, undef, undef, undef, undef, undef, undef, undef, undef, undef, undef, undef, undef, undef, undef, undef, undef, undef, undef, undef, undef, undef, undef, undef, undef, undef, undef, undef, undef, undef, undef, undef, undef, undef], []⟩) (by subst hpp9; kernel_rfl) ?_
            have hpx : 10 + pp < (enL ls).length := (by omega)
            obtain ⟨hx256, hsame, hdiff⟩ := set_facts (bb := bb) hpx (by omega) (by omega)
            obtain ⟨hdE, hdC, hdN, hdM, hdf⟩ := damage_facts (l := (enL ls).set (10 + pp) ((enL ls).getD (10 + pp) 0 ^^^ bb)) hPP hsp List.length_set (set_lt (enL_lt _) _ hx256) hpx hsame hdiff
            obtain ⟨hyl, hyr⟩ := deR_len hdE
            have hgb := getD_b (enL_lt ls) (10 + pp)
            have hcl : ((enL ls).set (10 + pp) ((enL ls).getD (10 + pp) 0 ^^^ bb)).length = (enL ls).length := List.length_set
            refine wl_region ?_
            refine st_new M64 (.cells #[] 5 (0, 0)) (fun g => .slice (some ⟨g, 0, none⟩) 0 0) (by kernel_rfl) (by kernel_rfl) ?_
            intro g69 W70 M71
            have M71 : Mem NoS w W70 (([(g69, .cells #[] 5 (0, 0))] ++ (T41 ++ (T42 ++ (T22 ++ []))))) := M71
            refine st_val (.slice A30 m27 cq31) (by kernel_rfl) (by kernel_rfl) ?_
            obtain ⟨v72, T73, W74, hr75, O76, M77⟩ := append_u8 (A := []) (T := [(g69, .cells #[] 5 (0, 0))]) (B := (T41 ++ (T42 ++ (T22 ++ [])))) M71 22 _ _ _ (own_empty _ _ g69) _ m27 (u8s (enL ls)) (O29.rd (fun p hp => M71.at_ p (List.mem_append_right _ (List.mem_append_right _ (List.mem_append_right _ (List.mem_append_left _ hp)))))) (by rw [u8s_length]; omega) (u8s_one _) (by omega)
            have M77 : Mem NoS w W74 ((T73 ++ (T41 ++ (T42 ++ (T22 ++ []))))) := M77
            rw [Nat.zero_add, List.nil_append] at O76
            obtain ⟨A78, cq79, rfl, hc80⟩ := O76.shape
            refine st_world (.slice A78 m27 cq79) W74 (by kernel_rfl) (run_append_op (.tmp 86) (.tmp 87) _ rfl (.slice (some ⟨g69, 0, none⟩) 0 0) (.slice A30 m27 cq31) _ (by kernel_rfl) (by kernel_rfl) hr75) ?_
            refine st_val (.slice A78 m27 cq79) (by kernel_rfl) (by kernel_rfl) ?_
            refine wl_nil ?_
            refine hK68 _ _ ?_
            try clear hK68 K68
            refine wp_seq_k (fun K81 hK81 => ?_)
            refine wl_region ?_
            refine st_val (.slice A78 m27 cq79) (by kernel_rfl) (by kernel_rfl) ?_
            refine st_val (.int .i64 ((pp : Nat) : Int)) (by kernel_rfl) (by kernel_rfl) ?_
            refine st_val (.int .i64 ((10 + pp : Nat) : Int)) (by kernel_rfl) (int_of (show 10 + ((pp : Nat) : Int) = ((10 + pp : Nat) : Int) by omega) (i64_of (by omega) (by kernel_rfl))) ?_
            obtain ⟨b82, o83, eA84⟩ := RdK.addr (O76.rd (fun p hp => M77.at_ p (List.mem_append_left _ hp))) (j := (10 + pp) * 1) (by rw [u8s_length]; omega)
            refine st_val (.pointer (some ⟨b82, o83 + (10 + pp) * 1, none⟩)) (by kernel_rfl) (run_indexSliceA 22 (.tmp 89) (.tmp 91) rfl A78 ⟨b82, o83, none⟩ eA84 m27 cq79 .i64 (10 + pp) (by kernel_rfl) (by kernel_rfl) Try.underlying22 1 (by kernel_rfl) (by omega) ⟨b82, o83 + (10 + pp) * 1, none⟩ (addr_atK _ _ _ _)) ?_
            refine st_val (.int .u8 (((enL ls).getD (10 + pp) 0 : Nat) : Int)) (by kernel_rfl) (run_load_cell 5 (.tmp 92) rfl ⟨b82, o83 + (10 + pp) * 1, none⟩ (by kernel_rfl) _ ((O76.rd (fun p hp => M77.at_ p (List.mem_append_left _ hp))).cellF eA84 (f := 0) (u8s_get (enL ls) (10 + pp) (by omega))) (by kernel_rfl)) ?_
            refine st_val (.int .u8 ((bb : Nat) : Int)) (by kernel_rfl) (by kernel_rfl) ?_
            refine st_val (.int .u8 (((enL ls).getD (10 + pp) 0 ^^^ bb : Nat) : Int)) (by kernel_rfl) (run_value_bin .xor 5 5 (.tmp 93) (.tmp 94) rfl (.int .u8 (((enL ls).getD (10 + pp) 0 : Nat) : Int)) (.int .u8 ((bb : Nat) : Int)) _ (by kernel_rfl) (by kernel_rfl) (by kernel_rfl) (bin_bits (by simp) (show bits .xor .u8 (((enL ls).getD (10 + pp) 0 : Nat) : Int) ((bb : Nat) : Int) = (((enL ls).getD (10 + pp) 0 ^^^ bb : Nat) : Int) from (u8_xor_nat _ _ hgb (by omega))))) ?_
            obtain ⟨b85, o86, eA87⟩ := RdK.addr (O76.rd (fun p hp => M77.at_ p (List.mem_append_left _ hp))) (j := (10 + pp) * 1) (by rw [u8s_length]; omega)
            refine st_val (.pointer (some ⟨b85, o86 + (10 + pp) * 1, none⟩)) (by kernel_rfl) (run_indexSliceA 22 (.tmp 89) (.tmp 91) rfl A78 ⟨b85, o86, none⟩ eA87 m27 cq79 .i64 (10 + pp) (by kernel_rfl) (by kernel_rfl) Try.underlying22 1 (by kernel_rfl) (by omega) ⟨b85, o86 + (10 + pp) * 1, none⟩ (addr_atK _ _ _ _)) ?_
            refine st_storeOwn (A := []) (T := T73) (B := (T41 ++ (T42 ++ (T22 ++ [])))) M77 O76 eA87 5 (.tmp 96) (.tmp 95) rfl ((10 + pp) * 1) 0 (.int .u8 (((enL ls).getD (10 + pp) 0 ^^^ bb : Nat) : Int)) (by kernel_rfl) (by kernel_rfl) (by rw [u8s_length]; omega) (by kernel_rfl) (by kernel_rfl) (by kernel_rfl) (by kernel_rfl) ?_
            intro T88 W89 O90 M91
            have M91 : Mem NoS w W89 ((T88 ++ (T41 ++ (T42 ++ (T22 ++ []))))) := M91
            rw [u8s_setJ] at O90
            refine wl_nil ?_
            refine hK81 _ _ ?_
            try clear hK81 K81
            refine wp_seq_k (fun K92 hK92 => ?_)
            refine wl_region ?_
            refine st_val (.slice A78 m27 cq79) (by kernel_rfl) (by kernel_rfl) ?_
            refine st_callR (A := []) (B := (T88 ++ (T41 ++ (T42 ++ (T22 ++ []))))) M91 (by kernel_rfl) (run_value_call 28 #[(Operand.tmp 98)] _ rfl Try.func28 (by kernel_rfl) (by kernel_rfl) _ (by kernel_rfl)) (dec_walk W89 (.slice A78 m27 cq79) ((enL ls).set (10 + pp) ((enL ls).getD (10 + pp) 0 ^^^ bb)) ((by rw [hcl, ← hm28]; exact O90.rd (fun p hp => M91.at_ p (List.mem_append_left _ hp)))) (set_lt (enL_lt _) _ hx256) (by rw [hcl]; omega)) ?_
            intro v93 T94 W95 O96 M97
            have M97 : Mem NoS w W95 ((T94 ++ (T88 ++ (T41 ++ (T42 ++ (T22 ++ [])))))) := M97
            obtain ⟨v98, v99, T100, T101, m102, rfl, O103, hm104, O105, eT106⟩ := O96
            subst eT106
            obtain ⟨A107, cq108, rfl, hc109⟩ := O105.shape
            obtain ⟨As110, cs111, To112, Ts113, O114, OI115, eT116⟩ := O103
            obtain ⟨A117, cq118, rfl, hc119⟩ := O114.shape
            have M120 : Mem NoS w W95 ((T100 ++ (T101 ++ (T88 ++ (T41 ++ (T42 ++ (T22 ++ []))))))) := Mem.splitL (A := []) M97
            refine st_val (.tuple #[.slice A117 ((deR ((enL ls).set (10 + pp) ((enL ls).getD (10 + pp) 0 ^^^ bb))).length) cq118, .slice A107 m102 cq108, .int .i64 (deE ((enL ls).set (10 + pp) ((enL ls).getD (10 + pp) 0 ^^^ bb)))]) (by kernel_rfl) (by kernel_rfl) ?_
            refine st_val (.slice A117 ((deR ((enL ls).set (10 + pp) ((enL ls).getD (10 + pp) 0 ^^^ bb))).length) cq118) (by kernel_rfl) (by kernel_rfl) ?_
            refine st_val (.slice A107 m102 cq108) (by kernel_rfl) (by kernel_rfl) ?_
            refine st_val (.int .i64 (deE ((enL ls).set (10 + pp) ((enL ls).getD (10 + pp) 0 ^^^ bb)))) (by kernel_rfl) (by kernel_rfl) ?_
            refine st_val (.slice A117 ((deR ((enL ls).set (10 + pp) ((enL ls).getD (10 + pp) 0 ^^^ bb))).length) cq118) (by kernel_rfl) (by kernel_rfl) ?_
            refine st_val (.slice A107 m102 cq108) (by kernel_rfl) (by kernel_rfl) ?_
            refine st_val (.int .i64 (deE ((enL ls).set (10 + pp) ((enL ls).getD (10 + pp) 0 ^^^ bb)))) (by kernel_rfl) (by kernel_rfl) ?_
            refine wl_nil ?_
            refine hK92 _ _ ?_
            try clear hK92 K92
            refine wp_frame (a' := ⟨#[.slice A ls.length c, .int .i64 ((nn : Nat) : Int), .int .u8 ((bb : Nat) : Int), undef, undef, undef, .bool false, .slice A30 m27 cq31, .int .i64 (enE ls), .slice A58 ((deR (enL ls)).length) cq59, .slice A48 m43 cq49, .int .i64 (deE (enL ls)), .int .i64 ((292 * ls.length / 8 + 5 : Nat) : Int), .int .i64 ((pp : Nat) : Int), .slice A78 m27 cq79, .slice A117 ((deR ((enL ls).set (10 + pp) ((enL ls).getD (10 + pp) 0 ^^^ bb))).length) cq118, .slice A107 m102 cq108, .int .i64 (deE ((enL ls).set (10 + pp) ((enL ls).getD (10 + pp) 0 ^^^ bb))), undef, undef, undef, .slice A ls.length c, .bool true, .bool false, .bool false, .slice A ls.length c, .bool true, .bool false, .bool false, .bool false, .slice A ls.length c, .pointer (some ⟨b8, o9 + 0 * 1, none⟩), .slice (As 0) ((ls.getD 0 []).length) (cs 0), .int .i64 (((ls.getD 0 []).length : Nat) : Int), .bool false, .bool false, .bool false, .int .i64 ((nn : Nat) : Int), .bool false, .bool false, .bool false, .int .u8 ((bb : Nat) : Int), .bool false, .bool false, undef, .tuple #[.slice A30 m27 cq31, .int .i64 (enE ls)], .slice A ls.length c, .tuple #[.slice A30 m27 cq31, .int .i64 (enE ls)], .slice A30 m27 cq31, .int .i64 (enE ls), .tuple #[.slice A58 ((deR (enL ls)).length) cq59, .slice A48 m43 cq49, .int .i64 (deE (enL ls))], .slice A30 m27 cq31, .tuple #[.slice A58 ((deR (enL ls)).length) cq59, .slice A48 m43 cq49, .int .i64 (deE (enL ls))], .slice A58 ((deR (enL ls)).length) cq59, .slice A48 m43 cq49, .int .i64 (deE (enL ls)), .slice A ls.length c, .int .i64 ((ls.length : Nat) : Int), .int .i64 ((292 * ls.length / 8 + 5 : Nat) : Int), .int .i64 (enE ls), .bool false, .bool false, .int .i64 (deE (enL ls)), .bool false, .bool false, .bool false, .int .i64 ((292 * ls.length / 8 + 5 : Nat) : Int), .bool false, .bool false, .bool false, .slice A30 m27 cq31, .int .i64 ((m27 : Nat) : Int), .bool false, .bool false, .bool false, .slice A58 ((deR (enL ls)).length) cq59, .int .i64 (((deR (enL ls)).length : Nat) : Int), .slice A ls.length c, .int .i64 ((ls.length : Nat) : Int), .bool false, .bool false, .int .i64 ((nn : Nat) : Int), .slice A30 m27 cq31, .int .i64 ((m27 : Nat) : Int), .int .i64 ((m27 - 10 : Nat) : Int), .int .i64 ((nn % (m27 - 10) : Nat) : Int), .slice (some ⟨g69, 0, none⟩) 0 0, .slice A30 m27 cq31, .slice A78 m27 cq79, .slice A78 m27 cq79, .int .i64 ((pp : Nat) : Int), .int .i64 ((10 + pp : Nat) : Int), .pointer (some ⟨b82, o83 + (10 + pp) * 1, none⟩), .int .u8 (((enL ls).getD (10 + pp) 0 : Nat) : Int), .int .u8 ((bb : Nat) : Int), .int .u8 (((enL ls).getD (10 + pp) 0 ^^^ bb : Nat) : Int), .pointer (some ⟨b85, o86 + (10 + pp) * 1, none⟩), .tuple #[.slice A117 ((deR ((enL ls).set (10 + pp) ((enL ls).getD (10 + pp) 0 ^^^ bb))).length) cq118, .slice A107 m102 cq108, .int .i64 (deE ((enL ls).set (10 + pp) ((enL ls).getD (10 + pp) 0 ^^^ bb)))], .slice A78 m27 cq79, .tuple #[.slice A117 ((deR ((enL ls).set (10 + pp) ((enL ls).getD (10 + pp) 0 ^^^ bb))).length) cq118, .slice A107 m102 cq108, .int .i64 (deE ((enL ls).set (10 + pp) ((enL ls).getD (10 + pp) 0 ^^^ bb)))], .slice A117 ((deR ((enL ls).set (10 + pp) ((enL ls).getD (10 + pp) 0 ^^^ bb))).length) cq118, .slice A107 m102 cq108, .int .i64 (deE ((enL ls).set (10 + pp) ((enL ls).getD (10 + pp) 0 ^^^ bb))), undef, undef, undef, undef, undef, undef, undef, undef, undef, undef, undef, undef, undef, undef, undef, undef, undef, undef, undef, undef, undef, undef, undef, undef, undef, undef, undef, undef, undef, undef, undef, undef, undef, undef, undef, undef, undef, undef, undef, undef, undef, undef, undef, undef, undef, undef, undef, undef, undef, undef, undef, undef, undef, undef, undef, undef, undef, undef, undef, undef, undef, undef, undef, undef, undef, undef, undef], []⟩) (by kernel_rfl) ?_
            refine wp_seq_k (fun K121 hK121 => ?_)
            refine wp_seq_k (fun K122 hK122 => ?_)
            refine wl_region ?_
            refine st_val (.int .i64 (deE ((enL ls).set (10 + pp) ((enL ls).getD (10 + pp) 0 ^^^ bb)))) (by kernel_rfl) (by kernel_rfl) ?_
            refine st_val (.bool false) (by kernel_rfl) (bool_of (neq_f (show (deE ((enL ls).set (10 + pp) ((enL ls).getD (10 + pp) 0 ^^^ bb)) : Int) = 0 from hdE)) (by kernel_rfl)) ?_
            refine st_val (.bool false) (by kernel_rfl) (by kernel_rfl) ?_
            refine st_val (.slice A107 m102 cq108) (by kernel_rfl) (by kernel_rfl) ?_
            refine st_val (.int .i64 ((pp : Nat) : Int)) (by kernel_rfl) (by kernel_rfl) ?_
            refine st_val (.int .i64 ((292 * ls.length / 8 + 5 : Nat) : Int)) (by kernel_rfl) (by kernel_rfl) ?_
            refine st_val (.int .i64 ((pp / (292 * ls.length / 8 + 5) : Nat) : Int)) (by kernel_rfl) (run_value_bin .quo 3 3 (.tmp 107) (.tmp 108) rfl (.int .i64 ((pp : Nat) : Int)) (.int .i64 ((292 * ls.length / 8 + 5 : Nat) : Int)) _ (by kernel_rfl) (by kernel_rfl) (by kernel_rfl) (bin_quoN (by omega) (by omega))) ?_
            refine st_new M120 (.cells #[.int .i64 ((pp / (292 * ls.length / 8 + 5) : Nat) : Int)] 3 (0, 0)) (fun g => .slice (some ⟨g, 0, none⟩) 1 1) (by kernel_rfl) (by kernel_rfl) ?_
            intro g123 W124 M125
            refine st_callB M125 (.bool true) (by kernel_rfl) (args := #[.slice A107 m102 cq108, .slice (some ⟨g123, 0, none⟩) 1 1]) (run_value_call 30 #[(Operand.tmp 106), (Operand.tmp 110)] _ rfl Try.func30 (by kernel_rfl) (by kernel_rfl) _ (by kernel_rfl)) ((by have := sameNum_walk W124 (.slice A107 m102 cq108) (.slice (some ⟨g123, 0, none⟩) 1 1) (deM ((enL ls).set (10 + pp) ((enL ls).getD (10 + pp) 0 ^^^ bb))) ([((pp / (292 * ls.length / 8 + 5) : Nat) : Int)]) ((by rw [← hm104]; exact O105.rd (fun p hp => M125.at_ p (List.mem_cons_of_mem _ (List.mem_append_right _ (List.mem_append_left _ hp)))))) (rdk_lit (xs := i64s [((pp / (292 * ls.length / 8 + 5) : Nat) : Int)]) (M125.get 0 rfl) rfl) (deM_bd _); rw [decide_eq_true hdM] at this; exact this)) ?_
            intro W126 M127
            refine st_val (.bool false) (by kernel_rfl) (by kernel_rfl) ?_
            refine st_val (.bool false) (by kernel_rfl) (by kernel_rfl) ?_
            refine st_val (.bool false) (by kernel_rfl) (by kernel_rfl) ?_
            refine st_val (.slice A117 ((deR ((enL ls).set (10 + pp) ((enL ls).getD (10 + pp) 0 ^^^ bb))).length) cq118) (by kernel_rfl) (by kernel_rfl) ?_
            refine st_val (.int .i64 (((deR ((enL ls).set (10 + pp) ((enL ls).getD (10 + pp) 0 ^^^ bb))).length : Nat) : Int)) (by kernel_rfl) (by kernel_rfl) ?_
            refine st_val (.slice A58 ((deR (enL ls)).length) cq59) (by kernel_rfl) (by kernel_rfl) ?_
            refine st_val (.int .i64 (((deR (enL ls)).length : Nat) : Int)) (by kernel_rfl) (by kernel_rfl) ?_
            refine st_val (.bool false) (by kernel_rfl) (bool_of (neq_f (show ((((deR ((enL ls).set (10 + pp) ((enL ls).getD (10 + pp) 0 ^^^ bb))).length : Nat) : Int) : Int) = (((deR (enL ls)).length : Nat) : Int) by omega)) (by kernel_rfl)) ?_
            refine st_val (.bool false) (by kernel_rfl) (by kernel_rfl) ?_
            refine wl_nil ?_
            refine hK122 _ _ ?_
            try clear hK122 K122
            refine wp_frame (a' := ⟨#[.slice A ls.length c, .int .i64 ((nn : Nat) : Int), .int .u8 ((bb : Nat) : Int), undef, undef, undef, .bool false, .slice A30 m27 cq31, .int .i64 (enE ls), .slice A58 ((deR (enL ls)).length) cq59, .slice A48 m43 cq49, .int .i64 (deE (enL ls)), .int .i64 ((292 * ls.length / 8 + 5 : Nat) : Int), .int .i64 ((pp : Nat) : Int), .slice A78 m27 cq79, .slice A117 ((deR ((enL ls).set (10 + pp) ((enL ls).getD (10 + pp) 0 ^^^ bb))).length) cq118, .slice A107 m102 cq108, .int .i64 (deE ((enL ls).set (10 + pp) ((enL ls).getD (10 + pp) 0 ^^^ bb))), undef, undef, undef, .slice A ls.length c, .bool true, .bool false, .bool false, .slice A ls.length c, .bool true, .bool false, .bool false, .bool false, .slice A ls.length c, .pointer (some ⟨b8, o9 + 0 * 1, none⟩), .slice (As 0) ((ls.getD 0 []).length) (cs 0), .int .i64 (((ls.getD 0 []).length : Nat) : Int), .bool false, .bool false, .bool false, .int .i64 ((nn : Nat) : Int), .bool false, .bool false, .bool false, .int .u8 ((bb : Nat) : Int), .bool false, .bool false, undef, .tuple #[.slice A30 m27 cq31, .int .i64 (enE ls)], .slice A ls.length c, .tuple #[.slice A30 m27 cq31, .int .i64 (enE ls)], .slice A30 m27 cq31, .int .i64 (enE ls), .tuple #[.slice A58 ((deR (enL ls)).length) cq59, .slice A48 m43 cq49, .int .i64 (deE (enL ls))], .slice A30 m27 cq31, .tuple #[.slice A58 ((deR (enL ls)).length) cq59, .slice A48 m43 cq49, .int .i64 (deE (enL ls))], .slice A58 ((deR (enL ls)).length) cq59, .slice A48 m43 cq49, .int .i64 (deE (enL ls)), .slice A ls.length c, .int .i64 ((ls.length : Nat) : Int), .int .i64 ((292 * ls.length / 8 + 5 : Nat) : Int), .int .i64 (enE ls), .bool false, .bool false, .int .i64 (deE (enL ls)), .bool false, .bool false, .bool false, .int .i64 ((292 * ls.length / 8 + 5 : Nat) : Int), .bool false, .bool false, .bool false, .slice A30 m27 cq31, .int .i64 ((m27 : Nat) : Int), .bool false, .bool false, .bool false, .slice A58 ((deR (enL ls)).length) cq59, .int .i64 (((deR (enL ls)).length : Nat) : Int), .slice A ls.length c, .int .i64 ((ls.length : Nat) : Int), .bool false, .bool false, .int .i64 ((nn : Nat) : Int), .slice A30 m27 cq31, .int .i64 ((m27 : Nat) : Int), .int .i64 ((m27 - 10 : Nat) : Int), .int .i64 ((nn % (m27 - 10) : Nat) : Int), .slice (some ⟨g69, 0, none⟩) 0 0, .slice A30 m27 cq31, .slice A78 m27 cq79, .slice A78 m27 cq79, .int .i64 ((pp : Nat) : Int), .int .i64 ((10 + pp : Nat) : Int), .pointer (some ⟨b82, o83 + (10 + pp) * 1, none⟩), .int .u8 (((enL ls).getD (10 + pp) 0 : Nat) : Int), .int .u8 ((bb : Nat) : Int), .int .u8 (((enL ls).getD (10 + pp) 0 ^^^ bb : Nat) : Int), .pointer (some ⟨b85, o86 + (10 + pp) * 1, none⟩), .tuple #[.slice A117 ((deR ((enL ls).set (10 + pp) ((enL ls).getD (10 + pp) 0 ^^^ bb))).length) cq118, .slice A107 m102 cq108, .int .i64 (deE ((enL ls).set (10 + pp) ((enL ls).getD (10 + pp) 0 ^^^ bb)))], .slice A78 m27 cq79, .tuple #[.slice A117 ((deR ((enL ls).set (10 + pp) ((enL ls).getD (10 + pp) 0 ^^^ bb))).length) cq118, .slice A107 m102 cq108, .int .i64 (deE ((enL ls).set (10 + pp) ((enL ls).getD (10 + pp) 0 ^^^ bb)))], .slice A117 ((deR ((enL ls).set (10 + pp) ((enL ls).getD (10 + pp) 0 ^^^ bb))).length) cq118, .slice A107 m102 cq108, .int .i64 (deE ((enL ls).set (10 + pp) ((enL ls).getD (10 + pp) 0 ^^^ bb))), .int .i64 (deE ((enL ls).set (10 + pp) ((enL ls).getD (10 + pp) 0 ^^^ bb))), .bool false, .bool false, .slice A107 m102 cq108, .int .i64 ((pp : Nat) : Int), .int .i64 ((292 * ls.length / 8 + 5 : Nat) : Int), .int .i64 ((pp / (292 * ls.length / 8 + 5) : Nat) : Int), .slice (some ⟨g123, 0, none⟩) 1 1, .bool true, .bool false, .bool false, .bool false, .slice A117 ((deR ((enL ls).set (10 + pp) ((enL ls).getD (10 + pp) 0 ^^^ bb))).length) cq118, .int .i64 (((deR ((enL ls).set (10 + pp) ((enL ls).getD (10 + pp) 0 ^^^ bb))).length : Nat) : Int), .slice A58 ((deR (enL ls)).length) cq59, .int .i64 (((deR (enL ls)).length : Nat) : Int), .bool false, .bool false, undef, undef, undef, undef, undef, undef, undef, undef, undef, undef, undef, undef, undef, undef, undef, undef, undef, undef, undef, undef, undef, undef, undef, undef, undef, undef, undef, undef, undef, undef, undef, undef, undef, undef, undef, undef, undef, undef, undef, undef, undef, undef, undef, undef, undef, undef, undef, undef, undef], []⟩) (by kernel_rfl) ?_
            refine wp_cond_false (by kernel_rfl) ?_
            refine wp_skip ?_
            refine hK121 _ _ ?_
            try clear hK121 K121
            refine wp_seq_k (fun K128 hK128 => ?_)
            refine wp_seq_k (fun K129 hK129 => ?_)
            refine wl_region ?_
            refine st_val (.int .i64 0) (by kernel_rfl) (by kernel_rfl) ?_
            refine wl_nil ?_
            refine hK129 _ _ ?_
            try clear hK129 K129
            refine wp_block ?_
            refine wp_loop_ghost (fun gn a' w' => ∃ (jc : Nat) (u130 : Nat → Value), ((jc ≤ ls.length) ∧ Mem NoS w w' ((g123, .cells #[.int .i64 ((pp / (292 * ls.length / 8 + 5) : Nat) : Int)] 3 (0, 0)) :: (T100 ++ (T101 ++ (T88 ++ (T41 ++ (T42 ++ (T22 ++ [])))))))) ∧ gn = ls.length - jc ∧ a' = ⟨#[.slice A ls.length c, .int .i64 ((nn : Nat) : Int), .int .u8 ((bb : Nat) : Int), undef, undef, undef, (u130 6), .slice A30 m27 cq31, .int .i64 (enE ls), .slice A58 ((deR (enL ls)).length) cq59, .slice A48 m43 cq49, .int .i64 (deE (enL ls)), .int .i64 ((292 * ls.length / 8 + 5 : Nat) : Int), .int .i64 ((pp : Nat) : Int), .slice A78 m27 cq79, .slice A117 ((deR ((enL ls).set (10 + pp) ((enL ls).getD (10 + pp) 0 ^^^ bb))).length) cq118, .slice A107 m102 cq108, .int .i64 (deE ((enL ls).set (10 + pp) ((enL ls).getD (10 + pp) 0 ^^^ bb))), .int .i64 ((jc : Nat) : Int), (u130 19), (u130 20), .slice A ls.length c, .bool true, .bool false, .bool false, .slice A ls.length c, .bool true, .bool false, .bool false, .bool false, .slice A ls.length c, .pointer (some ⟨b8, o9 + 0 * 1, none⟩), .slice (As 0) ((ls.getD 0 []).length) (cs 0), .int .i64 (((ls.getD 0 []).length : Nat) : Int), .bool false, .bool false, .bool false, .int .i64 ((nn : Nat) : Int), .bool false, .bool false, .bool false, .int .u8 ((bb : Nat) : Int), .bool false, .bool false, undef, .tuple #[.slice A30 m27 cq31, .int .i64 (enE ls)], .slice A ls.length c, .tuple #[.slice A30 m27 cq31, .int .i64 (enE ls)], .slice A30 m27 cq31, .int .i64 (enE ls), .tuple #[.slice A58 ((deR (enL ls)).length) cq59, .slice A48 m43 cq49, .int .i64 (deE (enL ls))], .slice A30 m27 cq31, .tuple #[.slice A58 ((deR (enL ls)).length) cq59, .slice A48 m43 cq49, .int .i64 (deE (enL ls))], .slice A58 ((deR (enL ls)).length) cq59, .slice A48 m43 cq49, .int .i64 (deE (enL ls)), .slice A ls.length c, .int .i64 ((ls.length : Nat) : Int), .int .i64 ((292 * ls.length / 8 + 5 : Nat) : Int), .int .i64 (enE ls), .bool false, .bool false, .int .i64 (deE (enL ls)), .bool false, .bool false, .bool false, .int .i64 ((292 * ls.length / 8 + 5 : Nat) : Int), .bool false, .bool false, .bool false, .slice A30 m27 cq31, .int .i64 ((m27 : Nat) : Int), .bool false, .bool false, .bool false, .slice A58 ((deR (enL ls)).length) cq59, .int .i64 (((deR (enL ls)).length : Nat) : Int), .slice A ls.length c, .int .i64 ((ls.length : Nat) : Int), .bool false, .bool false, .int .i64 ((nn : Nat) : Int), .slice A30 m27 cq31, .int .i64 ((m27 : Nat) : Int), .int .i64 ((m27 - 10 : Nat) : Int), .int .i64 ((nn % (m27 - 10) : Nat) : Int), .slice (some ⟨g69, 0, none⟩) 0 0, .slice A30 m27 cq31, .slice A78 m27 cq79, .slice A78 m27 cq79, .int .i64 ((pp : Nat) : Int), .int .i64 ((10 + pp : Nat) : Int), .pointer (some ⟨b82, o83 + (10 + pp) * 1, none⟩), .int .u8 (((enL ls).getD (10 + pp) 0 : Nat) : Int), .int .u8 ((bb : Nat) : Int), .int .u8 (((enL ls).getD (10 + pp) 0 ^^^ bb : Nat) : Int), .pointer (some ⟨b85, o86 + (10 + pp) * 1, none⟩), .tuple #[.slice A117 ((deR ((enL ls).set (10 + pp) ((enL ls).getD (10 + pp) 0 ^^^ bb))).length) cq118, .slice A107 m102 cq108, .int .i64 (deE ((enL ls).set (10 + pp) ((enL ls).getD (10 + pp) 0 ^^^ bb)))], .slice A78 m27 cq79, .tuple #[.slice A117 ((deR ((enL ls).set (10 + pp) ((enL ls).getD (10 + pp) 0 ^^^ bb))).length) cq118, .slice A107 m102 cq108, .int .i64 (deE ((enL ls).set (10 + pp) ((enL ls).getD (10 + pp) 0 ^^^ bb)))], .slice A117 ((deR ((enL ls).set (10 + pp) ((enL ls).getD (10 + pp) 0 ^^^ bb))).length) cq118, .slice A107 m102 cq108, .int .i64 (deE ((enL ls).set (10 + pp) ((enL ls).getD (10 + pp) 0 ^^^ bb))), .int .i64 (deE ((enL ls).set (10 + pp) ((enL ls).getD (10 + pp) 0 ^^^ bb))), .bool false, .bool false, .slice A107 m102 cq108, .int .i64 ((pp : Nat) : Int), .int .i64 ((292 * ls.length / 8 + 5 : Nat) : Int), .int .i64 ((pp / (292 * ls.length / 8 + 5) : Nat) : Int), .slice (some ⟨g123, 0, none⟩) 1 1, .bool true, .bool false, .bool false, .bool false, .slice A117 ((deR ((enL ls).set (10 + pp) ((enL ls).getD (10 + pp) 0 ^^^ bb))).length) cq118, .int .i64 (((deR ((enL ls).set (10 + pp) ((enL ls).getD (10 + pp) 0 ^^^ bb))).length : Nat) : Int), .slice A58 ((deR (enL ls)).length) cq59, .int .i64 (((deR (enL ls)).length : Nat) : Int), .bool false, .bool false, (u130 121), (u130 122), (u130 123), (u130 124), (u130 125), (u130 126), (u130 127), (u130 128), (u130 129), (u130 130), (u130 131), (u130 132), (u130 133), (u130 134), (u130 135), (u130 136), (u130 137), (u130 138), (u130 139), (u130 140), (u130 141), (u130 142), (u130 143), (u130 144), (u130 145), (u130 146), (u130 147), (u130 148), (u130 149), (u130 150), (u130 151), (u130 152), (u130 153), (u130 154), (u130 155), (u130 156), (u130 157), (u130 158), (u130 159), (u130 160), (u130 161), (u130 162), (u130 163), (u130 164), (u130 165), (u130 166), (u130 167), (u130 168), undef], []⟩) _ ⟨0, (fun zz => Array.getD #[undef, undef, undef, undef, undef, undef, .bool false, undef, undef, undef, undef, undef, undef, undef, undef, undef, undef, undef, undef, undef, undef, undef, undef, undef, undef, undef, undef, undef, undef, undef, undef, undef, undef, undef, undef, undef, undef, undef, undef, undef, undef, undef, undef, undef, undef, undef, undef, undef, undef, undef, undef, undef, undef, undef, undef, undef, undef, undef, undef, undef, undef, undef, undef, undef, undef, undef, undef, undef, undef, undef, undef, undef, undef, undef, undef, undef, undef, undef, undef, undef, undef, undef, undef, undef, undef, undef, undef, undef, undef, undef, undef, undef, undef, undef, undef, undef, undef, undef, undef, undef, undef, undef, undef, undef, undef, undef, undef, undef, undef, undef, undef, undef, undef, undef, undef, undef, undef, undef, undef, undef, undef, undef, undef, undef, undef, undef, undef, undef, undef, undef, undef, undef, undef, undef, undef, undef, undef, undef, undef, undef, undef, undef, undef, undef, undef, undef, undef, undef, undef, undef, undef, undef, undef, undef, undef, undef, undef, undef, undef, undef, undef, undef, undef, undef, undef, undef, undef, undef, undef] zz undef), ⟨by omega, M127⟩, rfl, (by kernel_rfl)⟩ ?_
            rintro gn _ W131 ⟨jc, u130, ⟨rc, M132⟩, rfl, rfl⟩
            refine wp_seq_k (fun K133 hK133 => ?_)
            refine wp_seq_k (fun K134 hK134 => ?_)
            refine wl_region ?_
            refine st_val (.int .i64 ((jc : Nat) : Int)) (by kernel_rfl) (by kernel_rfl) ?_
            refine st_val (.slice A58 ((deR (enL ls)).length) cq59) (by kernel_rfl) (by kernel_rfl) ?_
            refine st_val (.int .i64 (((deR (enL ls)).length : Nat) : Int)) (by kernel_rfl) (by kernel_rfl) ?_
            rcases Decidable.em ((((jc : Nat) : Int) : Int) < (((deR (enL ls)).length : Nat) : Int)) with c124 | c124
            ·
              refine st_val (.bool true) (by kernel_rfl) (bool_of (dec_t c124) (by kernel_rfl)) ?_
              refine wl_nil ?_
              refine hK134 _ _ ?_
              try clear hK134 K134
              refine wp_cond_true (by kernel_rfl) ?_
              refine wp_skip ?_
              refine hK133 _ _ ?_
              try clear hK133 K133
              refine wp_seq_k (fun K135 hK135 => ?_)
              refine wp_block ?_
              refine wp_seq_k (fun K136 hK136 => ?_)
              refine wp_seq_k (fun K137 hK137 => ?_)
              have hlj := hp3 jc (by omega)
              have hrj := hrr jc (by omega)
              have hlmj := hlm jc (by omega)
              have hyj := hyr jc (by omega)
              refine wl_seq 11 (fun w' => Mem NoS w w' ((g123, .cells #[.int .i64 ((pp / (292 * ls.length / 8 + 5) : Nat) : Int)] 3 (0, 0)) :: (T100 ++ (T101 ++ (T88 ++ (T41 ++ (T42 ++ (T22 ++ [])))))))) (by decide) (by kernel_rfl) (by kernel_rfl) M132.drew ?_
              refine seq_run (v := .slice A117 ((deR ((enL ls).set (10 + pp) ((enL ls).getD (10 + pp) 0 ^^^ bb))).length) cq118) (by decide) (by kernel_rfl) (fun w' M' => (by kernel_rfl)) ?_
              refine seq_run (v := .int .i64 ((jc : Nat) : Int)) (by decide) (by kernel_rfl) (fun w' M' => (by kernel_rfl)) ?_
              obtain ⟨b138, o139, eA140⟩ := RdK.addr ((rdP_of O114 OI115 (fun p hp => M132.at_ p ((List.mem_cons_of_mem _ (List.mem_append_left _ (by rw [eT116]; exact List.mem_append_left _ hp))))) (fun p hp => M132.at_ p ((List.mem_cons_of_mem _ (List.mem_append_left _ (by rw [eT116]; exact List.mem_append_right _ hp)))))).rd) (j := jc * 1) (by rw [pvs_length]; omega)
              refine seq_run (v := .pointer (some ⟨b138, o139 + jc * 1, none⟩)) (by decide) (by kernel_rfl) (fun w' M' => (run_indexSliceA 28 (.tmp 127) (.tmp 128) rfl A117 ⟨b138, o139, none⟩ eA140 ((deR ((enL ls).set (10 + pp) ((enL ls).getD (10 + pp) 0 ^^^ bb))).length) cq118 .i64 jc (by kernel_rfl) (by kernel_rfl) Try.underlying28 1 (by kernel_rfl) (by omega) ⟨b138, o139 + jc * 1, none⟩ (addr_atK _ _ _ _))) ?_
              refine seq_run (v := .slice (As110 jc) (((deR ((enL ls).set (10 + pp) ((enL ls).getD (10 + pp) 0 ^^^ bb))).getD jc []).length) (cs111 jc)) (by decide) (by kernel_rfl) (fun w' M' => (run_load_cell 39 (.tmp 129) rfl ⟨b138, o139 + jc * 1, none⟩ (by kernel_rfl) _ (((rdP_of O114 OI115 (fun p hp => M'.at_ p ((List.mem_cons_of_mem _ (List.mem_append_left _ (by rw [eT116]; exact List.mem_append_left _ hp))))) (fun p hp => M'.at_ p ((List.mem_cons_of_mem _ (List.mem_append_left _ (by rw [eT116]; exact List.mem_append_right _ hp)))))).rd).cellF eA140 (f := 0) (pvs_get (deR ((enL ls).set (10 + pp) ((enL ls).getD (10 + pp) 0 ^^^ bb))) As110 cs111 jc (by omega))) (by kernel_rfl))) ?_
              refine seq_run (v := .int .i64 ((((deR ((enL ls).set (10 + pp) ((enL ls).getD (10 + pp) 0 ^^^ bb))).getD jc []).length : Nat) : Int)) (by decide) (by kernel_rfl) (fun w' M' => (by kernel_rfl)) ?_
              refine seq_run (v := .slice A58 ((deR (enL ls)).length) cq59) (by decide) (by kernel_rfl) (fun w' M' => (by kernel_rfl)) ?_
              refine seq_run (v := .int .i64 ((jc : Nat) : Int)) (by decide) (by kernel_rfl) (fun w' M' => (by kernel_rfl)) ?_
              obtain ⟨b141, o142, eA143⟩ := RdK.addr ((rdP_of O55 OI56 (fun p hp => M132.at_ p ((List.mem_cons_of_mem _ (List.mem_append_right _ (List.mem_append_right _ (List.mem_append_right _ (List.mem_append_left _ (by rw [eT57]; exact List.mem_append_left _ hp)))))))) (fun p hp => M132.at_ p ((List.mem_cons_of_mem _ (List.mem_append_right _ (List.mem_append_right _ (List.mem_append_right _ (List.mem_append_left _ (by rw [eT57]; exact List.mem_append_right _ hp))))))))).rd) (j := jc * 1) (by rw [pvs_length]; omega)
              refine seq_run (v := .pointer (some ⟨b141, o142 + jc * 1, none⟩)) (by decide) (by kernel_rfl) (fun w' M' => (run_indexSliceA 28 (.tmp 132) (.tmp 133) rfl A58 ⟨b141, o142, none⟩ eA143 ((deR (enL ls)).length) cq59 .i64 jc (by kernel_rfl) (by kernel_rfl) Try.underlying28 1 (by kernel_rfl) (by omega) ⟨b141, o142 + jc * 1, none⟩ (addr_atK _ _ _ _))) ?_
              refine seq_run (v := .slice (As51 jc) (((deR (enL ls)).getD jc []).length) (cs52 jc)) (by decide) (by kernel_rfl) (fun w' M' => (run_load_cell 39 (.tmp 134) rfl ⟨b141, o142 + jc * 1, none⟩ (by kernel_rfl) _ (((rdP_of O55 OI56 (fun p hp => M'.at_ p ((List.mem_cons_of_mem _ (List.mem_append_right _ (List.mem_append_right _ (List.mem_append_right _ (List.mem_append_left _ (by rw [eT57]; exact List.mem_append_left _ hp)))))))) (fun p hp => M'.at_ p ((List.mem_cons_of_mem _ (List.mem_append_right _ (List.mem_append_right _ (List.mem_append_right _ (List.mem_append_left _ (by rw [eT57]; exact List.mem_append_right _ hp))))))))).rd).cellF eA143 (f := 0) (pvs_get (deR (enL ls)) As51 cs52 jc (by omega))) (by kernel_rfl))) ?_
              refine seq_run (v := .int .i64 ((((deR (enL ls)).getD jc []).length : Nat) : Int)) (by decide) (by kernel_rfl) (fun w' M' => (by kernel_rfl)) ?_
              refine seq_run (v := .bool false) (by decide) (by kernel_rfl) (fun w' M' => (bool_of (neq_f (show (((((deR ((enL ls).set (10 + pp) ((enL ls).getD (10 + pp) 0 ^^^ bb))).getD jc []).length : Nat) : Int) : Int) = ((((deR (enL ls)).getD jc []).length : Nat) : Int) by omega)) (by kernel_rfl))) ?_
              refine seq_end (by decide) ?_
              intro W144 M145
              refine wl_nil ?_
              refine hK137 _ _ ?_
              try clear hK137 K137
              refine wp_frame (a' := ⟨#[.slice A ls.length c, .int .i64 ((nn : Nat) : Int), .int .u8 ((bb : Nat) : Int), undef, undef, undef, (u130 6), .slice A30 m27 cq31, .int .i64 (enE ls), .slice A58 ((deR (enL ls)).length) cq59, .slice A48 m43 cq49, .int .i64 (deE (enL ls)), .int .i64 ((292 * ls.length / 8 + 5 : Nat) : Int), .int .i64 ((pp : Nat) : Int), .slice A78 m27 cq79, .slice A117 ((deR ((enL ls).set (10 + pp) ((enL ls).getD (10 + pp) 0 ^^^ bb))).length) cq118, .slice A107 m102 cq108, .int .i64 (deE ((enL ls).set (10 + pp) ((enL ls).getD (10 + pp) 0 ^^^ bb))), .int .i64 ((jc : Nat) : Int), (u130 19), (u130 20), .slice A ls.length c, .bool true, .bool false, .bool false, .slice A ls.length c, .bool true, .bool false, .bool false, .bool false, .slice A ls.length c, .pointer (some ⟨b8, o9 + 0 * 1, none⟩), .slice (As 0) ((ls.getD 0 []).length) (cs 0), .int .i64 (((ls.getD 0 []).length : Nat) : Int), .bool false, .bool false, .bool false, .int .i64 ((nn : Nat) : Int), .bool false, .bool false, .bool false, .int .u8 ((bb : Nat) : Int), .bool false, .bool false, undef, .tuple #[.slice A30 m27 cq31, .int .i64 (enE ls)], .slice A ls.length c, .tuple #[.slice A30 m27 cq31, .int .i64 (enE ls)], .slice A30 m27 cq31, .int .i64 (enE ls), .tuple #[.slice A58 ((deR (enL ls)).length) cq59, .slice A48 m43 cq49, .int .i64 (deE (enL ls))], .slice A30 m27 cq31, .tuple #[.slice A58 ((deR (enL ls)).length) cq59, .slice A48 m43 cq49, .int .i64 (deE (enL ls))], .slice A58 ((deR (enL ls)).length) cq59, .slice A48 m43 cq49, .int .i64 (deE (enL ls)), .slice A ls.length c, .int .i64 ((ls.length : Nat) : Int), .int .i64 ((292 * ls.length / 8 + 5 : Nat) : Int), .int .i64 (enE ls), .bool false, .bool false, .int .i64 (deE (enL ls)), .bool false, .bool false, .bool false, .int .i64 ((292 * ls.length / 8 + 5 : Nat) : Int), .bool false, .bool false, .bool false, .slice A30 m27 cq31, .int .i64 ((m27 : Nat) : Int), .bool false, .bool false, .bool false, .slice A58 ((deR (enL ls)).length) cq59, .int .i64 (((deR (enL ls)).length : Nat) : Int), .slice A ls.length c, .int .i64 ((ls.length : Nat) : Int), .bool false, .bool false, .int .i64 ((nn : Nat) : Int), .slice A30 m27 cq31, .int .i64 ((m27 : Nat) : Int), .int .i64 ((m27 - 10 : Nat) : Int), .int .i64 ((nn % (m27 - 10) : Nat) : Int), .slice (some ⟨g69, 0, none⟩) 0 0, .slice A30 m27 cq31, .slice A78 m27 cq79, .slice A78 m27 cq79, .int .i64 ((pp : Nat) : Int), .int .i64 ((10 + pp : Nat) : Int), .pointer (some ⟨b82, o83 + (10 + pp) * 1, none⟩), .int .u8 (((enL ls).getD (10 + pp) 0 : Nat) : Int), .int .u8 ((bb : Nat) : Int), .int .u8 (((enL ls).getD (10 + pp) 0 ^^^ bb : Nat) : Int), .pointer (some ⟨b85, o86 + (10 + pp) * 1, none⟩), .tuple #[.slice A117 ((deR ((enL ls).set (10 + pp) ((enL ls).getD (10 + pp) 0 ^^^ bb))).length) cq118, .slice A107 m102 cq108, .int .i64 (deE ((enL ls).set (10 + pp) ((enL ls).getD (10 + pp) 0 ^^^ bb)))], .slice A78 m27 cq79, .tuple #[.slice A117 ((deR ((enL ls).set (10 + pp) ((enL ls).getD (10 + pp) 0 ^^^ bb))).length) cq118, .slice A107 m102 cq108, .int .i64 (deE ((enL ls).set (10 + pp) ((enL ls).getD (10 + pp) 0 ^^^ bb)))], .slice A117 ((deR ((enL ls).set (10 + pp) ((enL ls).getD (10 + pp) 0 ^^^ bb))).length) cq118, .slice A107 m102 cq108, .int .i64 (deE ((enL ls).set (10 + pp) ((enL ls).getD (10 + pp) 0 ^^^ bb))), .int .i64 (deE ((enL ls).set (10 + pp) ((enL ls).getD (10 + pp) 0 ^^^ bb))), .bool false, .bool false, .slice A107 m102 cq108, .int .i64 ((pp : Nat) : Int), .int .i64 ((292 * ls.length / 8 + 5 : Nat) : Int), .int .i64 ((pp / (292 * ls.length / 8 + 5) : Nat) : Int), .slice (some ⟨g123, 0, none⟩) 1 1, .bool true, .bool false, .bool false, .bool false, .slice A117 ((deR ((enL ls).set (10 + pp) ((enL ls).getD (10 + pp) 0 ^^^ bb))).length) cq118, .int .i64 (((deR ((enL ls).set (10 + pp) ((enL ls).getD (10 + pp) 0 ^^^ bb))).length : Nat) : Int), .slice A58 ((deR (enL ls)).length) cq59, .int .i64 (((deR (enL ls)).length : Nat) : Int), .bool false, .bool false, .int .i64 ((jc : Nat) : Int), .slice A58 ((deR (enL ls)).length) cq59, .int .i64 (((deR (enL ls)).length : Nat) : Int), .bool true, (u130 125), (u130 126), .slice A117 ((deR ((enL ls).set (10 + pp) ((enL ls).getD (10 + pp) 0 ^^^ bb))).length) cq118, .int .i64 ((jc : Nat) : Int), .pointer (some ⟨b138, o139 + jc * 1, none⟩), .slice (As110 jc) (((deR ((enL ls).set (10 + pp) ((enL ls).getD (10 + pp) 0 ^^^ bb))).getD jc []).length) (cs111 jc), .int .i64 ((((deR ((enL ls).set (10 + pp) ((enL ls).getD (10 + pp) 0 ^^^ bb))).getD jc []).length : Nat) : Int), .slice A58 ((deR (enL ls)).length) cq59, .int .i64 ((jc : Nat) : Int), .pointer (some ⟨b141, o142 + jc * 1, none⟩), .slice (As51 jc) (((deR (enL ls)).getD jc []).length) (cs52 jc), .int .i64 ((((deR (enL ls)).getD jc []).length : Nat) : Int), .bool false, (u130 138), (u130 139), (u130 140), (u130 141), (u130 142), (u130 143), (u130 144), (u130 145), (u130 146), (u130 147), (u130 148), (u130 149), (u130 150), (u130 151), (u130 152), (u130 153), (u130 154), (u130 155), (u130 156), (u130 157), (u130 158), (u130 159), (u130 160), (u130 161), (u130 162), (u130 163), (u130 164), (u130 165), (u130 166), (u130 167), (u130 168), undef], []⟩) (by kernel_rfl) ?_
              refine wp_cond_false (by kernel_rfl) ?_
              refine wp_skip ?_
              refine hK136 _ _ ?_
              try clear hK136 K136
              refine wp_seq_k (fun K146 hK146 => ?_)
              refine wl_region ?_
              refine st_val (.int .i64 0) (by kernel_rfl) (by kernel_rfl) ?_
              refine wl_nil ?_
              refine hK146 _ _ ?_
              try clear hK146 K146
              refine wp_block ?_
              refine wp_loop_ghost (fun gn a' w' => ∃ (i : Nat) (u147 : Nat → Value), ((i ≤ (ls.getD jc []).length) ∧ Mem NoS w w' ((g123, .cells #[.int .i64 ((pp / (292 * ls.length / 8 + 5) : Nat) : Int)] 3 (0, 0)) :: (T100 ++ (T101 ++ (T88 ++ (T41 ++ (T42 ++ (T22 ++ [])))))))) ∧ gn = (ls.getD jc []).length - i ∧ a' = ⟨#[.slice A ls.length c, .int .i64 ((nn : Nat) : Int), .int .u8 ((bb : Nat) : Int), undef, undef, undef, (u147 6), .slice A30 m27 cq31, .int .i64 (enE ls), .slice A58 ((deR (enL ls)).length) cq59, .slice A48 m43 cq49, .int .i64 (deE (enL ls)), .int .i64 ((292 * ls.length / 8 + 5 : Nat) : Int), .int .i64 ((pp : Nat) : Int), .slice A78 m27 cq79, .slice A117 ((deR ((enL ls).set (10 + pp) ((enL ls).getD (10 + pp) 0 ^^^ bb))).length) cq118, .slice A107 m102 cq108, .int .i64 (deE ((enL ls).set (10 + pp) ((enL ls).getD (10 + pp) 0 ^^^ bb))), .int .i64 ((jc : Nat) : Int), .int .i64 ((i : Nat) : Int), (u147 20), .slice A ls.length c, .bool true, .bool false, .bool false, .slice A ls.length c, .bool true, .bool false, .bool false, .bool false, .slice A ls.length c, .pointer (some ⟨b8, o9 + 0 * 1, none⟩), .slice (As 0) ((ls.getD 0 []).length) (cs 0), .int .i64 (((ls.getD 0 []).length : Nat) : Int), .bool false, .bool false, .bool false, .int .i64 ((nn : Nat) : Int), .bool false, .bool false, .bool false, .int .u8 ((bb : Nat) : Int), .bool false, .bool false, undef, .tuple #[.slice A30 m27 cq31, .int .i64 (enE ls)], .slice A ls.length c, .tuple #[.slice A30 m27 cq31, .int .i64 (enE ls)], .slice A30 m27 cq31, .int .i64 (enE ls), .tuple #[.slice A58 ((deR (enL ls)).length) cq59, .slice A48 m43 cq49, .int .i64 (deE (enL ls))], .slice A30 m27 cq31, .tuple #[.slice A58 ((deR (enL ls)).length) cq59, .slice A48 m43 cq49, .int .i64 (deE (enL ls))], .slice A58 ((deR (enL ls)).length) cq59, .slice A48 m43 cq49, .int .i64 (deE (enL ls)), .slice A ls.length c, .int .i64 ((ls.length : Nat) : Int), .int .i64 ((292 * ls.length / 8 + 5 : Nat) : Int), .int .i64 (enE ls), .bool false, .bool false, .int .i64 (deE (enL ls)), .bool false, .bool false, .bool false, .int .i64 ((292 * ls.length / 8 + 5 : Nat) : Int), .bool false, .bool false, .bool false, .slice A30 m27 cq31, .int .i64 ((m27 : Nat) : Int), .bool false, .bool false, .bool false, .slice A58 ((deR (enL ls)).length) cq59, .int .i64 (((deR (enL ls)).length : Nat) : Int), .slice A ls.length c, .int .i64 ((ls.length : Nat) : Int), .bool false, .bool false, .int .i64 ((nn : Nat) : Int), .slice A30 m27 cq31, .int .i64 ((m27 : Nat) : Int), .int .i64 ((m27 - 10 : Nat) : Int), .int .i64 ((nn % (m27 - 10) : Nat) : Int), .slice (some ⟨g69, 0, none⟩) 0 0, .slice A30 m27 cq31, .slice A78 m27 cq79, .slice A78 m27 cq79, .int .i64 ((pp : Nat) : Int), .int .i64 ((10 + pp : Nat) : Int), .pointer (some ⟨b82, o83 + (10 + pp) * 1, none⟩), .int .u8 (((enL ls).getD (10 + pp) 0 : Nat) : Int), .int .u8 ((bb : Nat) : Int), .int .u8 (((enL ls).getD (10 + pp) 0 ^^^ bb : Nat) : Int), .pointer (some ⟨b85, o86 + (10 + pp) * 1, none⟩), .tuple #[.slice A117 ((deR ((enL ls).set (10 + pp) ((enL ls).getD (10 + pp) 0 ^^^ bb))).length) cq118, .slice A107 m102 cq108, .int .i64 (deE ((enL ls).set (10 + pp) ((enL ls).getD (10 + pp) 0 ^^^ bb)))], .slice A78 m27 cq79, .tuple #[.slice A117 ((deR ((enL ls).set (10 + pp) ((enL ls).getD (10 + pp) 0 ^^^ bb))).length) cq118, .slice A107 m102 cq108, .int .i64 (deE ((enL ls).set (10 + pp) ((enL ls).getD (10 + pp) 0 ^^^ bb)))], .slice A117 ((deR ((enL ls).set (10 + pp) ((enL ls).getD (10 + pp) 0 ^^^ bb))).length) cq118, .slice A107 m102 cq108, .int .i64 (deE ((enL ls).set (10 + pp) ((enL ls).getD (10 + pp) 0 ^^^ bb))), .int .i64 (deE ((enL ls).set (10 + pp) ((enL ls).getD (10 + pp) 0 ^^^ bb))), .bool false, .bool false, .slice A107 m102 cq108, .int .i64 ((pp : Nat) : Int), .int .i64 ((292 * ls.length / 8 + 5 : Nat) : Int), .int .i64 ((pp / (292 * ls.length / 8 + 5) : Nat) : Int), .slice (some ⟨g123, 0, none⟩) 1 1, .bool true, .bool false, .bool false, .bool false, .slice A117 ((deR ((enL ls).set (10 + pp) ((enL ls).getD (10 + pp) 0 ^^^ bb))).length) cq118, .int .i64 (((deR ((enL ls).set (10 + pp) ((enL ls).getD (10 + pp) 0 ^^^ bb))).length : Nat) : Int), .slice A58 ((deR (enL ls)).length) cq59, .int .i64 (((deR (enL ls)).length : Nat) : Int), .bool false, .bool false, .int .i64 ((jc : Nat) : Int), .slice A58 ((deR (enL ls)).length) cq59, .int .i64 (((deR (enL ls)).length : Nat) : Int), .bool true, (u130 125), (u130 126), .slice A117 ((deR ((enL ls).set (10 + pp) ((enL ls).getD (10 + pp) 0 ^^^ bb))).length) cq118, .int .i64 ((jc : Nat) : Int), .pointer (some ⟨b138, o139 + jc * 1, none⟩), .slice (As110 jc) (((deR ((enL ls).set (10 + pp) ((enL ls).getD (10 + pp) 0 ^^^ bb))).getD jc []).length) (cs111 jc), .int .i64 ((((deR ((enL ls).set (10 + pp) ((enL ls).getD (10 + pp) 0 ^^^ bb))).getD jc []).length : Nat) : Int), .slice A58 ((deR (enL ls)).length) cq59, .int .i64 ((jc : Nat) : Int), .pointer (some ⟨b141, o142 + jc * 1, none⟩), .slice (As51 jc) (((deR (enL ls)).getD jc []).length) (cs52 jc), .int .i64 ((((deR (enL ls)).getD jc []).length : Nat) : Int), .bool false, (u147 138), (u147 139), (u147 140), (u147 141), (u147 142), (u147 143), (u147 144), (u147 145), (u147 146), (u147 147), (u147 148), (u147 149), (u147 150), (u147 151), (u147 152), (u147 153), (u147 154), (u147 155), (u147 156), (u147 157), (u147 158), (u147 159), (u147 160), (u147 161), (u147 162), (u147 163), (u147 164), (u147 165), (u147 166), (u147 167), (u147 168), undef], []⟩) _ ⟨0, (fun zz => Array.getD #[undef, undef, undef, undef, undef, undef, (u130 6), undef, undef, undef, undef, undef, undef, undef, undef, undef, undef, undef, undef, undef, (u130 20), undef, undef, undef, undef, undef, undef, undef, undef, undef, undef, undef, undef, undef, undef, undef, undef, undef, undef, undef, undef, undef, undef, undef, undef, undef, undef, undef, undef, undef, undef, undef, undef, undef, undef, undef, undef, undef, undef, undef, undef, undef, undef, undef, undef, undef, undef, undef, undef, undef, undef, undef, undef, undef, undef, undef, undef, undef, undef, undef, undef, undef, undef, undef, undef, undef, undef, undef, undef, undef, undef, undef, undef, undef, undef, undef, undef, undef, undef, undef, undef, undef, undef, undef, undef, undef, undef, undef, undef, undef, undef, undef, undef, undef, undef, undef, undef, undef, undef, undef, undef, undef, undef, undef, undef, undef, undef, undef, undef, undef, undef, undef, undef, undef, undef, undef, undef, undef, (u130 138), (u130 139), (u130 140), (u130 141), (u130 142), (u130 143), (u130 144), (u130 145), (u130 146), (u130 147), (u130 148), (u130 149), (u130 150), (u130 151), (u130 152), (u130 153), (u130 154), (u130 155), (u130 156), (u130 157), (u130 158), (u130 159), (u130 160), (u130 161), (u130 162), (u130 163), (u130 164), (u130 165), (u130 166), (u130 167), (u130 168)] zz undef), ⟨by omega, M145⟩, rfl, (by kernel_rfl)⟩ ?_
              rintro gn _ W148 ⟨i, u147, ⟨ri, M149⟩, rfl, rfl⟩
              refine wp_seq_k (fun K150 hK150 => ?_)
              refine wp_seq_k (fun K151 hK151 => ?_)
              refine wl_region ?_
              refine st_val (.int .i64 ((i : Nat) : Int)) (by kernel_rfl) (by kernel_rfl) ?_
              refine st_val (.slice A58 ((deR (enL ls)).length) cq59) (by kernel_rfl) (by kernel_rfl) ?_
              refine st_val (.int .i64 ((jc : Nat) : Int)) (by kernel_rfl) (by kernel_rfl) ?_
              obtain ⟨b152, o153, eA154⟩ := RdK.addr ((rdP_of O55 OI56 (fun p hp => M149.at_ p ((List.mem_cons_of_mem _ (List.mem_append_right _ (List.mem_append_right _ (List.mem_append_right _ (List.mem_append_left _ (by rw [eT57]; exact List.mem_append_left _ hp)))))))) (fun p hp => M149.at_ p ((List.mem_cons_of_mem _ (List.mem_append_right _ (List.mem_append_right _ (List.mem_append_right _ (List.mem_append_left _ (by rw [eT57]; exact List.mem_append_right _ hp))))))))).rd) (j := jc * 1) (by rw [pvs_length]; omega)
              refine st_val (.pointer (some ⟨b152, o153 + jc * 1, none⟩)) (by kernel_rfl) (run_indexSliceA 28 (.tmp 139) (.tmp 140) rfl A58 ⟨b152, o153, none⟩ eA154 ((deR (enL ls)).length) cq59 .i64 jc (by kernel_rfl) (by kernel_rfl) Try.underlying28 1 (by kernel_rfl) (by omega) ⟨b152, o153 + jc * 1, none⟩ (addr_atK _ _ _ _)) ?_
              refine st_val (.slice (As51 jc) (((deR (enL ls)).getD jc []).length) (cs52 jc)) (by kernel_rfl) (run_load_cell 39 (.tmp 141) rfl ⟨b152, o153 + jc * 1, none⟩ (by kernel_rfl) _ (((rdP_of O55 OI56 (fun p hp => M149.at_ p ((List.mem_cons_of_mem _ (List.mem_append_right _ (List.mem_append_right _ (List.mem_append_right _ (List.mem_append_left _ (by rw [eT57]; exact List.mem_append_left _ hp)))))))) (fun p hp => M149.at_ p ((List.mem_cons_of_mem _ (List.mem_append_right _ (List.mem_append_right _ (List.mem_append_right _ (List.mem_append_left _ (by rw [eT57]; exact List.mem_append_right _ hp))))))))).rd).cellF eA154 (f := 0) (pvs_get (deR (enL ls)) As51 cs52 jc (by omega))) (by kernel_rfl)) ?_
              refine st_val (.int .i64 ((((deR (enL ls)).getD jc []).length : Nat) : Int)) (by kernel_rfl) (by kernel_rfl) ?_
              rcases Decidable.em ((((i : Nat) : Int) : Int) < ((((deR (enL ls)).getD jc []).length : Nat) : Int)) with c144 | c144
              ·
                refine st_val (.bool true) (by kernel_rfl) (bool_of (dec_t c144) (by kernel_rfl)) ?_
                refine wl_nil ?_
                refine hK151 _ _ ?_
                try clear hK151 K151
                refine wp_cond_true (by kernel_rfl) ?_
                refine wp_skip ?_
                refine hK150 _ _ ?_
                try clear hK150 K150
                refine wp_seq_k (fun K155 hK155 => ?_)
                refine wp_block ?_
                refine wp_seq_k (fun K156 hK156 => ?_)
                refine wl_region ?_
                refine st_val (.slice A58 ((deR (enL ls)).length) cq59) (by kernel_rfl) (by kernel_rfl) ?_
                refine st_val (.int .i64 ((jc : Nat) : Int)) (by kernel_rfl) (by kernel_rfl) ?_
                obtain ⟨b157, o158, eA159⟩ := RdK.addr ((rdP_of O55 OI56 (fun p hp => M149.at_ p ((List.mem_cons_of_mem _ (List.mem_append_right _ (List.mem_append_right _ (List.mem_append_right _ (List.mem_append_left _ (by rw [eT57]; exact List.mem_append_left _ hp)))))))) (fun p hp => M149.at_ p ((List.mem_cons_of_mem _ (List.mem_append_right _ (List.mem_append_right _ (List.mem_append_right _ (List.mem_append_left _ (by rw [eT57]; exact List.mem_append_right _ hp))))))))).rd) (j := jc * 1) (by rw [pvs_length]; omega)
                refine st_val (.pointer (some ⟨b157, o158 + jc * 1, none⟩)) (by kernel_rfl) (run_indexSliceA 28 (.tmp 147) (.tmp 148) rfl A58 ⟨b157, o158, none⟩ eA159 ((deR (enL ls)).length) cq59 .i64 jc (by kernel_rfl) (by kernel_rfl) Try.underlying28 1 (by kernel_rfl) (by omega) ⟨b157, o158 + jc * 1, none⟩ (addr_atK _ _ _ _)) ?_
                refine st_val (.slice (As51 jc) (((deR (enL ls)).getD jc []).length) (cs52 jc)) (by kernel_rfl) (run_load_cell 39 (.tmp 149) rfl ⟨b157, o158 + jc * 1, none⟩ (by kernel_rfl) _ (((rdP_of O55 OI56 (fun p hp => M149.at_ p ((List.mem_cons_of_mem _ (List.mem_append_right _ (List.mem_append_right _ (List.mem_append_right _ (List.mem_append_left _ (by rw [eT57]; exact List.mem_append_left _ hp)))))))) (fun p hp => M149.at_ p ((List.mem_cons_of_mem _ (List.mem_append_right _ (List.mem_append_right _ (List.mem_append_right _ (List.mem_append_left _ (by rw [eT57]; exact List.mem_append_right _ hp))))))))).rd).cellF eA159 (f := 0) (pvs_get (deR (enL ls)) As51 cs52 jc (by omega))) (by kernel_rfl)) ?_
                refine st_val (.int .i64 ((i : Nat) : Int)) (by kernel_rfl) (by kernel_rfl) ?_
                obtain ⟨b160, o161, eA162⟩ := RdK.addr (((rdP_of O55 OI56 (fun p hp => M149.at_ p ((List.mem_cons_of_mem _ (List.mem_append_right _ (List.mem_append_right _ (List.mem_append_right _ (List.mem_append_left _ (by rw [eT57]; exact List.mem_append_left _ hp)))))))) (fun p hp => M149.at_ p ((List.mem_cons_of_mem _ (List.mem_append_right _ (List.mem_append_right _ (List.mem_append_right _ (List.mem_append_left _ (by rw [eT57]; exact List.mem_append_right _ hp))))))))).ch jc (by omega) (by omega))) (j := i * 1) (by rw [i16s_length]; omega)
                refine st_val (.pointer (some ⟨b160, o161 + i * 1, none⟩)) (by kernel_rfl) (run_indexSliceA 39 (.tmp 150) (.tmp 151) rfl (As51 jc) ⟨b160, o161, none⟩ eA162 (((deR (enL ls)).getD jc []).length) (cs52 jc) .i64 i (by kernel_rfl) (by kernel_rfl) Try.underlying39 1 (by kernel_rfl) (by omega) ⟨b160, o161 + i * 1, none⟩ (addr_atK _ _ _ _)) ?_
                refine st_val (.int .i16 (((deR (enL ls)).getD jc []).getD i 0)) (by kernel_rfl) (run_load_cell 45 (.tmp 152) rfl ⟨b160, o161 + i * 1, none⟩ (by kernel_rfl) _ ((((rdP_of O55 OI56 (fun p hp => M149.at_ p ((List.mem_cons_of_mem _ (List.mem_append_right _ (List.mem_append_right _ (List.mem_append_right _ (List.mem_append_left _ (by rw [eT57]; exact List.mem_append_left _ hp)))))))) (fun p hp => M149.at_ p ((List.mem_cons_of_mem _ (List.mem_append_right _ (List.mem_append_right _ (List.mem_append_right _ (List.mem_append_left _ (by rw [eT57]; exact List.mem_append_right _ hp))))))))).ch jc (by omega) (by omega))).cellF eA162 (f := 0) (i16s_get ((deR (enL ls)).getD jc []) i (by omega))) (by kernel_rfl)) ?_
                refine st_val (.int .i16 (((deR (enL ls)).getD jc []).getD i 0)) (by kernel_rfl) (by kernel_rfl) ?_
                refine wl_nil ?_
                refine hK156 _ _ ?_
                try clear hK156 K156
                refine wp_frame (a' := ⟨#[.slice A ls.length c, .int .i64 ((nn : Nat) : Int), .int .u8 ((bb : Nat) : Int), undef, undef, undef, (u147 6), .slice A30 m27 cq31, .int .i64 (enE ls), .slice A58 ((deR (enL ls)).length) cq59, .slice A48 m43 cq49, .int .i64 (deE (enL ls)), .int .i64 ((292 * ls.length / 8 + 5 : Nat) : Int), .int .i64 ((pp : Nat) : Int), .slice A78 m27 cq79, .slice A117 ((deR ((enL ls).set (10 + pp) ((enL ls).getD (10 + pp) 0 ^^^ bb))).length) cq118, .slice A107 m102 cq108, .int .i64 (deE ((enL ls).set (10 + pp) ((enL ls).getD (10 + pp) 0 ^^^ bb))), .int .i64 ((jc : Nat) : Int), .int .i64 ((i : Nat) : Int), .int .i16 (((deR (enL ls)).getD jc []).getD i 0), .slice A ls.length c, .bool true, .bool false, .bool false, .slice A ls.length c, .bool true, .bool false, .bool false, .bool false, .slice A ls.length c, .pointer (some ⟨b8, o9 + 0 * 1, none⟩), .slice (As 0) ((ls.getD 0 []).length) (cs 0), .int .i64 (((ls.getD 0 []).length : Nat) : Int), .bool false, .bool false, .bool false, .int .i64 ((nn : Nat) : Int), .bool false, .bool false, .bool false, .int .u8 ((bb : Nat) : Int), .bool false, .bool false, undef, .tuple #[.slice A30 m27 cq31, .int .i64 (enE ls)], .slice A ls.length c, .tuple #[.slice A30 m27 cq31, .int .i64 (enE ls)], .slice A30 m27 cq31, .int .i64 (enE ls), .tuple #[.slice A58 ((deR (enL ls)).length) cq59, .slice A48 m43 cq49, .int .i64 (deE (enL ls))], .slice A30 m27 cq31, .tuple #[.slice A58 ((deR (enL ls)).length) cq59, .slice A48 m43 cq49, .int .i64 (deE (enL ls))], .slice A58 ((deR (enL ls)).length) cq59, .slice A48 m43 cq49, .int .i64 (deE (enL ls)), .slice A ls.length c, .int .i64 ((ls.length : Nat) : Int), .int .i64 ((292 * ls.length / 8 + 5 : Nat) : Int), .int .i64 (enE ls), .bool false, .bool false, .int .i64 (deE (enL ls)), .bool false, .bool false, .bool false, .int .i64 ((292 * ls.length / 8 + 5 : Nat) : Int), .bool false, .bool false, .bool false, .slice A30 m27 cq31, .int .i64 ((m27 : Nat) : Int), .bool false, .bool false, .bool false, .slice A58 ((deR (enL ls)).length) cq59, .int .i64 (((deR (enL ls)).length : Nat) : Int), .slice A ls.length c, .int .i64 ((ls.length : Nat) : Int), .bool false, .bool false, .int .i64 ((nn : Nat) : Int), .slice A30 m27 cq31, .int .i64 ((m27 : Nat) : Int), .int .i64 ((m27 - 10 : Nat) : Int), .int .i64 ((nn % (m27 - 10) : Nat) : Int), .slice (some ⟨g69, 0, none⟩) 0 0, .slice A30 m27 cq31, .slice A78 m27 cq79, .slice A78 m27 cq79, .int .i64 ((pp : Nat) : Int), .int .i64 ((10 + pp : Nat) : Int), .pointer (some ⟨b82, o83 + (10 + pp) * 1, none⟩), .int .u8 (((enL ls).getD (10 + pp) 0 : Nat) : Int), .int .u8 ((bb : Nat) : Int), .int .u8 (((enL ls).getD (10 + pp) 0 ^^^ bb : Nat) : Int), .pointer (some ⟨b85, o86 + (10 + pp) * 1, none⟩), .tuple #[.slice A117 ((deR ((enL ls).set (10 + pp) ((enL ls).getD (10 + pp) 0 ^^^ bb))).length) cq118, .slice A107 m102 cq108, .int .i64 (deE ((enL ls).set (10 + pp) ((enL ls).getD (10 + pp) 0 ^^^ bb)))], .slice A78 m27 cq79, .tuple #[.slice A117 ((deR ((enL ls).set (10 + pp) ((enL ls).getD (10 + pp) 0 ^^^ bb))).length) cq118, .slice A107 m102 cq108, .int .i64 (deE ((enL ls).set (10 + pp) ((enL ls).getD (10 + pp) 0 ^^^ bb)))], .slice A117 ((deR ((enL ls).set (10 + pp) ((enL ls).getD (10 + pp) 0 ^^^ bb))).length) cq118, .slice A107 m102 cq108, .int .i64 (deE ((enL ls).set (10 + pp) ((enL ls).getD (10 + pp) 0 ^^^ bb))), .int .i64 (deE ((enL ls).set (10 + pp) ((enL ls).getD (10 + pp) 0 ^^^ bb))), .bool false, .bool false, .slice A107 m102 cq108, .int .i64 ((pp : Nat) : Int), .int .i64 ((292 * ls.length / 8 + 5 : Nat) : Int), .int .i64 ((pp / (292 * ls.length / 8 + 5) : Nat) : Int), .slice (some ⟨g123, 0, none⟩) 1 1, .bool true, .bool false, .bool false, .bool false, .slice A117 ((deR ((enL ls).set (10 + pp) ((enL ls).getD (10 + pp) 0 ^^^ bb))).length) cq118, .int .i64 (((deR ((enL ls).set (10 + pp) ((enL ls).getD (10 + pp) 0 ^^^ bb))).length : Nat) : Int), .slice A58 ((deR (enL ls)).length) cq59, .int .i64 (((deR (enL ls)).length : Nat) : Int), .bool false, .bool false, .int .i64 ((jc : Nat) : Int), .slice A58 ((deR (enL ls)).length) cq59, .int .i64 (((deR (enL ls)).length : Nat) : Int), .bool true, (u130 125), (u130 126), .slice A117 ((deR ((enL ls).set (10 + pp) ((enL ls).getD (10 + pp) 0 ^^^ bb))).length) cq118, .int .i64 ((jc : Nat) : Int), .pointer (some ⟨b138, o139 + jc * 1, none⟩), .slice (As110 jc) (((deR ((enL ls).set (10 + pp) ((enL ls).getD (10 + pp) 0 ^^^ bb))).getD jc []).length) (cs111 jc), .int .i64 ((((deR ((enL ls).set (10 + pp) ((enL ls).getD (10 + pp) 0 ^^^ bb))).getD jc []).length : Nat) : Int), .slice A58 ((deR (enL ls)).length) cq59, .int .i64 ((jc : Nat) : Int), .pointer (some ⟨b141, o142 + jc * 1, none⟩), .slice (As51 jc) (((deR (enL ls)).getD jc []).length) (cs52 jc), .int .i64 ((((deR (enL ls)).getD jc []).length : Nat) : Int), .bool false, .int .i64 ((i : Nat) : Int), .slice A58 ((deR (enL ls)).length) cq59, .int .i64 ((jc : Nat) : Int), .pointer (some ⟨b152, o153 + jc * 1, none⟩), .slice (As51 jc) (((deR (enL ls)).getD jc []).length) (cs52 jc), .int .i64 ((((deR (enL ls)).getD jc []).length : Nat) : Int), .bool true, (u147 145), (u147 146), .slice A58 ((deR (enL ls)).length) cq59, .int .i64 ((jc : Nat) : Int), .pointer (some ⟨b157, o158 + jc * 1, none⟩), .slice (As51 jc) (((deR (enL ls)).getD jc []).length) (cs52 jc), .int .i64 ((i : Nat) : Int), .pointer (some ⟨b160, o161 + i * 1, none⟩), .int .i16 (((deR (enL ls)).getD jc []).getD i 0), (u147 154), (u147 155), (u147 156), (u147 157), (u147 158), (u147 159), (u147 160), (u147 161), (u147 162), (u147 163), (u147 164), (u147 165), (u147 166), (u147 167), (u147 168), undef], []⟩) (by kernel_rfl) ?_
                refine wp_seq_k (fun K163 hK163 => ?_)
                refine wp_seq_k (fun K164 hK164 => ?_)
                refine wl_region ?_
                refine st_val (.int .i64 ((i : Nat) : Int)) (by kernel_rfl) (by kernel_rfl) ?_
                refine st_val (.int .i64 ((i / 32 : Nat) : Int)) (by kernel_rfl) (int_of (show ((i : Nat) : Int) / 32 = ((i / 32 : Nat) : Int) by omega) (int_of (quo_of ((i : Nat) : Int) 32 (by omega) (by omega) (by omega)) (by kernel_rfl))) ?_
                refine st_val (.int .i64 ((pp : Nat) : Int)) (by kernel_rfl) (by kernel_rfl) ?_
                refine st_val (.int .i64 ((292 * ls.length / 8 + 5 : Nat) : Int)) (by kernel_rfl) (by kernel_rfl) ?_
                refine st_val (.int .i64 ((pp / (292 * ls.length / 8 + 5) : Nat) : Int)) (by kernel_rfl) (run_value_bin .quo 3 3 (.tmp 156) (.tmp 157) rfl (.int .i64 ((pp : Nat) : Int)) (.int .i64 ((292 * ls.length / 8 + 5 : Nat) : Int)) _ (by kernel_rfl) (by kernel_rfl) (by kernel_rfl) (bin_quoN (by omega) (by omega))) ?_
                rcases Decidable.em ((((i / 32 : Nat) : Int) : Int) = ((pp / (292 * ls.length / 8 + 5) : Nat) : Int)) with c159 | c159
                ·
                  refine st_val (.bool true) (by kernel_rfl) (bool_of (dec_t c159) (by kernel_rfl)) ?_
                  refine wl_nil ?_
                  refine hK164 _ _ ?_
                  try clear hK164 K164
                  refine wp_cond_true (by kernel_rfl) ?_
                  refine wl_region ?_
                  refine st_val (.int .i16 0) (by kernel_rfl) (by kernel_rfl) ?_
                  refine wl_nil ?_
                  refine hK163 _ _ ?_
                  try clear hK163 K163
                  refine wp_seq_k (fun K165 hK165 => ?_)
                  refine wl_region ?_
                  refine st_val (.slice A117 ((deR ((enL ls).set (10 + pp) ((enL ls).getD (10 + pp) 0 ^^^ bb))).length) cq118) (by kernel_rfl) (by kernel_rfl) ?_
                  refine st_val (.int .i64 ((jc : Nat) : Int)) (by kernel_rfl) (by kernel_rfl) ?_
                  obtain ⟨b166, o167, eA168⟩ := RdK.addr ((rdP_of O114 OI115 (fun p hp => M149.at_ p ((List.mem_cons_of_mem _ (List.mem_append_left _ (by rw [eT116]; exact List.mem_append_left _ hp))))) (fun p hp => M149.at_ p ((List.mem_cons_of_mem _ (List.mem_append_left _ (by rw [eT116]; exact List.mem_append_right _ hp)))))).rd) (j := jc * 1) (by rw [pvs_length]; omega)
                  refine st_val (.pointer (some ⟨b166, o167 + jc * 1, none⟩)) (by kernel_rfl) (run_indexSliceA 28 (.tmp 160) (.tmp 161) rfl A117 ⟨b166, o167, none⟩ eA168 ((deR ((enL ls).set (10 + pp) ((enL ls).getD (10 + pp) 0 ^^^ bb))).length) cq118 .i64 jc (by kernel_rfl) (by kernel_rfl) Try.underlying28 1 (by kernel_rfl) (by omega) ⟨b166, o167 + jc * 1, none⟩ (addr_atK _ _ _ _)) ?_
                  refine st_val (.slice (As110 jc) (((deR ((enL ls).set (10 + pp) ((enL ls).getD (10 + pp) 0 ^^^ bb))).getD jc []).length) (cs111 jc)) (by kernel_rfl) (run_load_cell 39 (.tmp 162) rfl ⟨b166, o167 + jc * 1, none⟩ (by kernel_rfl) _ (((rdP_of O114 OI115 (fun p hp => M149.at_ p ((List.mem_cons_of_mem _ (List.mem_append_left _ (by rw [eT116]; exact List.mem_append_left _ hp))))) (fun p hp => M149.at_ p ((List.mem_cons_of_mem _ (List.mem_append_left _ (by rw [eT116]; exact List.mem_append_right _ hp)))))).rd).cellF eA168 (f := 0) (pvs_get (deR ((enL ls).set (10 + pp) ((enL ls).getD (10 + pp) 0 ^^^ bb))) As110 cs111 jc (by omega))) (by kernel_rfl)) ?_
                  refine st_val (.int .i64 ((i : Nat) : Int)) (by kernel_rfl) (by kernel_rfl) ?_
                  obtain ⟨b169, o170, eA171⟩ := RdK.addr (((rdP_of O114 OI115 (fun p hp => M149.at_ p ((List.mem_cons_of_mem _ (List.mem_append_left _ (by rw [eT116]; exact List.mem_append_left _ hp))))) (fun p hp => M149.at_ p ((List.mem_cons_of_mem _ (List.mem_append_left _ (by rw [eT116]; exact List.mem_append_right _ hp)))))).ch jc (by omega) (by omega))) (j := i * 1) (by rw [i16s_length]; omega)
                  refine st_val (.pointer (some ⟨b169, o170 + i * 1, none⟩)) (by kernel_rfl) (run_indexSliceA 39 (.tmp 163) (.tmp 164) rfl (As110 jc) ⟨b169, o170, none⟩ eA171 (((deR ((enL ls).set (10 + pp) ((enL ls).getD (10 + pp) 0 ^^^ bb))).getD jc []).length) (cs111 jc) .i64 i (by kernel_rfl) (by kernel_rfl) Try.underlying39 1 (by kernel_rfl) (by omega) ⟨b169, o170 + i * 1, none⟩ (addr_atK _ _ _ _)) ?_
                  refine st_val (.int .i16 (((deR ((enL ls).set (10 + pp) ((enL ls).getD (10 + pp) 0 ^^^ bb))).getD jc []).getD i 0)) (by kernel_rfl) (run_load_cell 45 (.tmp 165) rfl ⟨b169, o170 + i * 1, none⟩ (by kernel_rfl) _ ((((rdP_of O114 OI115 (fun p hp => M149.at_ p ((List.mem_cons_of_mem _ (List.mem_append_left _ (by rw [eT116]; exact List.mem_append_left _ hp))))) (fun p hp => M149.at_ p ((List.mem_cons_of_mem _ (List.mem_append_left _ (by rw [eT116]; exact List.mem_append_right _ hp)))))).ch jc (by omega) (by omega))).cellF eA171 (f := 0) (i16s_get ((deR ((enL ls).set (10 + pp) ((enL ls).getD (10 + pp) 0 ^^^ bb))).getD jc []) i (by omega))) (by kernel_rfl)) ?_
                  refine st_val (.int .i16 0) (by kernel_rfl) (by kernel_rfl) ?_
                  refine st_val (.bool false) (by kernel_rfl) (bool_of (neq_f (show (((deR ((enL ls).set (10 + pp) ((enL ls).getD (10 + pp) 0 ^^^ bb))).getD jc []).getD i 0 : Int) = 0 from (by rw [hdf jc i (by omega) (by omega), if_pos (Int.ofNat_inj.1 c159)]))) (by kernel_rfl)) ?_
                  refine wl_nil ?_
                  refine hK165 _ _ ?_
                  try clear hK165 K165
                  refine wp_frame (a' := ⟨#[.slice A ls.length c, .int .i64 ((nn : Nat) : Int), .int .u8 ((bb : Nat) : Int), undef, undef, undef, (u147 6), .slice A30 m27 cq31, .int .i64 (enE ls), .slice A58 ((deR (enL ls)).length) cq59, .slice A48 m43 cq49, .int .i64 (deE (enL ls)), .int .i64 ((292 * ls.length / 8 + 5 : Nat) : Int), .int .i64 ((pp : Nat) : Int), .slice A78 m27 cq79, .slice A117 ((deR ((enL ls).set (10 + pp) ((enL ls).getD (10 + pp) 0 ^^^ bb))).length) cq118, .slice A107 m102 cq108, .int .i64 (deE ((enL ls).set (10 + pp) ((enL ls).getD (10 + pp) 0 ^^^ bb))), .int .i64 ((jc : Nat) : Int), .int .i64 ((i : Nat) : Int), .int .i16 0, .slice A ls.length c, .bool true, .bool false, .bool false, .slice A ls.length c, .bool true, .bool false, .bool false, .bool false, .slice A ls.length c, .pointer (some ⟨b8, o9 + 0 * 1, none⟩), .slice (As 0) ((ls.getD 0 []).length) (cs 0), .int .i64 (((ls.getD 0 []).length : Nat) : Int), .bool false, .bool false, .bool false, .int .i64 ((nn : Nat) : Int), .bool false, .bool false, .bool false, .int .u8 ((bb : Nat) : Int), .bool false, .bool false, undef, .tuple #[.slice A30 m27 cq31, .int .i64 (enE ls)], .slice A ls.length c, .tuple #[.slice A30 m27 cq31, .int .i64 (enE ls)], .slice A30 m27 cq31, .int .i64 (enE ls), .tuple #[.slice A58 ((deR (enL ls)).length) cq59, .slice A48 m43 cq49, .int .i64 (deE (enL ls))], .slice A30 m27 cq31, .tuple #[.slice A58 ((deR (enL ls)).length) cq59, .slice A48 m43 cq49, .int .i64 (deE (enL ls))], .slice A58 ((deR (enL ls)).length) cq59, .slice A48 m43 cq49, .int .i64 (deE (enL ls)), .slice A ls.length c, .int .i64 ((ls.length : Nat) : Int), .int .i64 ((292 * ls.length / 8 + 5 : Nat) : Int), .int .i64 (enE ls), .bool false, .bool false, .int .i64 (deE (enL ls)), .bool false, .bool false, .bool false, .int .i64 ((292 * ls.length / 8 + 5 : Nat) : Int), .bool false, .bool false, .bool false, .slice A30 m27 cq31, .int .i64 ((m27 : Nat) : Int), .bool false, .bool false, .bool false, .slice A58 ((deR (enL ls)).length) cq59, .int .i64 (((deR (enL ls)).length : Nat) : Int), .slice A ls.length c, .int .i64 ((ls.length : Nat) : Int), .bool false, .bool false, .int .i64 ((nn : Nat) : Int), .slice A30 m27 cq31, .int .i64 ((m27 : Nat) : Int), .int .i64 ((m27 - 10 : Nat) : Int), .int .i64 ((nn % (m27 - 10) : Nat) : Int), .slice (some ⟨g69, 0, none⟩) 0 0, .slice A30 m27 cq31, .slice A78 m27 cq79, .slice A78 m27 cq79, .int .i64 ((pp : Nat) : Int), .int .i64 ((10 + pp : Nat) : Int), .pointer (some ⟨b82, o83 + (10 + pp) * 1, none⟩), .int .u8 (((enL ls).getD (10 + pp) 0 : Nat) : Int), .int .u8 ((bb : Nat) : Int), .int .u8 (((enL ls).getD (10 + pp) 0 ^^^ bb : Nat) : Int), .pointer (some ⟨b85, o86 + (10 + pp) * 1, none⟩), .tuple #[.slice A117 ((deR ((enL ls).set (10 + pp) ((enL ls).getD (10 + pp) 0 ^^^ bb))).length) cq118, .slice A107 m102 cq108, .int .i64 (deE ((enL ls).set (10 + pp) ((enL ls).getD (10 + pp) 0 ^^^ bb)))], .slice A78 m27 cq79, .tuple #[.slice A117 ((deR ((enL ls).set (10 + pp) ((enL ls).getD (10 + pp) 0 ^^^ bb))).length) cq118, .slice A107 m102 cq108, .int .i64 (deE ((enL ls).set (10 + pp) ((enL ls).getD (10 + pp) 0 ^^^ bb)))], .slice A117 ((deR ((enL ls).set (10 + pp) ((enL ls).getD (10 + pp) 0 ^^^ bb))).length) cq118, .slice A107 m102 cq108, .int .i64 (deE ((enL ls).set (10 + pp) ((enL ls).getD (10 + pp) 0 ^^^ bb))), .int .i64 (deE ((enL ls).set (10 + pp) ((enL ls).getD (10 + pp) 0 ^^^ bb))), .bool false, .bool false, .slice A107 m102 cq108, .int .i64 ((pp : Nat) : Int), .int .i64 ((292 * ls.length / 8 + 5 : Nat) : Int), .int .i64 ((pp / (292 * ls.length / 8 + 5) : Nat) : Int), .slice (some ⟨g123, 0, none⟩) 1 1, .bool true, .bool false, .bool false, .bool false, .slice A117 ((deR ((enL ls).set (10 + pp) ((enL ls).getD (10 + pp) 0 ^^^ bb))).length) cq118, .int .i64 (((deR ((enL ls).set (10 + pp) ((enL ls).getD (10 + pp) 0 ^^^ bb))).length : Nat) : Int), .slice A58 ((deR (enL ls)).length) cq59, .int .i64 (((deR (enL ls)).length : Nat) : Int), .bool false, .bool false, .int .i64 ((jc : Nat) : Int), .slice A58 ((deR (enL ls)).length) cq59, .int .i64 (((deR (enL ls)).length : Nat) : Int), .bool true, (u130 125), (u130 126), .slice A117 ((deR ((enL ls).set (10 + pp) ((enL ls).getD (10 + pp) 0 ^^^ bb))).length) cq118, .int .i64 ((jc : Nat) : Int), .pointer (some ⟨b138, o139 + jc * 1, none⟩), .slice (As110 jc) (((deR ((enL ls).set (10 + pp) ((enL ls).getD (10 + pp) 0 ^^^ bb))).getD jc []).length) (cs111 jc), .int .i64 ((((deR ((enL ls).set (10 + pp) ((enL ls).getD (10 + pp) 0 ^^^ bb))).getD jc []).length : Nat) : Int), .slice A58 ((deR (enL ls)).length) cq59, .int .i64 ((jc : Nat) : Int), .pointer (some ⟨b141, o142 + jc * 1, none⟩), .slice (As51 jc) (((deR (enL ls)).getD jc []).length) (cs52 jc), .int .i64 ((((deR (enL ls)).getD jc []).length : Nat) : Int), .bool false, .int .i64 ((i : Nat) : Int), .slice A58 ((deR (enL ls)).length) cq59, .int .i64 ((jc : Nat) : Int), .pointer (some ⟨b152, o153 + jc * 1, none⟩), .slice (As51 jc) (((deR (enL ls)).getD jc []).length) (cs52 jc), .int .i64 ((((deR (enL ls)).getD jc []).length : Nat) : Int), .bool true, (u147 145), (u147 146), .slice A58 ((deR (enL ls)).length) cq59, .int .i64 ((jc : Nat) : Int), .pointer (some ⟨b157, o158 + jc * 1, none⟩), .slice (As51 jc) (((deR (enL ls)).getD jc []).length) (cs52 jc), .int .i64 ((i : Nat) : Int), .pointer (some ⟨b160, o161 + i * 1, none⟩), .int .i16 (((deR (enL ls)).getD jc []).getD i 0), .int .i64 ((i : Nat) : Int), .int .i64 ((i / 32 : Nat) : Int), .int .i64 ((pp : Nat) : Int), .int .i64 ((292 * ls.length / 8 + 5 : Nat) : Int), .int .i64 ((pp / (292 * ls.length / 8 + 5) : Nat) : Int), .bool true, .slice A117 ((deR ((enL ls).set (10 + pp) ((enL ls).getD (10 + pp) 0 ^^^ bb))).length) cq118, .int .i64 ((jc : Nat) : Int), .pointer (some ⟨b166, o167 + jc * 1, none⟩), .slice (As110 jc) (((deR ((enL ls).set (10 + pp) ((enL ls).getD (10 + pp) 0 ^^^ bb))).getD jc []).length) (cs111 jc), .int .i64 ((i : Nat) : Int), .pointer (some ⟨b169, o170 + i * 1, none⟩), .int .i16 (((deR ((enL ls).set (10 + pp) ((enL ls).getD (10 + pp) 0 ^^^ bb))).getD jc []).getD i 0), .int .i16 0, .bool false, undef], []⟩) (by kernel_rfl) ?_
                  refine wp_cond_false (by kernel_rfl) ?_
                  refine wp_skip ?_
                  refine blk_normal ?_
                  refine hK155 _ _ ?_
                  try clear hK155 K155
                  refine wl_region ?_
                  refine st_val (.int .i64 ((i : Nat) : Int)) (by kernel_rfl) (by kernel_rfl) ?_
                  refine st_val (.int .i64 (((i : Nat) : Int) + 1)) (by kernel_rfl) (i64_of (by omega) (by kernel_rfl)) ?_
                  refine st_val (.int .i64 (((i : Nat) : Int) + 1)) (by kernel_rfl) (by kernel_rfl) ?_
                  refine wl_nil ?_
                  refine th_normal ?_
                  exact ⟨_, by omega, (i + 1), (fun zz => Array.getD #[undef, undef, undef, undef, undef, undef, (u147 6), undef, undef, undef, undef, undef, undef, undef, undef, undef, undef, undef, undef, undef, .int .i16 0, undef, undef, undef, undef, undef, undef, undef, undef, undef, undef, undef, undef, undef, undef, undef, undef, undef, undef, undef, undef, undef, undef, undef, undef, undef, undef, undef, undef, undef, undef, undef, undef, undef, undef, undef, undef, undef, undef, undef, undef, undef, undef, undef, undef, undef, undef, undef, undef, undef, undef, undef, undef, undef, undef, undef, undef, undef, undef, undef, undef, undef, undef, undef, undef, undef, undef, undef, undef, undef, undef, undef, undef, undef, undef, undef, undef, undef, undef, undef, undef, undef, undef, undef, undef, undef, undef, undef, undef, undef, undef, undef, undef, undef, undef, undef, undef, undef, undef, undef, undef, undef, undef, undef, undef, undef, undef, undef, undef, undef, undef, undef, undef, undef, undef, undef, undef, undef, .int .i64 ((i : Nat) : Int), .slice A58 ((deR (enL ls)).length) cq59, .int .i64 ((jc : Nat) : Int), .pointer (some ⟨b152, o153 + jc * 1, none⟩), .slice (As51 jc) (((deR (enL ls)).getD jc []).length) (cs52 jc), .int .i64 ((((deR (enL ls)).getD jc []).length : Nat) : Int), .bool true, .int .i64 ((i : Nat) : Int), .int .i64 (((i : Nat) : Int) + 1), .slice A58 ((deR (enL ls)).length) cq59, .int .i64 ((jc : Nat) : Int), .pointer (some ⟨b157, o158 + jc * 1, none⟩), .slice (As51 jc) (((deR (enL ls)).getD jc []).length) (cs52 jc), .int .i64 ((i : Nat) : Int), .pointer (some ⟨b160, o161 + i * 1, none⟩), .int .i16 (((deR (enL ls)).getD jc []).getD i 0), .int .i64 ((i : Nat) : Int), .int .i64 ((i / 32 : Nat) : Int), .int .i64 ((pp : Nat) : Int), .int .i64 ((292 * ls.length / 8 + 5 : Nat) : Int), .int .i64 ((pp / (292 * ls.length / 8 + 5) : Nat) : Int), .bool true, .slice A117 ((deR ((enL ls).set (10 + pp) ((enL ls).getD (10 + pp) 0 ^^^ bb))).length) cq118, .int .i64 ((jc : Nat) : Int), .pointer (some ⟨b166, o167 + jc * 1, none⟩), .slice (As110 jc) (((deR ((enL ls).set (10 + pp) ((enL ls).getD (10 + pp) 0 ^^^ bb))).getD jc []).length) (cs111 jc), .int .i64 ((i : Nat) : Int), .pointer (some ⟨b169, o170 + i * 1, none⟩), .int .i16 (((deR ((enL ls).set (10 + pp) ((enL ls).getD (10 + pp) 0 ^^^ bb))).getD jc []).getD i 0), .int .i16 0, .bool false] zz undef), ⟨by omega, M149⟩, rfl, (by kernel_rfl)⟩
                ·
                  refine st_val (.bool false) (by kernel_rfl) (bool_of (dec_f c159) (by kernel_rfl)) ?_
                  refine wl_nil ?_
                  refine hK164 _ _ ?_
                  try clear hK164 K164
                  refine wp_cond_false (by kernel_rfl) ?_
                  refine wp_skip ?_
                  refine hK163 _ _ ?_
                  try clear hK163 K163
                  refine wp_seq_k (fun K172 hK172 => ?_)
                  refine wl_region ?_
                  refine st_val (.slice A117 ((deR ((enL ls).set (10 + pp) ((enL ls).getD (10 + pp) 0 ^^^ bb))).length) cq118) (by kernel_rfl) (by kernel_rfl) ?_
                  refine st_val (.int .i64 ((jc : Nat) : Int)) (by kernel_rfl) (by kernel_rfl) ?_
                  obtain ⟨b173, o174, eA175⟩ := RdK.addr ((rdP_of O114 OI115 (fun p hp => M149.at_ p ((List.mem_cons_of_mem _ (List.mem_append_left _ (by rw [eT116]; exact List.mem_append_left _ hp))))) (fun p hp => M149.at_ p ((List.mem_cons_of_mem _ (List.mem_append_left _ (by rw [eT116]; exact List.mem_append_right _ hp)))))).rd) (j := jc * 1) (by rw [pvs_length]; omega)
                  refine st_val (.pointer (some ⟨b173, o174 + jc * 1, none⟩)) (by kernel_rfl) (run_indexSliceA 28 (.tmp 160) (.tmp 161) rfl A117 ⟨b173, o174, none⟩ eA175 ((deR ((enL ls).set (10 + pp) ((enL ls).getD (10 + pp) 0 ^^^ bb))).length) cq118 .i64 jc (by kernel_rfl) (by kernel_rfl) Try.underlying28 1 (by kernel_rfl) (by omega) ⟨b173, o174 + jc * 1, none⟩ (addr_atK _ _ _ _)) ?_
                  refine st_val (.slice (As110 jc) (((deR ((enL ls).set (10 + pp) ((enL ls).getD (10 + pp) 0 ^^^ bb))).getD jc []).length) (cs111 jc)) (by kernel_rfl) (run_load_cell 39 (.tmp 162) rfl ⟨b173, o174 + jc * 1, none⟩ (by kernel_rfl) _ (((rdP_of O114 OI115 (fun p hp => M149.at_ p ((List.mem_cons_of_mem _ (List.mem_append_left _ (by rw [eT116]; exact List.mem_append_left _ hp))))) (fun p hp => M149.at_ p ((List.mem_cons_of_mem _ (List.mem_append_left _ (by rw [eT116]; exact List.mem_append_right _ hp)))))).rd).cellF eA175 (f := 0) (pvs_get (deR ((enL ls).set (10 + pp) ((enL ls).getD (10 + pp) 0 ^^^ bb))) As110 cs111 jc (by omega))) (by kernel_rfl)) ?_
                  refine st_val (.int .i64 ((i : Nat) : Int)) (by kernel_rfl) (by kernel_rfl) ?_
                  obtain ⟨b176, o177, eA178⟩ := RdK.addr (((rdP_of O114 OI115 (fun p hp => M149.at_ p ((List.mem_cons_of_mem _ (List.mem_append_left _ (by rw [eT116]; exact List.mem_append_left _ hp))))) (fun p hp => M149.at_ p ((List.mem_cons_of_mem _ (List.mem_append_left _ (by rw [eT116]; exact List.mem_append_right _ hp)))))).ch jc (by omega) (by omega))) (j := i * 1) (by rw [i16s_length]; omega)
                  refine st_val (.pointer (some ⟨b176, o177 + i * 1, none⟩)) (by kernel_rfl) (run_indexSliceA 39 (.tmp 163) (.tmp 164) rfl (As110 jc) ⟨b176, o177, none⟩ eA178 (((deR ((enL ls).set (10 + pp) ((enL ls).getD (10 + pp) 0 ^^^ bb))).getD jc []).length) (cs111 jc) .i64 i (by kernel_rfl) (by kernel_rfl) Try.underlying39 1 (by kernel_rfl) (by omega) ⟨b176, o177 + i * 1, none⟩ (addr_atK _ _ _ _)) ?_
                  refine st_val (.int .i16 (((deR ((enL ls).set (10 + pp) ((enL ls).getD (10 + pp) 0 ^^^ bb))).getD jc []).getD i 0)) (by kernel_rfl) (run_load_cell 45 (.tmp 165) rfl ⟨b176, o177 + i * 1, none⟩ (by kernel_rfl) _ ((((rdP_of O114 OI115 (fun p hp => M149.at_ p ((List.mem_cons_of_mem _ (List.mem_append_left _ (by rw [eT116]; exact List.mem_append_left _ hp))))) (fun p hp => M149.at_ p ((List.mem_cons_of_mem _ (List.mem_append_left _ (by rw [eT116]; exact List.mem_append_right _ hp)))))).ch jc (by omega) (by omega))).cellF eA178 (f := 0) (i16s_get ((deR ((enL ls).set (10 + pp) ((enL ls).getD (10 + pp) 0 ^^^ bb))).getD jc []) i (by omega))) (by kernel_rfl)) ?_
                  refine st_val (.int .i16 (((deR (enL ls)).getD jc []).getD i 0)) (by kernel_rfl) (by kernel_rfl) ?_
                  refine st_val (.bool false) (by kernel_rfl) (bool_of (neq_f (show (((deR ((enL ls).set (10 + pp) ((enL ls).getD (10 + pp) 0 ^^^ bb))).getD jc []).getD i 0 : Int) = ((deR (enL ls)).getD jc []).getD i 0 from (by rw [hdf jc i (by omega) (by omega), if_neg (fun h => c159 (congrArg Int.ofNat h))]))) (by kernel_rfl)) ?_
                  refine wl_nil ?_
                  refine hK172 _ _ ?_
                  try clear hK172 K172
                  refine wp_frame (a' := ⟨#[.slice A ls.length c, .int .i64 ((nn : Nat) : Int), .int .u8 ((bb : Nat) : Int), undef, undef, undef, (u147 6), .slice A30 m27 cq31, .int .i64 (enE ls), .slice A58 ((deR (enL ls)).length) cq59, .slice A48 m43 cq49, .int .i64 (deE (enL ls)), .int .i64 ((292 * ls.length / 8 + 5 : Nat) : Int), .int .i64 ((pp : Nat) : Int), .slice A78 m27 cq79, .slice A117 ((deR ((enL ls).set (10 + pp) ((enL ls).getD (10 + pp) 0 ^^^ bb))).length) cq118, .slice A107 m102 cq108, .int .i64 (deE ((enL ls).set (10 + pp) ((enL ls).getD (10 + pp) 0 ^^^ bb))), .int .i64 ((jc : Nat) : Int), .int .i64 ((i : Nat) : Int), .int .i16 (((deR (enL ls)).getD jc []).getD i 0), .slice A ls.length c, .bool true, .bool false, .bool false, .slice A ls.length c, .bool true, .bool false, .bool false, .bool false, .slice A ls.length c, .pointer (some ⟨b8, o9 + 0 * 1, none⟩), .slice (As 0) ((ls.getD 0 []).length) (cs 0), .int .i64 (((ls.getD 0 []).length : Nat) : Int), .bool false, .bool false, .bool false, .int .i64 ((nn : Nat) : Int), .bool false, .bool false, .bool false, .int .u8 ((bb : Nat) : Int), .bool false, .bool false, undef, .tuple #[.slice A30 m27 cq31, .int .i64 (enE ls)], .slice A ls.length c, .tuple #[.slice A30 m27 cq31, .int .i64 (enE ls)], .slice A30 m27 cq31, .int .i64 (enE ls), .tuple #[.slice A58 ((deR (enL ls)).length) cq59, .slice A48 m43 cq49, .int .i64 (deE (enL ls))], .slice A30 m27 cq31, .tuple #[.slice A58 ((deR (enL ls)).length) cq59, .slice A48 m43 cq49, .int .i64 (deE (enL ls))], .slice A58 ((deR (enL ls)).length) cq59, .slice A48 m43 cq49, .int .i64 (deE (enL ls)), .slice A ls.length c, .int .i64 ((ls.length : Nat) : Int), .int .i64 ((292 * ls.length / 8 + 5 : Nat) : Int), .int .i64 (enE ls), .bool false, .bool false, .int .i64 (deE (enL ls)), .bool false, .bool false, .bool false, .int .i64 ((292 * ls.length / 8 + 5 : Nat) : Int), .bool false, .bool false, .bool false, .slice A30 m27 cq31, .int .i64 ((m27 : Nat) : Int), .bool false, .bool false, .bool false, .slice A58 ((deR (enL ls)).length) cq59, .int .i64 (((deR (enL ls)).length : Nat) : Int), .slice A ls.length c, .int .i64 ((ls.length : Nat) : Int), .bool false, .bool false, .int .i64 ((nn : Nat) : Int), .slice A30 m27 cq31, .int .i64 ((m27 : Nat) : Int), .int .i64 ((m27 - 10 : Nat) : Int), .int .i64 ((nn % (m27 - 10) : Nat) : Int), .slice (some ⟨g69, 0, none⟩) 0 0, .slice A30 m27 cq31, .slice A78 m27 cq79, .slice A78 m27 cq79, .int .i64 ((pp : Nat) : Int), .int .i64 ((10 + pp : Nat) : Int), .pointer (some ⟨b82, o83 + (10 + pp) * 1, none⟩), .int .u8 (((enL ls).getD (10 + pp) 0 : Nat) : Int), .int .u8 ((bb : Nat) : Int), .int .u8 (((enL ls).getD (10 + pp) 0 ^^^ bb : Nat) : Int), .pointer (some ⟨b85, o86 + (10 + pp) * 1, none⟩), .tuple #[.slice A117 ((deR ((enL ls).set (10 + pp) ((enL ls).getD (10 + pp) 0 ^^^ bb))).length) cq118, .slice A107 m102 cq108, .int .i64 (deE ((enL ls).set (10 + pp) ((enL ls).getD (10 + pp) 0 ^^^ bb)))], .slice A78 m27 cq79, .tuple #[.slice A117 ((deR ((enL ls).set (10 + pp) ((enL ls).getD (10 + pp) 0 ^^^ bb))).length) cq118, .slice A107 m102 cq108, .int .i64 (deE ((enL ls).set (10 + pp) ((enL ls).getD (10 + pp) 0 ^^^ bb)))], .slice A117 ((deR ((enL ls).set (10 + pp) ((enL ls).getD (10 + pp) 0 ^^^ bb))).length) cq118, .slice A107 m102 cq108, .int .i64 (deE ((enL ls).set (10 + pp) ((enL ls).getD (10 + pp) 0 ^^^ bb))), .int .i64 (deE ((enL ls).set (10 + pp) ((enL ls).getD (10 + pp) 0 ^^^ bb))), .bool false, .bool false, .slice A107 m102 cq108, .int .i64 ((pp : Nat) : Int), .int .i64 ((292 * ls.length / 8 + 5 : Nat) : Int), .int .i64 ((pp / (292 * ls.length / 8 + 5) : Nat) : Int), .slice (some ⟨g123, 0, none⟩) 1 1, .bool true, .bool false, .bool false, .bool false, .slice A117 ((deR ((enL ls).set (10 + pp) ((enL ls).getD (10 + pp) 0 ^^^ bb))).length) cq118, .int .i64 (((deR ((enL ls).set (10 + pp) ((enL ls).getD (10 + pp) 0 ^^^ bb))).length : Nat) : Int), .slice A58 ((deR (enL ls)).length) cq59, .int .i64 (((deR (enL ls)).length : Nat) : Int), .bool false, .bool false, .int .i64 ((jc : Nat) : Int), .slice A58 ((deR (enL ls)).length) cq59, .int .i64 (((deR (enL ls)).length : Nat) : Int), .bool true, (u130 125), (u130 126), .slice A117 ((deR ((enL ls).set (10 + pp) ((enL ls).getD (10 + pp) 0 ^^^ bb))).length) cq118, .int .i64 ((jc : Nat) : Int), .pointer (some ⟨b138, o139 + jc * 1, none⟩), .slice (As110 jc) (((deR ((enL ls).set (10 + pp) ((enL ls).getD (10 + pp) 0 ^^^ bb))).getD jc []).length) (cs111 jc), .int .i64 ((((deR ((enL ls).set (10 + pp) ((enL ls).getD (10 + pp) 0 ^^^ bb))).getD jc []).length : Nat) : Int), .slice A58 ((deR (enL ls)).length) cq59, .int .i64 ((jc : Nat) : Int), .pointer (some ⟨b141, o142 + jc * 1, none⟩), .slice (As51 jc) (((deR (enL ls)).getD jc []).length) (cs52 jc), .int .i64 ((((deR (enL ls)).getD jc []).length : Nat) : Int), .bool false, .int .i64 ((i : Nat) : Int), .slice A58 ((deR (enL ls)).length) cq59, .int .i64 ((jc : Nat) : Int), .pointer (some ⟨b152, o153 + jc * 1, none⟩), .slice (As51 jc) (((deR (enL ls)).getD jc []).length) (cs52 jc), .int .i64 ((((deR (enL ls)).getD jc []).length : Nat) : Int), .bool true, (u147 145), (u147 146), .slice A58 ((deR (enL ls)).length) cq59, .int .i64 ((jc : Nat) : Int), .pointer (some ⟨b157, o158 + jc * 1, none⟩), .slice (As51 jc) (((deR (enL ls)).getD jc []).length) (cs52 jc), .int .i64 ((i : Nat) : Int), .pointer (some ⟨b160, o161 + i * 1, none⟩), .int .i16 (((deR (enL ls)).getD jc []).getD i 0), .int .i64 ((i : Nat) : Int), .int .i64 ((i / 32 : Nat) : Int), .int .i64 ((pp : Nat) : Int), .int .i64 ((292 * ls.length / 8 + 5 : Nat) : Int), .int .i64 ((pp / (292 * ls.length / 8 + 5) : Nat) : Int), .bool false, .slice A117 ((deR ((enL ls).set (10 + pp) ((enL ls).getD (10 + pp) 0 ^^^ bb))).length) cq118, .int .i64 ((jc : Nat) : Int), .pointer (some ⟨b173, o174 + jc * 1, none⟩), .slice (As110 jc) (((deR ((enL ls).set (10 + pp) ((enL ls).getD (10 + pp) 0 ^^^ bb))).getD jc []).length) (cs111 jc), .int .i64 ((i : Nat) : Int), .pointer (some ⟨b176, o177 + i * 1, none⟩), .int .i16 (((deR ((enL ls).set (10 + pp) ((enL ls).getD (10 + pp) 0 ^^^ bb))).getD jc []).getD i 0), .int .i16 (((deR (enL ls)).getD jc []).getD i 0), .bool false, undef], []⟩) (by kernel_rfl) ?_
                  refine wp_cond_false (by kernel_rfl) ?_
                  refine wp_skip ?_
                  refine blk_normal ?_
                  refine hK155 _ _ ?_
                  try clear hK155 K155
                  refine wl_region ?_
                  refine st_val (.int .i64 ((i : Nat) : Int)) (by kernel_rfl) (by kernel_rfl) ?_
                  refine st_val (.int .i64 (((i : Nat) : Int) + 1)) (by kernel_rfl) (i64_of (by omega) (by kernel_rfl)) ?_
                  refine st_val (.int .i64 (((i : Nat) : Int) + 1)) (by kernel_rfl) (by kernel_rfl) ?_
                  refine wl_nil ?_
                  refine th_normal ?_
                  exact ⟨_, by omega, (i + 1), (fun zz => Array.getD #[undef, undef, undef, undef, undef, undef, (u147 6), undef, undef, undef, undef, undef, undef, undef, undef, undef, undef, undef, undef, undef, .int .i16 (((deR (enL ls)).getD jc []).getD i 0), undef, undef, undef, undef, undef, undef, undef, undef, undef, undef, undef, undef, undef, undef, undef, undef, undef, undef, undef, undef, undef, undef, undef, undef, undef, undef, undef, undef, undef, undef, undef, undef, undef, undef, undef, undef, undef, undef, undef, undef, undef, undef, undef, undef, undef, undef, undef, undef, undef, undef, undef, undef, undef, undef, undef, undef, undef, undef, undef, undef, undef, undef, undef, undef, undef, undef, undef, undef, undef, undef, undef, undef, undef, undef, undef, undef, undef, undef, undef, undef, undef, undef, undef, undef, undef, undef, undef, undef, undef, undef, undef, undef, undef, undef, undef, undef, undef, undef, undef, undef, undef, undef, undef, undef, undef, undef, undef, undef, undef, undef, undef, undef, undef, undef, undef, undef, undef, .int .i64 ((i : Nat) : Int), .slice A58 ((deR (enL ls)).length) cq59, .int .i64 ((jc : Nat) : Int), .pointer (some ⟨b152, o153 + jc * 1, none⟩), .slice (As51 jc) (((deR (enL ls)).getD jc []).length) (cs52 jc), .int .i64 ((((deR (enL ls)).getD jc []).length : Nat) : Int), .bool true, .int .i64 ((i : Nat) : Int), .int .i64 (((i : Nat) : Int) + 1), .slice A58 ((deR (enL ls)).length) cq59, .int .i64 ((jc : Nat) : Int), .pointer (some ⟨b157, o158 + jc * 1, none⟩), .slice (As51 jc) (((deR (enL ls)).getD jc []).length) (cs52 jc), .int .i64 ((i : Nat) : Int), .pointer (some ⟨b160, o161 + i * 1, none⟩), .int .i16 (((deR (enL ls)).getD jc []).getD i 0), .int .i64 ((i : Nat) : Int), .int .i64 ((i / 32 : Nat) : Int), .int .i64 ((pp : Nat) : Int), .int .i64 ((292 * ls.length / 8 + 5 : Nat) : Int), .int .i64 ((pp / (292 * ls.length / 8 + 5) : Nat) : Int), .bool false, .slice A117 ((deR ((enL ls).set (10 + pp) ((enL ls).getD (10 + pp) 0 ^^^ bb))).length) cq118, .int .i64 ((jc : Nat) : Int), .pointer (some ⟨b173, o174 + jc * 1, none⟩), .slice (As110 jc) (((deR ((enL ls).set (10 + pp) ((enL ls).getD (10 + pp) 0 ^^^ bb))).getD jc []).length) (cs111 jc), .int .i64 ((i : Nat) : Int), .pointer (some ⟨b176, o177 + i * 1, none⟩), .int .i16 (((deR ((enL ls).set (10 + pp) ((enL ls).getD (10 + pp) 0 ^^^ bb))).getD jc []).getD i 0), .int .i16 (((deR (enL ls)).getD jc []).getD i 0), .bool false] zz undef), ⟨by omega, M149⟩, rfl, (by kernel_rfl)⟩
              ·
                refine st_val (.bool false) (by kernel_rfl) (bool_of (dec_f c144) (by kernel_rfl)) ?_
                refine wl_nil ?_
                refine hK151 _ _ ?_
                try clear hK151 K151
                refine wp_cond_false (by kernel_rfl) ?_
                refine wp_exit ?_
                refine th_exit ?_
                refine th_exit ?_
                refine blk_exit ?_
                refine blk_normal ?_
                refine hK135 _ _ ?_
                try clear hK135 K135
                refine wl_region ?_
                refine st_val (.int .i64 ((jc : Nat) : Int)) (by kernel_rfl) (by kernel_rfl) ?_
                refine st_val (.int .i64 (((jc : Nat) : Int) + 1)) (by kernel_rfl) (i64_of (by omega) (by kernel_rfl)) ?_
                refine st_val (.int .i64 (((jc : Nat) : Int) + 1)) (by kernel_rfl) (by kernel_rfl) ?_
                refine wl_nil ?_
                refine th_normal ?_
                exact ⟨_, by omega, (jc + 1), (fun zz => Array.getD #[undef, undef, undef, undef, undef, undef, (u147 6), undef, undef, undef, undef, undef, undef, undef, undef, undef, undef, undef, undef, .int .i64 ((i : Nat) : Int), (u147 20), undef, undef, undef, undef, undef, undef, undef, undef, undef, undef, undef, undef, undef, undef, undef, undef, undef, undef, undef, undef, undef, undef, undef, undef, undef, undef, undef, undef, undef, undef, undef, undef, undef, undef, undef, undef, undef, undef, undef, undef, undef, undef, undef, undef, undef, undef, undef, undef, undef, undef, undef, undef, undef, undef, undef, undef, undef, undef, undef, undef, undef, undef, undef, undef, undef, undef, undef, undef, undef, undef, undef, undef, undef, undef, undef, undef, undef, undef, undef, undef, undef, undef, undef, undef, undef, undef, undef, undef, undef, undef, undef, undef, undef, undef, undef, undef, undef, undef, undef, undef, .int .i64 ((jc : Nat) : Int), .slice A58 ((deR (enL ls)).length) cq59, .int .i64 (((deR (enL ls)).length : Nat) : Int), .bool true, .int .i64 ((jc : Nat) : Int), .int .i64 (((jc : Nat) : Int) + 1), .slice A117 ((deR ((enL ls).set (10 + pp) ((enL ls).getD (10 + pp) 0 ^^^ bb))).length) cq118, .int .i64 ((jc : Nat) : Int), .pointer (some ⟨b138, o139 + jc * 1, none⟩), .slice (As110 jc) (((deR ((enL ls).set (10 + pp) ((enL ls).getD (10 + pp) 0 ^^^ bb))).getD jc []).length) (cs111 jc), .int .i64 ((((deR ((enL ls).set (10 + pp) ((enL ls).getD (10 + pp) 0 ^^^ bb))).getD jc []).length : Nat) : Int), .slice A58 ((deR (enL ls)).length) cq59, .int .i64 ((jc : Nat) : Int), .pointer (some ⟨b141, o142 + jc * 1, none⟩), .slice (As51 jc) (((deR (enL ls)).getD jc []).length) (cs52 jc), .int .i64 ((((deR (enL ls)).getD jc []).length : Nat) : Int), .bool false, .int .i64 ((i : Nat) : Int), .slice A58 ((deR (enL ls)).length) cq59, .int .i64 ((jc : Nat) : Int), .pointer (some ⟨b152, o153 + jc * 1, none⟩), .slice (As51 jc) (((deR (enL ls)).getD jc []).length) (cs52 jc), .int .i64 ((((deR (enL ls)).getD jc []).length : Nat) : Int), .bool false, (u147 145), (u147 146), (u147 147), (u147 148), (u147 149), (u147 150), (u147 151), (u147 152), (u147 153), (u147 154), (u147 155), (u147 156), (u147 157), (u147 158), (u147 159), (u147 160), (u147 161), (u147 162), (u147 163), (u147 164), (u147 165), (u147 166), (u147 167), (u147 168)] zz undef), ⟨by omega, M149⟩, rfl, (by kernel_rfl)⟩
            ·
              refine st_val (.bool false) (by kernel_rfl) (bool_of (dec_f c124) (by kernel_rfl)) ?_
              refine wl_nil ?_
              refine hK134 _ _ ?_
              try clear hK134 K134
              refine wp_cond_false (by kernel_rfl) ?_
              refine wp_exit ?_
              refine th_exit ?_
              refine th_exit ?_
              refine blk_exit ?_
              refine hK128 _ _ ?_
              try clear hK128 K128
              refine wp_seq_k (fun K179 hK179 => ?_)
              refine wl_region ?_
              refine st_callB M132 (.bool true) (by kernel_rfl) (args := #[]) (run_value_call 12 #[] _ rfl Try.func12 (by kernel_rfl) (by kernel_rfl) _ (by kernel_rfl)) (awake_walk W131) ?_
              intro W180 M181
              refine st_val (.bool true) (by kernel_rfl) (by kernel_rfl) ?_
              refine wl_nil ?_
              refine hK179 _ _ ?_
              try clear hK179 K179
              refine wp_ret ?_
              exact done1 6 (.bool true) (by kernel_rfl) (by kernel_rfl) (by kernel_rfl) ⟨rfl, M181.toBelow⟩
    ·
      have hpn := ppB_not hpp
      refine st_callB M5 (.bool false) (by kernel_rfl) (args := #[.slice A ls.length c]) (run_value_call 31 #[(Operand.tmp 25)] _ rfl Try.func31 (by kernel_rfl) (by kernel_rfl) _ (by kernel_rfl)) ((by have := refProper_walk W4 (.slice A ls.length c) ls As cs (hP.keep M5.keep (fun _ h => h)) (by omega); rw [hpp] at this; exact this)) ?_
      intro W182 M183
      refine st_val (.bool true) (by kernel_rfl) (by kernel_rfl) ?_
      refine st_val (.bool true) (by kernel_rfl) (by kernel_rfl) ?_
      refine st_val (.bool true) (by kernel_rfl) (by kernel_rfl) ?_
      refine st_skip (by kernel_rfl) ?_
      refine st_skip (by kernel_rfl) ?_
      refine st_skip (by kernel_rfl) ?_
      refine st_skip (by kernel_rfl) ?_
      refine st_skip (by kernel_rfl) ?_
      refine st_val (.bool true) (by kernel_rfl) (by kernel_rfl) ?_
      refine st_val (.bool true) (by kernel_rfl) (by kernel_rfl) ?_
      refine st_skip (by kernel_rfl) ?_
      refine st_skip (by kernel_rfl) ?_
      refine st_val (.bool true) (by kernel_rfl) (by kernel_rfl) ?_
      refine st_val (.bool true) (by kernel_rfl) (by kernel_rfl) ?_
      refine st_skip (by kernel_rfl) ?_
      refine st_skip (by kernel_rfl) ?_
      refine st_val (.bool true) (by kernel_rfl) (by kernel_rfl) ?_
      refine wl_nil ?_
      refine hK3 _ _ ?_
      try clear hK3 K3
      refine wp_frame (a' := ⟨#[.slice A ls.length c, .int .i64 n, .int .u8 b, undef, undef, undef, .bool false, undef, undef, undef, undef, undef, undef, undef, undef, undef, undef, undef, undef, undef, undef, .slice A ls.length c, .bool true, .bool false, .bool false, .slice A ls.length c, .bool false, .bool true, .bool true, .bool true, undef, undef, undef, undef, undef, .bool true, .bool true, undef, undef, .bool true, .bool true, undef, undef, .bool true, undef, undef, undef, undef, undef, undef, undef, undef, undef, undef, undef, undef, undef, undef, undef, undef, undef, undef, undef, undef, undef, undef, undef, undef, undef, undef, undef, undef, undef, undef, undef, undef, undef, undef, undef, undef, undef, undef, undef, undef, undef, undef, undef, undef, undef, undef, undef, undef, undef, undef, undef, undef, undef, undef, undef, undef, undef, undef, undef, undef, undef, undef, undef, undef, undef, undef, undef, undef, undef, undef, undef, undef, undef, undef, undef, undef, undef, undef, undef, undef, undef, undef, undef, undef, undef, undef, undef, undef, undef, undef, undef, undef, undef, undef, undef, undef, undef, undef, undef, undef, undef, undef, undef, undef, undef, undef, undef, undef, undef, undef, undef, undef, undef, undef, undef, undef, undef, undef, undef, undef, undef, undef, undef, undef, undef, undef], []⟩) (by kernel_rfl) ?_
      refine wp_cond_true (by kernel_rfl) ?_
      refine wp_seq_k (fun K184 hK184 => ?_)
      refine wl_region ?_
      refine st_callB M183 (.bool true) (by kernel_rfl) (args := #[]) (run_value_call 12 #[] _ rfl Try.func12 (by kernel_rfl) (by kernel_rfl) _ (by kernel_rfl)) (awake_walk W182) ?_
      intro W185 M186
      refine st_val (.bool true) (by kernel_rfl) (by kernel_rfl) ?_
      refine wl_nil ?_
      refine hK184 _ _ ?_
      try clear hK184 K184
      refine wp_ret ?_
      refine th_ret ?_
      exact done1 6 (.bool true) (by kernel_rfl) (by kernel_rfl) (by kernel_rfl) ⟨rfl, M186.toBelow⟩
  ·
    refine st_callB M0 (.bool false) (by kernel_rfl) (args := #[.slice A ls.length c, .int .i64 400]) (run_value_call 20 #[(Operand.tmp 21), (Operand.const (Value.int IntKind.i64 400))] _ rfl Try.func20 (by kernel_rfl) (by kernel_rfl) _ (by kernel_rfl)) ((by have := light_walk w (.slice A ls.length c) ls As cs (hP.keep M0.keep (fun _ h => h)) 400; rw [hlt] at this; exact this)) ?_
    intro W187 M188
    refine st_val (.bool true) (by kernel_rfl) (by kernel_rfl) ?_
    refine st_val (.bool true) (by kernel_rfl) (by kernel_rfl) ?_
    refine st_skip (by kernel_rfl) ?_
    refine st_skip (by kernel_rfl) ?_
    refine st_skip (by kernel_rfl) ?_
    refine st_val (.bool true) (by kernel_rfl) (by kernel_rfl) ?_
    refine st_val (.bool true) (by kernel_rfl) (by kernel_rfl) ?_
    refine st_skip (by kernel_rfl) ?_
    refine st_skip (by kernel_rfl) ?_
    refine st_skip (by kernel_rfl) ?_
    refine st_skip (by kernel_rfl) ?_
    refine st_skip (by kernel_rfl) ?_
    refine st_val (.bool true) (by kernel_rfl) (by kernel_rfl) ?_
    refine st_val (.bool true) (by kernel_rfl) (by kernel_rfl) ?_
    refine st_skip (by kernel_rfl) ?_
    refine st_skip (by kernel_rfl) ?_
    refine st_val (.bool true) (by kernel_rfl) (by kernel_rfl) ?_
    refine st_val (.bool true) (by kernel_rfl) (by kernel_rfl) ?_
    refine st_skip (by kernel_rfl) ?_
    refine st_skip (by kernel_rfl) ?_
    refine st_val (.bool true) (by kernel_rfl) (by kernel_rfl) ?_
    refine wl_nil ?_
    refine hK3 _ _ ?_
    try clear hK3 K3
    refine wp_frame (a' := ⟨#[.slice A ls.length c, .int .i64 n, .int .u8 b, undef, undef, undef, .bool false, undef, undef, undef, undef, undef, undef, undef, undef, undef, undef, undef, undef, undef, undef, .slice A ls.length c, .bool false, .bool true, .bool true, undef, undef, undef, .bool true, .bool true, undef, undef, undef, undef, undef, .bool true, .bool true, undef, undef, .bool true, .bool true, undef, undef, .bool true, undef, undef, undef, undef, undef, undef, undef, undef, undef, undef, undef, undef, undef, undef, undef, undef, undef, undef, undef, undef, undef, undef, undef, undef, undef, undef, undef, undef, undef, undef, undef, undef, undef, undef, undef, undef, undef, undef, undef, undef, undef, undef, undef, undef, undef, undef, undef, undef, undef, undef, undef, undef, undef, undef, undef, undef, undef, undef, undef, undef, undef, undef, undef, undef, undef, undef, undef, undef, undef, undef, undef, undef, undef, undef, undef, undef, undef, undef, undef, undef, undef, undef, undef, undef, undef, undef, undef, undef, undef, undef, undef, undef, undef, undef, undef, undef, undef, undef, undef, undef, undef, undef, undef, undef, undef, undef, undef, undef, undef, undef, undef, undef, undef, undef, undef, undef, undef, undef, undef, undef, undef, undef, undef, undef, undef, undef], []⟩) (by kernel_rfl) ?_
    refine wp_cond_true (by kernel_rfl) ?_
    refine wp_seq_k (fun K189 hK189 => ?_)
    refine wl_region ?_
    refine st_callB M188 (.bool true) (by kernel_rfl) (args := #[]) (run_value_call 12 #[] _ rfl Try.func12 (by kernel_rfl) (by kernel_rfl) _ (by kernel_rfl)) (awake_walk W187) ?_
    intro W190 M191
    refine st_val (.bool true) (by kernel_rfl) (by kernel_rfl) ?_
    refine wl_nil ?_
    refine hK189 _ _ ?_
    try clear hK189 K189
    refine wp_ret ?_
    refine th_ret ?_
    exact done1 6 (.bool true) (by kernel_rfl) (by kernel_rfl) (by kernel_rfl) ⟨rfl, M191.toBelow⟩
end Go.Proofs.Ytmimljaniliecaa
