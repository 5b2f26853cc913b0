/- AudioGenerations. -/
import Derived.Test.YtmimljaniliecaaDc
import Derived.Test.YtmimljaniliecaaDd0
namespace Go.Proofs.Ytmimljaniliecaa
open Go.RowKit Bt
set_option maxHeartbeats 4000000 in
set_option maxRecDepth 100000 in
theorem AudioGenerations_walk (w : World) (v : Value) (ls : List (List Int)) (As : Nat → Option Addr) (cs : Nat → Nat) (hP : RdP w v ls As cs) (hsp : SP ls) : Calls Try.prog 8 #[v] w fun e w' => e = .returned (.bool true) ∧ Below w.heap.size w w' := by
  obtain ⟨A, c, rfl, hc⟩ := hP.rd.shape
  refine calls_of_wp Try.func8 rfl ?_
  refine wp_frame (a' := ⟨#[.slice A ls.length c, undef, undef, undef, undef, undef, undef, undef, undef, undef, undef, undef, undef, undef, undef, undef, undef, undef, undef, undef, undef, undef, undef, undef, undef, undef, undef, undef, undef, undef, undef, undef, undef, undef, undef, undef, undef, undef, undef, undef, undef, undef, undef, undef, undef, undef, undef, undef, undef, undef, undef, undef, undef], []⟩) (by kernel_rfl) ?_
  have M0 : Mem NoS w w [] := Mem.start _ _
  refine wp_seq_k (fun K1 hK1 => ?_)
  refine wl_region ?_
  refine st_val (.bool false) (by kernel_rfl) (by kernel_rfl) ?_
  refine wl_nil ?_
  refine hK1 _ _ ?_
  try clear hK1 K1
  refine wp_seq_k (fun K2 hK2 => ?_)
  refine wp_seq_k (fun K3 hK3 => ?_)
  refine wl_region ?_
  refine st_val (.slice A ls.length c) (by kernel_rfl) (by kernel_rfl) ?_
  rcases Bool.eq_false_or_eq_true (litB ls 400) with hlt | hlt
  ·
    obtain ⟨hl6, hlm⟩ := of_decide_eq_true hlt
    refine st_callB M0 (.bool true) (by kernel_rfl) (args := #[.slice A ls.length c, .int .i64 400]) (run_value_call 20 #[(Operand.tmp 10), (Operand.const (Value.int IntKind.i64 400))] _ rfl Try.func20 (by kernel_rfl) (by kernel_rfl) _ (by kernel_rfl)) ((by have := light_walk w (.slice A ls.length c) ls As cs (hP.keep M0.keep (fun _ h => h)) 400; rw [hlt] at this; exact this)) ?_
    intro W4 M5
    refine st_val (.bool false) (by kernel_rfl) (by kernel_rfl) ?_
    refine st_val (.bool false) (by kernel_rfl) (by kernel_rfl) ?_
    refine st_val (.slice A ls.length c) (by kernel_rfl) (by kernel_rfl) ?_
    rcases Bool.eq_false_or_eq_true (ppB ls) with hpp | hpp
    ·
      obtain ⟨hp1, hp2, hp3⟩ := ppB_of hpp
      refine st_callB M5 (.bool true) (by kernel_rfl) (args := #[.slice A ls.length c]) (run_value_call 31 #[(Operand.tmp 14)] _ rfl Try.func31 (by kernel_rfl) (by kernel_rfl) _ (by kernel_rfl)) ((by have := refProper_walk W4 (.slice A ls.length c) ls As cs (hP.keep M5.keep (fun _ h => h)) (by omega); rw [hpp] at this; exact this)) ?_
      intro W6 M7
      refine st_val (.bool false) (by kernel_rfl) (by kernel_rfl) ?_
      refine st_val (.bool false) (by kernel_rfl) (by kernel_rfl) ?_
      refine wl_nil ?_
      refine hK3 _ _ ?_
      try clear hK3 K3
      refine wp_cond_false (by kernel_rfl) ?_
      refine wp_skip ?_
      refine hK2 _ _ ?_
      try clear hK2 K2
      refine wp_seq_k (fun K8 hK8 => ?_)
      have hPP : PP ls := ⟨hp1, hp2, hp3⟩
      have hel := enL_le ls
      have hlm0 := hlm 0 (by omega)
      refine wl_region ?_
      refine st_val (.slice A ls.length c) (by kernel_rfl) (by kernel_rfl) ?_
      refine st_callR (A := []) (B := []) M7 (by kernel_rfl) (run_value_call 26 #[(Operand.tmp 20)] _ rfl Try.func26 (by kernel_rfl) (by kernel_rfl) _ (by kernel_rfl)) (enc_walk W6 (.slice A ls.length c) ls As cs (hP.keep M7.keep (fun _ h => h)) hsp (by omega)) ?_
      intro v9 T10 W11 O12 M13
      have M13 : Mem NoS w W11 ((T10 ++ [])) := M13
      obtain ⟨v14, m15, rfl, hm16, O17⟩ := O12
      obtain ⟨A18, cq19, rfl, hc20⟩ := O17.shape
      refine st_val (.tuple #[.slice A18 m15 cq19, .int .i64 (enE ls)]) (by kernel_rfl) (by kernel_rfl) ?_
      refine st_val (.slice A18 m15 cq19) (by kernel_rfl) (by kernel_rfl) ?_
      refine st_val (.int .i64 (enE ls)) (by kernel_rfl) (by kernel_rfl) ?_
      refine st_val (.slice A18 m15 cq19) (by kernel_rfl) (by kernel_rfl) ?_
      refine st_val (.int .i64 (enE ls)) (by kernel_rfl) (by kernel_rfl) ?_
      refine wl_nil ?_
      refine hK8 _ _ ?_
      try clear hK8 K8
      refine wp_frame (a' := ⟨#[.slice A ls.length c, undef, .bool false, .slice A18 m15 cq19, .int .i64 (enE ls), undef, undef, undef, undef, undef, .slice A ls.length c, .bool true, .bool false, .bool false, .slice A ls.length c, .bool true, .bool false, .bool false, undef, .tuple #[.slice A18 m15 cq19, .int .i64 (enE ls)], .slice A ls.length c, .tuple #[.slice A18 m15 cq19, .int .i64 (enE ls)], .slice A18 m15 cq19, .int .i64 (enE ls), undef, undef, undef, undef, undef, undef, undef, undef, undef, undef, undef, undef, undef, undef, undef, undef, undef, undef, undef, undef, undef, undef, undef, undef, undef, undef, undef, undef, undef], []⟩) (by kernel_rfl) ?_
      refine wp_seq_k (fun K21 hK21 => ?_)
      obtain ⟨hbE, hbC, hbN, hbb, hbM⟩ := back_facts hPP hsp
      obtain ⟨hrl, hrr⟩ := back_len hPP hsp
      refine wl_region ?_
      refine st_val (.slice A18 m15 cq19) (by kernel_rfl) (by kernel_rfl) ?_
      refine st_callR (A := []) (B := (T10 ++ [])) M13 (by kernel_rfl) (run_value_call 28 #[(Operand.tmp 25)] _ rfl Try.func28 (by kernel_rfl) (by kernel_rfl) _ (by kernel_rfl)) (dec_walk W11 (.slice A18 m15 cq19) (enL ls) ((by rw [← hm16]; exact O17.rd (fun p hp => M13.at_ p (List.mem_append_left _ hp)))) (enL_lt _) (by omega)) ?_
      intro v22 T23 W24 O25 M26
      have M26 : Mem NoS w W24 ((T23 ++ (T10 ++ []))) := M26
      obtain ⟨v27, v28, T29, T30, m31, rfl, O32, hm33, O34, eT35⟩ := O25
      subst eT35
      obtain ⟨A36, cq37, rfl, hc38⟩ := O34.shape
      obtain ⟨As39, cs40, To41, Ts42, O43, OI44, eT45⟩ := O32
      obtain ⟨A46, cq47, rfl, hc48⟩ := O43.shape
      have M49 : Mem NoS w W24 ((T29 ++ (T30 ++ (T10 ++ [])))) := Mem.splitL (A := []) M26
      refine st_val (.tuple #[.slice A46 ((deR (enL ls)).length) cq47, .slice A36 m31 cq37, .int .i64 (deE (enL ls))]) (by kernel_rfl) (by kernel_rfl) ?_
      refine st_val (.slice A46 ((deR (enL ls)).length) cq47) (by kernel_rfl) (by kernel_rfl) ?_
      refine st_val (.slice A36 m31 cq37) (by kernel_rfl) (by kernel_rfl) ?_
      refine st_val (.int .i64 (deE (enL ls))) (by kernel_rfl) (by kernel_rfl) ?_
      refine st_val (.slice A46 ((deR (enL ls)).length) cq47) (by kernel_rfl) (by kernel_rfl) ?_
      refine st_val (.slice A36 m31 cq37) (by kernel_rfl) (by kernel_rfl) ?_
      refine st_val (.int .i64 (deE (enL ls))) (by kernel_rfl) (by kernel_rfl) ?_
      refine wl_nil ?_
      refine hK21 _ _ ?_
      try clear hK21 K21
      refine wp_seq_k (fun K50 hK50 => ?_)
      refine wl_region ?_
      refine st_val (.slice A46 ((deR (enL ls)).length) cq47) (by kernel_rfl) (by kernel_rfl) ?_
      refine st_callR (A := []) (B := (T29 ++ (T30 ++ (T10 ++ [])))) M49 (by kernel_rfl) (run_value_call 26 #[(Operand.tmp 31)] _ rfl Try.func26 (by kernel_rfl) (by kernel_rfl) _ (by kernel_rfl)) (enc_walk W24 (.slice A46 ((deR (enL ls)).length) cq47) (deR (enL ls)) As39 cs40 ((rdP_of O43 OI44 (fun p hp => M49.at_ p ((List.mem_append_left _ (by rw [eT45]; exact List.mem_append_left _ hp)))) (fun p hp => M49.at_ p ((List.mem_append_left _ (by rw [eT45]; exact List.mem_append_right _ hp)))))) (gen_pp hPP hsp).2 (by omega)) ?_
      intro v51 T52 W53 O54 M55
      have M55 : Mem NoS w W53 ((T52 ++ (T29 ++ (T30 ++ (T10 ++ []))))) := M55
      obtain ⟨v56, m57, rfl, hm58, O59⟩ := O54
      obtain ⟨A60, cq61, rfl, hc62⟩ := O59.shape
      refine st_val (.tuple #[.slice A60 m57 cq61, .int .i64 (enE (deR (enL ls)))]) (by kernel_rfl) (by kernel_rfl) ?_
      refine st_val (.slice A60 m57 cq61) (by kernel_rfl) (by kernel_rfl) ?_
      refine st_val (.int .i64 (enE (deR (enL ls)))) (by kernel_rfl) (by kernel_rfl) ?_
      refine st_val (.slice A60 m57 cq61) (by kernel_rfl) (by kernel_rfl) ?_
      refine st_val (.int .i64 (enE (deR (enL ls)))) (by kernel_rfl) (by kernel_rfl) ?_
      refine wl_nil ?_
      refine hK50 _ _ ?_
      try clear hK50 K50
      refine wp_frame (a' := ⟨#[.slice A ls.length c, undef, .bool false, .slice A18 m15 cq19, .int .i64 (enE ls), .slice A46 ((deR (enL ls)).length) cq47, .slice A36 m31 cq37, .int .i64 (deE (enL ls)), .slice A60 m57 cq61, .int .i64 (enE (deR (enL ls))), .slice A ls.length c, .bool true, .bool false, .bool false, .slice A ls.length c, .bool true, .bool false, .bool false, undef, .tuple #[.slice A18 m15 cq19, .int .i64 (enE ls)], .slice A ls.length c, .tuple #[.slice A18 m15 cq19, .int .i64 (enE ls)], .slice A18 m15 cq19, .int .i64 (enE ls), .tuple #[.slice A46 ((deR (enL ls)).length) cq47, .slice A36 m31 cq37, .int .i64 (deE (enL ls))], .slice A18 m15 cq19, .tuple #[.slice A46 ((deR (enL ls)).length) cq47, .slice A36 m31 cq37, .int .i64 (deE (enL ls))], .slice A46 ((deR (enL ls)).length) cq47, .slice A36 m31 cq37, .int .i64 (deE (enL ls)), .tuple #[.slice A60 m57 cq61, .int .i64 (enE (deR (enL ls)))], .slice A46 ((deR (enL ls)).length) cq47, .tuple #[.slice A60 m57 cq61, .int .i64 (enE (deR (enL ls)))], .slice A60 m57 cq61, .int .i64 (enE (deR (enL ls))), undef, undef, undef, undef, undef, undef, undef, undef, undef, undef, undef, undef, undef, undef, undef, undef, undef, undef], []⟩) (by kernel_rfl) ?_
      refine wp_seq_k (fun K63 hK63 => ?_)
      have hel2 := congrArg List.length (gen_en hPP hsp).1
      refine wl_region ?_
      refine st_callB M55 (.bool true) (by kernel_rfl) (args := #[]) (run_value_call 12 #[] _ rfl Try.func12 (by kernel_rfl) (by kernel_rfl) _ (by kernel_rfl)) (awake_walk W53) ?_
      intro W64 M65
      refine st_val (.bool true) (by kernel_rfl) (by kernel_rfl) ?_
      refine st_val (.int .i64 (enE ls)) (by kernel_rfl) (by kernel_rfl) ?_
      refine st_val (.bool true) (by kernel_rfl) (bool_of (dec_t (show (enE ls : Int) = 0 from (en_t hPP).2)) (by kernel_rfl)) ?_
      refine st_val (.bool true) (by kernel_rfl) (by kernel_rfl) ?_
      refine st_val (.bool true) (by kernel_rfl) (by kernel_rfl) ?_
      refine st_val (.int .i64 (deE (enL ls))) (by kernel_rfl) (by kernel_rfl) ?_
      refine st_val (.bool true) (by kernel_rfl) (bool_of (dec_t (show (deE (enL ls) : Int) = 0 from hbE)) (by kernel_rfl)) ?_
      refine st_val (.bool true) (by kernel_rfl) (by kernel_rfl) ?_
      refine st_val (.bool true) (by kernel_rfl) (by kernel_rfl) ?_
      refine st_val (.int .i64 (enE (deR (enL ls)))) (by kernel_rfl) (by kernel_rfl) ?_
      refine st_val (.bool true) (by kernel_rfl) (bool_of (dec_t (show (enE (deR (enL ls)) : Int) = 0 from (gen_en hPP hsp).2)) (by kernel_rfl)) ?_
      refine st_val (.bool true) (by kernel_rfl) (by kernel_rfl) ?_
      refine st_val (.bool true) (by kernel_rfl) (by kernel_rfl) ?_
      refine st_val (.slice A18 m15 cq19) (by kernel_rfl) (by kernel_rfl) ?_
      refine st_val (.slice A60 m57 cq61) (by kernel_rfl) (by kernel_rfl) ?_
      refine st_callE (.bool true) (by kernel_rfl) (args := #[.slice A18 m15 cq19, .slice A60 m57 cq61]) (run_value_call 23 #[(Operand.tmp 49), (Operand.tmp 50)] _ rfl Try.func23 (by kernel_rfl) (by kernel_rfl) _ (by kernel_rfl)) ((by have := sameM W64 (.slice A18 m15 cq19) (.slice A60 m57 cq61) (enL ls) (enL (deR (enL ls))) ((by rw [← hm16]; exact O17.rd (fun p hp => M65.at_ p (List.mem_append_right _ (List.mem_append_right _ (List.mem_append_right _ (List.mem_append_left _ hp))))))) ((by rw [← hm58]; exact O59.rd (fun p hp => M65.at_ p (List.mem_append_left _ hp)))) (enL_lt _) (enL_lt _); rw [decide_eq_true (gen_en hPP hsp).1.symm] at this; exact this)) ?_
      refine st_val (.bool true) (by kernel_rfl) (by kernel_rfl) ?_
      refine st_val (.bool true) (by kernel_rfl) (by kernel_rfl) ?_
      refine wl_nil ?_
      refine hK63 _ _ ?_
      try clear hK63 K63
      refine wp_frame (a' := ⟨#[.slice A ls.length c, undef, .bool true, .slice A18 m15 cq19, .int .i64 (enE ls), .slice A46 ((deR (enL ls)).length) cq47, .slice A36 m31 cq37, .int .i64 (deE (enL ls)), .slice A60 m57 cq61, .int .i64 (enE (deR (enL ls))), .slice A ls.length c, .bool true, .bool false, .bool false, .slice A ls.length c, .bool true, .bool false, .bool false, undef, .tuple #[.slice A18 m15 cq19, .int .i64 (enE ls)], .slice A ls.length c, .tuple #[.slice A18 m15 cq19, .int .i64 (enE ls)], .slice A18 m15 cq19, .int .i64 (enE ls), .tuple #[.slice A46 ((deR (enL ls)).length) cq47, .slice A36 m31 cq37, .int .i64 (deE (enL ls))], .slice A18 m15 cq19, .tuple #[.slice A46 ((deR (enL ls)).length) cq47, .slice A36 m31 cq37, .int .i64 (deE (enL ls))], .slice A46 ((deR (enL ls)).length) cq47, .slice A36 m31 cq37, .int .i64 (deE (enL ls)), .tuple #[.slice A60 m57 cq61, .int .i64 (enE (deR (enL ls)))], .slice A46 ((deR (enL ls)).length) cq47, .tuple #[.slice A60 m57 cq61, .int .i64 (enE (deR (enL ls)))], .slice A60 m57 cq61, .int .i64 (enE (deR (enL ls))), .bool true, .bool true, .int .i64 (enE ls), .bool true, .bool true, .bool true, .int .i64 (deE (enL ls)), .bool true, .bool true, .bool true, .int .i64 (enE (deR (enL ls))), .bool true, .bool true, .bool true, .slice A18 m15 cq19, .slice A60 m57 cq61, .bool true, .bool true], []⟩) (by kernel_rfl) ?_
      refine wp_ret ?_
      exact done1 2 (.bool true) (by kernel_rfl) (by kernel_rfl) (by kernel_rfl) ⟨rfl, M65.toBelow⟩
    ·
      have hpn := ppB_not hpp
      refine st_callB M5 (.bool false) (by kernel_rfl) (args := #[.slice A ls.length c]) (run_value_call 31 #[(Operand.tmp 14)] _ rfl Try.func31 (by kernel_rfl) (by kernel_rfl) _ (by kernel_rfl)) ((by have := refProper_walk W4 (.slice A ls.length c) ls As cs (hP.keep M5.keep (fun _ h => h)) (by omega); rw [hpp] at this; exact this)) ?_
      intro W66 M67
      refine st_val (.bool true) (by kernel_rfl) (by kernel_rfl) ?_
      refine st_val (.bool true) (by kernel_rfl) (by kernel_rfl) ?_
      refine wl_nil ?_
      refine hK3 _ _ ?_
      try clear hK3 K3
      refine wp_cond_true (by kernel_rfl) ?_
      refine wp_seq_k (fun K68 hK68 => ?_)
      refine wl_region ?_
      refine st_callB M67 (.bool true) (by kernel_rfl) (args := #[]) (run_value_call 12 #[] _ rfl Try.func12 (by kernel_rfl) (by kernel_rfl) _ (by kernel_rfl)) (awake_walk W66) ?_
      intro W69 M70
      refine st_val (.bool true) (by kernel_rfl) (by kernel_rfl) ?_
      refine wl_nil ?_
      refine hK68 _ _ ?_
      try clear hK68 K68
      refine wp_ret ?_
      refine th_ret ?_
      exact done1 2 (.bool true) (by kernel_rfl) (by kernel_rfl) (by kernel_rfl) ⟨rfl, M70.toBelow⟩
  ·
    refine st_callB M0 (.bool false) (by kernel_rfl) (args := #[.slice A ls.length c, .int .i64 400]) (run_value_call 20 #[(Operand.tmp 10), (Operand.const (Value.int IntKind.i64 400))] _ rfl Try.func20 (by kernel_rfl) (by kernel_rfl) _ (by kernel_rfl)) ((by have := light_walk w (.slice A ls.length c) ls As cs (hP.keep M0.keep (fun _ h => h)) 400; rw [hlt] at this; exact this)) ?_
    intro W71 M72
    refine st_val (.bool true) (by kernel_rfl) (by kernel_rfl) ?_
    refine st_val (.bool true) (by kernel_rfl) (by kernel_rfl) ?_
    refine st_skip (by kernel_rfl) ?_
    refine st_skip (by kernel_rfl) ?_
    refine st_skip (by kernel_rfl) ?_
    refine st_val (.bool true) (by kernel_rfl) (by kernel_rfl) ?_
    refine wl_nil ?_
    refine hK3 _ _ ?_
    try clear hK3 K3
    refine wp_cond_true (by kernel_rfl) ?_
    refine wp_seq_k (fun K73 hK73 => ?_)
    refine wl_region ?_
    refine st_callB M72 (.bool true) (by kernel_rfl) (args := #[]) (run_value_call 12 #[] _ rfl Try.func12 (by kernel_rfl) (by kernel_rfl) _ (by kernel_rfl)) (awake_walk W71) ?_
    intro W74 M75
    refine st_val (.bool true) (by kernel_rfl) (by kernel_rfl) ?_
    refine wl_nil ?_
    refine hK73 _ _ ?_
    try clear hK73 K73
    refine wp_ret ?_
    refine th_ret ?_
    exact done1 2 (.bool true) (by kernel_rfl) (by kernel_rfl) (by kernel_rfl) ⟨rfl, M75.toBelow⟩
end Go.Proofs.Ytmimljaniliecaa
