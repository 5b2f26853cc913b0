/- AudioBack. -/
import Derived.Test.YtmimljaniliecaaDc
import Derived.Test.YtmimljaniliecaaDd0
namespace Go.Proofs.Ytmimljaniliecaa
open Go.RowKit Bt
set_option maxHeartbeats 4000000 in
set_option maxRecDepth 100000 in
theorem AudioBack_walk (w : World) (v : Value) (ls : List (List Int)) (As : Nat → Option Addr) (cs : Nat → Nat) (hP : RdP w v ls As cs) (hsp : SP ls) : Calls Try.prog 11 #[v] w fun e w' => e = .returned (.bool true) ∧ Below w.heap.size w w' := by
  obtain ⟨A, c, rfl, hc⟩ := hP.rd.shape
  refine calls_of_wp Try.func11 rfl ?_
  refine wp_frame (a' := ⟨#[.slice A ls.length c, undef, undef, undef, undef, undef, undef, undef, undef, undef, undef, undef, undef, undef, undef, undef, undef, undef, undef, undef, undef, undef, undef, undef, undef, undef, undef, undef, undef, undef, undef, undef, undef, undef, undef, undef, undef, undef, undef, undef, undef, undef, undef, undef, undef, undef, undef, undef, undef, undef, undef, undef, undef, undef, undef, undef, undef, undef, undef, undef, undef, undef, undef, undef, undef, undef, undef, undef, undef, undef, undef, undef, undef, undef, undef, undef, undef, undef, undef, undef, undef, undef, undef, undef, undef, undef, undef, undef, undef, undef, undef, undef, undef, undef, undef, undef, undef, undef, undef, undef, undef, undef, undef, undef, undef, undef, undef, undef, undef, undef, undef, undef, undef, undef, undef, undef, undef, undef, undef, undef, undef, undef], []⟩) (by kernel_rfl) ?_
  have M0 : Mem NoS w w [] := Mem.start _ _
  refine wp_seq_k (fun K1 hK1 => ?_)
  refine wl_region ?_
  refine st_val (.bool false) (by kernel_rfl) (by kernel_rfl) ?_
  refine wl_nil ?_
  refine hK1 _ _ ?_
  try clear hK1 K1
  refine wp_seq_k (fun K2 hK2 => ?_)
  refine wp_seq_k (fun K3 hK3 => ?_)
  refine wl_region ?_
  refine st_val (.slice A ls.length c) (by kernel_rfl) (by kernel_rfl) ?_
  rcases Bool.eq_false_or_eq_true (litB ls 400) with hlt | hlt
  ·
    obtain ⟨hl6, hlm⟩ := of_decide_eq_true hlt
    refine st_callB M0 (.bool true) (by kernel_rfl) (args := #[.slice A ls.length c, .int .i64 400]) (run_value_call 20 #[(Operand.tmp 13), (Operand.const (Value.int IntKind.i64 400))] _ rfl Try.func20 (by kernel_rfl) (by kernel_rfl) _ (by kernel_rfl)) ((by have := light_walk w (.slice A ls.length c) ls As cs (hP.keep M0.keep (fun _ h => h)) 400; rw [hlt] at this; exact this)) ?_
    intro W4 M5
    refine st_val (.bool false) (by kernel_rfl) (by kernel_rfl) ?_
    refine st_val (.bool false) (by kernel_rfl) (by kernel_rfl) ?_
    refine st_val (.slice A ls.length c) (by kernel_rfl) (by kernel_rfl) ?_
    rcases Bool.eq_false_or_eq_true (ppB ls) with hpp | hpp
    ·
      obtain ⟨hp1, hp2, hp3⟩ := ppB_of hpp
      refine st_callB M5 (.bool true) (by kernel_rfl) (args := #[.slice A ls.length c]) (run_value_call 31 #[(Operand.tmp 17)] _ rfl Try.func31 (by kernel_rfl) (by kernel_rfl) _ (by kernel_rfl)) ((by have := refProper_walk W4 (.slice A ls.length c) ls As cs (hP.keep M5.keep (fun _ h => h)) (by omega); rw [hpp] at this; exact this)) ?_
      intro W6 M7
      refine st_val (.bool false) (by kernel_rfl) (by kernel_rfl) ?_
      refine st_val (.bool false) (by kernel_rfl) (by kernel_rfl) ?_
      refine wl_nil ?_
      refine hK3 _ _ ?_
      try clear hK3 K3
      refine wp_cond_false (by kernel_rfl) ?_
      refine wp_skip ?_
      refine hK2 _ _ ?_
      try clear hK2 K2
      refine wp_seq_k (fun K8 hK8 => ?_)
      have hPP : PP ls := ⟨hp1, hp2, hp3⟩
      have hel := enL_le ls
      have hlm0 := hlm 0 (by omega)
      refine wl_region ?_
      refine st_val (.slice A ls.length c) (by kernel_rfl) (by kernel_rfl) ?_
      refine st_callR (A := []) (B := []) M7 (by kernel_rfl) (run_value_call 26 #[(Operand.tmp 23)] _ rfl Try.func26 (by kernel_rfl) (by kernel_rfl) _ (by kernel_rfl)) (enc_walk W6 (.slice A ls.length c) ls As cs (hP.keep M7.keep (fun _ h => h)) hsp (by omega)) ?_
      intro v9 T10 W11 O12 M13
      have M13 : Mem NoS w W11 ((T10 ++ [])) := M13
      obtain ⟨v14, m15, rfl, hm16, O17⟩ := O12
      obtain ⟨A18, cq19, rfl, hc20⟩ := O17.shape
      refine st_val (.tuple #[.slice A18 m15 cq19, .int .i64 (enE ls)]) (by kernel_rfl) (by kernel_rfl) ?_
      refine st_val (.slice A18 m15 cq19) (by kernel_rfl) (by kernel_rfl) ?_
      refine st_val (.int .i64 (enE ls)) (by kernel_rfl) (by kernel_rfl) ?_
      refine st_val (.slice A18 m15 cq19) (by kernel_rfl) (by kernel_rfl) ?_
      refine st_val (.int .i64 (enE ls)) (by kernel_rfl) (by kernel_rfl) ?_
      refine wl_nil ?_
      refine hK8 _ _ ?_
      try clear hK8 K8
      refine wp_frame (a' := ⟨#[.slice A ls.length c, undef, .bool false, .slice A18 m15 cq19, .int .i64 (enE ls), undef, undef, undef, undef, undef, undef, undef, undef, .slice A ls.length c, .bool true, .bool false, .bool false, .slice A ls.length c, .bool true, .bool false, .bool false, undef, .tuple #[.slice A18 m15 cq19, .int .i64 (enE ls)], .slice A ls.length c, .tuple #[.slice A18 m15 cq19, .int .i64 (enE ls)], .slice A18 m15 cq19, .int .i64 (enE ls), undef, undef, undef, undef, undef, undef, undef, undef, undef, undef, undef, undef, undef, undef, undef, undef, undef, undef, undef, undef, undef, undef, undef, undef, undef, undef, undef, undef, undef, undef, undef, undef, undef, undef, undef, undef, undef, undef, undef, undef, undef, undef, undef, undef, undef, undef, undef, undef, undef, undef, undef, undef, undef, undef, undef, undef, undef, undef, undef, undef, undef, undef, undef, undef, undef, undef, undef, undef, undef, undef, undef, undef, undef, undef, undef, undef, undef, undef, undef, undef, undef, undef, undef, undef, undef, undef, undef, undef, undef, undef, undef, undef, undef, undef, undef], []⟩) (by kernel_rfl) ?_
      refine wp_seq_k (fun K21 hK21 => ?_)
      obtain ⟨hbE, hbC, hbN, hbb, hbM⟩ := back_facts hPP hsp
      obtain ⟨hrl, hrr⟩ := back_len hPP hsp
      refine wl_region ?_
      refine st_val (.slice A18 m15 cq19) (by kernel_rfl) (by kernel_rfl) ?_
      refine st_callR (A := []) (B := (T10 ++ [])) M13 (by kernel_rfl) (run_value_call 28 #[(Operand.tmp 28)] _ rfl Try.func28 (by kernel_rfl) (by kernel_rfl) _ (by kernel_rfl)) (dec_walk W11 (.slice A18 m15 cq19) (enL ls) ((by rw [← hm16]; exact O17.rd (fun p hp => M13.at_ p (List.mem_append_left _ hp)))) (enL_lt _) (by omega)) ?_
      intro v22 T23 W24 O25 M26
      have M26 : Mem NoS w W24 ((T23 ++ (T10 ++ []))) := M26
      obtain ⟨v27, v28, T29, T30, m31, rfl, O32, hm33, O34, eT35⟩ := O25
      subst eT35
      obtain ⟨A36, cq37, rfl, hc38⟩ := O34.shape
      obtain ⟨As39, cs40, To41, Ts42, O43, OI44, eT45⟩ := O32
      obtain ⟨A46, cq47, rfl, hc48⟩ := O43.shape
      have M49 : Mem NoS w W24 ((T29 ++ (T30 ++ (T10 ++ [])))) := Mem.splitL (A := []) M26
      refine st_val (.tuple #[.slice A46 ((deR (enL ls)).length) cq47, .slice A36 m31 cq37, .int .i64 (deE (enL ls))]) (by kernel_rfl) (by kernel_rfl) ?_
      refine st_val (.slice A46 ((deR (enL ls)).length) cq47) (by kernel_rfl) (by kernel_rfl) ?_
      refine st_val (.slice A36 m31 cq37) (by kernel_rfl) (by kernel_rfl) ?_
      refine st_val (.int .i64 (deE (enL ls))) (by kernel_rfl) (by kernel_rfl) ?_
      refine st_val (.slice A46 ((deR (enL ls)).length) cq47) (by kernel_rfl) (by kernel_rfl) ?_
      refine st_val (.slice A36 m31 cq37) (by kernel_rfl) (by kernel_rfl) ?_
      refine st_val (.int .i64 (deE (enL ls))) (by kernel_rfl) (by kernel_rfl) ?_
      refine wl_nil ?_
      refine hK21 _ _ ?_
      try clear hK21 K21
      refine wp_seq_k (fun K50 hK50 => ?_)
      refine wp_seq_k (fun K51 hK51 => ?_)
      have hm0 : m31 = 0 := (by rw [hm33, hbM]; rfl)
      refine wl_region ?_
      refine st_val (.int .i64 (enE ls)) (by kernel_rfl) (by kernel_rfl) ?_
      refine st_val (.bool false) (by kernel_rfl) (bool_of (neq_f (show (enE ls : Int) = 0 from (en_t hPP).2)) (by kernel_rfl)) ?_
      refine st_val (.bool false) (by kernel_rfl) (by kernel_rfl) ?_
      refine st_val (.int .i64 (deE (enL ls))) (by kernel_rfl) (by kernel_rfl) ?_
      refine st_val (.bool false) (by kernel_rfl) (bool_of (neq_f (show (deE (enL ls) : Int) = 0 from hbE)) (by kernel_rfl)) ?_
      refine st_val (.bool false) (by kernel_rfl) (by kernel_rfl) ?_
      refine st_val (.bool false) (by kernel_rfl) (by kernel_rfl) ?_
      refine st_val (.slice A36 m31 cq37) (by kernel_rfl) (by kernel_rfl) ?_
      refine st_val (.int .i64 ((m31 : Nat) : Int)) (by kernel_rfl) (by kernel_rfl) ?_
      refine st_val (.bool false) (by kernel_rfl) (bool_of (neq_f (show (((m31 : Nat) : Int) : Int) = 0 by omega)) (by kernel_rfl)) ?_
      refine st_val (.bool false) (by kernel_rfl) (by kernel_rfl) ?_
      refine st_val (.bool false) (by kernel_rfl) (by kernel_rfl) ?_
      refine st_val (.slice A46 ((deR (enL ls)).length) cq47) (by kernel_rfl) (by kernel_rfl) ?_
      refine st_val (.int .i64 (((deR (enL ls)).length : Nat) : Int)) (by kernel_rfl) (by kernel_rfl) ?_
      refine st_val (.slice A ls.length c) (by kernel_rfl) (by kernel_rfl) ?_
      refine st_val (.int .i64 ((ls.length : Nat) : Int)) (by kernel_rfl) (by kernel_rfl) ?_
      refine st_val (.bool false) (by kernel_rfl) (bool_of (neq_f (show ((((deR (enL ls)).length : Nat) : Int) : Int) = ((ls.length : Nat) : Int) by omega)) (by kernel_rfl)) ?_
      refine st_val (.bool false) (by kernel_rfl) (by kernel_rfl) ?_
      refine wl_nil ?_
      refine hK51 _ _ ?_
      try clear hK51 K51
      refine wp_frame (a' := ⟨#[.slice A ls.length c, undef, .bool false, .slice A18 m15 cq19, .int .i64 (enE ls), .slice A46 ((deR (enL ls)).length) cq47, .slice A36 m31 cq37, .int .i64 (deE (enL ls)), undef, undef, undef, undef, undef, .slice A ls.length c, .bool true, .bool false, .bool false, .slice A ls.length c, .bool true, .bool false, .bool false, undef, .tuple #[.slice A18 m15 cq19, .int .i64 (enE ls)], .slice A ls.length c, .tuple #[.slice A18 m15 cq19, .int .i64 (enE ls)], .slice A18 m15 cq19, .int .i64 (enE ls), .tuple #[.slice A46 ((deR (enL ls)).length) cq47, .slice A36 m31 cq37, .int .i64 (deE (enL ls))], .slice A18 m15 cq19, .tuple #[.slice A46 ((deR (enL ls)).length) cq47, .slice A36 m31 cq37, .int .i64 (deE (enL ls))], .slice A46 ((deR (enL ls)).length) cq47, .slice A36 m31 cq37, .int .i64 (deE (enL ls)), .int .i64 (enE ls), .bool false, .bool false, .int .i64 (deE (enL ls)), .bool false, .bool false, .bool false, .slice A36 m31 cq37, .int .i64 ((m31 : Nat) : Int), .bool false, .bool false, .bool false, .slice A46 ((deR (enL ls)).length) cq47, .int .i64 (((deR (enL ls)).length : Nat) : Int), .slice A ls.length c, .int .i64 ((ls.length : Nat) : Int), .bool false, .bool false, undef, undef, undef, undef, undef, undef, undef, undef, undef, undef, undef, undef, undef, undef, undef, undef, undef, undef, undef, undef, undef, undef, undef, undef, undef, undef, undef, undef, undef, undef, undef, undef, undef, undef, undef, undef, undef, undef, undef, undef, undef, undef, undef, undef, undef, undef, undef, undef, undef, undef, undef, undef, undef, undef, undef, undef, undef, undef, undef, undef, undef, undef, undef, undef, undef, undef, undef, undef, undef, undef, undef], []⟩) (by kernel_rfl) ?_
      refine wp_cond_false (by kernel_rfl) ?_
      refine wp_skip ?_
      refine hK50 _ _ ?_
      try clear hK50 K50
      refine wp_seq_k (fun K52 hK52 => ?_)
      refine wp_seq_k (fun K53 hK53 => ?_)
      refine wl_region ?_
      refine st_val (.int .i64 0) (by kernel_rfl) (by kernel_rfl) ?_
      refine wl_nil ?_
      refine hK53 _ _ ?_
      try clear hK53 K53
      refine wp_block ?_
      refine wp_loop_ghost (fun gn a' w' => ∃ (jc : Nat) (u54 : Nat → Value), ((jc ≤ ls.length) ∧ Mem NoS w w' ((T29 ++ (T30 ++ (T10 ++ []))))) ∧ gn = ls.length - jc ∧ a' = ⟨#[.slice A ls.length c, undef, (u54 2), .slice A18 m15 cq19, .int .i64 (enE ls), .slice A46 ((deR (enL ls)).length) cq47, .slice A36 m31 cq37, .int .i64 (deE (enL ls)), .int .i64 ((jc : Nat) : Int), (u54 9), (u54 10), (u54 11), (u54 12), .slice A ls.length c, .bool true, .bool false, .bool false, .slice A ls.length c, .bool true, .bool false, .bool false, undef, .tuple #[.slice A18 m15 cq19, .int .i64 (enE ls)], .slice A ls.length c, .tuple #[.slice A18 m15 cq19, .int .i64 (enE ls)], .slice A18 m15 cq19, .int .i64 (enE ls), .tuple #[.slice A46 ((deR (enL ls)).length) cq47, .slice A36 m31 cq37, .int .i64 (deE (enL ls))], .slice A18 m15 cq19, .tuple #[.slice A46 ((deR (enL ls)).length) cq47, .slice A36 m31 cq37, .int .i64 (deE (enL ls))], .slice A46 ((deR (enL ls)).length) cq47, .slice A36 m31 cq37, .int .i64 (deE (enL ls)), .int .i64 (enE ls), .bool false, .bool false, .int .i64 (deE (enL ls)), .bool false, .bool false, .bool false, .slice A36 m31 cq37, .int .i64 ((m31 : Nat) : Int), .bool false, .bool false, .bool false, .slice A46 ((deR (enL ls)).length) cq47, .int .i64 (((deR (enL ls)).length : Nat) : Int), .slice A ls.length c, .int .i64 ((ls.length : Nat) : Int), .bool false, .bool false, (u54 51), (u54 52), (u54 53), (u54 54), (u54 55), (u54 56), (u54 57), (u54 58), (u54 59), (u54 60), (u54 61), (u54 62), (u54 63), (u54 64), (u54 65), (u54 66), (u54 67), (u54 68), (u54 69), (u54 70), (u54 71), (u54 72), (u54 73), (u54 74), (u54 75), (u54 76), (u54 77), (u54 78), (u54 79), (u54 80), (u54 81), (u54 82), (u54 83), (u54 84), (u54 85), (u54 86), (u54 87), (u54 88), (u54 89), (u54 90), (u54 91), (u54 92), (u54 93), (u54 94), (u54 95), (u54 96), (u54 97), (u54 98), (u54 99), (u54 100), (u54 101), (u54 102), (u54 103), (u54 104), (u54 105), (u54 106), (u54 107), (u54 108), (u54 109), (u54 110), (u54 111), (u54 112), (u54 113), (u54 114), (u54 115), (u54 116), (u54 117), (u54 118), (u54 119), (u54 120), undef], []⟩) _ ⟨0, (fun zz => Array.getD #[undef, undef, .bool false, undef, undef, undef, undef, undef, undef, undef, undef, undef, undef, undef, undef, undef, undef, undef, undef, undef, undef, undef, undef, undef, undef, undef, undef, undef, undef, undef, undef, undef, undef, undef, undef, undef, undef, undef, undef, undef, undef, undef, undef, undef, undef, undef, undef, undef, undef, undef, undef, undef, undef, undef, undef, undef, undef, undef, undef, undef, undef, undef, undef, undef, undef, undef, undef, undef, undef, undef, undef, undef, undef, undef, undef, undef, undef, undef, undef, undef, undef, undef, undef, undef, undef, undef, undef, undef, undef, undef, undef, undef, undef, undef, undef, undef, undef, undef, undef, undef, undef, undef, undef, undef, undef, undef, undef, undef, undef, undef, undef, undef, undef, undef, undef, undef, undef, undef, undef, undef, undef] zz undef), ⟨by omega, M49⟩, rfl, (by kernel_rfl)⟩ ?_
      rintro gn _ W55 ⟨jc, u54, ⟨rc, M56⟩, rfl, rfl⟩
      refine wp_seq_k (fun K57 hK57 => ?_)
      refine wp_seq_k (fun K58 hK58 => ?_)
      refine wl_region ?_
      refine st_val (.int .i64 ((jc : Nat) : Int)) (by kernel_rfl) (by kernel_rfl) ?_
      refine st_val (.slice A ls.length c) (by kernel_rfl) (by kernel_rfl) ?_
      refine st_val (.int .i64 ((ls.length : Nat) : Int)) (by kernel_rfl) (by kernel_rfl) ?_
      rcases Decidable.em ((((jc : Nat) : Int) : Int) < ((ls.length : Nat) : Int)) with c54 | c54
      ·
        refine st_val (.bool true) (by kernel_rfl) (bool_of (dec_t c54) (by kernel_rfl)) ?_
        refine wl_nil ?_
        refine hK58 _ _ ?_
        try clear hK58 K58
        refine wp_cond_true (by kernel_rfl) ?_
        refine wp_skip ?_
        refine hK57 _ _ ?_
        try clear hK57 K57
        refine wp_seq_k (fun K59 hK59 => ?_)
        refine wp_block ?_
        refine wp_seq_k (fun K60 hK60 => ?_)
        refine wp_seq_k (fun K61 hK61 => ?_)
        have hlj := hp3 jc (by omega)
        have hrj := hrr jc (by omega)
        have hlmj := hlm jc (by omega)
        refine wl_seq 11 (fun w' => Mem NoS w w' ((T29 ++ (T30 ++ (T10 ++ []))))) (by decide) (by kernel_rfl) (by kernel_rfl) M56.drew ?_
        refine seq_run (v := .slice A46 ((deR (enL ls)).length) cq47) (by decide) (by kernel_rfl) (fun w' M' => (by kernel_rfl)) ?_
        refine seq_run (v := .int .i64 ((jc : Nat) : Int)) (by decide) (by kernel_rfl) (fun w' M' => (by kernel_rfl)) ?_
        obtain ⟨b62, o63, eA64⟩ := RdK.addr ((rdP_of O43 OI44 (fun p hp => M56.at_ p ((List.mem_append_left _ (by rw [eT45]; exact List.mem_append_left _ hp)))) (fun p hp => M56.at_ p ((List.mem_append_left _ (by rw [eT45]; exact List.mem_append_right _ hp))))).rd) (j := jc * 1) (by rw [pvs_length]; omega)
        refine seq_run (v := .pointer (some ⟨b62, o63 + jc * 1, none⟩)) (by decide) (by kernel_rfl) (fun w' M' => (run_indexSliceA 28 (.tmp 57) (.tmp 58) rfl A46 ⟨b62, o63, none⟩ eA64 ((deR (enL ls)).length) cq47 .i64 jc (by kernel_rfl) (by kernel_rfl) Try.underlying28 1 (by kernel_rfl) (by omega) ⟨b62, o63 + jc * 1, none⟩ (addr_atK _ _ _ _))) ?_
        refine seq_run (v := .slice (As39 jc) (((deR (enL ls)).getD jc []).length) (cs40 jc)) (by decide) (by kernel_rfl) (fun w' M' => (run_load_cell 39 (.tmp 59) rfl ⟨b62, o63 + jc * 1, none⟩ (by kernel_rfl) _ (((rdP_of O43 OI44 (fun p hp => M'.at_ p ((List.mem_append_left _ (by rw [eT45]; exact List.mem_append_left _ hp)))) (fun p hp => M'.at_ p ((List.mem_append_left _ (by rw [eT45]; exact List.mem_append_right _ hp))))).rd).cellF eA64 (f := 0) (pvs_get (deR (enL ls)) As39 cs40 jc (by omega))) (by kernel_rfl))) ?_
        refine seq_run (v := .int .i64 ((((deR (enL ls)).getD jc []).length : Nat) : Int)) (by decide) (by kernel_rfl) (fun w' M' => (by kernel_rfl)) ?_
        refine seq_run (v := .slice A ls.length c) (by decide) (by kernel_rfl) (fun w' M' => (by kernel_rfl)) ?_
        refine seq_run (v := .int .i64 ((jc : Nat) : Int)) (by decide) (by kernel_rfl) (fun w' M' => (by kernel_rfl)) ?_
        obtain ⟨b65, o66, eA67⟩ := RdK.addr (hP.rd.keep M56.keep (fun _ _ h => h)) (j := jc * 1) (by rw [pvs_length]; omega)
        refine seq_run (v := .pointer (some ⟨b65, o66 + jc * 1, none⟩)) (by decide) (by kernel_rfl) (fun w' M' => (run_indexSliceA 28 (.tmp 62) (.tmp 63) rfl A ⟨b65, o66, none⟩ eA67 ls.length c .i64 jc (by kernel_rfl) (by kernel_rfl) Try.underlying28 1 (by kernel_rfl) (by omega) ⟨b65, o66 + jc * 1, none⟩ (addr_atK _ _ _ _))) ?_
        refine seq_run (v := .slice (As jc) ((ls.getD jc []).length) (cs jc)) (by decide) (by kernel_rfl) (fun w' M' => (run_load_cell 39 (.tmp 64) rfl ⟨b65, o66 + jc * 1, none⟩ (by kernel_rfl) _ ((hP.rd.keep M'.keep (fun _ _ h => h)).cellF eA67 (f := 0) (pvs_get ls As cs jc (by omega))) (by kernel_rfl))) ?_
        refine seq_run (v := .int .i64 (((ls.getD jc []).length : Nat) : Int)) (by decide) (by kernel_rfl) (fun w' M' => (by kernel_rfl)) ?_
        refine seq_run (v := .bool false) (by decide) (by kernel_rfl) (fun w' M' => (bool_of (neq_f (show (((((deR (enL ls)).getD jc []).length : Nat) : Int) : Int) = (((ls.getD jc []).length : Nat) : Int) by omega)) (by kernel_rfl))) ?_
        refine seq_end (by decide) ?_
        intro W68 M69
        refine wl_nil ?_
        refine hK61 _ _ ?_
        try clear hK61 K61
        refine wp_frame (a' := ⟨#[.slice A ls.length c, undef, (u54 2), .slice A18 m15 cq19, .int .i64 (enE ls), .slice A46 ((deR (enL ls)).length) cq47, .slice A36 m31 cq37, .int .i64 (deE (enL ls)), .int .i64 ((jc : Nat) : Int), (u54 9), (u54 10), (u54 11), (u54 12), .slice A ls.length c, .bool true, .bool false, .bool false, .slice A ls.length c, .bool true, .bool false, .bool false, undef, .tuple #[.slice A18 m15 cq19, .int .i64 (enE ls)], .slice A ls.length c, .tuple #[.slice A18 m15 cq19, .int .i64 (enE ls)], .slice A18 m15 cq19, .int .i64 (enE ls), .tuple #[.slice A46 ((deR (enL ls)).length) cq47, .slice A36 m31 cq37, .int .i64 (deE (enL ls))], .slice A18 m15 cq19, .tuple #[.slice A46 ((deR (enL ls)).length) cq47, .slice A36 m31 cq37, .int .i64 (deE (enL ls))], .slice A46 ((deR (enL ls)).length) cq47, .slice A36 m31 cq37, .int .i64 (deE (enL ls)), .int .i64 (enE ls), .bool false, .bool false, .int .i64 (deE (enL ls)), .bool false, .bool false, .bool false, .slice A36 m31 cq37, .int .i64 ((m31 : Nat) : Int), .bool false, .bool false, .bool false, .slice A46 ((deR (enL ls)).length) cq47, .int .i64 (((deR (enL ls)).length : Nat) : Int), .slice A ls.length c, .int .i64 ((ls.length : Nat) : Int), .bool false, .bool false, .int .i64 ((jc : Nat) : Int), .slice A ls.length c, .int .i64 ((ls.length : Nat) : Int), .bool true, (u54 55), (u54 56), .slice A46 ((deR (enL ls)).length) cq47, .int .i64 ((jc : Nat) : Int), .pointer (some ⟨b62, o63 + jc * 1, none⟩), .slice (As39 jc) (((deR (enL ls)).getD jc []).length) (cs40 jc), .int .i64 ((((deR (enL ls)).getD jc []).length : Nat) : Int), .slice A ls.length c, .int .i64 ((jc : Nat) : Int), .pointer (some ⟨b65, o66 + jc * 1, none⟩), .slice (As jc) ((ls.getD jc []).length) (cs jc), .int .i64 (((ls.getD jc []).length : Nat) : Int), .bool false, (u54 68), (u54 69), (u54 70), (u54 71), (u54 72), (u54 73), (u54 74), (u54 75), (u54 76), (u54 77), (u54 78), (u54 79), (u54 80), (u54 81), (u54 82), (u54 83), (u54 84), (u54 85), (u54 86), (u54 87), (u54 88), (u54 89), (u54 90), (u54 91), (u54 92), (u54 93), (u54 94), (u54 95), (u54 96), (u54 97), (u54 98), (u54 99), (u54 100), (u54 101), (u54 102), (u54 103), (u54 104), (u54 105), (u54 106), (u54 107), (u54 108), (u54 109), (u54 110), (u54 111), (u54 112), (u54 113), (u54 114), (u54 115), (u54 116), (u54 117), (u54 118), (u54 119), (u54 120), undef], []⟩) (by kernel_rfl) ?_
        refine wp_cond_false (by kernel_rfl) ?_
        refine wp_skip ?_
        refine hK60 _ _ ?_
        try clear hK60 K60
        refine wp_seq_k (fun K70 hK70 => ?_)
        refine wl_region ?_
        refine st_val (.int .i64 0) (by kernel_rfl) (by kernel_rfl) ?_
        refine wl_nil ?_
        refine hK70 _ _ ?_
        try clear hK70 K70
        refine wp_block ?_
        refine wp_loop_ghost (fun gn a' w' => ∃ (i : Nat) (u71 : Nat → Value), ((i ≤ (ls.getD jc []).length) ∧ Mem NoS w w' ((T29 ++ (T30 ++ (T10 ++ []))))) ∧ gn = (ls.getD jc []).length - i ∧ a' = ⟨#[.slice A ls.length c, undef, (u71 2), .slice A18 m15 cq19, .int .i64 (enE ls), .slice A46 ((deR (enL ls)).length) cq47, .slice A36 m31 cq37, .int .i64 (deE (enL ls)), .int .i64 ((jc : Nat) : Int), .int .i64 ((i : Nat) : Int), (u71 10), (u71 11), (u71 12), .slice A ls.length c, .bool true, .bool false, .bool false, .slice A ls.length c, .bool true, .bool false, .bool false, undef, .tuple #[.slice A18 m15 cq19, .int .i64 (enE ls)], .slice A ls.length c, .tuple #[.slice A18 m15 cq19, .int .i64 (enE ls)], .slice A18 m15 cq19, .int .i64 (enE ls), .tuple #[.slice A46 ((deR (enL ls)).length) cq47, .slice A36 m31 cq37, .int .i64 (deE (enL ls))], .slice A18 m15 cq19, .tuple #[.slice A46 ((deR (enL ls)).length) cq47, .slice A36 m31 cq37, .int .i64 (deE (enL ls))], .slice A46 ((deR (enL ls)).length) cq47, .slice A36 m31 cq37, .int .i64 (deE (enL ls)), .int .i64 (enE ls), .bool false, .bool false, .int .i64 (deE (enL ls)), .bool false, .bool false, .bool false, .slice A36 m31 cq37, .int .i64 ((m31 : Nat) : Int), .bool false, .bool false, .bool false, .slice A46 ((deR (enL ls)).length) cq47, .int .i64 (((deR (enL ls)).length : Nat) : Int), .slice A ls.length c, .int .i64 ((ls.length : Nat) : Int), .bool false, .bool false, .int .i64 ((jc : Nat) : Int), .slice A ls.length c, .int .i64 ((ls.length : Nat) : Int), .bool true, (u54 55), (u54 56), .slice A46 ((deR (enL ls)).length) cq47, .int .i64 ((jc : Nat) : Int), .pointer (some ⟨b62, o63 + jc * 1, none⟩), .slice (As39 jc) (((deR (enL ls)).getD jc []).length) (cs40 jc), .int .i64 ((((deR (enL ls)).getD jc []).length : Nat) : Int), .slice A ls.length c, .int .i64 ((jc : Nat) : Int), .pointer (some ⟨b65, o66 + jc * 1, none⟩), .slice (As jc) ((ls.getD jc []).length) (cs jc), .int .i64 (((ls.getD jc []).length : Nat) : Int), .bool false, (u71 68), (u71 69), (u71 70), (u71 71), (u71 72), (u71 73), (u71 74), (u71 75), (u71 76), (u71 77), (u71 78), (u71 79), (u71 80), (u71 81), (u71 82), (u71 83), (u71 84), (u71 85), (u71 86), (u71 87), (u71 88), (u71 89), (u71 90), (u71 91), (u71 92), (u71 93), (u71 94), (u71 95), (u71 96), (u71 97), (u71 98), (u71 99), (u71 100), (u71 101), (u71 102), (u71 103), (u71 104), (u71 105), (u71 106), (u71 107), (u71 108), (u71 109), (u71 110), (u71 111), (u71 112), (u71 113), (u71 114), (u71 115), (u71 116), (u71 117), (u71 118), (u71 119), (u71 120), undef], []⟩) _ ⟨0, (fun zz => Array.getD #[undef, undef, (u54 2), undef, undef, undef, undef, undef, undef, undef, (u54 10), (u54 11), (u54 12), undef, undef, undef, undef, undef, undef, undef, undef, undef, undef, undef, undef, undef, undef, undef, undef, undef, undef, undef, undef, undef, undef, undef, undef, undef, undef, undef, undef, undef, undef, undef, undef, undef, undef, undef, undef, undef, undef, undef, undef, undef, undef, undef, undef, undef, undef, undef, undef, undef, undef, undef, undef, undef, undef, undef, (u54 68), (u54 69), (u54 70), (u54 71), (u54 72), (u54 73), (u54 74), (u54 75), (u54 76), (u54 77), (u54 78), (u54 79), (u54 80), (u54 81), (u54 82), (u54 83), (u54 84), (u54 85), (u54 86), (u54 87), (u54 88), (u54 89), (u54 90), (u54 91), (u54 92), (u54 93), (u54 94), (u54 95), (u54 96), (u54 97), (u54 98), (u54 99), (u54 100), (u54 101), (u54 102), (u54 103), (u54 104), (u54 105), (u54 106), (u54 107), (u54 108), (u54 109), (u54 110), (u54 111), (u54 112), (u54 113), (u54 114), (u54 115), (u54 116), (u54 117), (u54 118), (u54 119), (u54 120)] zz undef), ⟨by omega, M69⟩, rfl, (by kernel_rfl)⟩ ?_
        rintro gn _ W72 ⟨i, u71, ⟨ri, M73⟩, rfl, rfl⟩
        refine wp_seq_k (fun K74 hK74 => ?_)
        refine wp_seq_k (fun K75 hK75 => ?_)
        refine wl_region ?_
        refine st_val (.int .i64 ((i : Nat) : Int)) (by kernel_rfl) (by kernel_rfl) ?_
        refine st_val (.slice A ls.length c) (by kernel_rfl) (by kernel_rfl) ?_
        refine st_val (.int .i64 ((jc : Nat) : Int)) (by kernel_rfl) (by kernel_rfl) ?_
        obtain ⟨b76, o77, eA78⟩ := RdK.addr (hP.rd.keep M73.keep (fun _ _ h => h)) (j := jc * 1) (by rw [pvs_length]; omega)
        refine st_val (.pointer (some ⟨b76, o77 + jc * 1, none⟩)) (by kernel_rfl) (run_indexSliceA 28 (.tmp 69) (.tmp 70) rfl A ⟨b76, o77, none⟩ eA78 ls.length c .i64 jc (by kernel_rfl) (by kernel_rfl) Try.underlying28 1 (by kernel_rfl) (by omega) ⟨b76, o77 + jc * 1, none⟩ (addr_atK _ _ _ _)) ?_
        refine st_val (.slice (As jc) ((ls.getD jc []).length) (cs jc)) (by kernel_rfl) (run_load_cell 39 (.tmp 71) rfl ⟨b76, o77 + jc * 1, none⟩ (by kernel_rfl) _ ((hP.rd.keep M73.keep (fun _ _ h => h)).cellF eA78 (f := 0) (pvs_get ls As cs jc (by omega))) (by kernel_rfl)) ?_
        refine st_val (.int .i64 (((ls.getD jc []).length : Nat) : Int)) (by kernel_rfl) (by kernel_rfl) ?_
        rcases Decidable.em ((((i : Nat) : Int) : Int) < (((ls.getD jc []).length : Nat) : Int)) with c74 | c74
        ·
          refine st_val (.bool true) (by kernel_rfl) (bool_of (dec_t c74) (by kernel_rfl)) ?_
          refine wl_nil ?_
          refine hK75 _ _ ?_
          try clear hK75 K75
          refine wp_cond_true (by kernel_rfl) ?_
          refine wp_skip ?_
          refine hK74 _ _ ?_
          try clear hK74 K74
          refine wp_seq_k (fun K79 hK79 => ?_)
          refine wp_block ?_
          refine wp_seq_k (fun K80 hK80 => ?_)
          refine wl_region ?_
          refine st_val (.int .i64 ((i : Nat) : Int)) (by kernel_rfl) (by kernel_rfl) ?_
          refine st_val (.int .i64 ((i / 32 : Nat) : Int)) (by kernel_rfl) (int_of (show ((i : Nat) : Int) / 32 = ((i / 32 : Nat) : Int) by omega) (int_of (quo_of ((i : Nat) : Int) 32 (by omega) (by omega) (by omega)) (by kernel_rfl))) ?_
          refine st_val (.int .i64 ((32 * (i / 32) : Nat) : Int)) (by kernel_rfl) (int_of (show ((i / 32 : Nat) : Int) * 32 = ((32 * (i / 32) : Nat) : Int) by omega) (i64_of (by omega) (by kernel_rfl))) ?_
          refine st_val (.int .i64 ((32 * (i / 32) : Nat) : Int)) (by kernel_rfl) (by kernel_rfl) ?_
          refine wl_nil ?_
          refine hK80 _ _ ?_
          try clear hK80 K80
          refine wp_seq_k (fun K81 hK81 => ?_)
          have hcj := (hP.ch jc (by omega) (by omega)).cap
          have hl2 : (((ls.getD jc []).drop (32 * (i / 32))).take 32).length = min (32 * (i / 32) + 32) (ls.getD jc []).length - 32 * (i / 32) := (by rw [List.length_take, List.length_drop]; omega)
          refine wl_seq 16 (fun w' => Mem NoS w w' ((T29 ++ (T30 ++ (T10 ++ []))))) (by decide) (by kernel_rfl) (by kernel_rfl) M73.drew ?_
          refine seq_run (v := .slice A ls.length c) (by decide) (by kernel_rfl) (fun w' M' => (by kernel_rfl)) ?_
          refine seq_run (v := .int .i64 ((jc : Nat) : Int)) (by decide) (by kernel_rfl) (fun w' M' => (by kernel_rfl)) ?_
          obtain ⟨b82, o83, eA84⟩ := RdK.addr (hP.rd.keep M73.keep (fun _ _ h => h)) (j := jc * 1) (by rw [pvs_length]; omega)
          refine seq_run (v := .pointer (some ⟨b82, o83 + jc * 1, none⟩)) (by decide) (by kernel_rfl) (fun w' M' => (run_indexSliceA 28 (.tmp 80) (.tmp 81) rfl A ⟨b82, o83, none⟩ eA84 ls.length c .i64 jc (by kernel_rfl) (by kernel_rfl) Try.underlying28 1 (by kernel_rfl) (by omega) ⟨b82, o83 + jc * 1, none⟩ (addr_atK _ _ _ _))) ?_
          refine seq_run (v := .slice (As jc) ((ls.getD jc []).length) (cs jc)) (by decide) (by kernel_rfl) (fun w' M' => (run_load_cell 39 (.tmp 82) rfl ⟨b82, o83 + jc * 1, none⟩ (by kernel_rfl) _ ((hP.rd.keep M'.keep (fun _ _ h => h)).cellF eA84 (f := 0) (pvs_get ls As cs jc (by omega))) (by kernel_rfl))) ?_
          refine seq_run (v := .int .i64 ((32 * (i / 32) : Nat) : Int)) (by decide) (by kernel_rfl) (fun w' M' => (by kernel_rfl)) ?_
          refine seq_run (v := .int .i64 ((32 * (i / 32) : Nat) : Int)) (by decide) (by kernel_rfl) (fun w' M' => (by kernel_rfl)) ?_
          refine seq_run (v := .int .i64 ((32 * (i / 32) + 32 : Nat) : Int)) (by decide) (by kernel_rfl) (fun w' M' => (int_of (show ((32 * (i / 32) : Nat) : Int) + 32 = ((32 * (i / 32) + 32 : Nat) : Int) by omega) (i64_of (by omega) (by kernel_rfl)))) ?_
          refine seq_run (v := .slice A ls.length c) (by decide) (by kernel_rfl) (fun w' M' => (by kernel_rfl)) ?_
          refine seq_run (v := .int .i64 ((jc : Nat) : Int)) (by decide) (by kernel_rfl) (fun w' M' => (by kernel_rfl)) ?_
          obtain ⟨b85, o86, eA87⟩ := RdK.addr (hP.rd.keep M73.keep (fun _ _ h => h)) (j := jc * 1) (by rw [pvs_length]; omega)
          refine seq_run (v := .pointer (some ⟨b85, o86 + jc * 1, none⟩)) (by decide) (by kernel_rfl) (fun w' M' => (run_indexSliceA 28 (.tmp 87) (.tmp 88) rfl A ⟨b85, o86, none⟩ eA87 ls.length c .i64 jc (by kernel_rfl) (by kernel_rfl) Try.underlying28 1 (by kernel_rfl) (by omega) ⟨b85, o86 + jc * 1, none⟩ (addr_atK _ _ _ _))) ?_
          refine seq_run (v := .slice (As jc) ((ls.getD jc []).length) (cs jc)) (by decide) (by kernel_rfl) (fun w' M' => (run_load_cell 39 (.tmp 89) rfl ⟨b85, o86 + jc * 1, none⟩ (by kernel_rfl) _ ((hP.rd.keep M'.keep (fun _ _ h => h)).cellF eA87 (f := 0) (pvs_get ls As cs jc (by omega))) (by kernel_rfl))) ?_
          refine seq_run (v := .int .i64 (((ls.getD jc []).length : Nat) : Int)) (by decide) (by kernel_rfl) (fun w' M' => (by kernel_rfl)) ?_
          refine seq_run (v := .int .i64 ((min (32 * (i / 32) + 32) (ls.getD jc []).length : Nat) : Int)) (by decide) (by kernel_rfl) (fun w' M' => (int_of (show (if (((ls.getD jc []).length : Nat) : Int) < ((32 * (i / 32) + 32 : Nat) : Int) then (((ls.getD jc []).length : Nat) : Int) else ((32 * (i / 32) + 32 : Nat) : Int)) = ((min (32 * (i / 32) + 32) (ls.getD jc []).length : Nat) : Int) by omega) (by kernel_rfl))) ?_
          refine seq_run (v := .slice (subA (As jc) (cs jc) (32 * (i / 32))) ((min (32 * (i / 32) + 32) (ls.getD jc []).length) - (32 * (i / 32))) ((cs jc) - (32 * (i / 32)))) (by decide) (by kernel_rfl) (fun w' M' => (run_sub_lh 39 45 (.tmp 83) (.tmp 84) (.tmp 92) rfl Try.underlying39 (by kernel_rfl) (As jc) ((ls.getD jc []).length) (cs jc) (by kernel_rfl) .i64 .i64 (32 * (i / 32)) (min (32 * (i / 32) + 32) (ls.getD jc []).length) (by kernel_rfl) (by kernel_rfl) (by omega) (by omega))) ?_
          refine seq_call (v := .int .i64 ((half (expo (((ls.getD jc []).drop (32 * (i / 32))).take 32)) : Nat) : Int)) (f := 24) (args := #[.slice (subA (As jc) (cs jc) (32 * (i / 32))) ((min (32 * (i / 32) + 32) (ls.getD jc []).length) - (32 * (i / 32))) ((cs jc) - (32 * (i / 32)))]) (by decide) (by kernel_rfl) (fun w' M' => (run_value_call 24 #[(Operand.tmp 93)] _ rfl Try.func24 (by kernel_rfl) (by kernel_rfl) _ (by kernel_rfl))) (fun w' M' => callB_mem M' ((by have := err_walk w' (subA (As jc) (cs jc) (32 * (i / 32))) ((cs jc) - (32 * (i / 32))) (((ls.getD jc []).drop (32 * (i / 32))).take 32) (fun _ => cut_rdk ((hP.ch jc (by omega) (by omega)).keep M'.keep (fun _ _ h => h)) (by omega)) (S16_cut (hsp jc (by omega)) _) (by omega); rw [hl2] at this; exact this))) ?_
          refine seq_run (v := .int .i64 ((half (expo (((ls.getD jc []).drop (32 * (i / 32))).take 32)) : Nat) : Int)) (by decide) (by kernel_rfl) (fun w' M' => (by kernel_rfl)) ?_
          refine seq_end (by decide) ?_
          intro W88 M89
          refine wl_nil ?_
          refine hK81 _ _ ?_
          try clear hK81 K81
          refine wp_frame (a' := ⟨#[.slice A ls.length c, undef, (u71 2), .slice A18 m15 cq19, .int .i64 (enE ls), .slice A46 ((deR (enL ls)).length) cq47, .slice A36 m31 cq37, .int .i64 (deE (enL ls)), .int .i64 ((jc : Nat) : Int), .int .i64 ((i : Nat) : Int), .int .i64 ((32 * (i / 32) : Nat) : Int), .int .i64 ((half (expo (((ls.getD jc []).drop (32 * (i / 32))).take 32)) : Nat) : Int), (u71 12), .slice A ls.length c, .bool true, .bool false, .bool false, .slice A ls.length c, .bool true, .bool false, .bool false, undef, .tuple #[.slice A18 m15 cq19, .int .i64 (enE ls)], .slice A ls.length c, .tuple #[.slice A18 m15 cq19, .int .i64 (enE ls)], .slice A18 m15 cq19, .int .i64 (enE ls), .tuple #[.slice A46 ((deR (enL ls)).length) cq47, .slice A36 m31 cq37, .int .i64 (deE (enL ls))], .slice A18 m15 cq19, .tuple #[.slice A46 ((deR (enL ls)).length) cq47, .slice A36 m31 cq37, .int .i64 (deE (enL ls))], .slice A46 ((deR (enL ls)).length) cq47, .slice A36 m31 cq37, .int .i64 (deE (enL ls)), .int .i64 (enE ls), .bool false, .bool false, .int .i64 (deE (enL ls)), .bool false, .bool false, .bool false, .slice A36 m31 cq37, .int .i64 ((m31 : Nat) : Int), .bool false, .bool false, .bool false, .slice A46 ((deR (enL ls)).length) cq47, .int .i64 (((deR (enL ls)).length : Nat) : Int), .slice A ls.length c, .int .i64 ((ls.length : Nat) : Int), .bool false, .bool false, .int .i64 ((jc : Nat) : Int), .slice A ls.length c, .int .i64 ((ls.length : Nat) : Int), .bool true, (u54 55), (u54 56), .slice A46 ((deR (enL ls)).length) cq47, .int .i64 ((jc : Nat) : Int), .pointer (some ⟨b62, o63 + jc * 1, none⟩), .slice (As39 jc) (((deR (enL ls)).getD jc []).length) (cs40 jc), .int .i64 ((((deR (enL ls)).getD jc []).length : Nat) : Int), .slice A ls.length c, .int .i64 ((jc : Nat) : Int), .pointer (some ⟨b65, o66 + jc * 1, none⟩), .slice (As jc) ((ls.getD jc []).length) (cs jc), .int .i64 (((ls.getD jc []).length : Nat) : Int), .bool false, .int .i64 ((i : Nat) : Int), .slice A ls.length c, .int .i64 ((jc : Nat) : Int), .pointer (some ⟨b76, o77 + jc * 1, none⟩), .slice (As jc) ((ls.getD jc []).length) (cs jc), .int .i64 (((ls.getD jc []).length : Nat) : Int), .bool true, (u71 75), (u71 76), .int .i64 ((i : Nat) : Int), .int .i64 ((i / 32 : Nat) : Int), .int .i64 ((32 * (i / 32) : Nat) : Int), .slice A ls.length c, .int .i64 ((jc : Nat) : Int), .pointer (some ⟨b82, o83 + jc * 1, none⟩), .slice (As jc) ((ls.getD jc []).length) (cs jc), .int .i64 ((32 * (i / 32) : Nat) : Int), .int .i64 ((32 * (i / 32) : Nat) : Int), .int .i64 ((32 * (i / 32) + 32 : Nat) : Int), .slice A ls.length c, .int .i64 ((jc : Nat) : Int), .pointer (some ⟨b85, o86 + jc * 1, none⟩), .slice (As jc) ((ls.getD jc []).length) (cs jc), .int .i64 (((ls.getD jc []).length : Nat) : Int), .int .i64 ((min (32 * (i / 32) + 32) (ls.getD jc []).length : Nat) : Int), .slice (subA (As jc) (cs jc) (32 * (i / 32))) ((min (32 * (i / 32) + 32) (ls.getD jc []).length) - (32 * (i / 32))) ((cs jc) - (32 * (i / 32))), .int .i64 ((half (expo (((ls.getD jc []).drop (32 * (i / 32))).take 32)) : Nat) : Int), (u71 95), (u71 96), (u71 97), (u71 98), (u71 99), (u71 100), (u71 101), (u71 102), (u71 103), (u71 104), (u71 105), (u71 106), (u71 107), (u71 108), (u71 109), (u71 110), (u71 111), (u71 112), (u71 113), (u71 114), (u71 115), (u71 116), (u71 117), (u71 118), (u71 119), (u71 120), undef], []⟩) (by kernel_rfl) ?_
          refine wp_seq_k (fun K90 hK90 => ?_)
          have hx16 := s16_get (hsp jc (by omega)) i
          have hy16 := s16_get ((gen_pp hPP hsp).2 jc (by omega)) i
          have hnr := back_near hPP hsp (c := jc) (i := i) (by omega) (by omega)
          refine wl_seq 18 (fun w' => Mem NoS w w' ((T29 ++ (T30 ++ (T10 ++ []))))) (by decide) (by kernel_rfl) (by kernel_rfl) M89.drew ?_
          refine seq_run (v := .slice A46 ((deR (enL ls)).length) cq47) (by decide) (by kernel_rfl) (fun w' M' => (by kernel_rfl)) ?_
          refine seq_run (v := .int .i64 ((jc : Nat) : Int)) (by decide) (by kernel_rfl) (fun w' M' => (by kernel_rfl)) ?_
          obtain ⟨b91, o92, eA93⟩ := RdK.addr ((rdP_of O43 OI44 (fun p hp => M89.at_ p ((List.mem_append_left _ (by rw [eT45]; exact List.mem_append_left _ hp)))) (fun p hp => M89.at_ p ((List.mem_append_left _ (by rw [eT45]; exact List.mem_append_right _ hp))))).rd) (j := jc * 1) (by rw [pvs_length]; omega)
          refine seq_run (v := .pointer (some ⟨b91, o92 + jc * 1, none⟩)) (by decide) (by kernel_rfl) (fun w' M' => (run_indexSliceA 28 (.tmp 95) (.tmp 96) rfl A46 ⟨b91, o92, none⟩ eA93 ((deR (enL ls)).length) cq47 .i64 jc (by kernel_rfl) (by kernel_rfl) Try.underlying28 1 (by kernel_rfl) (by omega) ⟨b91, o92 + jc * 1, none⟩ (addr_atK _ _ _ _))) ?_
          refine seq_run (v := .slice (As39 jc) (((deR (enL ls)).getD jc []).length) (cs40 jc)) (by decide) (by kernel_rfl) (fun w' M' => (run_load_cell 39 (.tmp 97) rfl ⟨b91, o92 + jc * 1, none⟩ (by kernel_rfl) _ (((rdP_of O43 OI44 (fun p hp => M'.at_ p ((List.mem_append_left _ (by rw [eT45]; exact List.mem_append_left _ hp)))) (fun p hp => M'.at_ p ((List.mem_append_left _ (by rw [eT45]; exact List.mem_append_right _ hp))))).rd).cellF eA93 (f := 0) (pvs_get (deR (enL ls)) As39 cs40 jc (by omega))) (by kernel_rfl))) ?_
          refine seq_run (v := .int .i64 ((i : Nat) : Int)) (by decide) (by kernel_rfl) (fun w' M' => (by kernel_rfl)) ?_
          obtain ⟨b94, o95, eA96⟩ := RdK.addr (((rdP_of O43 OI44 (fun p hp => M89.at_ p ((List.mem_append_left _ (by rw [eT45]; exact List.mem_append_left _ hp)))) (fun p hp => M89.at_ p ((List.mem_append_left _ (by rw [eT45]; exact List.mem_append_right _ hp))))).ch jc (by omega) (by omega))) (j := i * 1) (by rw [i16s_length]; omega)
          refine seq_run (v := .pointer (some ⟨b94, o95 + i * 1, none⟩)) (by decide) (by kernel_rfl) (fun w' M' => (run_indexSliceA 39 (.tmp 98) (.tmp 99) rfl (As39 jc) ⟨b94, o95, none⟩ eA96 (((deR (enL ls)).getD jc []).length) (cs40 jc) .i64 i (by kernel_rfl) (by kernel_rfl) Try.underlying39 1 (by kernel_rfl) (by omega) ⟨b94, o95 + i * 1, none⟩ (addr_atK _ _ _ _))) ?_
          refine seq_run (v := .int .i16 (((deR (enL ls)).getD jc []).getD i 0)) (by decide) (by kernel_rfl) (fun w' M' => (run_load_cell 45 (.tmp 100) rfl ⟨b94, o95 + i * 1, none⟩ (by kernel_rfl) _ ((((rdP_of O43 OI44 (fun p hp => M'.at_ p ((List.mem_append_left _ (by rw [eT45]; exact List.mem_append_left _ hp)))) (fun p hp => M'.at_ p ((List.mem_append_left _ (by rw [eT45]; exact List.mem_append_right _ hp))))).ch jc (by omega) (by omega))).cellF eA96 (f := 0) (i16s_get ((deR (enL ls)).getD jc []) i (by omega))) (by kernel_rfl))) ?_
          refine seq_run (v := .int .i64 (((deR (enL ls)).getD jc []).getD i 0)) (by decide) (by kernel_rfl) (fun w' M' => (i64_of (by omega) (by kernel_rfl))) ?_
          refine seq_run (v := .slice A ls.length c) (by decide) (by kernel_rfl) (fun w' M' => (by kernel_rfl)) ?_
          refine seq_run (v := .int .i64 ((jc : Nat) : Int)) (by decide) (by kernel_rfl) (fun w' M' => (by kernel_rfl)) ?_
          obtain ⟨b97, o98, eA99⟩ := RdK.addr (hP.rd.keep M89.keep (fun _ _ h => h)) (j := jc * 1) (by rw [pvs_length]; omega)
          refine seq_run (v := .pointer (some ⟨b97, o98 + jc * 1, none⟩)) (by decide) (by kernel_rfl) (fun w' M' => (run_indexSliceA 28 (.tmp 103) (.tmp 104) rfl A ⟨b97, o98, none⟩ eA99 ls.length c .i64 jc (by kernel_rfl) (by kernel_rfl) Try.underlying28 1 (by kernel_rfl) (by omega) ⟨b97, o98 + jc * 1, none⟩ (addr_atK _ _ _ _))) ?_
          refine seq_run (v := .slice (As jc) ((ls.getD jc []).length) (cs jc)) (by decide) (by kernel_rfl) (fun w' M' => (run_load_cell 39 (.tmp 105) rfl ⟨b97, o98 + jc * 1, none⟩ (by kernel_rfl) _ ((hP.rd.keep M'.keep (fun _ _ h => h)).cellF eA99 (f := 0) (pvs_get ls As cs jc (by omega))) (by kernel_rfl))) ?_
          refine seq_run (v := .int .i64 ((i : Nat) : Int)) (by decide) (by kernel_rfl) (fun w' M' => (by kernel_rfl)) ?_
          obtain ⟨b100, o101, eA102⟩ := RdK.addr ((hP.ch jc (by omega) (by omega)).keep M89.keep (fun _ _ h => h)) (j := i * 1) (by rw [i16s_length]; omega)
          refine seq_run (v := .pointer (some ⟨b100, o101 + i * 1, none⟩)) (by decide) (by kernel_rfl) (fun w' M' => (run_indexSliceA 39 (.tmp 106) (.tmp 107) rfl (As jc) ⟨b100, o101, none⟩ eA102 ((ls.getD jc []).length) (cs jc) .i64 i (by kernel_rfl) (by kernel_rfl) Try.underlying39 1 (by kernel_rfl) (by omega) ⟨b100, o101 + i * 1, none⟩ (addr_atK _ _ _ _))) ?_
          refine seq_run (v := .int .i16 ((ls.getD jc []).getD i 0)) (by decide) (by kernel_rfl) (fun w' M' => (run_load_cell 45 (.tmp 108) rfl ⟨b100, o101 + i * 1, none⟩ (by kernel_rfl) _ (((hP.ch jc (by omega) (by omega)).keep M'.keep (fun _ _ h => h)).cellF eA102 (f := 0) (i16s_get (ls.getD jc []) i (by omega))) (by kernel_rfl))) ?_
          refine seq_run (v := .int .i64 ((ls.getD jc []).getD i 0)) (by decide) (by kernel_rfl) (fun w' M' => (i64_of (by omega) (by kernel_rfl))) ?_
          refine seq_run (v := .int .i64 ((((deR (enL ls)).getD jc []).getD i 0) - ((ls.getD jc []).getD i 0))) (by decide) (by kernel_rfl) (fun w' M' => (i64_of (by omega) (by kernel_rfl))) ?_
          refine seq_run (v := .int .i64 ((((deR (enL ls)).getD jc []).getD i 0) - ((ls.getD jc []).getD i 0))) (by decide) (by kernel_rfl) (fun w' M' => (by kernel_rfl)) ?_
          refine seq_end (by decide) ?_
          intro W103 M104
          refine wl_nil ?_
          refine hK90 _ _ ?_
          try clear hK90 K90
          refine wp_frame (a' := ⟨#[.slice A ls.length c, undef, (u71 2), .slice A18 m15 cq19, .int .i64 (enE ls), .slice A46 ((deR (enL ls)).length) cq47, .slice A36 m31 cq37, .int .i64 (deE (enL ls)), .int .i64 ((jc : Nat) : Int), .int .i64 ((i : Nat) : Int), .int .i64 ((32 * (i / 32) : Nat) : Int), .int .i64 ((half (expo (((ls.getD jc []).drop (32 * (i / 32))).take 32)) : Nat) : Int), .int .i64 ((((deR (enL ls)).getD jc []).getD i 0) - ((ls.getD jc []).getD i 0)), .slice A ls.length c, .bool true, .bool false, .bool false, .slice A ls.length c, .bool true, .bool false, .bool false, undef, .tuple #[.slice A18 m15 cq19, .int .i64 (enE ls)], .slice A ls.length c, .tuple #[.slice A18 m15 cq19, .int .i64 (enE ls)], .slice A18 m15 cq19, .int .i64 (enE ls), .tuple #[.slice A46 ((deR (enL ls)).length) cq47, .slice A36 m31 cq37, .int .i64 (deE (enL ls))], .slice A18 m15 cq19, .tuple #[.slice A46 ((deR (enL ls)).length) cq47, .slice A36 m31 cq37, .int .i64 (deE (enL ls))], .slice A46 ((deR (enL ls)).length) cq47, .slice A36 m31 cq37, .int .i64 (deE (enL ls)), .int .i64 (enE ls), .bool false, .bool false, .int .i64 (deE (enL ls)), .bool false, .bool false, .bool false, .slice A36 m31 cq37, .int .i64 ((m31 : Nat) : Int), .bool false, .bool false, .bool false, .slice A46 ((deR (enL ls)).length) cq47, .int .i64 (((deR (enL ls)).length : Nat) : Int), .slice A ls.length c, .int .i64 ((ls.length : Nat) : Int), .bool false, .bool false, .int .i64 ((jc : Nat) : Int), .slice A ls.length c, .int .i64 ((ls.length : Nat) : Int), .bool true, (u54 55), (u54 56), .slice A46 ((deR (enL ls)).length) cq47, .int .i64 ((jc : Nat) : Int), .pointer (some ⟨b62, o63 + jc * 1, none⟩), .slice (As39 jc) (((deR (enL ls)).getD jc []).length) (cs40 jc), .int .i64 ((((deR (enL ls)).getD jc []).length : Nat) : Int), .slice A ls.length c, .int .i64 ((jc : Nat) : Int), .pointer (some ⟨b65, o66 + jc * 1, none⟩), .slice (As jc) ((ls.getD jc []).length) (cs jc), .int .i64 (((ls.getD jc []).length : Nat) : Int), .bool false, .int .i64 ((i : Nat) : Int), .slice A ls.length c, .int .i64 ((jc : Nat) : Int), .pointer (some ⟨b76, o77 + jc * 1, none⟩), .slice (As jc) ((ls.getD jc []).length) (cs jc), .int .i64 (((ls.getD jc []).length : Nat) : Int), .bool true, (u71 75), (u71 76), .int .i64 ((i : Nat) : Int), .int .i64 ((i / 32 : Nat) : Int), .int .i64 ((32 * (i / 32) : Nat) : Int), .slice A ls.length c, .int .i64 ((jc : Nat) : Int), .pointer (some ⟨b82, o83 + jc * 1, none⟩), .slice (As jc) ((ls.getD jc []).length) (cs jc), .int .i64 ((32 * (i / 32) : Nat) : Int), .int .i64 ((32 * (i / 32) : Nat) : Int), .int .i64 ((32 * (i / 32) + 32 : Nat) : Int), .slice A ls.length c, .int .i64 ((jc : Nat) : Int), .pointer (some ⟨b85, o86 + jc * 1, none⟩), .slice (As jc) ((ls.getD jc []).length) (cs jc), .int .i64 (((ls.getD jc []).length : Nat) : Int), .int .i64 ((min (32 * (i / 32) + 32) (ls.getD jc []).length : Nat) : Int), .slice (subA (As jc) (cs jc) (32 * (i / 32))) ((min (32 * (i / 32) + 32) (ls.getD jc []).length) - (32 * (i / 32))) ((cs jc) - (32 * (i / 32))), .int .i64 ((half (expo (((ls.getD jc []).drop (32 * (i / 32))).take 32)) : Nat) : Int), .slice A46 ((deR (enL ls)).length) cq47, .int .i64 ((jc : Nat) : Int), .pointer (some ⟨b91, o92 + jc * 1, none⟩), .slice (As39 jc) (((deR (enL ls)).getD jc []).length) (cs40 jc), .int .i64 ((i : Nat) : Int), .pointer (some ⟨b94, o95 + i * 1, none⟩), .int .i16 (((deR (enL ls)).getD jc []).getD i 0), .int .i64 (((deR (enL ls)).getD jc []).getD i 0), .slice A ls.length c, .int .i64 ((jc : Nat) : Int), .pointer (some ⟨b97, o98 + jc * 1, none⟩), .slice (As jc) ((ls.getD jc []).length) (cs jc), .int .i64 ((i : Nat) : Int), .pointer (some ⟨b100, o101 + i * 1, none⟩), .int .i16 ((ls.getD jc []).getD i 0), .int .i64 ((ls.getD jc []).getD i 0), .int .i64 ((((deR (enL ls)).getD jc []).getD i 0) - ((ls.getD jc []).getD i 0)), (u71 112), (u71 113), (u71 114), (u71 115), (u71 116), (u71 117), (u71 118), (u71 119), (u71 120), undef], []⟩) (by kernel_rfl) ?_
          refine wp_seq_k (fun K105 hK105 => ?_)
          refine wl_region ?_
          refine st_val (.int .i64 ((((deR (enL ls)).getD jc []).getD i 0) - ((ls.getD jc []).getD i 0))) (by kernel_rfl) (by kernel_rfl) ?_
          refine st_val (.int .i64 ((half (expo (((ls.getD jc []).drop (32 * (i / 32))).take 32)) : Nat) : Int)) (by kernel_rfl) (by kernel_rfl) ?_
          refine st_val (.bool false) (by kernel_rfl) (bool_of (dec_f (show ¬ (((((deR (enL ls)).getD jc []).getD i 0) - ((ls.getD jc []).getD i 0) : Int) > ((half (expo (((ls.getD jc []).drop (32 * (i / 32))).take 32)) : Nat) : Int)) by omega)) (by kernel_rfl)) ?_
          refine st_val (.bool false) (by kernel_rfl) (by kernel_rfl) ?_
          refine st_val (.int .i64 ((((deR (enL ls)).getD jc []).getD i 0) - ((ls.getD jc []).getD i 0))) (by kernel_rfl) (by kernel_rfl) ?_
          refine st_val (.int .i64 (-((((deR (enL ls)).getD jc []).getD i 0) - ((ls.getD jc []).getD i 0)))) (by kernel_rfl) (int_of (show (0 : Int) - ((((deR (enL ls)).getD jc []).getD i 0) - ((ls.getD jc []).getD i 0)) = -((((deR (enL ls)).getD jc []).getD i 0) - ((ls.getD jc []).getD i 0)) by omega) (i64_of (by omega) (by kernel_rfl))) ?_
          refine st_val (.int .i64 ((half (expo (((ls.getD jc []).drop (32 * (i / 32))).take 32)) : Nat) : Int)) (by kernel_rfl) (by kernel_rfl) ?_
          refine st_val (.bool false) (by kernel_rfl) (bool_of (dec_f (show ¬ ((-((((deR (enL ls)).getD jc []).getD i 0) - ((ls.getD jc []).getD i 0)) : Int) > ((half (expo (((ls.getD jc []).drop (32 * (i / 32))).take 32)) : Nat) : Int)) by omega)) (by kernel_rfl)) ?_
          refine st_val (.bool false) (by kernel_rfl) (by kernel_rfl) ?_
          refine wl_nil ?_
          refine hK105 _ _ ?_
          try clear hK105 K105
          refine wp_cond_false (by kernel_rfl) ?_
          refine wp_skip ?_
          refine blk_normal ?_
          refine hK79 _ _ ?_
          try clear hK79 K79
          refine wl_region ?_
          refine st_val (.int .i64 ((i : Nat) : Int)) (by kernel_rfl) (by kernel_rfl) ?_
          refine st_val (.int .i64 (((i : Nat) : Int) + 1)) (by kernel_rfl) (i64_of (by omega) (by kernel_rfl)) ?_
          refine st_val (.int .i64 (((i : Nat) : Int) + 1)) (by kernel_rfl) (by kernel_rfl) ?_
          refine wl_nil ?_
          refine th_normal ?_
          exact ⟨_, by omega, (i + 1), (fun zz => Array.getD #[undef, undef, (u71 2), undef, undef, undef, undef, undef, undef, undef, .int .i64 ((32 * (i / 32) : Nat) : Int), .int .i64 ((half (expo (((ls.getD jc []).drop (32 * (i / 32))).take 32)) : Nat) : Int), .int .i64 ((((deR (enL ls)).getD jc []).getD i 0) - ((ls.getD jc []).getD i 0)), undef, undef, undef, undef, undef, undef, undef, undef, undef, undef, undef, undef, undef, undef, undef, undef, undef, undef, undef, undef, undef, undef, undef, undef, undef, undef, undef, undef, undef, undef, undef, undef, undef, undef, undef, undef, undef, undef, undef, undef, undef, undef, undef, undef, undef, undef, undef, undef, undef, undef, undef, undef, undef, undef, undef, .int .i64 ((i : Nat) : Int), .slice A ls.length c, .int .i64 ((jc : Nat) : Int), .pointer (some ⟨b76, o77 + jc * 1, none⟩), .slice (As jc) ((ls.getD jc []).length) (cs jc), .int .i64 (((ls.getD jc []).length : Nat) : Int), .bool true, .int .i64 ((i : Nat) : Int), .int .i64 (((i : Nat) : Int) + 1), .int .i64 ((i : Nat) : Int), .int .i64 ((i / 32 : Nat) : Int), .int .i64 ((32 * (i / 32) : Nat) : Int), .slice A ls.length c, .int .i64 ((jc : Nat) : Int), .pointer (some ⟨b82, o83 + jc * 1, none⟩), .slice (As jc) ((ls.getD jc []).length) (cs jc), .int .i64 ((32 * (i / 32) : Nat) : Int), .int .i64 ((32 * (i / 32) : Nat) : Int), .int .i64 ((32 * (i / 32) + 32 : Nat) : Int), .slice A ls.length c, .int .i64 ((jc : Nat) : Int), .pointer (some ⟨b85, o86 + jc * 1, none⟩), .slice (As jc) ((ls.getD jc []).length) (cs jc), .int .i64 (((ls.getD jc []).length : Nat) : Int), .int .i64 ((min (32 * (i / 32) + 32) (ls.getD jc []).length : Nat) : Int), .slice (subA (As jc) (cs jc) (32 * (i / 32))) ((min (32 * (i / 32) + 32) (ls.getD jc []).length) - (32 * (i / 32))) ((cs jc) - (32 * (i / 32))), .int .i64 ((half (expo (((ls.getD jc []).drop (32 * (i / 32))).take 32)) : Nat) : Int), .slice A46 ((deR (enL ls)).length) cq47, .int .i64 ((jc : Nat) : Int), .pointer (some ⟨b91, o92 + jc * 1, none⟩), .slice (As39 jc) (((deR (enL ls)).getD jc []).length) (cs40 jc), .int .i64 ((i : Nat) : Int), .pointer (some ⟨b94, o95 + i * 1, none⟩), .int .i16 (((deR (enL ls)).getD jc []).getD i 0), .int .i64 (((deR (enL ls)).getD jc []).getD i 0), .slice A ls.length c, .int .i64 ((jc : Nat) : Int), .pointer (some ⟨b97, o98 + jc * 1, none⟩), .slice (As jc) ((ls.getD jc []).length) (cs jc), .int .i64 ((i : Nat) : Int), .pointer (some ⟨b100, o101 + i * 1, none⟩), .int .i16 ((ls.getD jc []).getD i 0), .int .i64 ((ls.getD jc []).getD i 0), .int .i64 ((((deR (enL ls)).getD jc []).getD i 0) - ((ls.getD jc []).getD i 0)), .int .i64 ((((deR (enL ls)).getD jc []).getD i 0) - ((ls.getD jc []).getD i 0)), .int .i64 ((half (expo (((ls.getD jc []).drop (32 * (i / 32))).take 32)) : Nat) : Int), .bool false, .bool false, .int .i64 ((((deR (enL ls)).getD jc []).getD i 0) - ((ls.getD jc []).getD i 0)), .int .i64 (-((((deR (enL ls)).getD jc []).getD i 0) - ((ls.getD jc []).getD i 0))), .int .i64 ((half (expo (((ls.getD jc []).drop (32 * (i / 32))).take 32)) : Nat) : Int), .bool false, .bool false] zz undef), ⟨by omega, M104⟩, rfl, (by kernel_rfl)⟩
        ·
          refine st_val (.bool false) (by kernel_rfl) (bool_of (dec_f c74) (by kernel_rfl)) ?_
          refine wl_nil ?_
          refine hK75 _ _ ?_
          try clear hK75 K75
          refine wp_cond_false (by kernel_rfl) ?_
          refine wp_exit ?_
          refine th_exit ?_
          refine th_exit ?_
          refine blk_exit ?_
          refine blk_normal ?_
          refine hK59 _ _ ?_
          try clear hK59 K59
          refine wl_region ?_
          refine st_val (.int .i64 ((jc : Nat) : Int)) (by kernel_rfl) (by kernel_rfl) ?_
          refine st_val (.int .i64 (((jc : Nat) : Int) + 1)) (by kernel_rfl) (i64_of (by omega) (by kernel_rfl)) ?_
          refine st_val (.int .i64 (((jc : Nat) : Int) + 1)) (by kernel_rfl) (by kernel_rfl) ?_
          refine wl_nil ?_
          refine th_normal ?_
          exact ⟨_, by omega, (jc + 1), (fun zz => Array.getD #[undef, undef, (u71 2), undef, undef, undef, undef, undef, undef, .int .i64 ((i : Nat) : Int), (u71 10), (u71 11), (u71 12), undef, undef, undef, undef, undef, undef, undef, undef, undef, undef, undef, undef, undef, undef, undef, undef, undef, undef, undef, undef, undef, undef, undef, undef, undef, undef, undef, undef, undef, undef, undef, undef, undef, undef, undef, undef, undef, undef, .int .i64 ((jc : Nat) : Int), .slice A ls.length c, .int .i64 ((ls.length : Nat) : Int), .bool true, .int .i64 ((jc : Nat) : Int), .int .i64 (((jc : Nat) : Int) + 1), .slice A46 ((deR (enL ls)).length) cq47, .int .i64 ((jc : Nat) : Int), .pointer (some ⟨b62, o63 + jc * 1, none⟩), .slice (As39 jc) (((deR (enL ls)).getD jc []).length) (cs40 jc), .int .i64 ((((deR (enL ls)).getD jc []).length : Nat) : Int), .slice A ls.length c, .int .i64 ((jc : Nat) : Int), .pointer (some ⟨b65, o66 + jc * 1, none⟩), .slice (As jc) ((ls.getD jc []).length) (cs jc), .int .i64 (((ls.getD jc []).length : Nat) : Int), .bool false, .int .i64 ((i : Nat) : Int), .slice A ls.length c, .int .i64 ((jc : Nat) : Int), .pointer (some ⟨b76, o77 + jc * 1, none⟩), .slice (As jc) ((ls.getD jc []).length) (cs jc), .int .i64 (((ls.getD jc []).length : Nat) : Int), .bool false, (u71 75), (u71 76), (u71 77), (u71 78), (u71 79), (u71 80), (u71 81), (u71 82), (u71 83), (u71 84), (u71 85), (u71 86), (u71 87), (u71 88), (u71 89), (u71 90), (u71 91), (u71 92), (u71 93), (u71 94), (u71 95), (u71 96), (u71 97), (u71 98), (u71 99), (u71 100), (u71 101), (u71 102), (u71 103), (u71 104), (u71 105), (u71 106), (u71 107), (u71 108), (u71 109), (u71 110), (u71 111), (u71 112), (u71 113), (u71 114), (u71 115), (u71 116), (u71 117), (u71 118), (u71 119), (u71 120)] zz undef), ⟨by omega, M73⟩, rfl, (by kernel_rfl)⟩
      ·
        refine st_val (.bool false) (by kernel_rfl) (bool_of (dec_f c54) (by kernel_rfl)) ?_
        refine wl_nil ?_
        refine hK58 _ _ ?_
        try clear hK58 K58
        refine wp_cond_false (by kernel_rfl) ?_
        refine wp_exit ?_
        refine th_exit ?_
        refine th_exit ?_
        refine blk_exit ?_
        refine hK52 _ _ ?_
        try clear hK52 K52
        refine wp_seq_k (fun K106 hK106 => ?_)
        refine wl_region ?_
        refine st_callB M56 (.bool true) (by kernel_rfl) (args := #[]) (run_value_call 12 #[] _ rfl Try.func12 (by kernel_rfl) (by kernel_rfl) _ (by kernel_rfl)) (awake_walk W55) ?_
        intro W107 M108
        refine st_val (.bool true) (by kernel_rfl) (by kernel_rfl) ?_
        refine wl_nil ?_
        refine hK106 _ _ ?_
        try clear hK106 K106
        refine wp_ret ?_
        exact done1 2 (.bool true) (by kernel_rfl) (by kernel_rfl) (by kernel_rfl) ⟨rfl, M108.toBelow⟩
    ·
      have hpn := ppB_not hpp
      refine st_callB M5 (.bool false) (by kernel_rfl) (args := #[.slice A ls.length c]) (run_value_call 31 #[(Operand.tmp 17)] _ rfl Try.func31 (by kernel_rfl) (by kernel_rfl) _ (by kernel_rfl)) ((by have := refProper_walk W4 (.slice A ls.length c) ls As cs (hP.keep M5.keep (fun _ h => h)) (by omega); rw [hpp] at this; exact this)) ?_
      intro W109 M110
      refine st_val (.bool true) (by kernel_rfl) (by kernel_rfl) ?_
      refine st_val (.bool true) (by kernel_rfl) (by kernel_rfl) ?_
      refine wl_nil ?_
      refine hK3 _ _ ?_
      try clear hK3 K3
      refine wp_cond_true (by kernel_rfl) ?_
      refine wp_seq_k (fun K111 hK111 => ?_)
      refine wl_region ?_
      refine st_callB M110 (.bool true) (by kernel_rfl) (args := #[]) (run_value_call 12 #[] _ rfl Try.func12 (by kernel_rfl) (by kernel_rfl) _ (by kernel_rfl)) (awake_walk W109) ?_
      intro W112 M113
      refine st_val (.bool true) (by kernel_rfl) (by kernel_rfl) ?_
      refine wl_nil ?_
      refine hK111 _ _ ?_
      try clear hK111 K111
      refine wp_ret ?_
      refine th_ret ?_
      exact done1 2 (.bool true) (by kernel_rfl) (by kernel_rfl) (by kernel_rfl) ⟨rfl, M113.toBelow⟩
  ·
    refine st_callB M0 (.bool false) (by kernel_rfl) (args := #[.slice A ls.length c, .int .i64 400]) (run_value_call 20 #[(Operand.tmp 13), (Operand.const (Value.int IntKind.i64 400))] _ rfl Try.func20 (by kernel_rfl) (by kernel_rfl) _ (by kernel_rfl)) ((by have := light_walk w (.slice A ls.length c) ls As cs (hP.keep M0.keep (fun _ h => h)) 400; rw [hlt] at this; exact this)) ?_
    intro W114 M115
    refine st_val (.bool true) (by kernel_rfl) (by kernel_rfl) ?_
    refine st_val (.bool true) (by kernel_rfl) (by kernel_rfl) ?_
    refine st_skip (by kernel_rfl) ?_
    refine st_skip (by kernel_rfl) ?_
    refine st_skip (by kernel_rfl) ?_
    refine st_val (.bool true) (by kernel_rfl) (by kernel_rfl) ?_
    refine wl_nil ?_
    refine hK3 _ _ ?_
    try clear hK3 K3
    refine wp_cond_true (by kernel_rfl) ?_
    refine wp_seq_k (fun K116 hK116 => ?_)
    refine wl_region ?_
    refine st_callB M115 (.bool true) (by kernel_rfl) (args := #[]) (run_value_call 12 #[] _ rfl Try.func12 (by kernel_rfl) (by kernel_rfl) _ (by kernel_rfl)) (awake_walk W114) ?_
    intro W117 M118
    refine st_val (.bool true) (by kernel_rfl) (by kernel_rfl) ?_
    refine wl_nil ?_
    refine hK116 _ _ ?_
    try clear hK116 K116
    refine wp_ret ?_
    refine th_ret ?_
    exact done1 2 (.bool true) (by kernel_rfl) (by kernel_rfl) (by kernel_rfl) ⟨rfl, M118.toBelow⟩
end Go.Proofs.Ytmimljaniliecaa
