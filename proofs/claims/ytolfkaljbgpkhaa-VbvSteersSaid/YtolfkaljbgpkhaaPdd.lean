/- Units with stuffing. -/
import Derived.Test.YtolfkaljbgpkhaaSr3
import Derived.Test.YtolfkaljbgpkhaaOwS
namespace Go.Proofs.Ytolfkaljbgpkhaa
open Go.RowKit

theorem own_empty (e : TypeId) (k g : Nat) : Own e k (.slice (some ⟨g, 0, none⟩) 0 0) 0 [] [(g, .cells #[] e (0, 0))] := ⟨by simp, .inr ⟨g, 0, #[], rfl, rfl, Nat.le_refl _, Nat.zero_le _, by simp, by simp⟩⟩
set_option maxHeartbeats 4000000 in
set_option maxRecDepth 100000 in
theorem padded_walk (w : World) (v : Value) (us : List UnitD) (hr : RdK w v us.length (flat us)) (l : List Int) (q : Value) (hq : RdK w q l.length (ints l)) (hl : l.length = us.length) (hu : us.length ≤ 300) (hb : ∀ i, i < us.length → (0 ≤ (us.getD i u0).bits ∧ (us.getD i u0).bits ≤ 8388608) ∧ 0 ≤ l.getD i 0 ∧ 8 * l.getD i 0 ≤ 100000000000000) : MakesRow Try.prog 29 #[v, q] w (fun v T => Own 60 4 v us.length (flat (padAll us l)) T) := by
  unfold MakesRow
  obtain ⟨A, c, rfl, hc⟩ := hr.shape
  obtain ⟨Ap, cp, rfl, hcp⟩ := hq.shape
  refine calls_of_wp Try.func29 rfl ?_
  refine wp_frame (a' := ⟨#[.slice A us.length c, .slice Ap l.length cp, undef, undef, undef, undef, undef, undef, undef, undef, undef, undef, undef, undef, undef, undef, undef, undef, undef, undef, undef, undef, undef, undef, undef, undef, undef, undef, undef, undef, undef, undef], []⟩) (by kernel_rfl) ?_
  have M0 : Mem NoS w w [] := Mem.start _ _
  refine wp_seq_k (fun K1 hK1 => ?_)
  refine wl_region ?_
  refine st_val ((Go.Value.slice none 0 0)) (by kernel_rfl) (by kernel_rfl) ?_
  refine wl_nil ?_
  refine hK1 _ _ ?_
  try clear hK1 K1
  refine wp_seq_k (fun K2 hK2 => ?_)
  refine wl_region ?_
  refine st_new M0 (.cells #[] 60 (0, 0)) (fun g => .slice (some ⟨g, 0, none⟩) 0 0) (by kernel_rfl) (by kernel_rfl) ?_
  intro g3 W4 M5
  have M5 : Mem NoS w W4 (([(g3, .cells #[] 60 (0, 0))] ++ [])) := M5
  refine st_val (.slice A us.length c) (by kernel_rfl) (by kernel_rfl) ?_
  obtain ⟨v6, T7, W8, hr9, O10, M11⟩ := append_unit (A := []) (T := [(g3, .cells #[] 60 (0, 0))]) (B := []) M5 36 _ _ _ (own_empty _ _ g3) _ us.length (flat us) (hr.keep M5.keep (fun _ _ h => h)) (flat_len _) (flat_one _) (by omega)
  have M11 : Mem NoS w W8 ((T7 ++ [])) := M11
  rw [Nat.zero_add, List.nil_append] at O10
  obtain ⟨A12, cq13, rfl, hc14⟩ := O10.shape
  refine st_world (.slice A12 us.length cq13) W8 (by kernel_rfl) (run_append_op (.tmp 7) (.tmp 8) _ rfl (.slice (some ⟨g3, 0, none⟩) 0 0) (.slice A us.length c) _ (by kernel_rfl) (by kernel_rfl) hr9) ?_
  refine st_val (.slice A12 us.length cq13) (by kernel_rfl) (by kernel_rfl) ?_
  refine wl_nil ?_
  refine hK2 _ _ ?_
  try clear hK2 K2
  refine wp_seq_k (fun K15 hK15 => ?_)
  refine wp_seq_k (fun K16 hK16 => ?_)
  refine wl_region ?_
  refine st_val (.int .i64 0) (by kernel_rfl) (by kernel_rfl) ?_
  refine wl_nil ?_
  refine hK16 _ _ ?_
  try clear hK16 K16
  refine wp_block ?_
  refine wp_loop_ghost (fun gn a' w' => ∃ (i : Nat) (T1 : List (Nat × Obj)) (u17 : Nat → Value), ((i ≤ us.length ∧ Own 60 4 (.slice A12 us.length cq13) us.length (flat (padAll us (l.take i))) T1) ∧ Mem NoS w w' ((T1 ++ []))) ∧ gn = us.length - i ∧ a' = ⟨#[.slice A us.length c, .slice Ap l.length cp, undef, undef, (Go.Value.slice none 0 0), .slice A12 us.length cq13, .int .i64 (i : Int), .slice (some ⟨g3, 0, none⟩) 0 0, .slice A us.length c, .slice A12 us.length cq13, (u17 10), (u17 11), (u17 12), (u17 13), (u17 14), (u17 15), (u17 16), (u17 17), (u17 18), (u17 19), (u17 20), (u17 21), (u17 22), (u17 23), (u17 24), (u17 25), (u17 26), (u17 27), (u17 28), (u17 29), (u17 30), undef], []⟩) _ ⟨0, T7, (fun zz => Array.getD #[.slice A us.length c, .slice Ap l.length cp, undef, undef, (Go.Value.slice none 0 0), .slice A12 us.length cq13, .int .i64 0, .slice (some ⟨g3, 0, none⟩) 0 0, .slice A us.length c, .slice A12 us.length cq13, undef, undef, undef, undef, undef, undef, undef, undef, undef, undef, undef, undef, undef, undef, undef, undef, undef, undef, undef, undef, undef, undef] zz undef), ⟨⟨by omega, by rw [List.take_zero, padAll_nil]; exact O10⟩, M11⟩, rfl, (by kernel_rfl)⟩ ?_
  rintro gn _ W18 ⟨i, T1, u17, ⟨⟨ri, O1⟩, M19⟩, rfl, rfl⟩
  refine wp_seq_k (fun K20 hK20 => ?_)
  refine wp_seq_k (fun K21 hK21 => ?_)
  refine wl_region ?_
  refine st_val (.int .i64 (i : Int)) (by kernel_rfl) (by kernel_rfl) ?_
  refine st_val (.slice A12 us.length cq13) (by kernel_rfl) (by kernel_rfl) ?_
  refine st_val (.int .i64 ((us.length : Nat) : Int)) (by kernel_rfl) (by kernel_rfl) ?_
  rcases Decidable.em (((i : Int) : Int) < ((us.length : Nat) : Int)) with c13 | c13
  ·
    refine st_val (.bool true) (by kernel_rfl) (bool_of (dec_t c13) (by kernel_rfl)) ?_
    refine wl_nil ?_
    refine hK21 _ _ ?_
    try clear hK21 K21
    refine wp_cond_true (by kernel_rfl) ?_
    refine wp_skip ?_
    refine hK20 _ _ ?_
    try clear hK20 K20
    refine wp_seq_k (fun K22 hK22 => ?_)
    refine wp_block ?_
    have e2 := (padAll_take us l i (by omega) (by omega)).2
    have e3 : ((padAll us (l.take i)).getD i u0).bits = (us.getD i u0).bits := by rw [e2]
    have hbi := hb i (by omega)
    refine wl_seq 15 (fun w' => Mem NoS w w' ((T1 ++ []))) (by decide) (by kernel_rfl) (by kernel_rfl) M19.drew ?_
    refine seq_run (v := .slice A12 us.length cq13) (by decide) (by kernel_rfl) (fun w' M' => (by kernel_rfl)) ?_
    refine seq_run (v := .int .i64 (i : Int)) (by decide) (by kernel_rfl) (fun w' M' => (by kernel_rfl)) ?_
    refine seq_run (v := .slice A12 us.length cq13) (by decide) (by kernel_rfl) (fun w' M' => (by kernel_rfl)) ?_
    refine seq_run (v := .int .i64 (i : Int)) (by decide) (by kernel_rfl) (fun w' M' => (by kernel_rfl)) ?_
    obtain ⟨b23, o24, eA25⟩ := RdK.addr (O1.rd (fun p hp => M19.at_ p (List.mem_append_left _ hp))) (j := i * 4) (by rw [flat_len, padAll_len]; omega)
    refine seq_run (v := .pointer (some ⟨b23, o24 + i * 4, none⟩)) (by decide) (by kernel_rfl) (fun w' M' => (run_indexSliceA 36 (.tmp 18) (.tmp 19) rfl A12 ⟨b23, o24, none⟩ eA25 us.length cq13 .i64 i (by kernel_rfl) (by kernel_rfl) Try.underlying36 4 (by kernel_rfl) (by omega) ⟨b23, o24 + i * 4, none⟩ (addr_atK _ _ _ _))) ?_
    refine seq_run (v := .pointer (some ⟨b23, o24 + i * 4 + 2, none⟩)) (by decide) (by kernel_rfl) (fun w' M' => (by kernel_rfl)) ?_
    refine seq_run (v := .int .i64 (((padAll us (l.take i)).getD i u0).bits)) (by decide) (by kernel_rfl) (fun w' M' => (run_load_cell 2 (.tmp 21) rfl ⟨b23, o24 + i * 4 + 2, none⟩ (by kernel_rfl) _ ((O1.rd (fun p hp => M'.at_ p (List.mem_append_left _ hp))).cellF eA25 (f := 2) (flat_get (padAll us (l.take i)) i 2 (by omega) (by rw [padAll_len]; omega))) (by kernel_rfl))) ?_
    refine seq_run (v := .slice Ap l.length cp) (by decide) (by kernel_rfl) (fun w' M' => (by kernel_rfl)) ?_
    refine seq_run (v := .int .i64 (i : Int)) (by decide) (by kernel_rfl) (fun w' M' => (by kernel_rfl)) ?_
    obtain ⟨b26, o27, eA28⟩ := RdK.addr (hq.keep M19.keep (fun _ _ h => h)) (j := i * 1) (by show _ < (List.map _ _).length; rw [List.length_map]; omega)
    refine seq_run (v := .pointer (some ⟨b26, o27 + i * 1, none⟩)) (by decide) (by kernel_rfl) (fun w' M' => (run_indexSliceA 41 (.tmp 23) (.tmp 24) rfl Ap ⟨b26, o27, none⟩ eA28 l.length cp .i64 i (by kernel_rfl) (by kernel_rfl) Try.underlying41 1 (by kernel_rfl) (by omega) ⟨b26, o27 + i * 1, none⟩ (addr_atK _ _ _ _))) ?_
    refine seq_run (v := .int .i64 (l.getD i 0)) (by decide) (by kernel_rfl) (fun w' M' => (run_load_cell 2 (.tmp 25) rfl ⟨b26, o27 + i * 1, none⟩ (by kernel_rfl) _ ((hq.keep M'.keep (fun _ _ h => h)).cellF eA28 (f := 0) (ints_get l i (by omega))) (by kernel_rfl))) ?_
    refine seq_run (v := .int .i64 (8 * (l.getD i 0))) (by decide) (by kernel_rfl) (fun w' M' => (i64_of (by omega) (by kernel_rfl))) ?_
    refine seq_run (v := .int .i64 ((((padAll us (l.take i)).getD i u0).bits) + (8 * (l.getD i 0)))) (by decide) (by kernel_rfl) (fun w' M' => (i64_of (by omega) (by kernel_rfl))) ?_
    obtain ⟨b29, o30, eA31⟩ := RdK.addr (O1.rd (fun p hp => M19.at_ p (List.mem_append_left _ hp))) (j := i * 4) (by rw [flat_len, padAll_len]; omega)
    refine seq_run (v := .pointer (some ⟨b29, o30 + i * 4, none⟩)) (by decide) (by kernel_rfl) (fun w' M' => (run_indexSliceA 36 (.tmp 16) (.tmp 17) rfl A12 ⟨b29, o30, none⟩ eA31 us.length cq13 .i64 i (by kernel_rfl) (by kernel_rfl) Try.underlying36 4 (by kernel_rfl) (by omega) ⟨b29, o30 + i * 4, none⟩ (addr_atK _ _ _ _))) ?_
    refine seq_run (v := .pointer (some ⟨b29, o30 + i * 4 + 2, none⟩)) (by decide) (by kernel_rfl) (fun w' M' => (by kernel_rfl)) ?_
    refine seq_end (by decide) ?_
    intro W32 M33
    refine st_storeOwn (A := []) (T := T1) (B := []) M33 O1 eA31 2 (.tmp 30) (.tmp 28) rfl (i * 4) 2 (.int .i64 ((((padAll us (l.take i)).getD i u0).bits) + (8 * (l.getD i 0)))) (by kernel_rfl) (by kernel_rfl) (by rw [flat_len, padAll_len]; omega) (by kernel_rfl) (by kernel_rfl) (by kernel_rfl) (by kernel_rfl) ?_
    intro T34 W35 O36 M37
    have M37 : Mem NoS w W35 ((T34 ++ [])) := M37
    rw [flat_set (padAll us (l.take i)) i ((((padAll us (l.take i)).getD i u0).bits) + (8 * (l.getD i 0))) (by rw [padAll_len]; omega)] at O36
    refine wl_nil ?_
    refine blk_normal ?_
    refine hK22 _ _ ?_
    try clear hK22 K22
    refine wp_frame (a' := ⟨#[.slice A us.length c, .slice Ap l.length cp, undef, undef, (Go.Value.slice none 0 0), .slice A12 us.length cq13, .int .i64 (i : Int), .slice (some ⟨g3, 0, none⟩) 0 0, .slice A us.length c, .slice A12 us.length cq13, .int .i64 (i : Int), .slice A12 us.length cq13, .int .i64 ((us.length : Nat) : Int), .bool true, (u17 14), (u17 15), .slice A12 us.length cq13, .int .i64 (i : Int), .slice A12 us.length cq13, .int .i64 (i : Int), .pointer (some ⟨b23, o24 + i * 4, none⟩), .pointer (some ⟨b23, o24 + i * 4 + 2, none⟩), .int .i64 (((padAll us (l.take i)).getD i u0).bits), .slice Ap l.length cp, .int .i64 (i : Int), .pointer (some ⟨b26, o27 + i * 1, none⟩), .int .i64 (l.getD i 0), .int .i64 (8 * (l.getD i 0)), .int .i64 ((((padAll us (l.take i)).getD i u0).bits) + (8 * (l.getD i 0))), .pointer (some ⟨b29, o30 + i * 4, none⟩), .pointer (some ⟨b29, o30 + i * 4 + 2, none⟩), undef], []⟩) (by kernel_rfl) ?_
    refine wl_region ?_
    refine st_val (.int .i64 (i : Int)) (by kernel_rfl) (by kernel_rfl) ?_
    refine st_val (.int .i64 ((i : Int) + 1)) (by kernel_rfl) (i64_of (by omega) (by kernel_rfl)) ?_
    refine st_val (.int .i64 ((i : Int) + 1)) (by kernel_rfl) (by kernel_rfl) ?_
    refine wl_nil ?_
    refine th_normal ?_
    exact ⟨_, by omega, (i + 1), T34, (fun zz => Array.getD #[.slice A us.length c, .slice Ap l.length cp, undef, undef, (Go.Value.slice none 0 0), .slice A12 us.length cq13, .int .i64 ((i : Int) + 1), .slice (some ⟨g3, 0, none⟩) 0 0, .slice A us.length c, .slice A12 us.length cq13, .int .i64 (i : Int), .slice A12 us.length cq13, .int .i64 ((us.length : Nat) : Int), .bool true, .int .i64 (i : Int), .int .i64 ((i : Int) + 1), .slice A12 us.length cq13, .int .i64 (i : Int), .slice A12 us.length cq13, .int .i64 (i : Int), .pointer (some ⟨b23, o24 + i * 4, none⟩), .pointer (some ⟨b23, o24 + i * 4 + 2, none⟩), .int .i64 (((padAll us (l.take i)).getD i u0).bits), .slice Ap l.length cp, .int .i64 (i : Int), .pointer (some ⟨b26, o27 + i * 1, none⟩), .int .i64 (l.getD i 0), .int .i64 (8 * (l.getD i 0)), .int .i64 ((((padAll us (l.take i)).getD i u0).bits) + (8 * (l.getD i 0))), .pointer (some ⟨b29, o30 + i * 4, none⟩), .pointer (some ⟨b29, o30 + i * 4 + 2, none⟩), undef] zz undef), ⟨⟨by omega, by rw [(padAll_take us l i (by omega) (by omega)).1]; have h := O36; rw [e2] at h; exact h⟩, M37⟩, rfl, (by kernel_rfl)⟩
  ·
    refine st_val (.bool false) (by kernel_rfl) (bool_of (dec_f c13) (by kernel_rfl)) ?_
    refine wl_nil ?_
    refine hK21 _ _ ?_
    try clear hK21 K21
    refine wp_cond_false (by kernel_rfl) ?_
    refine wp_exit ?_
    refine th_exit ?_
    refine th_exit ?_
    refine blk_exit ?_
    refine hK15 _ _ ?_
    try clear hK15 K15
    refine wp_seq_k (fun K38 hK38 => ?_)
    refine wl_region ?_
    refine st_val (.slice A12 us.length cq13) (by kernel_rfl) (by kernel_rfl) ?_
    refine st_val (.slice A12 us.length cq13) (by kernel_rfl) (by kernel_rfl) ?_
    refine wl_nil ?_
    refine hK38 _ _ ?_
    try clear hK38 K38
    refine wp_ret ?_
    exact done1 4 (.slice A12 us.length cq13) (by kernel_rfl) (by kernel_rfl) (by kernel_rfl) ⟨_, T1, rfl, by rw [show l = l.take i by rw [List.take_of_length_le (by omega)]]; exact O1, M19.sub (List.sublist_append_left T1 _)⟩
end Go.Proofs.Ytolfkaljbgpkhaa
