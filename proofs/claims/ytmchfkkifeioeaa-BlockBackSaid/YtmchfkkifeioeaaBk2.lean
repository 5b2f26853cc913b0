/- The check that panics and the closure that recovers. -/
import Derived.Test.YtmchfkkifeioeaaBk
namespace Go.Proofs.Ytmchfkkifeioeaa
open Go.RowKit Bt
set_option maxHeartbeats 4000000 in
set_option maxRecDepth 100000 in
theorem check_ok (w : World) (err : Int) : Calls Try.prog 37 #[.bool true, .int .i64 err] w fun e w' => e = .returned (.tuple #[]) ∧ Below w.heap.size w w' := by
  refine calls_of_wp Try.func37 rfl ?_
  refine wp_frame (a' := ⟨#[.bool true, .int .i64 err, undef, undef, undef, undef, undef, undef, undef], []⟩) (by kernel_rfl) ?_
  have M0 : Mem NoS w w [] := Mem.start _ _
  refine wp_seq_k (fun K1 hK1 => ?_)
  refine wl_region ?_
  refine st_val (.bool true) (by kernel_rfl) (by kernel_rfl) ?_
  refine st_val (.bool false) (by kernel_rfl) (by kernel_rfl) ?_
  refine wl_nil ?_
  refine hK1 _ _ ?_
  try clear hK1 K1
  refine wp_cond_false (by kernel_rfl) ?_
  refine wp_skip ?_
  exact done0 rfl (by kernel_rfl) ⟨rfl, M0.toBelow⟩
set_option maxHeartbeats 4000000 in
set_option maxRecDepth 100000 in
theorem check_bad (w : World) (err : Int) : Calls Try.prog 37 #[.bool false, .int .i64 err] w fun e w' => e = .panicked [{ v := .iface 68 (.agg #[.int .i64 err]), recovered := false }] ∧ Below w.heap.size w w' := by
  refine calls_of_wp Try.func37 rfl ?_
  refine wp_frame (a' := ⟨#[.bool false, .int .i64 err, undef, undef, undef, undef, undef, undef, undef], []⟩) (by kernel_rfl) ?_
  have M0 : Mem NoS w w [] := Mem.start _ _
  refine wp_seq_k (fun K1 hK1 => ?_)
  refine wl_region ?_
  refine st_val (.bool false) (by kernel_rfl) (by kernel_rfl) ?_
  refine st_val (.bool true) (by kernel_rfl) (by kernel_rfl) ?_
  refine wl_nil ?_
  refine hK1 _ _ ?_
  try clear hK1 K1
  refine wp_cond_true (by kernel_rfl) ?_
  refine wl_region ?_
  refine st_val (.int .i64 err) (by kernel_rfl) (by kernel_rfl) ?_
  refine st_val (.agg #[.int .i64 err]) (by kernel_rfl) (by kernel_rfl) ?_
  refine st_val (.iface 68 (.agg #[.int .i64 err])) (by kernel_rfl) (by kernel_rfl) ?_
  refine st_panic (.iface 68 (.agg #[.int .i64 err])) (by kernel_rfl) (by kernel_rfl) ?_
  exact ⟨rfl, rfl, M0.toBelow⟩
set_option maxHeartbeats 4000000 in
set_option maxRecDepth 100000 in
theorem clo_idle (w : World) (gl ge : Nat) : CallsD Try.prog 35 #[.pointer (some ⟨gl, 0, none⟩), .pointer (some ⟨ge, 0, none⟩)] .returning w fun e u' w' => e = .returned (.tuple #[]) ∧ u' = .returning ∧ w' = w := by
  refine callsD_of_wpS Try.func35 rfl fun c₀ cs hu => ?_
  refine wpS_rec rfl rfl rfl rfl rfl rfl (.nilIface) (c₀ :: cs) (.inr ⟨by simp [recoverD, hu], rfl, rfl⟩) ?_
  refine wp_frame (a' := ⟨#[.pointer (some ⟨gl, 0, none⟩), .pointer (some ⟨ge, 0, none⟩), .nilIface, undef, undef, .nilIface, undef, undef, undef, undef, undef, undef, undef, undef, undef, undef, undef, undef, undef], []⟩) (by kernel_rfl) ?_
  have M0 : Mem NoS w w [] := Mem.start _ _
  refine wp_seq_k (fun K1 hK1 => ?_)
  refine wl_region ?_
  refine st_val (.nilIface) (by kernel_rfl) (by kernel_rfl) ?_
  refine st_val (.bool false) (by kernel_rfl) (by kernel_rfl) ?_
  refine wl_nil ?_
  refine hK1 _ _ ?_
  try clear hK1 K1
  refine wp_cond_false (by kernel_rfl) ?_
  refine wp_skip ?_
  exact clo_done .returning rfl (by kernel_rfl) (by cases c₀; simp_all) ⟨rfl, rfl, rfl⟩
set_option maxHeartbeats 4000000 in
set_option maxRecDepth 100000 in
theorem clo_panic (w : World) (gl ge : Nat) (err z : Int) (x : List Int) (hx : x.length = 64) {S : Nat → Prop} {w0 : World} {L2 : List (Nat × Obj)} (M : Mem S w0 w ((ge, .cells #[.int .i64 z] 27 (0, 0)) :: (gl, .cells (iv x) 23 (0, 0)) :: (L2 ++ []))) : CallsD Try.prog 35 #[.pointer (some ⟨gl, 0, none⟩), .pointer (some ⟨ge, 0, none⟩)] (.panicking [{ v := .iface 68 (.agg #[.int .i64 err]), recovered := false }]) w fun e u' w' => e = .returned (.tuple #[]) ∧ u' = .panicking [{ v := .iface 68 (.agg #[.int .i64 err]), recovered := true }] ∧ Mem S w0 w' ((ge, .cells #[.int .i64 err] 27 (0, 0)) :: (gl, .cells (iv zeros) 23 (0, 0)) :: (L2 ++ [])) := by
  refine callsD_of_wpS Try.func35 rfl fun c₀ cs hu => ?_
  refine wpS_rec rfl rfl rfl rfl rfl rfl (.iface 68 (.agg #[.int .i64 err])) ({ c₀ with mode := (.panicking [{ v := .iface 68 (.agg #[.int .i64 err]), recovered := true }]) } :: cs) (.inl (by simp [recoverD, hu])) ?_
  refine wp_frame (a' := ⟨#[.pointer (some ⟨gl, 0, none⟩), .pointer (some ⟨ge, 0, none⟩), .iface 68 (.agg #[.int .i64 err]), undef, undef, .iface 68 (.agg #[.int .i64 err]), undef, undef, undef, undef, undef, undef, undef, undef, undef, undef, undef, undef, undef], []⟩) (by kernel_rfl) ?_
  refine wp_seq_k (fun K1 hK1 => ?_)
  refine wl_region ?_
  refine st_val (.iface 68 (.agg #[.int .i64 err])) (by kernel_rfl) (by kernel_rfl) ?_
  refine st_val (.bool true) (by kernel_rfl) (by kernel_rfl) ?_
  refine wl_nil ?_
  refine hK1 _ _ ?_
  try clear hK1 K1
  refine wp_cond_true (by kernel_rfl) ?_
  refine wp_seq_k (fun K2 hK2 => ?_)
  refine wl_region ?_
  refine st_val (.iface 68 (.agg #[.int .i64 err])) (by kernel_rfl) (by kernel_rfl) ?_
  refine st_val (.tuple #[.agg #[.int .i64 err], .bool true]) (by kernel_rfl) (by kernel_rfl) ?_
  refine st_val (.tuple #[.agg #[.int .i64 err], .bool true]) (by kernel_rfl) (by kernel_rfl) ?_
  refine st_val (.agg #[.int .i64 err]) (by kernel_rfl) (by kernel_rfl) ?_
  refine st_val (.bool true) (by kernel_rfl) (by kernel_rfl) ?_
  refine st_alloc M (.cells #[.int .i64 0] 68 (0, 0)) (by kernel_rfl) (by kernel_rfl) ?_
  intro g3 W4 M5
  refine st_storeRow M5 0 rfl 68 (.tmp 3) (.tmp 11) (by rfl) #[.int .i64 err] (by kernel_rfl) (by kernel_rfl) (by kernel_rfl) (by rfl) (by kernel_rfl) (by kernel_rfl) ((g3, .cells #[.int .i64 err] 68 (0, 0)) :: (ge, .cells #[.int .i64 z] 27 (0, 0)) :: (gl, .cells (iv x) 23 (0, 0)) :: (L2 ++ [])) rfl ?_
  intro W6 M7
  refine st_val (.bool true) (by kernel_rfl) (by kernel_rfl) ?_
  refine wl_nil ?_
  refine hK2 _ _ ?_
  try clear hK2 K2
  refine wp_seq_k (fun K8 hK8 => ?_)
  refine wp_seq_k (fun K9 hK9 => ?_)
  refine wl_region ?_
  refine st_val (.bool true) (by kernel_rfl) (by kernel_rfl) ?_
  refine st_val (.bool false) (by kernel_rfl) (by kernel_rfl) ?_
  refine wl_nil ?_
  refine hK9 _ _ ?_
  try clear hK9 K9
  refine wp_cond_false (by kernel_rfl) ?_
  refine wp_skip ?_
  refine hK8 _ _ ?_
  try clear hK8 K8
  refine wh_region (fun w' => Mem S w0 w' ((g3, .cells #[.int .i64 err] 68 (0, 0)) :: (L2 ++ []))) (by kernel_rfl) (by kernel_rfl) (fun d _ _ _ _ h => by cases d <;> exact h) 5 rfl #[false, false, false, false, false] rfl ?_
  intro R10
  have M12 := M7.drew
  have hS13 : Mem S w0 W6.drew ((g3, .cells #[.int .i64 err] 68 (0, 0)) :: (L2 ++ [])) := M12.sub (((((List.Sublist.refl []).append_left L2).cons _).cons _).cons_cons _)
  refine wh_take R10 0 (.agg (iv zeros)) rfl (by kernel_rfl) (by kernel_rfl) (by kernel_rfl) (fun w' M' => (by kernel_rfl)) hS13 #[true, false, false, false, false] rfl ?_
  refine wh_take R10 1 (.pointer (some ⟨g3, 0, none⟩)) rfl (by kernel_rfl) (by kernel_rfl) (by kernel_rfl) (fun w' M' => (by kernel_rfl)) hS13 #[true, true, false, false, false] rfl ?_
  refine wh_take R10 2 (.int .i64 err) rfl (by kernel_rfl) (by kernel_rfl) (by kernel_rfl) (fun w' M' => (run_load_cell 27 (.tmp 17) rfl ⟨g3, 0, none⟩ (by kernel_rfl) _ (M'.cell 0 rfl 0 _ rfl) (by kernel_rfl))) hS13 #[true, true, true, false, false] rfl ?_
  refine wh_storeRow M12 2 rfl 23 (.tmp 0) (.tmp 16) (by rfl) (iv zeros) (by kernel_rfl) (by kernel_rfl) (info64 _ zeros_length) (iv_same zeros_length hx) (iv_one _) (by kernel_rfl) ((g3, .cells #[.int .i64 err] 68 (0, 0)) :: (ge, .cells #[.int .i64 z] 27 (0, 0)) :: (gl, .cells (iv zeros) 23 (0, 0)) :: (L2 ++ [])) rfl 3 rfl (by kernel_rfl) #[true, true, true, true, false] rfl ?_
  intro W14 M15
  have hS16 : Mem S w0 W14 ((g3, .cells #[.int .i64 err] 68 (0, 0)) :: (L2 ++ [])) := M15.sub (((((List.Sublist.refl []).append_left L2).cons _).cons _).cons_cons _)
  refine ⟨hS16, ?_⟩
  refine wh_storeCell M15 1 rfl 27 (.tmp 1) (.tmp 18) (by rfl) 0 (.int .i64 err) #[.int .i64 err] (by kernel_rfl) (by kernel_rfl) (show 0 < 1 by decide) (by kernel_rfl) rfl (by kernel_rfl) rfl (by kernel_rfl) ((g3, .cells #[.int .i64 err] 68 (0, 0)) :: (ge, .cells #[.int .i64 err] 27 (0, 0)) :: (gl, .cells (iv zeros) 23 (0, 0)) :: (L2 ++ [])) rfl 4 rfl (by kernel_rfl) #[true, true, true, true, true] rfl ?_
  intro W17 M18
  have hS19 : Mem S w0 W17 ((g3, .cells #[.int .i64 err] 68 (0, 0)) :: (L2 ++ [])) := M18.sub (((((List.Sublist.refl []).append_left L2).cons _).cons _).cons_cons _)
  refine ⟨hS19, ?_⟩
  refine wh_done (by kernel_rfl) ?_
  have M20 : Mem S w0 W17 ((ge, .cells #[.int .i64 err] 27 (0, 0)) :: (gl, .cells (iv zeros) 23 (0, 0)) :: (L2 ++ [])) := M18.sub (((((List.Sublist.refl []).append_left L2).cons_cons _).cons_cons _).cons _)
  exact clo_done (.panicking [{ v := .iface 68 (.agg #[.int .i64 err]), recovered := true }]) rfl (by kernel_rfl) rfl ⟨rfl, rfl, M20⟩
end Go.Proofs.Ytmchfkkifeioeaa
