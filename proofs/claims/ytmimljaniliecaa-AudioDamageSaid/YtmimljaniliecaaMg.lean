/- The first bytes of coded sound. -/
import Derived.Test.YtmimljaniliecaaAv
namespace Go.Proofs.Ytmimljaniliecaa
open Go.RowKit Bt
set_option maxHeartbeats 4000000 in
set_option maxRecDepth 100000 in
theorem magic_walk (w : World) : MakesRow Try.prog 53 #[] w (fun v T => Own 5 1 v 4 (u8s [67, 82, 83, 68]) T) := by
  unfold MakesRow
  refine calls_of_wp Try.func53 rfl ?_
  refine wp_frame (a' := ⟨#[undef, undef], []⟩) (by kernel_rfl) ?_
  have M0 : Mem NoS w w [] := Mem.start _ _
  refine wp_seq_k (fun K1 hK1 => ?_)
  refine wl_region ?_
  refine st_val ((Go.Value.slice none 0 0)) (by kernel_rfl) (by kernel_rfl) ?_
  refine wl_nil ?_
  refine hK1 _ _ ?_
  try clear hK1 K1
  refine wp_seq_k (fun K2 hK2 => ?_)
  refine wl_region ?_
  refine st_new M0 (.cells #[.int .u8 67, .int .u8 82, .int .u8 83, .int .u8 68] 5 (0, 0)) (fun g => .slice (some ⟨g, 0, none⟩) 4 4) (by kernel_rfl) (by kernel_rfl) ?_
  intro g3 W4 M5
  obtain ⟨T6, e9⟩ : ∃ T, T = [(g3, (.cells #[.int .u8 67, .int .u8 82, .int .u8 83, .int .u8 68] 5 (0, 0) : Obj))] := ⟨_, rfl⟩
  have O7 : Own 5 1 (.slice (some ⟨g3, 0, none⟩) 4 4) 4 (u8s ([67, 82, 83, 68])) T6 := e9 ▸ own_lit 5 g3 (u8s ([67, 82, 83, 68])) 4 rfl (by decide)
  have M8 : Mem NoS w W4 ((T6 ++ [])) := by rw [e9]; exact M5
  refine st_val (.slice (some ⟨g3, 0, none⟩) 4 4) (by kernel_rfl) (by kernel_rfl) ?_
  refine wl_nil ?_
  refine hK2 _ _ ?_
  try clear hK2 K2
  refine wp_ret ?_
  exact done1 0 (.slice (some ⟨g3, 0, none⟩) 4 4) (by kernel_rfl) (by kernel_rfl) (by kernel_rfl) ⟨_, T6, rfl, O7, M8.sub (List.sublist_append_left T6 [])⟩
end Go.Proofs.Ytmimljaniliecaa
